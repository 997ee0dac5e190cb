/-
  No cell of these rows narrows 'for every input' (looked for: loops, veiled, ifaces, maps, wideKeys, modest, calm, conditions, laid).
  DERIVED. THE GIVEN ROWS OF THIS SEAT. 6 by the template 'for every input the law returns true; each argument reads behind the call as it read before'; 0 by the template 'total and deterministic' (their statements: YtkhgbnnhgdcmoaaTotals.lean).
  GIVEN WITH THE SEED: the statements are not yours to turn. If you find one false, say at which input.
  Laid BY PROGRAM, IN A SANDBOX (cutbox-rows.mjs): the forced cells as the released guide's own fill.sh prints them over the translation eec995134f364bfe… (all of the seat's roots in one cut). By AI agents, Wed Nov 11 2026. No macro, syntax, notation, axiom, sorry.
-/
import Derived.Test.YtkhgbnnhgdcmoaaChecked
import GoSem.Claim
import GoSem.ClaimJoined
import GoSem.ClaimMapViews
import Derived.JoinedTies
import Derived.KernelRfl
namespace Go.Proofs.Ytkhgbnnhgdcmoaa
/- THE CELL 'sum', in the pinned program and in every row, IS THE sha256 OF THE DUMP (.gsa) THAT YtkhgbnnhgdcmoaaProg.lean LOADS. Nothing in Lean hashes anything: it is a label: what it is worth is what the hold of that sum in a sandbox is worth. -/
noncomputable def Try.pinned : Pinned := { name := "ytkhgbnnhgdcmoaa", sum := "eec995134f364bfeead93366def1fc8892ffb519e29f06726584a6d2140928c4", checked := Try.checked }
namespace Rows
def none {H : Type} : Left H := { results := [], args := [] }

/-- 'tappetlaw11.IrChecks': WHATEVER THE INPUT: true; the input reads as it did. -/
def irChecksSpec : ChangeSpec := { name := "irChecks", fn := fun _ => fun
  | [d] => { results := [.lit (.bool true)], args := [d] }
  | _ => none }
def irChecksRow : OpenClaim := { program := "ytkhgbnnhgdcmoaa", sum := "eec995134f364bfeead93366def1fc8892ffb519e29f06726584a6d2140928c4", func := "tappet/tappetlaw11.IrChecks", spec := "irChecks", unfollowed := true, recurses := true, apart := false }
def IrChecksSaid : Prop := irChecksRow.holds Try.pinned (OpenSpec.ofChange irChecksSpec)

/-- ITS FALSE NEIGHBOUR: 'it returns false'. Refute it at one input. -/
def irChecksWrong : ChangeSpec := { name := "irChecks", fn := fun _ => fun
  | [d] => { results := [.lit (.bool false)], args := [d] }
  | _ => none }
def IrChecksWrongFalsely : Prop := irChecksRow.holds Try.pinned (OpenSpec.ofChange irChecksWrong)

/-- 'tappetlaw11.IrNone': WHATEVER THE INPUT: true; the input reads as it did. -/
def irNoneSpec : ChangeSpec := { name := "irNone", fn := fun _ => fun
  | [d] => { results := [.lit (.bool true)], args := [d] }
  | _ => none }
def irNoneRow : OpenClaim := { program := "ytkhgbnnhgdcmoaa", sum := "eec995134f364bfeead93366def1fc8892ffb519e29f06726584a6d2140928c4", func := "tappet/tappetlaw11.IrNone", spec := "irNone", unfollowed := true, recurses := true, apart := false }
def IrNoneSaid : Prop := irNoneRow.holds Try.pinned (OpenSpec.ofChange irNoneSpec)

/-- ITS FALSE NEIGHBOUR: 'it returns false'. Refute it at one input. -/
def irNoneWrong : ChangeSpec := { name := "irNone", fn := fun _ => fun
  | [d] => { results := [.lit (.bool false)], args := [d] }
  | _ => none }
def IrNoneWrongFalsely : Prop := irNoneRow.holds Try.pinned (OpenSpec.ofChange irNoneWrong)

/-- 'tappetlaw11.IrCopies': WHATEVER THE INPUT: true; the input reads as it did. -/
def irCopiesSpec : ChangeSpec := { name := "irCopies", fn := fun _ => fun
  | [d] => { results := [.lit (.bool true)], args := [d] }
  | _ => none }
def irCopiesRow : OpenClaim := { program := "ytkhgbnnhgdcmoaa", sum := "eec995134f364bfeead93366def1fc8892ffb519e29f06726584a6d2140928c4", func := "tappet/tappetlaw11.IrCopies", spec := "irCopies", unfollowed := true, recurses := true, apart := false }
def IrCopiesSaid : Prop := irCopiesRow.holds Try.pinned (OpenSpec.ofChange irCopiesSpec)

/-- ITS FALSE NEIGHBOUR: 'it returns false'. Refute it at one input. -/
def irCopiesWrong : ChangeSpec := { name := "irCopies", fn := fun _ => fun
  | [d] => { results := [.lit (.bool false)], args := [d] }
  | _ => none }
def IrCopiesWrongFalsely : Prop := irCopiesRow.holds Try.pinned (OpenSpec.ofChange irCopiesWrong)

/-- 'tappetlaw11.IrGrows': WHATEVER THE INPUT: true; the input reads as it did. -/
def irGrowsSpec : ChangeSpec := { name := "irGrows", fn := fun _ => fun
  | [d1, d2] => { results := [.lit (.bool true)], args := [d1, d2] }
  | _ => none }
def irGrowsRow : OpenClaim := { program := "ytkhgbnnhgdcmoaa", sum := "eec995134f364bfeead93366def1fc8892ffb519e29f06726584a6d2140928c4", func := "tappet/tappetlaw11.IrGrows", spec := "irGrows", unfollowed := true, recurses := true, apart := false }
def IrGrowsSaid : Prop := irGrowsRow.holds Try.pinned (OpenSpec.ofChange irGrowsSpec)

/-- ITS FALSE NEIGHBOUR: 'it returns false'. Refute it at one input. -/
def irGrowsWrong : ChangeSpec := { name := "irGrows", fn := fun _ => fun
  | [d1, d2] => { results := [.lit (.bool false)], args := [d1, d2] }
  | _ => none }
def IrGrowsWrongFalsely : Prop := irGrowsRow.holds Try.pinned (OpenSpec.ofChange irGrowsWrong)

/-- 'tappetlaw11.IrParts': WHATEVER THE INPUT: true; the input reads as it did. -/
def irPartsSpec : ChangeSpec := { name := "irParts", fn := fun _ => fun
  | [d1, d2] => { results := [.lit (.bool true)], args := [d1, d2] }
  | _ => none }
def irPartsRow : OpenClaim := { program := "ytkhgbnnhgdcmoaa", sum := "eec995134f364bfeead93366def1fc8892ffb519e29f06726584a6d2140928c4", func := "tappet/tappetlaw11.IrParts", spec := "irParts", unfollowed := true, recurses := true, apart := false }
def IrPartsSaid : Prop := irPartsRow.holds Try.pinned (OpenSpec.ofChange irPartsSpec)

/-- ITS FALSE NEIGHBOUR: 'it returns false'. Refute it at one input. -/
def irPartsWrong : ChangeSpec := { name := "irParts", fn := fun _ => fun
  | [d1, d2] => { results := [.lit (.bool false)], args := [d1, d2] }
  | _ => none }
def IrPartsWrongFalsely : Prop := irPartsRow.holds Try.pinned (OpenSpec.ofChange irPartsWrong)

/-- 'tappetlaw11.IrBounds': WHATEVER THE INPUT: true; the input reads as it did. -/
def irBoundsSpec : ChangeSpec := { name := "irBounds", fn := fun _ => fun
  | [d] => { results := [.lit (.bool true)], args := [d] }
  | _ => none }
def irBoundsRow : OpenClaim := { program := "ytkhgbnnhgdcmoaa", sum := "eec995134f364bfeead93366def1fc8892ffb519e29f06726584a6d2140928c4", func := "tappet/tappetlaw11.IrBounds", spec := "irBounds", unfollowed := true, recurses := true, apart := false }
def IrBoundsSaid : Prop := irBoundsRow.holds Try.pinned (OpenSpec.ofChange irBoundsSpec)

/-- ITS FALSE NEIGHBOUR: 'it returns false'. Refute it at one input. -/
def irBoundsWrong : ChangeSpec := { name := "irBounds", fn := fun _ => fun
  | [d] => { results := [.lit (.bool false)], args := [d] }
  | _ => none }
def IrBoundsWrongFalsely : Prop := irBoundsRow.holds Try.pinned (OpenSpec.ofChange irBoundsWrong)

/- THE SECOND FORM. 'bulk': how many values and letters a reading holds, each counted each time it is reached (what is shared counts as often as it is met; a slice's spare places count too). A statement '..UptoSaid' is the law's where the arguments, and the package variables that the reading takes, are together of bulk at most 1048576: NARROWER than '..Said'. Prove '..Said' where nothing that the law and all that it calls make is longer than what came in: it says more and counts as full. Else prove '..UptoSaid'. A law counts once. -/
mutual
def uptoBulk {H : Type} : DataW H → Nat
  | .lit (.string bytes) => bytes.length + 1
  | .lit _ => 1
  | .nil => 1
  | .ptr d => uptoBulk d + 1
  | .slice elems spare => uptoBulkAll elems + uptoBulkAll spare + 1
  | .agg parts => uptoBulkAll parts + 1
  | .iface _ d => uptoBulk d + 1
  | .map entries => uptoBulkEntries entries + 1
  | .held _ => 1
def uptoBulkAll {H : Type} : List (DataW H) → Nat
  | [] => 0
  | d :: r => uptoBulk d + uptoBulkAll r
def uptoBulkEntries {H : Type} : List (Lit × DataW H) → Nat
  | [] => 0
  | x :: r => uptoBulkEntry x + uptoBulkEntries r
def uptoBulkEntry {H : Type} : Lit × DataW H → Nat
  | (.string bytes, d) => bytes.length + uptoBulk d + 1
  | (_, d) => uptoBulk d + 1
 end
def uptoSmall : (H : Type) → List (DataW H) → Bool := fun _ ds => decide (uptoBulkAll ds ≤ 1048576)
def OpenSpec.upto (s : _root_.Go.ChangeSpec) : _root_.Go.OpenSpec := { _root_.Go.OpenSpec.ofChange s with cond := some uptoSmall }

/-- 'tappetlaw11.IrChecks', WHERE WHAT IT READS IS OF BULK AT MOST 1048576: true; the input reads as it did. -/
def irChecksUptoRow : OpenClaim := { program := "ytkhgbnnhgdcmoaa", sum := "eec995134f364bfeead93366def1fc8892ffb519e29f06726584a6d2140928c4", func := "tappet/tappetlaw11.IrChecks", spec := "irChecks", unfollowed := true, recurses := true, apart := false, narrowed := true }
def IrChecksUptoSaid : Prop := irChecksUptoRow.holds Try.pinned (OpenSpec.upto irChecksSpec)

/-- 'tappetlaw11.IrNone', WHERE WHAT IT READS IS OF BULK AT MOST 1048576: true; the input reads as it did. -/
def irNoneUptoRow : OpenClaim := { program := "ytkhgbnnhgdcmoaa", sum := "eec995134f364bfeead93366def1fc8892ffb519e29f06726584a6d2140928c4", func := "tappet/tappetlaw11.IrNone", spec := "irNone", unfollowed := true, recurses := true, apart := false, narrowed := true }
def IrNoneUptoSaid : Prop := irNoneUptoRow.holds Try.pinned (OpenSpec.upto irNoneSpec)

/-- 'tappetlaw11.IrCopies', WHERE WHAT IT READS IS OF BULK AT MOST 1048576: true; the input reads as it did. -/
def irCopiesUptoRow : OpenClaim := { program := "ytkhgbnnhgdcmoaa", sum := "eec995134f364bfeead93366def1fc8892ffb519e29f06726584a6d2140928c4", func := "tappet/tappetlaw11.IrCopies", spec := "irCopies", unfollowed := true, recurses := true, apart := false, narrowed := true }
def IrCopiesUptoSaid : Prop := irCopiesUptoRow.holds Try.pinned (OpenSpec.upto irCopiesSpec)

/-- 'tappetlaw11.IrGrows', WHERE WHAT IT READS IS OF BULK AT MOST 1048576: true; the input reads as it did. -/
def irGrowsUptoRow : OpenClaim := { program := "ytkhgbnnhgdcmoaa", sum := "eec995134f364bfeead93366def1fc8892ffb519e29f06726584a6d2140928c4", func := "tappet/tappetlaw11.IrGrows", spec := "irGrows", unfollowed := true, recurses := true, apart := false, narrowed := true }
def IrGrowsUptoSaid : Prop := irGrowsUptoRow.holds Try.pinned (OpenSpec.upto irGrowsSpec)

/-- 'tappetlaw11.IrParts', WHERE WHAT IT READS IS OF BULK AT MOST 1048576: true; the input reads as it did. -/
def irPartsUptoRow : OpenClaim := { program := "ytkhgbnnhgdcmoaa", sum := "eec995134f364bfeead93366def1fc8892ffb519e29f06726584a6d2140928c4", func := "tappet/tappetlaw11.IrParts", spec := "irParts", unfollowed := true, recurses := true, apart := false, narrowed := true }
def IrPartsUptoSaid : Prop := irPartsUptoRow.holds Try.pinned (OpenSpec.upto irPartsSpec)

/-- 'tappetlaw11.IrBounds', WHERE WHAT IT READS IS OF BULK AT MOST 1048576: true; the input reads as it did. -/
def irBoundsUptoRow : OpenClaim := { program := "ytkhgbnnhgdcmoaa", sum := "eec995134f364bfeead93366def1fc8892ffb519e29f06726584a6d2140928c4", func := "tappet/tappetlaw11.IrBounds", spec := "irBounds", unfollowed := true, recurses := true, apart := false, narrowed := true }
def IrBoundsUptoSaid : Prop := irBoundsUptoRow.holds Try.pinned (OpenSpec.upto irBoundsSpec)

end Rows
end Go.Proofs.Ytkhgbnnhgdcmoaa
