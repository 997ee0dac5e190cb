/-
  No cell of these rows narrows 'for every input' (looked for: loops, veiled, ifaces, maps, wideKeys, modest, calm, conditions, laid).
  DERIVED. THE GIVEN ROWS OF THIS SEAT. 12 by the template 'for every input the law returns true; each argument reads behind the call as it read before'; 0 by the template 'total and deterministic' (their statements: YthhfgchbpgcfmaaTotals.lean).
  GIVEN WITH THE SEED: the statements are not yours to turn. If you find one false, say at which input.
  Laid BY PROGRAM, IN A SANDBOX (cutbox-rows.mjs): the forced cells as the released guide's own fill.sh prints them over the translation 65555e2476b59de3… (all of the seat's roots in one cut). By AI agents, Wed Nov 11 2026. No macro, syntax, notation, axiom, sorry.
-/
import Derived.Test.YthhfgchbpgcfmaaChecked
import GoSem.Claim
import GoSem.ClaimJoined
import GoSem.ClaimMapViews
import Derived.JoinedTies
import Derived.KernelRfl
namespace Go.Proofs.Ythhfgchbpgcfmaa
/- THE CELL 'sum', in the pinned program and in every row, IS THE sha256 OF THE DUMP (.gsa) THAT YthhfgchbpgcfmaaProg.lean LOADS. Nothing in Lean hashes anything: it is a label: what it is worth is what the hold of that sum in a sandbox is worth. -/
noncomputable def Try.pinned : Pinned := { name := "ythhfgchbpgcfmaa", sum := "65555e2476b59de33604cc611e6526f18573730293a7256c9897c1d5d0d40aa8", checked := Try.checked }
namespace Rows
def none {H : Type} : Left H := { results := [], args := [] }

/-- 'tappetlaw08.CacheOne': WHATEVER THE INPUT: true; the input reads as it did. -/
def cacheOneSpec : ChangeSpec := { name := "cacheOne", fn := fun _ => fun
  | [d1, d2, d3, d4, d5, d6] => { results := [.lit (.bool true)], args := [d1, d2, d3, d4, d5, d6] }
  | _ => none }
def cacheOneRow : OpenClaim := { program := "ythhfgchbpgcfmaa", sum := "65555e2476b59de33604cc611e6526f18573730293a7256c9897c1d5d0d40aa8", func := "tappet/tappetlaw08.CacheOne", spec := "cacheOne", apart := false }
def CacheOneSaid : Prop := cacheOneRow.holds Try.pinned (OpenSpec.ofChange cacheOneSpec)

/-- ITS FALSE NEIGHBOUR: 'it returns false'. Refute it at one input. -/
def cacheOneWrong : ChangeSpec := { name := "cacheOne", fn := fun _ => fun
  | [d1, d2, d3, d4, d5, d6] => { results := [.lit (.bool false)], args := [d1, d2, d3, d4, d5, d6] }
  | _ => none }
def CacheOneWrongFalsely : Prop := cacheOneRow.holds Try.pinned (OpenSpec.ofChange cacheOneWrong)

/-- 'tappetlaw08.CacheDropped': WHATEVER THE INPUT: true; the input reads as it did. -/
def cacheDroppedSpec : ChangeSpec := { name := "cacheDropped", fn := fun _ => fun
  | [d1, d2] => { results := [.lit (.bool true)], args := [d1, d2] }
  | _ => none }
def cacheDroppedRow : OpenClaim := { program := "ythhfgchbpgcfmaa", sum := "65555e2476b59de33604cc611e6526f18573730293a7256c9897c1d5d0d40aa8", func := "tappet/tappetlaw08.CacheDropped", spec := "cacheDropped", apart := false }
def CacheDroppedSaid : Prop := cacheDroppedRow.holds Try.pinned (OpenSpec.ofChange cacheDroppedSpec)

/-- ITS FALSE NEIGHBOUR: 'it returns false'. Refute it at one input. -/
def cacheDroppedWrong : ChangeSpec := { name := "cacheDropped", fn := fun _ => fun
  | [d1, d2] => { results := [.lit (.bool false)], args := [d1, d2] }
  | _ => none }
def CacheDroppedWrongFalsely : Prop := cacheDroppedRow.holds Try.pinned (OpenSpec.ofChange cacheDroppedWrong)

/-- 'tappetlaw01.WordParts': WHATEVER THE INPUT: true; the input reads as it did. -/
def wordPartsSpec : ChangeSpec := { name := "wordParts", fn := fun _ => fun
  | [d1, d2] => { results := [.lit (.bool true)], args := [d1, d2] }
  | _ => none }
def wordPartsRow : OpenClaim := { program := "ythhfgchbpgcfmaa", sum := "65555e2476b59de33604cc611e6526f18573730293a7256c9897c1d5d0d40aa8", func := "tappet/tappetlaw01.WordParts", spec := "wordParts", unfollowed := true, recurses := true, apart := false }
def WordPartsSaid : Prop := wordPartsRow.holds Try.pinned (OpenSpec.ofChange wordPartsSpec)

/-- ITS FALSE NEIGHBOUR: 'it returns false'. Refute it at one input. -/
def wordPartsWrong : ChangeSpec := { name := "wordParts", fn := fun _ => fun
  | [d1, d2] => { results := [.lit (.bool false)], args := [d1, d2] }
  | _ => none }
def WordPartsWrongFalsely : Prop := wordPartsRow.holds Try.pinned (OpenSpec.ofChange wordPartsWrong)

/-- 'tappetlaw01.WordBits': WHATEVER THE INPUT: true; the input reads as it did. -/
def wordBitsSpec : ChangeSpec := { name := "wordBits", fn := fun _ => fun
  | [d1, d2] => { results := [.lit (.bool true)], args := [d1, d2] }
  | _ => none }
def wordBitsRow : OpenClaim := { program := "ythhfgchbpgcfmaa", sum := "65555e2476b59de33604cc611e6526f18573730293a7256c9897c1d5d0d40aa8", func := "tappet/tappetlaw01.WordBits", spec := "wordBits", unfollowed := true, recurses := true, apart := false }
def WordBitsSaid : Prop := wordBitsRow.holds Try.pinned (OpenSpec.ofChange wordBitsSpec)

/-- ITS FALSE NEIGHBOUR: 'it returns false'. Refute it at one input. -/
def wordBitsWrong : ChangeSpec := { name := "wordBits", fn := fun _ => fun
  | [d1, d2] => { results := [.lit (.bool false)], args := [d1, d2] }
  | _ => none }
def WordBitsWrongFalsely : Prop := wordBitsRow.holds Try.pinned (OpenSpec.ofChange wordBitsWrong)

/-- 'tappetlaw01.WordUndone': WHATEVER THE INPUT: true; the input reads as it did. -/
def wordUndoneSpec : ChangeSpec := { name := "wordUndone", fn := fun _ => fun
  | [d1, d2] => { results := [.lit (.bool true)], args := [d1, d2] }
  | _ => none }
def wordUndoneRow : OpenClaim := { program := "ythhfgchbpgcfmaa", sum := "65555e2476b59de33604cc611e6526f18573730293a7256c9897c1d5d0d40aa8", func := "tappet/tappetlaw01.WordUndone", spec := "wordUndone", unfollowed := true, recurses := true, apart := false }
def WordUndoneSaid : Prop := wordUndoneRow.holds Try.pinned (OpenSpec.ofChange wordUndoneSpec)

/-- ITS FALSE NEIGHBOUR: 'it returns false'. Refute it at one input. -/
def wordUndoneWrong : ChangeSpec := { name := "wordUndone", fn := fun _ => fun
  | [d1, d2] => { results := [.lit (.bool false)], args := [d1, d2] }
  | _ => none }
def WordUndoneWrongFalsely : Prop := wordUndoneRow.holds Try.pinned (OpenSpec.ofChange wordUndoneWrong)

/-- 'tappetlaw01.WordForms': WHATEVER THE INPUT: true; the input reads as it did. -/
def wordFormsSpec : ChangeSpec := { name := "wordForms", fn := fun _ => fun
  | [d1, d2] => { results := [.lit (.bool true)], args := [d1, d2] }
  | _ => none }
def wordFormsRow : OpenClaim := { program := "ythhfgchbpgcfmaa", sum := "65555e2476b59de33604cc611e6526f18573730293a7256c9897c1d5d0d40aa8", func := "tappet/tappetlaw01.WordForms", spec := "wordForms", unfollowed := true, recurses := true, apart := false }
def WordFormsSaid : Prop := wordFormsRow.holds Try.pinned (OpenSpec.ofChange wordFormsSpec)

/-- ITS FALSE NEIGHBOUR: 'it returns false'. Refute it at one input. -/
def wordFormsWrong : ChangeSpec := { name := "wordForms", fn := fun _ => fun
  | [d1, d2] => { results := [.lit (.bool false)], args := [d1, d2] }
  | _ => none }
def WordFormsWrongFalsely : Prop := wordFormsRow.holds Try.pinned (OpenSpec.ofChange wordFormsWrong)

/-- 'tappetlaw01.WordBack': WHATEVER THE INPUT: true; the input reads as it did. -/
def wordBackSpec : ChangeSpec := { name := "wordBack", fn := fun _ => fun
  | [d1, d2] => { results := [.lit (.bool true)], args := [d1, d2] }
  | _ => none }
def wordBackRow : OpenClaim := { program := "ythhfgchbpgcfmaa", sum := "65555e2476b59de33604cc611e6526f18573730293a7256c9897c1d5d0d40aa8", func := "tappet/tappetlaw01.WordBack", spec := "wordBack", unfollowed := true, recurses := true, apart := false }
def WordBackSaid : Prop := wordBackRow.holds Try.pinned (OpenSpec.ofChange wordBackSpec)

/-- ITS FALSE NEIGHBOUR: 'it returns false'. Refute it at one input. -/
def wordBackWrong : ChangeSpec := { name := "wordBack", fn := fun _ => fun
  | [d1, d2] => { results := [.lit (.bool false)], args := [d1, d2] }
  | _ => none }
def WordBackWrongFalsely : Prop := wordBackRow.holds Try.pinned (OpenSpec.ofChange wordBackWrong)

/-- 'tappetlaw01.WordReckons': WHATEVER THE INPUT: true; the input reads as it did. -/
def wordReckonsSpec : ChangeSpec := { name := "wordReckons", fn := fun _ => fun
  | [d1, d2, d3] => { results := [.lit (.bool true)], args := [d1, d2, d3] }
  | _ => none }
def wordReckonsRow : OpenClaim := { program := "ythhfgchbpgcfmaa", sum := "65555e2476b59de33604cc611e6526f18573730293a7256c9897c1d5d0d40aa8", func := "tappet/tappetlaw01.WordReckons", spec := "wordReckons", unfollowed := true, recurses := true, apart := false }
def WordReckonsSaid : Prop := wordReckonsRow.holds Try.pinned (OpenSpec.ofChange wordReckonsSpec)

/-- ITS FALSE NEIGHBOUR: 'it returns false'. Refute it at one input. -/
def wordReckonsWrong : ChangeSpec := { name := "wordReckons", fn := fun _ => fun
  | [d1, d2, d3] => { results := [.lit (.bool false)], args := [d1, d2, d3] }
  | _ => none }
def WordReckonsWrongFalsely : Prop := wordReckonsRow.holds Try.pinned (OpenSpec.ofChange wordReckonsWrong)

/-- 'tappetlaw01.WordTurns': WHATEVER THE INPUT: true; the input reads as it did. -/
def wordTurnsSpec : ChangeSpec := { name := "wordTurns", fn := fun _ => fun
  | [d1, d2, d3] => { results := [.lit (.bool true)], args := [d1, d2, d3] }
  | _ => none }
def wordTurnsRow : OpenClaim := { program := "ythhfgchbpgcfmaa", sum := "65555e2476b59de33604cc611e6526f18573730293a7256c9897c1d5d0d40aa8", func := "tappet/tappetlaw01.WordTurns", spec := "wordTurns", unfollowed := true, recurses := true, apart := false }
def WordTurnsSaid : Prop := wordTurnsRow.holds Try.pinned (OpenSpec.ofChange wordTurnsSpec)

/-- ITS FALSE NEIGHBOUR: 'it returns false'. Refute it at one input. -/
def wordTurnsWrong : ChangeSpec := { name := "wordTurns", fn := fun _ => fun
  | [d1, d2, d3] => { results := [.lit (.bool false)], args := [d1, d2, d3] }
  | _ => none }
def WordTurnsWrongFalsely : Prop := wordTurnsRow.holds Try.pinned (OpenSpec.ofChange wordTurnsWrong)

/-- 'tappetlaw01.WordRanks': WHATEVER THE INPUT: true; the input reads as it did. -/
def wordRanksSpec : ChangeSpec := { name := "wordRanks", fn := fun _ => fun
  | [d1, d2, d3] => { results := [.lit (.bool true)], args := [d1, d2, d3] }
  | _ => none }
def wordRanksRow : OpenClaim := { program := "ythhfgchbpgcfmaa", sum := "65555e2476b59de33604cc611e6526f18573730293a7256c9897c1d5d0d40aa8", func := "tappet/tappetlaw01.WordRanks", spec := "wordRanks", unfollowed := true, recurses := true, apart := false }
def WordRanksSaid : Prop := wordRanksRow.holds Try.pinned (OpenSpec.ofChange wordRanksSpec)

/-- ITS FALSE NEIGHBOUR: 'it returns false'. Refute it at one input. -/
def wordRanksWrong : ChangeSpec := { name := "wordRanks", fn := fun _ => fun
  | [d1, d2, d3] => { results := [.lit (.bool false)], args := [d1, d2, d3] }
  | _ => none }
def WordRanksWrongFalsely : Prop := wordRanksRow.holds Try.pinned (OpenSpec.ofChange wordRanksWrong)

/-- 'tappetlaw11.IrChecks': WHATEVER THE INPUT: true; the input reads as it did. -/
def irChecksSpec : ChangeSpec := { name := "irChecks", fn := fun _ => fun
  | [d] => { results := [.lit (.bool true)], args := [d] }
  | _ => none }
def irChecksRow : OpenClaim := { program := "ythhfgchbpgcfmaa", sum := "65555e2476b59de33604cc611e6526f18573730293a7256c9897c1d5d0d40aa8", func := "tappet/tappetlaw11.IrChecks", spec := "irChecks", unfollowed := true, recurses := true, apart := false }
def IrChecksSaid : Prop := irChecksRow.holds Try.pinned (OpenSpec.ofChange irChecksSpec)

/-- ITS FALSE NEIGHBOUR: 'it returns false'. Refute it at one input. -/
def irChecksWrong : ChangeSpec := { name := "irChecks", fn := fun _ => fun
  | [d] => { results := [.lit (.bool false)], args := [d] }
  | _ => none }
def IrChecksWrongFalsely : Prop := irChecksRow.holds Try.pinned (OpenSpec.ofChange irChecksWrong)

/-- 'tappetlaw11.IrNone': WHATEVER THE INPUT: true; the input reads as it did. -/
def irNoneSpec : ChangeSpec := { name := "irNone", fn := fun _ => fun
  | [d] => { results := [.lit (.bool true)], args := [d] }
  | _ => none }
def irNoneRow : OpenClaim := { program := "ythhfgchbpgcfmaa", sum := "65555e2476b59de33604cc611e6526f18573730293a7256c9897c1d5d0d40aa8", func := "tappet/tappetlaw11.IrNone", spec := "irNone", unfollowed := true, recurses := true, apart := false }
def IrNoneSaid : Prop := irNoneRow.holds Try.pinned (OpenSpec.ofChange irNoneSpec)

/-- ITS FALSE NEIGHBOUR: 'it returns false'. Refute it at one input. -/
def irNoneWrong : ChangeSpec := { name := "irNone", fn := fun _ => fun
  | [d] => { results := [.lit (.bool false)], args := [d] }
  | _ => none }
def IrNoneWrongFalsely : Prop := irNoneRow.holds Try.pinned (OpenSpec.ofChange irNoneWrong)

/- THE SECOND FORM. 'bulk': how many values and letters a reading holds, each counted each time it is reached (what is shared counts as often as it is met; a slice's spare places count too). A statement '..UptoSaid' is the law's where the arguments, and the package variables that the reading takes, are together of bulk at most 1048576: NARROWER than '..Said'. Prove '..Said' where nothing that the law and all that it calls make is longer than what came in: it says more and counts as full. Else prove '..UptoSaid'. A law counts once. -/
mutual
def uptoBulk {H : Type} : DataW H → Nat
  | .lit (.string bytes) => bytes.length + 1
  | .lit _ => 1
  | .nil => 1
  | .ptr d => uptoBulk d + 1
  | .slice elems spare => uptoBulkAll elems + uptoBulkAll spare + 1
  | .agg parts => uptoBulkAll parts + 1
  | .iface _ d => uptoBulk d + 1
  | .map entries => uptoBulkEntries entries + 1
  | .held _ => 1
def uptoBulkAll {H : Type} : List (DataW H) → Nat
  | [] => 0
  | d :: r => uptoBulk d + uptoBulkAll r
def uptoBulkEntries {H : Type} : List (Lit × DataW H) → Nat
  | [] => 0
  | x :: r => uptoBulkEntry x + uptoBulkEntries r
def uptoBulkEntry {H : Type} : Lit × DataW H → Nat
  | (.string bytes, d) => bytes.length + uptoBulk d + 1
  | (_, d) => uptoBulk d + 1
 end
def uptoSmall : (H : Type) → List (DataW H) → Bool := fun _ ds => decide (uptoBulkAll ds ≤ 1048576)
def OpenSpec.upto (s : _root_.Go.ChangeSpec) : _root_.Go.OpenSpec := { _root_.Go.OpenSpec.ofChange s with cond := some uptoSmall }

/-- 'tappetlaw08.CacheOne', WHERE WHAT IT READS IS OF BULK AT MOST 1048576: true; the input reads as it did. -/
def cacheOneUptoRow : OpenClaim := { program := "ythhfgchbpgcfmaa", sum := "65555e2476b59de33604cc611e6526f18573730293a7256c9897c1d5d0d40aa8", func := "tappet/tappetlaw08.CacheOne", spec := "cacheOne", apart := false, narrowed := true }
def CacheOneUptoSaid : Prop := cacheOneUptoRow.holds Try.pinned (OpenSpec.upto cacheOneSpec)

/-- 'tappetlaw08.CacheDropped', WHERE WHAT IT READS IS OF BULK AT MOST 1048576: true; the input reads as it did. -/
def cacheDroppedUptoRow : OpenClaim := { program := "ythhfgchbpgcfmaa", sum := "65555e2476b59de33604cc611e6526f18573730293a7256c9897c1d5d0d40aa8", func := "tappet/tappetlaw08.CacheDropped", spec := "cacheDropped", apart := false, narrowed := true }
def CacheDroppedUptoSaid : Prop := cacheDroppedUptoRow.holds Try.pinned (OpenSpec.upto cacheDroppedSpec)

/-- 'tappetlaw01.WordParts', WHERE WHAT IT READS IS OF BULK AT MOST 1048576: true; the input reads as it did. -/
def wordPartsUptoRow : OpenClaim := { program := "ythhfgchbpgcfmaa", sum := "65555e2476b59de33604cc611e6526f18573730293a7256c9897c1d5d0d40aa8", func := "tappet/tappetlaw01.WordParts", spec := "wordParts", unfollowed := true, recurses := true, apart := false, narrowed := true }
def WordPartsUptoSaid : Prop := wordPartsUptoRow.holds Try.pinned (OpenSpec.upto wordPartsSpec)

/-- 'tappetlaw01.WordBits', WHERE WHAT IT READS IS OF BULK AT MOST 1048576: true; the input reads as it did. -/
def wordBitsUptoRow : OpenClaim := { program := "ythhfgchbpgcfmaa", sum := "65555e2476b59de33604cc611e6526f18573730293a7256c9897c1d5d0d40aa8", func := "tappet/tappetlaw01.WordBits", spec := "wordBits", unfollowed := true, recurses := true, apart := false, narrowed := true }
def WordBitsUptoSaid : Prop := wordBitsUptoRow.holds Try.pinned (OpenSpec.upto wordBitsSpec)

/-- 'tappetlaw01.WordUndone', WHERE WHAT IT READS IS OF BULK AT MOST 1048576: true; the input reads as it did. -/
def wordUndoneUptoRow : OpenClaim := { program := "ythhfgchbpgcfmaa", sum := "65555e2476b59de33604cc611e6526f18573730293a7256c9897c1d5d0d40aa8", func := "tappet/tappetlaw01.WordUndone", spec := "wordUndone", unfollowed := true, recurses := true, apart := false, narrowed := true }
def WordUndoneUptoSaid : Prop := wordUndoneUptoRow.holds Try.pinned (OpenSpec.upto wordUndoneSpec)

/-- 'tappetlaw01.WordForms', WHERE WHAT IT READS IS OF BULK AT MOST 1048576: true; the input reads as it did. -/
def wordFormsUptoRow : OpenClaim := { program := "ythhfgchbpgcfmaa", sum := "65555e2476b59de33604cc611e6526f18573730293a7256c9897c1d5d0d40aa8", func := "tappet/tappetlaw01.WordForms", spec := "wordForms", unfollowed := true, recurses := true, apart := false, narrowed := true }
def WordFormsUptoSaid : Prop := wordFormsUptoRow.holds Try.pinned (OpenSpec.upto wordFormsSpec)

/-- 'tappetlaw01.WordBack', WHERE WHAT IT READS IS OF BULK AT MOST 1048576: true; the input reads as it did. -/
def wordBackUptoRow : OpenClaim := { program := "ythhfgchbpgcfmaa", sum := "65555e2476b59de33604cc611e6526f18573730293a7256c9897c1d5d0d40aa8", func := "tappet/tappetlaw01.WordBack", spec := "wordBack", unfollowed := true, recurses := true, apart := false, narrowed := true }
def WordBackUptoSaid : Prop := wordBackUptoRow.holds Try.pinned (OpenSpec.upto wordBackSpec)

/-- 'tappetlaw01.WordReckons', WHERE WHAT IT READS IS OF BULK AT MOST 1048576: true; the input reads as it did. -/
def wordReckonsUptoRow : OpenClaim := { program := "ythhfgchbpgcfmaa", sum := "65555e2476b59de33604cc611e6526f18573730293a7256c9897c1d5d0d40aa8", func := "tappet/tappetlaw01.WordReckons", spec := "wordReckons", unfollowed := true, recurses := true, apart := false, narrowed := true }
def WordReckonsUptoSaid : Prop := wordReckonsUptoRow.holds Try.pinned (OpenSpec.upto wordReckonsSpec)

/-- 'tappetlaw01.WordTurns', WHERE WHAT IT READS IS OF BULK AT MOST 1048576: true; the input reads as it did. -/
def wordTurnsUptoRow : OpenClaim := { program := "ythhfgchbpgcfmaa", sum := "65555e2476b59de33604cc611e6526f18573730293a7256c9897c1d5d0d40aa8", func := "tappet/tappetlaw01.WordTurns", spec := "wordTurns", unfollowed := true, recurses := true, apart := false, narrowed := true }
def WordTurnsUptoSaid : Prop := wordTurnsUptoRow.holds Try.pinned (OpenSpec.upto wordTurnsSpec)

/-- 'tappetlaw01.WordRanks', WHERE WHAT IT READS IS OF BULK AT MOST 1048576: true; the input reads as it did. -/
def wordRanksUptoRow : OpenClaim := { program := "ythhfgchbpgcfmaa", sum := "65555e2476b59de33604cc611e6526f18573730293a7256c9897c1d5d0d40aa8", func := "tappet/tappetlaw01.WordRanks", spec := "wordRanks", unfollowed := true, recurses := true, apart := false, narrowed := true }
def WordRanksUptoSaid : Prop := wordRanksUptoRow.holds Try.pinned (OpenSpec.upto wordRanksSpec)

/-- 'tappetlaw11.IrChecks', WHERE WHAT IT READS IS OF BULK AT MOST 1048576: true; the input reads as it did. -/
def irChecksUptoRow : OpenClaim := { program := "ythhfgchbpgcfmaa", sum := "65555e2476b59de33604cc611e6526f18573730293a7256c9897c1d5d0d40aa8", func := "tappet/tappetlaw11.IrChecks", spec := "irChecks", unfollowed := true, recurses := true, apart := false, narrowed := true }
def IrChecksUptoSaid : Prop := irChecksUptoRow.holds Try.pinned (OpenSpec.upto irChecksSpec)

/-- 'tappetlaw11.IrNone', WHERE WHAT IT READS IS OF BULK AT MOST 1048576: true; the input reads as it did. -/
def irNoneUptoRow : OpenClaim := { program := "ythhfgchbpgcfmaa", sum := "65555e2476b59de33604cc611e6526f18573730293a7256c9897c1d5d0d40aa8", func := "tappet/tappetlaw11.IrNone", spec := "irNone", unfollowed := true, recurses := true, apart := false, narrowed := true }
def IrNoneUptoSaid : Prop := irNoneUptoRow.holds Try.pinned (OpenSpec.upto irNoneSpec)

end Rows
end Go.Proofs.Ythhfgchbpgcfmaa
