/-
  Walks of layer 11 (ir), part I17: what these functions of the program answer and what becomes of memory, for any values. No conditions beyond those that each theorem names.
-/
import Derived.Test.YtkhgbnnhgdcmoaaI16
namespace Go.Proofs.Ytkhgbnnhgdcmoaa.IR
open Go.RowKit Go.Proofs.YtkhgbnnhgdcmoaaW.PrintWords Go.Proofs.YtkhgbnnhgdcmoaaW.PrintLast Go.Proofs.YtkhgbnnhgdcmoaaW.PrintMore Go.Proofs.Ytkhgbnnhgdcmoaa.QIr

theorem info36 : (Try.prog.info? 36).map (fun i => (i.zero, i.size, i.bytes)) = some (some (.agg #[.int .i64 0, .int .i64 0, .int .u64 0]), 3, 24) := by kernel_rfl
/-- an empty row of the call's own -/
theorem R_empty {α : Type} (d : Kd α) (e : Nat) {w : World} {base g : Nat} (ok : Nat → Prop) (hok : ok g) (hg : base ≤ g) (h : w.heap[g]? = some (.cells #[] e (0, 0))) : d.R e w base ok (.slice (some ⟨g, 0, none⟩) 0 0) [] := by
  refine ⟨fun k hk => ?_, [], ⟨by simp, .inr ⟨g, 0, #[], rfl, hg, h, Nat.le_refl _, by unfold maxLen; omega, by simp, by simp⟩⟩, ⟨by simp, fun j p hj => by simp at hj⟩⟩
  have : g = k := by simpa [Value.ownBlock] using hk
  rwa [← this]

theorem eql_nil {t e : TypeId} (ht : Try.prog.underlying t = some (.slice e)) (A : Option Addr) (n c : Nat) (w : World) : (binOp .eql t (.slice A n c) (.slice none 0 0)).run Try.prog w = .ok (.bool A.isNone) w := by
  have h : (Op.equalIn (9999 + 1) t (.slice A n c) (.slice none 0 0)).run Try.prog w = .ok A.isNone w := by
    unfold Op.equalIn
    rw [Sem.run_bind, show (underlying t).run Try.prog w = .ok (.slice e) w from run_underlying ht w]
    cases A <;> rfl
  have h2 : (binOp .eql t (.slice A n c) (.slice none 0 0)) = (do pure (.bool (← Op.equal t (.slice A n c) (.slice none 0 0)))) := rfl
  rw [h2]
  have h3 : Op.equal t (.slice A n c) (.slice none 0 0) = Op.equalIn (9999 + 1) t (.slice A n c) (.slice none 0 0) := rfl
  rw [h3, Sem.run_bind, h]
  rfl
theorem eql_nil37 (A : Option Addr) (n c : Nat) (w : World) : (binOp .eql 37 (.slice A n c) (.slice none 0 0)).run Try.prog w = .ok (.bool A.isNone) w := eql_nil Try.underlying37 A n c w
attribute [local go_sem] eql_nil37

def MadeRow (w : World) (l : List S36) (e : Ending) (w' : World) : Prop := ∃ v, e = .returned v ∧ Kd.R k36 36 w' w.heap.size (fun _ => True) v l ∧ Below w.heap.size w w'
set_option maxHeartbeats 4000000 in
set_option maxRecDepth 100000 in
theorem clone36_any (l : List S36) (A : Option Addr) (c : Nat) (w : World) (hl : Kd.C k36 w A l.length l) (hsz : l.length * 24 ≤ 140737488355328) : Calls Try.prog 35 #[.slice A l.length c] w (MadeRow w l) := by
  cases A with
  | none =>
    have h0 : l.length = 0 := by
      rcases Nat.eq_zero_or_pos l.length with h | h
      · exact h
      · obtain ⟨ad, h1, _⟩ := hl.2.2 h
        cases h1
    obtain rfl : l = [] := List.length_eq_zero_iff.1 h0
    clear hl hsz
    go_enter Try.func35, Try.ntmps35
    go_wp2
    go_ret
    exact ⟨_, rfl, Kd.R_nil _ _ _ _ _, Below.refl _ _⟩
  | some ad =>
    have HL := Lib.hid hl
    have HSZ := Lib.hid hsz
    have HR := Lib.hid (R_empty k36 36 (w := w.alloc (.cells #[] 36)) (base := w.heap.size) (g := w.heap.size) (fun _ => True) trivial (Nat.le_refl _) (blk_new _ _))
    have HCL := Lib.hid (Kd.C_below hl (below_box w (.cells #[] 36)))
    clear hl hsz
    go_enter Try.func35, Try.ntmps35
    go_wp2_with (at_builtin; refine Kd.R_append_rows k36 (Rr := k36.K (w.alloc (.cells #[] 36))) w.heap.size rfl _ _ 37 36 _ 24 rfl Try.underlying37 info36 rfl (by decide) (by decide) (.slice (some ⟨w.heap.size, 0, none⟩) 0 0) [] l (some ad) l.length c (fun _ => True) (fun _ => False) rfl rfl HR.out HCL.out (fun x cs h => by have := k36_open h; subst this; exact k36_mkM _ _ _ x) (fun k h => h.elim) (fun _ _ => trivial) (below_box w _) (by simp) (by have := HSZ.out; simp; omega) ?_; intro v1 w1 hv1 hb1 hg1 hat1)
    go_ret
    exact ⟨_, rfl, hv1, hb1⟩
end Go.Proofs.Ytkhgbnnhgdcmoaa.IR
