/-
  Walks of layer 11 (ir), part I30: what these functions of the program answer and what becomes of memory, for any values. No conditions beyond those that each theorem names.
-/
import Derived.Test.YtkhgbnnhgdcmoaaI12
namespace Go.Proofs.Ytkhgbnnhgdcmoaa.IR
open Go.RowKit Go.Proofs.YtkhgbnnhgdcmoaaW.PrintWords Go.Proofs.YtkhgbnnhgdcmoaaW.PrintLast Go.Proofs.YtkhgbnnhgdcmoaaW.PrintMore Go.Proofs.Ytkhgbnnhgdcmoaa.QIr

theorem sorted_step {l : List Int} (h : sortedB l = true) {k : Nat} (hk : k + 1 < l.length) : at_ l k ≤ at_ l (k + 1) := by
  unfold sortedB at h
  rw [List.all_eq_true] at h
  have := h k (by rw [List.mem_range]; omega)
  simpa using this
theorem sorted_last {l : List Int} (h : sortedB l = true) : ∀ d k, k + d + 1 = l.length → at_ l k ≤ at_ l (l.length - 1) := by
  intro d
  induction d with
  | zero => intro k hk; rw [show k = l.length - 1 by omega]; exact Int.le_refl _
  | succ d ih => intro k hk; exact Int.le_trans (sorted_step h (by omega)) (ih (k + 1) (by omega))
theorem starts_facts {u : U} (h : startsB u = true) : 2 ≤ u.starts.length ∧ u.starts.length ≤ 129 ∧ (u.maps.length : Int) = (u.starts.length : Int) - 1 ∧ (∀ k, k + 1 < u.starts.length → at_ u.starts k ≤ at_ u.starts (k + 1)) ∧ ∀ k, k < u.starts.length → at_ u.starts k ≤ (u.code.length : Int) := by
  unfold startsB at h
  simp at h
  obtain ⟨⟨⟨⟨⟨h1, h2⟩, h3⟩, h4⟩, h5⟩, h6⟩ := h
  refine ⟨by omega, by omega, by omega, fun k hk => sorted_step h6 hk, fun k hk => ?_⟩
  rw [← h5]
  exact sorted_last h6 (u.starts.length - 1 - k) k (by omega)
end Go.Proofs.Ytkhgbnnhgdcmoaa.IR
