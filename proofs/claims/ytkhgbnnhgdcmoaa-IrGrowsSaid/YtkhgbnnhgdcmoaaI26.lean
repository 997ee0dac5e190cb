/-
  Walks of layer 11 (ir), part I26: what these functions of the program answer and what becomes of memory, for any values. No conditions beyond those that each theorem names.
-/
import Derived.Test.YtkhgbnnhgdcmoaaI24
namespace Go.Proofs.Ytkhgbnnhgdcmoaa.IR
open Go.RowKit Go.Proofs.YtkhgbnnhgdcmoaaW.PrintWords Go.Proofs.YtkhgbnnhgdcmoaaW.PrintLast Go.Proofs.YtkhgbnnhgdcmoaaW.PrintMore Go.Proofs.Ytkhgbnnhgdcmoaa.QIr

theorem grown_types {α : Type} {d : Kd α} {e base t : Nat} {ok : Nat → Prop} {v : Value} {xs : List α} {W w1 : World} {row : Option Nat} (hrow : ∀ g, row = some g → ∃ cells, W.heap[g]? = some (.cells cells t (0, 0))) (ht : ∀ q, q ∈ e :: d.E → q ≠ t) (h : d.R e W base ok v xs) (hg : W.grownBy w1 row) : d.R e w1 base ok v xs := by
  cases row with
  | none => exact Kd.R_grown h hg (fun k _ hk => by cases hk)
  | some g =>
    obtain ⟨cells, hb⟩ := hrow g rfl
    exact Kd.R_mono (Kd.R_grown (Kd.R_types h hb ht) hg (fun k hk e => by injection e with e; exact hk.2 e)) (fun _ hk => hk.1)
theorem own_row {α : Type} {d : Kd α} {e base : Nat} {ok : Nat → Prop} {v : Value} {xs : List α} {W : World} (h : d.R e W base ok v xs) : ∀ g, v.ownBlock = some g → ∃ cells, W.heap[g]? = some (.cells cells e (0, 0)) := by
  intro g hg
  obtain ⟨inner, ho⟩ := Kd.R_own h
  exact own_typed ho g hg
theorem ints_set {w : World} {base : Nat} {ok : Nat → Prop} {A : Option Addr} {c : Nat} {l : List Int} (h : Kd.R (Kd.int .i64) 3 w base ok (.slice A l.length c) l) {k : Nat} (hk : k < l.length) (x : Int) :
    ∃ g cells, A = some ⟨g, 0, none⟩ ∧ base ≤ g ∧ w.heap[g]? = some (.cells cells 3 (0, 0)) ∧ w.cell? ⟨g, k, none⟩ = some (.int .i64 (at_ l k)) ∧ Kd.R (Kd.int .i64) 3 (w.setCell ⟨g, k, none⟩ (.int .i64 x)) base ok (.slice A l.length c) (l.set k x) := by
  obtain ⟨h0, inner, hown, hrep⟩ := h
  rcases hown.2 with ⟨hv, hn⟩ | ⟨g, cap, cur, hv, hbg, hg, hnc, hcap, hcs, htk⟩
  · omega
  · injection hv with h1 h2 h3
    subst h1 h3
    have key : ∀ j, j < l.length → cur[j]? = some (.int .i64 (at_ l j)) := by
      intro j hj
      have hr := hrep.2 j (at_ l j) (by unfold at_; rw [List.getD_eq_getElem?_getD, List.getElem?_eq_getElem hj]; rfl)
      have h0 : ((inner.drop (j * 1)).take 1)[0]? = some (.int .i64 (at_ l j)) := by
        have : (inner.drop (j * 1)).take 1 = [.int .i64 (at_ l j)] := hr
        rw [this]; rfl
      rw [List.getElem?_take, if_pos (by omega), List.getElem?_drop, ← htk, List.getElem?_take, if_pos (by change j * 1 + 0 < l.length * 1; omega), Array.getElem?_toList] at h0
      simpa using h0
    have hsz : cur.size = c := by rw [hcs]; exact Nat.mul_one _
    have hzl : (cur.setIfInBounds k (.int .i64 x)).toList.length = cur.size := by simp
    refine ⟨g, cur, rfl, hbg, hg, (blk_cell hg k).trans (key k hk), fun q hq => h0 q hq, ((cur.setIfInBounds k (.int .i64 x)).toList.take (l.length * 1)), ⟨?_, .inr ⟨g, c, _, by rw [List.length_set], hbg, blk_set hg k _, by rw [List.length_set]; exact hnc, hcap, by rw [Array.size_setIfInBounds]; exact hcs, by rw [List.length_set]; rfl⟩⟩, ?_, ?_⟩
    · rw [List.length_take, hzl, List.length_set]
      change min (l.length * 1) cur.size = l.length * 1
      omega
    · rw [List.length_take, hzl, List.length_set]
      change min (l.length * 1) cur.size = l.length * 1
      omega
    · intro j p hj
      have hjl : j < l.length := by have := (List.getElem?_eq_some_iff.1 hj).1; rwa [List.length_set] at this
      change (((cur.setIfInBounds k (.int .i64 x)).toList.take (l.length * 1)).drop (j * 1)).take 1 = [.int .i64 p]
      apply List.ext_getElem?
      intro i
      rw [List.getElem?_take, List.getElem?_drop, List.getElem?_take]
      match i with
      | 0 =>
        rw [if_pos (by omega), if_pos (by omega), Array.getElem?_toList, show j * 1 + 0 = j by omega, Array.getElem?_setIfInBounds]
        rw [List.getElem?_set] at hj
        by_cases e : k = j
        · rw [if_pos e] at hj ⊢
          rw [if_pos hk] at hj
          rw [if_pos (by omega)]
          cases hj; rfl
        · rw [if_neg e] at hj ⊢
          rw [key j hjl]
          have : at_ l j = p := by unfold at_; rw [List.getD_eq_getElem?_getD, hj]; rfl
          rw [this]; rfl
      | i + 1 => rw [if_neg (by omega)]; simp
theorem and15 (n : Int) : 0 ≤ Go.bits .and .i64 n 15 ∧ Go.bits .and .i64 n 15 ≤ 15 := by
  unfold Go.bits
  rw [IntKind.wrap_i64]
  have h : ((BitVec.ofInt 64 n &&& BitVec.ofInt 64 15).toNat) ≤ 15 := by
    rw [BitVec.toNat_and]
    have e1 : (BitVec.ofInt 64 15).toNat = 15 := by decide
    rw [e1]
    exact Nat.and_le_right
  show 0 ≤ (((BitVec.ofInt 64 n &&& BitVec.ofInt 64 15).toNat : Int) + 9223372036854775808) % 18446744073709551616 - 9223372036854775808 ∧ (((BitVec.ofInt 64 n &&& BitVec.ofInt 64 15).toNat : Int) + 9223372036854775808) % 18446744073709551616 - 9223372036854775808 ≤ 15
  omega
end Go.Proofs.Ytkhgbnnhgdcmoaa.IR
