/-
  Walks of layer 11 (ir), part I24: what these functions of the program answer and what becomes of memory, for any values. No conditions beyond those that each theorem names.
-/
import Derived.Test.YtkhgbnnhgdcmoaaI23
import Derived.Test.YtkhgbnnhgdcmoaaI30
namespace Go.Proofs.Ytkhgbnnhgdcmoaa.IR
open Go.RowKit Go.Proofs.YtkhgbnnhgdcmoaaW.PrintWords Go.Proofs.YtkhgbnnhgdcmoaaW.PrintLast Go.Proofs.YtkhgbnnhgdcmoaaW.PrintMore Go.Proofs.Ytkhgbnnhgdcmoaa.QIr

/-- the instruction that is put behind -/
def trap : S39 := ⟨9, 0, ⟨0, 0, 0⟩, [], 0⟩
def up1 (u : U) (k : Int) : U := ⟨u.m, u.a, u.t, u.r + k, u.p + k, u.n + k, u.enter, u.code ++ [trap], u.starts, u.maps⟩
def up2 (u : U) (k : Int) : U := ⟨u.m, u.a, u.t, u.r + k, u.p + k, u.n + k, u.enter, u.code ++ [trap], u.starts.set (u.starts.length - 1) (at_ u.starts (u.starts.length - 1) + 1), u.maps⟩
theorem starts_last {u : U} (h : startsB u = true) : at_ u.starts (u.starts.length - 1) = (u.code.length : Int) := by
  unfold startsB at h
  simp at h
  exact h.1.2
theorem starts_first {u : U} (h : startsB u = true) : at_ u.starts 0 = 0 := by
  unfold startsB at h
  simp at h
  exact h.1.1.2
theorem up1_no {u : U} (k : Int) (h : UnitOk u) : ¬ UnitOk (up1 u k) := fun h2 => by
  have e1 := starts_last ((shaped_iff u).1 h.1).2.1
  have e2 := starts_last ((shaped_iff _).1 h2.1).2.1
  simp [up1] at e2
  omega
theorem source_mono {u : U} {k : Int} (hk : 0 ≤ k) {s : S36} (h : sourceB u s = true) : sourceB (up2 u k) s = true := by
  unfold sourceB at *
  by_cases h0 : s.f0 = 0
  · rw [if_pos h0] at h ⊢
    rw [Bool.and_eq_true, decide_eq_true_eq] at h ⊢
    refine ⟨h.1, ?_⟩
    have := h.2
    show s.f1 < u.r + k
    omega
  · rw [if_neg h0] at h ⊢
    by_cases h3 : s.f0 = 3
    · rw [if_pos h3] at h ⊢
      rw [Bool.and_eq_true, decide_eq_true_eq] at h ⊢
      refine ⟨h.1, ?_⟩
      have := h.2
      show s.f1 < u.p + k
      omega
    · rw [if_neg h3] at h ⊢; exact h
theorem nums_of {u : U} (h : numsB u = true) : 0 ≤ u.a ∧ u.a ≤ 4 ∧ u.a ≤ u.t ∧ u.t ≤ 16 ∧ 0 ≤ u.r ∧ u.r ≤ 4096 ∧ 0 ≤ u.p ∧ u.p ≤ 4096 ∧ 0 ≤ u.n ∧ u.n ≤ 128 ∧ u.m ≠ 0 := by
  unfold numsB at h
  simp only [Bool.not_eq_true', Bool.or_eq_false_iff, decide_eq_false_iff_not] at h
  omega
theorem nums_mk {u : U} (h : 0 ≤ u.a ∧ u.a ≤ 4 ∧ u.a ≤ u.t ∧ u.t ≤ 16 ∧ 0 ≤ u.r ∧ u.r ≤ 4096 ∧ 0 ≤ u.p ∧ u.p ≤ 4096 ∧ 0 ≤ u.n ∧ u.n ≤ 128 ∧ u.m ≠ 0) : numsB u = true := by
  unfold numsB
  simp only [Bool.not_eq_true', Bool.or_eq_false_iff, decide_eq_false_iff_not]
  omega
theorem starts_mk {u : U} (h1 : 2 ≤ u.starts.length) (h2 : u.starts.length ≤ 129) (h3 : (u.maps.length : Int) = (u.starts.length : Int) - 1) (h4 : at_ u.starts 0 = 0) (h5 : at_ u.starts (u.starts.length - 1) = (u.code.length : Int)) (h6 : sortedB u.starts = true) : startsB u = true := by
  unfold startsB
  simp only [Bool.not_eq_true', Bool.or_eq_false_iff, decide_eq_false_iff_not, Bool.not_eq_false', Decidable.not_not]
  exact ⟨⟨⟨⟨⟨by omega, by omega⟩, h3⟩, h4⟩, h5⟩, h6⟩
theorem all_mono {u : U} {k : Int} (hk : 0 ≤ k) {l : List S36} (h : allB u l = true) : allB (up2 u k) l = true := by
  unfold allB at *
  rw [List.all_eq_true] at *
  exact fun s hs => source_mono hk (h s hs)
theorem one_mono {u : U} {k : Int} (hk : 0 ≤ k) (hn0 : 0 ≤ u.n) (hn1 : u.n + k ≤ 128) {i : S39} (h : oneB u i = true) : oneB (up2 u k) i = true := by
  unfold oneB at *
  simp only [Bool.and_eq_true, decide_eq_true_eq] at *
  obtain ⟨h1, h2, h3, h4, h5, h6, h7⟩ := h
  refine ⟨h1, h2, all_mono hk h3, ?_, h5, ?_, h7⟩
  · unfold dB at *
    by_cases hl : decide (0 < leavesB i.f0) = true
    · rw [if_pos hl] at *
      rw [Bool.and_eq_true] at *
      exact ⟨h4.1, source_mono hk h4.2⟩
    · rw [if_neg hl] at *; exact h4
  · refine Int.le_trans h6 ?_
    unfold mostN
    simp only [up2]
    by_cases h7 : i.f0 = 7
    · rw [h7]; simp; unfold wrap64; omega
    · simp [h7]
theorem at_set {l : List Int} {i k : Nat} {x : Int} (hi : i < l.length) : at_ (l.set i x) k = if k = i then x else at_ l k := by
  unfold at_
  rw [List.getD_eq_getElem?_getD, List.getElem?_set, List.getD_eq_getElem?_getD]
  by_cases e : i = k
  · subst e; simp [hi]
  · rw [if_neg e, if_neg (Ne.symm e)]
theorem up2_ok {u : U} {k : Int} (h : UnitOk u) (hk : 0 ≤ k) (hr : u.r + k ≤ 4096) (hp : u.p + k ≤ 4096) (hn : u.n + k ≤ 128) : UnitOk (up2 u k) := by
  obtain ⟨hs, he, hc⟩ := h
  obtain ⟨h1, h2, h3⟩ := (shaped_iff u).1 hs
  have hn0 := (shaped_n hs).1
  have hl := starts_last h2
  have hf := starts_first h2
  obtain ⟨f1, f2, f3, f4, f5⟩ := starts_facts h2
  refine ⟨(shaped_iff _).2 ⟨?_, ?_, fun j hj => ?_⟩, fun j hj => ⟨(he j hj).1, one_mono hk hn0 hn (he j hj).2⟩, fun j hj => ?_⟩
  · obtain ⟨g1, g2, g3, g4, g5, g6, g7, g8, g9, g10, g11⟩ := nums_of h1
    exact nums_mk ⟨g1, g2, g3, g4, by show 0 ≤ u.r + k; omega, hr, by show 0 ≤ u.p + k; omega, hp, by show 0 ≤ u.n + k; omega, hn, g11⟩
  · have hls : (up2 u k).starts.length = u.starts.length := by simp [up2]
    refine starts_mk (by rw [hls]; exact f1) (by rw [hls]; exact f2) (by rw [hls]; exact f3) ?_ ?_ ?_
    · show at_ (u.starts.set (u.starts.length - 1) (at_ u.starts (u.starts.length - 1) + 1)) 0 = 0
      rw [at_set (by omega), if_neg (by omega)]; exact hf
    · rw [hls]
      show at_ (u.starts.set (u.starts.length - 1) (at_ u.starts (u.starts.length - 1) + 1)) (u.starts.length - 1) = ((u.code ++ [trap]).length : Int)
      rw [at_set (by omega), if_pos rfl, hl]; simp
    · show sortedB (u.starts.set (u.starts.length - 1) (at_ u.starts (u.starts.length - 1) + 1)) = true
      unfold sortedB
      rw [List.all_eq_true]
      intro j hj
      rw [List.mem_range, List.length_set] at hj
      rw [at_set (by omega), at_set (by omega), if_neg (by omega)]
      have := f4 j (by omega)
      by_cases e : j + 1 = u.starts.length - 1
      · rw [if_pos e, ← e]; simp; omega
      · rw [if_neg e]; simpa using this
  · have := h3 j hj
    unfold badB at *
    simp only [up2] at *
    simp only [Bool.or_eq_false_iff, Bool.not_eq_false'] at *
    exact ⟨this.1, all_mono hk this.2⟩
  · simp only [up2, List.length_append, List.length_singleton] at hj
    by_cases e : j < u.code.length
    · have ej : i_ (u.code ++ [trap]) j = i_ u.code j := by unfold i_; rw [List.getD_eq_getElem?_getD, List.getD_eq_getElem?_getD, List.getElem?_append_left e]
      have ek : ∀ q, q < j → i_ (u.code ++ [trap]) q = i_ u.code q := fun q hq => by unfold i_; rw [List.getD_eq_getElem?_getD, List.getD_eq_getElem?_getD, List.getElem?_append_left (by omega)]
      simp only [up2]
      rw [ej]
      refine ⟨one_mono hk hn0 hn (hc j e).1, fun q hq => ?_⟩
      rw [ek q hq]
      exact (hc j e).2 q hq
    · have ej : i_ (u.code ++ [trap]) j = trap := by
        unfold i_
        rw [List.getD_eq_getElem?_getD, List.getElem?_append_right (by omega), show j - u.code.length = 0 by omega]; rfl
      simp only [up2]
      rw [ej]
      refine ⟨?_, fun q _ ht => absurd ht.1 (by decide)⟩
      unfold oneB trap
      simp [leastB, mostB, allB, dB, leavesB, nilB, mostN, wordedB]
end Go.Proofs.Ytkhgbnnhgdcmoaa.IR
