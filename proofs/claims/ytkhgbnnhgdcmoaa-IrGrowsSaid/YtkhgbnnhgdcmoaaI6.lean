/-
  Walks of layer 11 (ir), part I6: what these functions of the program answer and what becomes of memory, for any values. No conditions beyond those that each theorem names.
-/
import Derived.Test.YtkhgbnnhgdcmoaaI5
namespace Go.Proofs.Ytkhgbnnhgdcmoaa.IR
open Go.RowKit Go.Proofs.YtkhgbnnhgdcmoaaW.PrintWords Go.Proofs.YtkhgbnnhgdcmoaaW.PrintLast Go.Proofs.YtkhgbnnhgdcmoaaW.PrintMore Go.Proofs.Ytkhgbnnhgdcmoaa.QIr

def firstL (p : List S36 → Bool) (l : List (List S36)) : Int := match l.findIdx? p with | some i => (i : Int) | none => -1
theorem firstL_at {p : List S36 → Bool} {l : List (List S36)} {k : Nat} (hk : k < l.length) (hp : p (l.getD k []) = true) (hn : ∀ j, j < k → p (l.getD j []) = false) : firstL p l = k := by
  unfold firstL
  have : l.findIdx? p = some k := by
    rw [List.findIdx?_eq_some_iff_getElem]
    refine ⟨hk, ?_, ?_⟩
    · rw [List.getD_eq_getElem?_getD, List.getElem?_eq_getElem hk] at hp; simpa using hp
    · intro j hj
      have := hn j hj
      rw [List.getD_eq_getElem?_getD, List.getElem?_eq_getElem (by omega)] at this
      simpa using this
  rw [this]
theorem firstL_none {p : List S36 → Bool} {l : List (List S36)} (hn : ∀ j, j < l.length → p (l.getD j []) = false) : firstL p l = -1 := by
  unfold firstL
  have : l.findIdx? p = none := by
    rw [List.findIdx?_eq_none_iff]
    intro s hs
    obtain ⟨j, hj, rfl⟩ := List.getElem_of_mem hs
    have := hn j hj
    rw [List.getD_eq_getElem?_getD, List.getElem?_eq_getElem hj] at this
    simpa using this
  rw [this]
theorem firstL_nonneg (p : List S36 → Bool) (l : List (List S36)) : decide (0 ≤ firstL p l) = l.any p := by
  unfold firstL
  cases h : l.findIdx? p with
  | none =>
    rw [List.findIdx?_eq_none_iff] at h
    have : l.any p = false := by rw [List.any_eq_false]; intro s hs; rw [h s hs]; decide
    rw [this]; rfl
  | some i =>
    obtain ⟨hi, hp, _⟩ := List.findIdx?_eq_some_iff_getElem.1 h
    have : l.any p = true := by rw [List.any_eq_true]; exact ⟨_, List.getElem_mem hi, hp⟩
    rw [this]; simp

set_option maxHeartbeats 2000000 in
set_option maxRecDepth 100000 in
theorem indexL_any (u : U) (x : UA) (l : List (List S36)) (A : Option Addr) (c : Nat) (B : Nat) (w : World) (hl : Kd.C (Kd.slice 36 k36) w A l.length l) (hB : w.heap[B]? = some (.cells (uc u x) 28 (0, 0))) (hmax : l.length ≤ 9223372036854775807) (ht0 : 0 ≤ u.t) (ht1 : u.t ≤ 16) :
    Calls Try.prog 51 #[.slice A l.length c, .func (Fn.func 41) #[] #[.pointer (some ⟨B, 0, none⟩)]] w (Ans (.int .i64 (firstL (badB u) l)) w) := by
  obtain ⟨p, hp⟩ : ∃ p : List S36 → Bool, p = badB u := ⟨_, rfl⟩
  have hf : ∀ (s : List S36) (A1 : Option Addr) (c1 : Nat) (W : World), W.heap[B]? = some (.cells (uc u x) 28 (0, 0)) → k36.C W A1 s.length s → Calls Try.prog 41 #[.slice A1 s.length c1, .pointer (some ⟨B, 0, none⟩)] W (Ans (.bool (p s)) W) := by
    intro s A1 c1 W h hk; rw [hp]; exact bad1_any u x s A1 c1 B W hk h (Kd.C_max hk) ht0 ht1
  have h2' := @firstL_none p l
  rw [← hp]
  clear hp
  generalize uc u x = cs at *
  have HF := Lib.hid hf
  have HL := Lib.hid hl
  have HB := Lib.hid hB
  clear hf hl hB ht0 ht1
  obtain ⟨n, hn⟩ : ∃ n, n = l.length := ⟨_, rfl⟩
  rw [← hn] at hmax ⊢
  have HN := Lib.hid hn
  clear hn
  go_enter Try.func51, Try.ntmps51
  go_wp2
  go_loopw [8] (fun i wr => ∃ k : Nat, k ≤ n ∧ i = .int .i64 k ∧ (∀ j, j < k → p (l.getD j []) = false) ∧ Below w.heap.size w wr) (fun i _ => n - (intOf i).toNat)
  case atStart => exact ⟨0, by omega, rfl, fun j hj => by omega, Below.refl _ _⟩
  case round =>
    obtain ⟨k, hk, rfl, hno, hbw⟩ := hrel
    have HNO := Lib.hid hno
    clear hno
    by_cases hlt : k < n
    · have hk0 : (0 : Int) ≤ (k : Int) := by omega
      have hkn : (k : Int) < (n : Int) := by omega
      obtain ⟨ad, A1, c1, hA, e0, e1, e2⟩ := at_L3 (Kd.C_below HL.out hbw) (k : Int) hk0 (by rw [← HN.out]; exact hkn)
      simp only [Int.toNat_natCast] at e0
      have hs : rd_L3 l (k : Int) = l.getD k [] := by unfold rd_L3; rw [Int.toNat_natCast]
      rw [hs] at e0 e1 e2
      clear hs
      subst hA
      have hcall := HF.out (l.getD k []) A1 c1 wr (blk_below HB.out hbw) e2
      have hb1 := @firstL_at p l k (by rw [← HN.out]; exact hlt)
      have HC := Lib.hid hcall
      have HB1 := Lib.hid hb1
      clear hcall hb1
      generalize hps : l.getD k [] = s at *
      have HPS := Lib.hid hps
      clear hps
      cases hpv : p s with
      | true =>
        rw [hpv] at HC HB1
        have HV := Lib.hid (HB1.out rfl HNO.out)
        clear hpv
        go_wp2_with fail
        refine HC.out.mono ?_
        rintro e w1 ⟨rfl, hb⟩
        go_wp2
        go_ret
        refine ⟨?_, below_then hbw hbw.size hb⟩
        rw [HV.out]; rfl
      | false =>
        rw [hpv] at HC
        have HV := Lib.hid hpv
        clear hpv
        go_wp2_with fail
        refine HC.out.mono ?_
        rintro e w1 ⟨rfl, hb⟩
        go_wp2
        go_roundw
        case rel =>
          refine ⟨k + 1, by omega, by go_num, fun j hj => ?_, below_then hbw hbw.size hb⟩
          by_cases e : j = k
          · rw [e, HPS.out, HV.out]
          · exact HNO.out j (by omega)
        case measure => simp [intOf]; omega
    · have hkn : ¬ (k : Int) < (n : Int) := by omega
      have hkk : k = n := by omega
      have hv : firstL p l = -1 := h2' fun j hj => HNO.out j (by rw [hkk, HN.out]; exact hj)
      have HV := Lib.hid hv
      clear hv hkk
      go_wp2
      go_ret
      refine ⟨?_, hbw⟩
      rw [HV.out]; rfl

set_option maxHeartbeats 2000000 in
set_option maxRecDepth 100000 in
theorem containsL_any (u : U) (x : UA) (l : List (List S36)) (A : Option Addr) (c : Nat) (B : Nat) (w : World) (hl : Kd.C (Kd.slice 36 k36) w A l.length l) (hB : w.heap[B]? = some (.cells (uc u x) 28 (0, 0))) (hmax : l.length ≤ 9223372036854775807) (ht0 : 0 ≤ u.t) (ht1 : u.t ≤ 16) :
    Calls Try.prog 40 #[.slice A l.length c, .func (Fn.func 41) #[] #[.pointer (some ⟨B, 0, none⟩)]] w (Ans (.bool (l.any (badB u))) w) := by
  have hi := indexL_any u x l A c B w hl hB hmax ht0 ht1
  rw [← firstL_nonneg]
  generalize firstL (badB u) l = i at *
  have HI := Lib.hid hi
  clear hi hl hB hmax ht0 ht1
  go_enter Try.func40, Try.ntmps40
  go_wp2_with fail
  refine HI.out.mono ?_
  rintro e w1 ⟨rfl, hb⟩
  go_wp2
  go_ret
  exact ⟨rfl, hb⟩

end Go.Proofs.Ytkhgbnnhgdcmoaa.IR
