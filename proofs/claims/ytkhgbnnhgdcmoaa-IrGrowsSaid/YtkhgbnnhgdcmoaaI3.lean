/-
  Walks of layer 11 (ir), part I3: what these functions of the program answer and what becomes of memory, for any values. No conditions beyond those that each theorem names.
-/
import Derived.Test.YtkhgbnnhgdcmoaaI2
namespace Go.Proofs.Ytkhgbnnhgdcmoaa.IR
open Go.RowKit Go.Proofs.YtkhgbnnhgdcmoaaW.PrintWords Go.Proofs.YtkhgbnnhgdcmoaaW.PrintLast Go.Proofs.YtkhgbnnhgdcmoaaW.PrintMore Go.Proofs.Ytkhgbnnhgdcmoaa.QIr

/-- a unit's cells -/
def uc (u : U) (x : UA) : Array Value := #[.int .u64 u.m, .int .i64 u.a, .int .i64 u.t, .int .i64 u.r, .int .i64 u.p, .int .i64 u.n, .slice x.ae u.enter.length x.ce, .slice x.ac u.code.length x.cc, .slice x.at_ u.starts.length x.ct, .slice x.am u.maps.length x.cm]
theorem uv_eq (u : U) (x : UA) : uv u x = .agg (uc u x) := rfl
theorem info28 : (Try.prog.info? 28).map (·.size) = some 10 := by kernel_rfl

set_option maxHeartbeats 1000000 in
set_option maxRecDepth 100000 in
theorem all1_any (u : U) (x : UA) (s : S36) (B : Nat) (w : World) (hB : w.heap[B]? = some (.cells (uc u x) 28 (0, 0))) :
    Calls Try.prog 53 #[sv s, .pointer (some ⟨B, 0, none⟩)] w (Ans (.bool (!sourceB u s)) w) := by
  have hs := fun W => source_any u x s W
  rw [uv_eq] at hs
  generalize sourceB u s = b at *
  have HS := Lib.hid hs
  clear hs
  have hz : (Try.prog.info? 28).map (·.size) = some (uc u x).size := info28
  generalize uc u x = cs at *
  obtain ⟨k, j, q⟩ := s
  change Hid (∀ W, Calls Try.prog 43 #[.agg cs, .agg #[.int .i64 k, .int .i64 j, .int .u64 q]] W _) at HS
  unfold sv
  go_enter Try.func53, Try.ntmps53
  go_wp2_with (first | (refine wpList_load_row rfl 28 _ rfl B rfl 28 cs (0, 0) _ (blk_alloc hB _) Try.underlying28 rfl hz ?_) | (go_at_call 43; refine (HS.out _).mono ?_; rintro e w1 ⟨rfl, hb⟩))
  go_ret
  exact ⟨rfl, below_then (below_box _ _) (by simp) hb⟩

def firstB (p : S36 → Bool) (l : List S36) : Int := match l.findIdx? p with | some i => (i : Int) | none => -1
theorem firstB_at {p : S36 → Bool} {l : List S36} {k : Nat} (hk : k < l.length) (hp : p (l.getD k z36) = true) (hn : ∀ j, j < k → p (l.getD j z36) = false) : firstB p l = k := by
  unfold firstB
  have : l.findIdx? p = some k := by
    rw [List.findIdx?_eq_some_iff_getElem]
    refine ⟨hk, ?_, ?_⟩
    · rw [List.getD_eq_getElem?_getD, List.getElem?_eq_getElem hk] at hp; simpa using hp
    · intro j hj
      have := hn j hj
      rw [List.getD_eq_getElem?_getD, List.getElem?_eq_getElem (by omega)] at this
      simpa using this
  rw [this]
theorem firstB_none {p : S36 → Bool} {l : List S36} (hn : ∀ j, j < l.length → p (l.getD j z36) = false) : firstB p l = -1 := by
  unfold firstB
  have : l.findIdx? p = none := by
    rw [List.findIdx?_eq_none_iff]
    intro s hs
    obtain ⟨j, hj, rfl⟩ := List.getElem_of_mem hs
    have := hn j hj
    rw [List.getD_eq_getElem?_getD, List.getElem?_eq_getElem hj] at this
    simpa using this
  rw [this]
theorem firstB_nonneg (p : S36 → Bool) (l : List S36) : decide (0 ≤ firstB p l) = l.any p := by
  unfold firstB
  cases h : l.findIdx? p with
  | none =>
    rw [List.findIdx?_eq_none_iff] at h
    have : l.any p = false := by rw [List.any_eq_false]; intro s hs; rw [h s hs]; decide
    rw [this]; rfl
  | some i =>
    obtain ⟨hi, hp, _⟩ := List.findIdx?_eq_some_iff_getElem.1 h
    have : l.any p = true := by rw [List.any_eq_true]; exact ⟨_, List.getElem_mem hi, hp⟩
    rw [this]; simp

set_option maxHeartbeats 2000000 in
set_option maxRecDepth 100000 in
theorem index_any (u : U) (x : UA) (l : List S36) (A : Option Addr) (c : Nat) (B : Nat) (w : World) (hl : Kd.C k36 w A l.length l) (hB : w.heap[B]? = some (.cells (uc u x) 28 (0, 0))) (hmax : l.length ≤ 9223372036854775807) :
    Calls Try.prog 49 #[.slice A l.length c, .func (Fn.func 53) #[] #[.pointer (some ⟨B, 0, none⟩)]] w (Ans (.int .i64 (firstB (fun s => !sourceB u s) l)) w) := by
  obtain ⟨p, hp⟩ : ∃ p : S36 → Bool, p = fun s => !sourceB u s := ⟨_, rfl⟩
  have hf : ∀ (s : S36) (W : World), W.heap[B]? = some (.cells (uc u x) 28 (0, 0)) → Calls Try.prog 53 #[.agg #[.int .i64 s.f0, .int .i64 s.f1, .int .u64 s.f2], .pointer (some ⟨B, 0, none⟩)] W (Ans (.bool (p s)) W) := by
    intro s W h; rw [hp]; exact all1_any u x s B W h
  have h2' := @firstB_none p l
  rw [← hp]
  clear hp
  generalize uc u x = cs at *
  have HF := Lib.hid hf
  have HL := Lib.hid hl
  have HB := Lib.hid hB
  clear hf hl hB
  obtain ⟨n, hn⟩ : ∃ n, n = l.length := ⟨_, rfl⟩
  rw [← hn] at hmax ⊢
  have HN := Lib.hid hn
  clear hn
  go_enter Try.func49, Try.ntmps49
  go_wp2
  go_loopw [8] (fun i wr => ∃ k : Nat, k ≤ n ∧ i = .int .i64 k ∧ (∀ j, j < k → p (l.getD j z36) = false) ∧ Below w.heap.size w wr) (fun i _ => n - (intOf i).toNat)
  case atStart => exact ⟨0, by omega, rfl, fun j hj => by omega, Below.refl _ _⟩
  case round =>
    obtain ⟨k, hk, rfl, hno, hbw⟩ := hrel
    have HNO := Lib.hid hno
    clear hno
    by_cases hlt : k < n
    · have hk0 : (0 : Int) ≤ (k : Int) := by omega
      have hkn : (k : Int) < (n : Int) := by omega
      obtain ⟨ad, hA, c0, c1, c2⟩ := at_T36 (Kd.C_below HL.out hbw) (k : Int) hk0 (by rw [← HN.out]; exact hkn)
      simp only [Int.toNat_natCast] at c0 c1 c2
      have hs : rd_T36 l (k : Int) = l.getD k z36 := by unfold rd_T36; rw [Int.toNat_natCast]
      rw [hs] at c0 c1 c2
      clear hs
      subst hA
      have hcall := HF.out (l.getD k z36) wr (blk_below HB.out hbw)
      have hb1 := @firstB_at p l k (by rw [← HN.out]; exact hlt)
      have HC := Lib.hid hcall
      have HB1 := Lib.hid hb1
      clear hcall hb1
      generalize hps : l.getD k z36 = s at *
      have HPS := Lib.hid hps
      clear hps
      cases hpv : p s with
      | true =>
        rw [hpv] at HC HB1
        have HV := Lib.hid (HB1.out rfl HNO.out)
        clear hpv
        go_wp2_with fail
        refine HC.out.mono ?_
        rintro e w1 ⟨rfl, hb⟩
        go_wp2
        go_ret
        refine ⟨?_, below_then hbw hbw.size hb⟩
        rw [HV.out]; rfl
      | false =>
        rw [hpv] at HC
        have HV := Lib.hid hpv
        clear hpv
        go_wp2_with fail
        refine HC.out.mono ?_
        rintro e w1 ⟨rfl, hb⟩
        go_wp2
        go_roundw
        case rel =>
          refine ⟨k + 1, by omega, by go_num, fun j hj => ?_, below_then hbw hbw.size hb⟩
          by_cases e : j = k
          · rw [e, HPS.out, HV.out]
          · exact HNO.out j (by omega)
        case measure => simp [intOf]; omega
    · have hkn : ¬ (k : Int) < (n : Int) := by omega
      have hkk : k = n := by omega
      have hv : firstB p l = -1 := h2' fun j hj => HNO.out j (by rw [hkk, HN.out]; exact hj)
      have HV := Lib.hid hv
      clear hv hkk
      go_wp2
      go_ret
      refine ⟨?_, hbw⟩
      rw [HV.out]; rfl

set_option maxHeartbeats 2000000 in
set_option maxRecDepth 100000 in
theorem contains_any (u : U) (x : UA) (l : List S36) (A : Option Addr) (c : Nat) (B : Nat) (w : World) (hl : Kd.C k36 w A l.length l) (hB : w.heap[B]? = some (.cells (uc u x) 28 (0, 0))) (hmax : l.length ≤ 9223372036854775807) :
    Calls Try.prog 52 #[.slice A l.length c, .func (Fn.func 53) #[] #[.pointer (some ⟨B, 0, none⟩)]] w (Ans (.bool (l.any fun s => !sourceB u s)) w) := by
  have hi := index_any u x l A c B w hl hB hmax
  rw [← firstB_nonneg]
  generalize firstB (fun s => !sourceB u s) l = i at *
  have HI := Lib.hid hi
  clear hi hl hB hmax
  go_enter Try.func52, Try.ntmps52
  go_wp2_with fail
  refine HI.out.mono ?_
  rintro e w1 ⟨rfl, hb⟩
  go_wp2
  go_ret
  exact ⟨rfl, hb⟩

/-- may all sources be? -/
def allB (u : U) (l : List S36) : Bool := l.all (sourceB u)
theorem allB_any (u : U) (l : List S36) : (!(l.any fun s => !sourceB u s)) = allB u l := by
  unfold allB
  rw [List.not_any_eq_all_not]
  simp

set_option maxHeartbeats 2000000 in
set_option maxRecDepth 100000 in
theorem all_any (u : U) (x : UA) (l : List S36) (A : Option Addr) (c : Nat) (w : World) (hl : Kd.C k36 w A l.length l) (hmax : l.length ≤ 9223372036854775807) :
    Calls Try.prog 42 #[uv u x, .slice A l.length c] w (Ans (.bool (allB u l)) w) := by
  have hi := contains_any u x l A c w.heap.size (w.alloc (.cells (uc u x) 28 (0, 0))) (Kd.C_below hl (below_box w _)) (blk_new w _) hmax
  rw [← allB_any]
  generalize (l.any fun s => !sourceB u s) = b at *
  generalize l.length = n at *
  have HI := Lib.hid hi
  clear hi hl hmax
  unfold uv
  go_enter Try.func42, Try.ntmps42
  go_wp2_with fail
  refine HI.out.mono ?_
  rintro e w1 ⟨rfl, hb⟩
  go_wp2
  go_ret
  exact ⟨rfl, below_then (below_box _ _) (by simp) hb⟩
end Go.Proofs.Ytkhgbnnhgdcmoaa.IR
