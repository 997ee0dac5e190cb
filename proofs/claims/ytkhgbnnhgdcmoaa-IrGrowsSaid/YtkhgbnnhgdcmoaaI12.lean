/-
  Walks of layer 11 (ir), part I12: what these functions of the program answer and what becomes of memory, for any values. No conditions beyond those that each theorem names.
-/
import Derived.Test.YtkhgbnnhgdcmoaaI11
namespace Go.Proofs.Ytkhgbnnhgdcmoaa.IR
open Go.RowKit Go.Proofs.YtkhgbnnhgdcmoaaW.PrintWords Go.Proofs.YtkhgbnnhgdcmoaaW.PrintLast Go.Proofs.YtkhgbnnhgdcmoaaW.PrintMore Go.Proofs.Ytkhgbnnhgdcmoaa.QIr

def m_ (l : List (List S36)) (k : Nat) : List S36 := l.getD k []
theorem m_mem {l : List (List S36)} {k : Nat} (h : k < l.length) : m_ l k ∈ l := by
  unfold m_
  rw [List.getD_eq_getElem?_getD, List.getElem?_eq_getElem h]
  exact List.getElem_mem h
/-- an instruction's cells in a row -/
theorem ins_cell {w : World} {l : List S39} {A : Option Addr} (hl : Kd.C k39 w A l.length l) (hn : 0 < l.length) :
    ∃ b o : Nat, A = some ⟨b, o, none⟩ ∧ b < w.heap.size ∧ ∀ k, k < l.length → ∃ A5 c5, w.cell? ⟨b, o + k * 7, none⟩ = some (.int .i64 (i_ l k).f0) ∧ w.cell? ⟨b, o + k * 7 + 1, none⟩ = some (.int .i64 (i_ l k).f1) ∧ w.cell? ⟨b, o + k * 7 + 2, none⟩ = some (.int .i64 (i_ l k).f2.f0) ∧ w.cell? ⟨b, o + k * 7 + 3, none⟩ = some (.int .i64 (i_ l k).f2.f1) ∧ w.cell? ⟨b, o + k * 7 + 4, none⟩ = some (.int .u64 (i_ l k).f2.f2) ∧ w.cell? ⟨b, o + k * 7 + 5, none⟩ = some (.slice A5 (i_ l k).f3.length c5) ∧ w.cell? ⟨b, o + k * 7 + 6, none⟩ = some (.int .u64 (i_ l k).f4) ∧ (i_ l k).f3.length ≤ c5 ∧ k36.C w A5 (i_ l k).f3.length (i_ l k).f3 := by
  obtain ⟨ad, A5, c5, hA, h0, _⟩ := at_T39 hl (0 : Int) (by omega) (by omega)
  have h00 : w.cell? ad = some (.int .i64 (rd_T39 l 0).f0) := h0
  have hs := spot_none h00
  refine ⟨ad.block, ad.off, by rw [← hs]; exact hA, World.block_lt_of_cell? _ _ h00, fun k hk => ?_⟩
  obtain ⟨ad2, A5, c5, hA2, e0, e1, e2, e3, e4, e5, e6, l5, g5⟩ := at_T39 hl (k : Int) (by omega) (by omega)
  obtain rfl : ad = ad2 := by rw [hA] at hA2; exact Option.some.inj hA2
  have hrd : rd_T39 l (k : Int) = i_ l k := by unfold rd_T39 i_; rw [Int.toNat_natCast]
  rw [hrd] at e0 e1 e2 e3 e4 e5 e6 l5 g5
  rw [Int.toNat_natCast] at e0 e1 e2 e3 e4 e5 e6
  by_cases hz : k = 0
  · subst hz
    rw [Nat.zero_mul] at e0 e1 e2 e3 e4 e5 e6
    rw [Nat.zero_mul, Nat.add_zero, ← hs]
    exact ⟨A5, c5, e0, e1, e2, e3, e4, e5, e6, l5, g5⟩
  · have ha : ad.add (k * 7) = ⟨ad.block, ad.off + k * 7, none⟩ := by rw [Addr.add, if_neg (by omega)]
    rw [ha] at e0 e1 e2 e3 e4 e5 e6
    exact ⟨A5, c5, e0, e1, e2, e3, e4, e5, e6, l5, g5⟩
theorem map_cell {w : World} {l : List (List S36)} {A : Option Addr} (hl : Kd.C (Kd.slice 36 k36) w A l.length l) (hn : 0 < l.length) :
    ∃ b o : Nat, A = some ⟨b, o, none⟩ ∧ b < w.heap.size ∧ ∀ k, k < l.length → ∃ A0 c0, w.cell? ⟨b, o + k, none⟩ = some (.slice A0 (m_ l k).length c0) ∧ k36.C w A0 (m_ l k).length (m_ l k) := by
  obtain ⟨ad, A0, c0, hA, h0, _⟩ := at_L3 hl (0 : Int) (by omega) (by omega)
  have h00 : w.cell? ad = some (.slice A0 (rd_L3 l 0).length c0) := h0
  have hs := spot_none h00
  refine ⟨ad.block, ad.off, by rw [← hs]; exact hA, World.block_lt_of_cell? _ _ h00, fun k hk => ?_⟩
  obtain ⟨ad2, A0, c0, hA2, e0, l0, g0⟩ := at_L3 hl (k : Int) (by omega) (by omega)
  obtain rfl : ad = ad2 := by rw [hA] at hA2; exact Option.some.inj hA2
  have hrd : rd_L3 l (k : Int) = m_ l k := by unfold rd_L3 m_; rw [Int.toNat_natCast]
  rw [hrd] at e0 g0
  rw [Int.toNat_natCast] at e0
  by_cases hz : k = 0
  · subst hz
    rw [Nat.add_zero, ← hs]
    exact ⟨A0, c0, e0, g0⟩
  · have ha : ad.add k = ⟨ad.block, ad.off + k, none⟩ := by rw [Addr.add, if_neg hz]
    rw [ha] at e0
    exact ⟨A0, c0, e0, g0⟩

def MapsOk (u : U) (k : Nat) : Prop := ∀ j, j < k → badB u (m_ u.maps j) = false
theorem shaped_iff (u : U) : shapedB u = true ↔ numsB u = true ∧ startsB u = true ∧ MapsOk u u.maps.length := by
  unfold shapedB
  rw [Bool.and_eq_true, Bool.and_eq_true, Bool.not_eq_true', List.any_eq_false]
  constructor
  · rintro ⟨h1, h2, h3⟩
    exact ⟨h1, h2, fun j hj => by have := h3 _ (m_mem hj); simpa using this⟩
  · rintro ⟨h1, h2, h3⟩
    refine ⟨h1, h2, fun l hl => ?_⟩
    obtain ⟨j, hj, rfl⟩ := List.getElem_of_mem hl
    have := h3 j hj
    unfold m_ at this
    rw [List.getD_eq_getElem?_getD, List.getElem?_eq_getElem hj] at this
    simpa using this
theorem bad_no {u : U} {l : List S36} (h1 : l.length = 0 ∨ u.t ≤ l.length ∧ (l.length : Int) ≤ u.t + 16) (h2 : allB u l = true) : badB u l = false := by
  unfold badB
  rw [h2]
  rcases h1 with h | ⟨h, h'⟩
  · simp [h]
  · simp; omega
theorem bad_len {u : U} {l : List S36} (h1 : ¬ l.length = 0) (h2 : ¬ (u.t ≤ l.length ∧ (l.length : Int) ≤ u.t + 16)) : badB u l = true := by
  unfold badB
  simp only [Bool.or_eq_true, Bool.and_eq_true, decide_eq_true_eq]
  omega
theorem bad_all {u : U} {l : List S36} (h2 : allB u l = false) : badB u l = true := by
  unfold badB
  rw [h2]; simp

set_option maxHeartbeats 8000000 in
set_option maxRecDepth 100000 in
theorem rcheck_any (u : U) (x : UA) (w : World) (h : UIn u x w) : Calls Try.prog 11 #[uv u x] w (Ans (.int .i64 (checkN u)) w) := by
  have hbx := below_box w (.cells (uc u x) 28)
  have hnew := blk_new w (.cells (uc u x) 28)
  have hin := h.below hbx
  have hst := fun W (hb : Below (w.alloc (.cells (uc u x) 28)).heap.size (w.alloc (.cells (uc u x) 28)) W) => rstarts_any u x W (Kd.C_below hin.hs hb) (Kd.C_max hin.hm) (Kd.C_max hin.hc)
  have hins := fun i A c W => rinst_any u x i A c W
  have hsr := fun s W => rsource_any u x s W
  have hwi := within_any
  have hn1 : numsB u = false → checkN u = 1 := fun hf => checkN_no fun hk => by have := (shaped_iff u).1 hk.1; rw [hf] at this; cases this.1
  have hn2 : startsB u = false → checkN u = 1 := fun hf => checkN_no fun hk => by have := (shaped_iff u).1 hk.1; rw [hf] at this; cases this.2.1
  have hn3 : ∀ k, k < u.maps.length → badB u (m_ u.maps k) = true → checkN u = 1 := fun k hk hf => checkN_no fun hh => by have := ((shaped_iff u).1 hh.1).2.2 k hk; rw [hf] at this; cases this
  have hn4 : ∀ k, k < u.enter.length → ¬ ((i_ u.enter k).f0 = 1 ∧ oneB u (i_ u.enter k) = true) → checkN u = 1 := fun k hk hs => checkN_no fun hh => hs (hh.2.1 k hk)
  have hn5 : ∀ k, k < u.code.length → oneB u (i_ u.code k) = false → checkN u = 1 := fun k hk hf => checkN_no fun hh => by have := (hh.2.2 k hk).1; rw [hf] at this; cases this
  have hn6 : ∀ k, k < u.code.length → ∀ j, j < k → twice (i_ u.code k) (i_ u.code j) → checkN u = 1 := fun k hk j hj ht => checkN_no fun hh => (hh.2.2 k hk).2 j hj ht
  have hyes : numsB u = true → startsB u = true → MapsOk u u.maps.length → EnterOk u u.enter.length → CodeOk u u.code.length → checkN u = 0 := fun h1 h2 h3 h4 h5 => checkN_ok ⟨(shaped_iff u).2 ⟨h1, h2, h3⟩, h4, h5⟩
  have hmc := fun hn => map_cell hin.hm hn
  have hec := fun hn => ins_cell hin.he hn
  have hcc := fun hn => ins_cell hin.hc hn
  have hm1 := Kd.C_max hin.hm
  have hm2 := Kd.C_max hin.he
  have hm3 := Kd.C_max hin.hc
  have hbe := hin.be
  have hbc := hin.bc
  generalize hcn : checkN u = CN at *
  unfold uv uc at *
  obtain ⟨m, a, t, r, p, n, enter, code, starts, maps⟩ := u
  obtain ⟨ae, ce, ac, cc, ast, ct, am, cm⟩ := x
  simp only at *
  have HST := Lib.hid hst
  have HINS := Lib.hid hins
  have HSR := Lib.hid hsr
  have HWI := Lib.hid hwi
  have HN1 := Lib.hid hn1
  have HN2 := Lib.hid hn2
  have HN3 := Lib.hid hn3
  have HN4 := Lib.hid hn4
  have HN5 := Lib.hid hn5
  have HN6 := Lib.hid hn6
  have HYES := Lib.hid hyes
  have HMC := Lib.hid hmc
  have HEC := Lib.hid hec
  have HCC := Lib.hid hcc
  have HBE := Lib.hid hbe
  have HBC := Lib.hid hbc
  have HNEW := Lib.hid hnew
  have HBX := Lib.hid hbx
  clear hst hins hsr hn1 hn2 hn3 hn4 hn5 hn6 hyes hmc hec hcc hbe hbc hnew hbx hcn hin h hwi
  go_enter Try.func11, Try.ntmps11
  go_upto_region 1 with fail
  refine abs_world fun W0 hW0 => ?_
  rw [← hW0] at HST HMC HEC HCC HNEW HBX
  have hblk : ∀ o, W0.cell? ⟨w.heap.size, o, none⟩ = #[Value.int .u64 m, .int .i64 a, .int .i64 t, .int .i64 r, .int .i64 p, .int .i64 n, .slice ae enter.length ce, .slice ac code.length cc, .slice ast starts.length ct, .slice am maps.length cm][o]? := fun o => by simp [World.cell?, HNEW.out]
  have hbs : w.heap.size < W0.heap.size := by rw [hW0]; simp
  clear hW0
  have hp := Past.start W0
  by_cases g0 : 0 ≤ a
  case neg =>
    go_wp2_with (first | (go_at_call 27; (with_reducible refine (HWI.out _ _ _ _).mono ?_); rintro e w5 ⟨rfl, hb5⟩; replace hp := Past.below hb5 hp; have hc5 := hp.cc; have hf5 := hp.ff) | (go_at_call 28; (with_reducible refine (HST.out _ hp.bel).mono ?_); rintro e w6 ⟨rfl, hb6⟩; replace hp := Past.below hb6 hp; have hc6 := hp.cc; have hf6 := hp.ff))
    go_ret
    refine ⟨?_, below_then HBX.out (Nat.le_of_lt hbs) hp.bel⟩
    rw [show CN = 1 from HN1.out (by unfold numsB; simp [*] <;> omega)]; rfl
  by_cases g1 : a ≤ 4
  case neg =>
    go_wp2_with (first | (go_at_call 27; (with_reducible refine (HWI.out _ _ _ _).mono ?_); rintro e w5 ⟨rfl, hb5⟩; replace hp := Past.below hb5 hp; have hc5 := hp.cc; have hf5 := hp.ff) | (go_at_call 28; (with_reducible refine (HST.out _ hp.bel).mono ?_); rintro e w6 ⟨rfl, hb6⟩; replace hp := Past.below hb6 hp; have hc6 := hp.cc; have hf6 := hp.ff))
    go_ret
    refine ⟨?_, below_then HBX.out (Nat.le_of_lt hbs) hp.bel⟩
    rw [show CN = 1 from HN1.out (by unfold numsB; simp [*] <;> omega)]; rfl
  by_cases g2 : a ≤ t
  case neg =>
    go_wp2_with (first | (go_at_call 27; (with_reducible refine (HWI.out _ _ _ _).mono ?_); rintro e w5 ⟨rfl, hb5⟩; replace hp := Past.below hb5 hp; have hc5 := hp.cc; have hf5 := hp.ff) | (go_at_call 28; (with_reducible refine (HST.out _ hp.bel).mono ?_); rintro e w6 ⟨rfl, hb6⟩; replace hp := Past.below hb6 hp; have hc6 := hp.cc; have hf6 := hp.ff))
    go_ret
    refine ⟨?_, below_then HBX.out (Nat.le_of_lt hbs) hp.bel⟩
    rw [show CN = 1 from HN1.out (by unfold numsB; simp [*] <;> omega)]; rfl
  by_cases g3 : t ≤ 16
  case neg =>
    go_wp2_with (first | (go_at_call 27; (with_reducible refine (HWI.out _ _ _ _).mono ?_); rintro e w5 ⟨rfl, hb5⟩; replace hp := Past.below hb5 hp; have hc5 := hp.cc; have hf5 := hp.ff) | (go_at_call 28; (with_reducible refine (HST.out _ hp.bel).mono ?_); rintro e w6 ⟨rfl, hb6⟩; replace hp := Past.below hb6 hp; have hc6 := hp.cc; have hf6 := hp.ff))
    go_ret
    refine ⟨?_, below_then HBX.out (Nat.le_of_lt hbs) hp.bel⟩
    rw [show CN = 1 from HN1.out (by unfold numsB; simp [*] <;> omega)]; rfl
  by_cases g4 : 0 ≤ r
  case neg =>
    go_wp2_with (first | (go_at_call 27; (with_reducible refine (HWI.out _ _ _ _).mono ?_); rintro e w5 ⟨rfl, hb5⟩; replace hp := Past.below hb5 hp; have hc5 := hp.cc; have hf5 := hp.ff) | (go_at_call 28; (with_reducible refine (HST.out _ hp.bel).mono ?_); rintro e w6 ⟨rfl, hb6⟩; replace hp := Past.below hb6 hp; have hc6 := hp.cc; have hf6 := hp.ff))
    go_ret
    refine ⟨?_, below_then HBX.out (Nat.le_of_lt hbs) hp.bel⟩
    rw [show CN = 1 from HN1.out (by unfold numsB; simp [*] <;> omega)]; rfl
  by_cases g5 : r ≤ 4096
  case neg =>
    go_wp2_with (first | (go_at_call 27; (with_reducible refine (HWI.out _ _ _ _).mono ?_); rintro e w5 ⟨rfl, hb5⟩; replace hp := Past.below hb5 hp; have hc5 := hp.cc; have hf5 := hp.ff) | (go_at_call 28; (with_reducible refine (HST.out _ hp.bel).mono ?_); rintro e w6 ⟨rfl, hb6⟩; replace hp := Past.below hb6 hp; have hc6 := hp.cc; have hf6 := hp.ff))
    go_ret
    refine ⟨?_, below_then HBX.out (Nat.le_of_lt hbs) hp.bel⟩
    rw [show CN = 1 from HN1.out (by unfold numsB; simp [*] <;> omega)]; rfl
  by_cases g6 : 0 ≤ p
  case neg =>
    go_wp2_with (first | (go_at_call 27; (with_reducible refine (HWI.out _ _ _ _).mono ?_); rintro e w5 ⟨rfl, hb5⟩; replace hp := Past.below hb5 hp; have hc5 := hp.cc; have hf5 := hp.ff) | (go_at_call 28; (with_reducible refine (HST.out _ hp.bel).mono ?_); rintro e w6 ⟨rfl, hb6⟩; replace hp := Past.below hb6 hp; have hc6 := hp.cc; have hf6 := hp.ff))
    go_ret
    refine ⟨?_, below_then HBX.out (Nat.le_of_lt hbs) hp.bel⟩
    rw [show CN = 1 from HN1.out (by unfold numsB; simp [*] <;> omega)]; rfl
  by_cases g7 : p ≤ 4096
  case neg =>
    go_wp2_with (first | (go_at_call 27; (with_reducible refine (HWI.out _ _ _ _).mono ?_); rintro e w5 ⟨rfl, hb5⟩; replace hp := Past.below hb5 hp; have hc5 := hp.cc; have hf5 := hp.ff) | (go_at_call 28; (with_reducible refine (HST.out _ hp.bel).mono ?_); rintro e w6 ⟨rfl, hb6⟩; replace hp := Past.below hb6 hp; have hc6 := hp.cc; have hf6 := hp.ff))
    go_ret
    refine ⟨?_, below_then HBX.out (Nat.le_of_lt hbs) hp.bel⟩
    rw [show CN = 1 from HN1.out (by unfold numsB; simp [*] <;> omega)]; rfl
  by_cases g8 : 0 ≤ n
  case neg =>
    go_wp2_with (first | (go_at_call 27; (with_reducible refine (HWI.out _ _ _ _).mono ?_); rintro e w5 ⟨rfl, hb5⟩; replace hp := Past.below hb5 hp; have hc5 := hp.cc; have hf5 := hp.ff) | (go_at_call 28; (with_reducible refine (HST.out _ hp.bel).mono ?_); rintro e w6 ⟨rfl, hb6⟩; replace hp := Past.below hb6 hp; have hc6 := hp.cc; have hf6 := hp.ff))
    go_ret
    refine ⟨?_, below_then HBX.out (Nat.le_of_lt hbs) hp.bel⟩
    rw [show CN = 1 from HN1.out (by unfold numsB; simp [*] <;> omega)]; rfl
  by_cases g9 : n ≤ 128
  case neg =>
    go_wp2_with (first | (go_at_call 27; (with_reducible refine (HWI.out _ _ _ _).mono ?_); rintro e w5 ⟨rfl, hb5⟩; replace hp := Past.below hb5 hp; have hc5 := hp.cc; have hf5 := hp.ff) | (go_at_call 28; (with_reducible refine (HST.out _ hp.bel).mono ?_); rintro e w6 ⟨rfl, hb6⟩; replace hp := Past.below hb6 hp; have hc6 := hp.cc; have hf6 := hp.ff))
    go_ret
    refine ⟨?_, below_then HBX.out (Nat.le_of_lt hbs) hp.bel⟩
    rw [show CN = 1 from HN1.out (by unfold numsB; simp [*] <;> omega)]; rfl
  by_cases g10 : m = 0
  case pos =>
    go_wp2_with (first | (go_at_call 27; (with_reducible refine (HWI.out _ _ _ _).mono ?_); rintro e w5 ⟨rfl, hb5⟩; replace hp := Past.below hb5 hp; have hc5 := hp.cc; have hf5 := hp.ff) | (go_at_call 28; (with_reducible refine (HST.out _ hp.bel).mono ?_); rintro e w6 ⟨rfl, hb6⟩; replace hp := Past.below hb6 hp; have hc6 := hp.cc; have hf6 := hp.ff))
    go_ret
    refine ⟨?_, below_then HBX.out (Nat.le_of_lt hbs) hp.bel⟩
    rw [show CN = 1 from HN1.out (by unfold numsB; simp [*])]; rfl
  have hnum : numsB ⟨m, a, t, r, p, n, enter, code, starts, maps⟩ = true := by unfold numsB; simp; omega
  have HNUM := Lib.hid hnum
  clear hnum
  generalize hsb : startsB ⟨m, a, t, r, p, n, enter, code, starts, maps⟩ = SB at *
  have HSB := Lib.hid hsb
  clear hsb
  cases SB with
  | false =>
    go_wp2_with (first | (go_at_call 27; (with_reducible refine (HWI.out _ _ _ _).mono ?_); rintro e w5 ⟨rfl, hb5⟩; replace hp := Past.below hb5 hp; have hc5 := hp.cc; have hf5 := hp.ff) | (go_at_call 28; (with_reducible refine (HST.out _ hp.bel).mono ?_); rintro e w6 ⟨rfl, hb6⟩; replace hp := Past.below hb6 hp; have hc6 := hp.cc; have hf6 := hp.ff))
    go_ret
    refine ⟨?_, below_then HBX.out (Nat.le_of_lt hbs) hp.bel⟩
    rw [show CN = 1 from HN2.out (by trivial)]; rfl
  | true =>
    have hml0 : (0 : Int) ≤ (maps.length : Int) := by omega
    go_upto_block 0 with (first | (go_at_call 27; (with_reducible refine (HWI.out _ _ _ _).mono ?_); rintro e w5 ⟨rfl, hb5⟩; replace hp := Past.below hb5 hp; have hc5 := hp.cc; have hf5 := hp.ff) | (go_at_call 28; (with_reducible refine (HST.out _ hp.bel).mono ?_); rintro e w6 ⟨rfl, hb6⟩; replace hp := Past.below hb6 hp; have hc6 := hp.cc; have hf6 := hp.ff))
    go_wp2_with fail
    go_loopw [3] (fun i wr => ∃ k : Nat, k ≤ maps.length ∧ i = .int .i64 k ∧ MapsOk ⟨m, a, t, r, p, n, enter, code, starts, maps⟩ k ∧ Past W0 wr) (fun i _ => maps.length - (intOf i).toNat)
    case atStart => exact ⟨0, by omega, rfl, fun j hj => by omega, hp⟩
    case round =>
      obtain ⟨k, hk, rfl, hok, hpr⟩ := hrel
      have HOK := Lib.hid hok
      clear hok
      replace hp := hpr
      clear hpr
      have hcr := hp.cc
      have hfr := hp.ff
      have hrl := hp.bel.size
      have hbs2 : w.heap.size < wr.heap.size := by omega
      have hk0 : (0 : Int) ≤ (k : Int) := by omega
      by_cases hlk : k < maps.length
      · obtain ⟨b, o, rfl, hbw, hcells⟩ := HMC.out (by omega)
        have hbw0 : b < wr.heap.size := by omega
        obtain ⟨A0, c0, e0, g0⟩ := hcells k hlk
        have hk1 : (k : Int) < (maps.length : Int) := by omega
        have hn3 := HN3.out k hlk
        have hlm := Kd.C_max g0
        have hsc := fun hn => src_cell g0 hn
        have hcast : (m_ maps k).length = (m_ maps k).length := rfl
        have hbl := @bad_len ⟨m, a, t, r, p, n, enter, code, starts, maps⟩ (m_ maps k)
        have hbn := @bad_no ⟨m, a, t, r, p, n, enter, code, starts, maps⟩ (m_ maps k)
        have hba := @bad_all ⟨m, a, t, r, p, n, enter, code, starts, maps⟩ (m_ maps k)
        have hao := @allB_of ⟨m, a, t, r, p, n, enter, code, starts, maps⟩ (m_ maps k)
        have han := allB_no ⟨m, a, t, r, p, n, enter, code, starts, maps⟩ (m_ maps k)
        have hnext : badB ⟨m, a, t, r, p, n, enter, code, starts, maps⟩ (m_ maps k) = false → MapsOk ⟨m, a, t, r, p, n, enter, code, starts, maps⟩ (k + 1) := fun hb j hj => by
          by_cases e : j = k
          · rw [e]; exact hb
          · exact HOK.out j (by omega)
        generalize m_ maps k = lm at *
        have HN3K := Lib.hid hn3
        have HSC := Lib.hid hsc
        have HBL := Lib.hid hbl
        have HBN := Lib.hid hbn
        have HBA := Lib.hid hba
        have HAO := Lib.hid hao
        have HAN := Lib.hid han
        have HNX := Lib.hid hnext
        clear hn3 hsc hbl hbn hba hao han hnext hcells g0 hcast
        have hlm0 : (0 : Int) ≤ (lm.length : Int) := by omega
        have hwi2 := fun W => HWI.out (lm.length : Int) t (t + 16) W
        generalize hWB : (decide (t ≤ (lm.length : Int)) && decide ((lm.length : Int) ≤ t + 16)) = WB at hwi2
        have HWI2 := Lib.hid hwi2
        have HWB := Lib.hid hWB
        clear hwi2 hWB
        by_cases l1 : (0 : Int) < (lm.length : Int)
        · cases WB with
          | false =>
            go_wp2_with (go_at_call 27; (with_reducible refine (HWI2.out _).mono ?_); rintro e w5 ⟨rfl, hb5⟩; replace hp := Past.below hb5 hp; have hc5 := hp.cc; have hf5 := hp.ff)
            go_ret
            refine ⟨?_, below_then HBX.out (Nat.le_of_lt hbs) hp.bel⟩
            rw [show CN = 1 from HN3K.out (HBL.out (by omega) (by have := HWB.out; simp at this; omega))]; rfl

          | true =>
            have hlen : lm.length = 0 ∨ t ≤ (lm.length : Int) ∧ (lm.length : Int) ≤ t + 16 := by have := HWB.out; simp at this; omega
            have HLEN := Lib.hid hlen
            clear hlen
            go_upto_block 2 with (go_at_call 27; (with_reducible refine (HWI2.out _).mono ?_); rintro e w5 ⟨rfl, hb5⟩; replace hp := Past.below hb5 hp; have hc5 := hp.cc; have hf5 := hp.ff)
            go_wp2_with fail
            go_loopw [5] (fun i wr => ∃ q : Nat, q ≤ lm.length ∧ i = .int .i64 q ∧ (∀ j, j < q → sourceB ⟨m, a, t, r, p, n, enter, code, starts, maps⟩ (s_ lm j) = true) ∧ Past W0 wr) (fun i _ => lm.length - (intOf i).toNat)
            case atStart => exact ⟨0, by omega, rfl, fun j hj => by omega, hp⟩
            case round =>
              obtain ⟨q, hq, rfl, hokq, hpr⟩ := hrel
              have HOKQ := Lib.hid hokq
              clear hokq
              replace hp := hpr
              clear hpr
              have hcq := hp.cc
              have hfq := hp.ff
              have hrlq := hp.bel.size
              have hbs3 : w.heap.size < wr.heap.size := by omega
              have hb0 : b < wr.heap.size := by omega
              have hq0 : (0 : Int) ≤ (q : Int) := by omega
              by_cases hlq : q < lm.length
              · obtain ⟨sb, so, rfl, hsbw, hscells⟩ := HSC.out (by omega)
                have hsb0 : sb < wr.heap.size := by omega
                obtain ⟨s0, s1, s2⟩ := hscells q hlq
                have hq1 : (q : Int) < (lm.length : Int) := by omega
                have hanq := HAN.out q hlq
                have hsrq := HSR.out (s_ lm q)
                have hokq2 : sourceB ⟨m, a, t, r, p, n, enter, code, starts, maps⟩ (s_ lm q) = true → ∀ j, j < q + 1 → sourceB ⟨m, a, t, r, p, n, enter, code, starts, maps⟩ (s_ lm j) = true := fun hs j hj => by
                  by_cases e : j = q
                  · rw [e]; exact hs
                  · exact HOKQ.out j (by omega)
                generalize sourceB ⟨m, a, t, r, p, n, enter, code, starts, maps⟩ (s_ lm q) = B at *
                generalize s_ lm q = sk at *
                have HANQ := Lib.hid hanq
                have HOKQ2 := Lib.hid hokq2
                clear hanq hokq2 hscells
                obtain ⟨k0, k1, k2⟩ := sk
                unfold sv at hsrq
                simp only at *
                have HSRQ := Lib.hid hsrq
                clear hsrq
                go_upto_region 12 with fail
                refine wp_region_held_drew (S := Past wr) (by kernel_rfl) ?_ (fun hHeld => ?_)
                focus ((try dsimp only); (first | exact Past.below (by assumption) (by assumption) | exact Past.drew1 (by assumption) | exact Past.start1 _); done)
                refine wpAnyH_take (i := 0) (oi := { dst := some 79, op := Go.Op.load 28 (Go.Operand.tmp 1), type := 28, pos := "ref.go:131", after := #[], guard := none }) (v := ?_) rfl (by kernel_rfl) (by kernel_rfl) (by kernel_rfl) (fun _ _ _ h => h) (Or.inl ⟨by rfl, ?_⟩) (by assumption) ?_
                rotate_left
                focus (intro W hSw; obtain ⟨hcW, hfW, hbW⟩ := hSw; go_simp; (try with_reducible rfl); done)
                simp only [Act.put, List.setIfInBounds_toArray, List.set_cons_zero, List.set_cons_succ]
                refine wpAnyH_take (i := 1) (oi := { dst := some 80, op := Go.Op.fieldAddr 28 (Go.Operand.tmp 1) 9, type := 0, pos := "ref.go:131", after := #[], guard := none }) (v := ?_) rfl (by kernel_rfl) (by kernel_rfl) (by kernel_rfl) (fun _ _ _ h => h) (Or.inl ⟨by rfl, ?_⟩) (by assumption) ?_
                rotate_left
                focus (intro W hSw; obtain ⟨hcW, hfW, hbW⟩ := hSw; go_simp; (try with_reducible rfl); done)
                simp only [Act.put, List.setIfInBounds_toArray, List.set_cons_zero, List.set_cons_succ]
                refine wpAnyH_take (i := 2) (oi := { dst := some 81, op := Go.Op.load 26 (Go.Operand.tmp 80), type := 26, pos := "ref.go:131", after := #[{ on := 1, ground := Go.Ground.data }], guard := none }) (v := ?_) rfl (by kernel_rfl) (by kernel_rfl) (by kernel_rfl) (fun _ _ _ h => h) (Or.inl ⟨by rfl, ?_⟩) (by assumption) ?_
                rotate_left
                focus (intro W hSw; obtain ⟨hcW, hfW, hbW⟩ := hSw; go_simp; (try with_reducible rfl); done)
                simp only [Act.put, List.setIfInBounds_toArray, List.set_cons_zero, List.set_cons_succ]
                refine wpAnyH_take (i := 3) (oi := { dst := some 82, op := Go.Op.move (Go.Operand.tmp 3), type := 3, pos := "ref.go:131", after := #[], guard := none }) (v := ?_) rfl (by kernel_rfl) (by kernel_rfl) (by kernel_rfl) (fun _ _ _ h => h) (Or.inl ⟨by rfl, ?_⟩) (by assumption) ?_
                rotate_left
                focus (intro W hSw; obtain ⟨hcW, hfW, hbW⟩ := hSw; go_simp; (try with_reducible rfl); done)
                simp only [Act.put, List.setIfInBounds_toArray, List.set_cons_zero, List.set_cons_succ]
                refine wpAnyH_take (i := 4) (oi := { dst := some 83, op := Go.Op.indexAddr 26 (Go.Operand.tmp 81) (Go.Operand.tmp 82), type := 0, pos := "ref.go:131", after := #[{ on := 2, ground := Go.Ground.data }, { on := 3, ground := Go.Ground.data }], guard := none }) (v := ?_) rfl (by kernel_rfl) (by kernel_rfl) (by kernel_rfl) (fun _ _ _ h => h) (Or.inl ⟨by rfl, ?_⟩) (by assumption) ?_
                rotate_left
                focus (intro W hSw; obtain ⟨hcW, hfW, hbW⟩ := hSw; go_simp; (try with_reducible rfl); done)
                simp only [Act.put, List.setIfInBounds_toArray, List.set_cons_zero, List.set_cons_succ]
                refine wpAnyH_take (i := 5) (oi := { dst := some 84, op := Go.Op.load 37 (Go.Operand.tmp 83), type := 37, pos := "ref.go:131", after := #[{ on := 4, ground := Go.Ground.data }], guard := none }) (v := ?_) rfl (by kernel_rfl) (by kernel_rfl) (by kernel_rfl) (fun _ _ _ h => h) (Or.inl ⟨by rfl, ?_⟩) (by assumption) ?_
                rotate_left
                focus (intro W hSw; obtain ⟨hcW, hfW, hbW⟩ := hSw; go_simp; (try with_reducible rfl); done)
                simp only [Act.put, List.setIfInBounds_toArray, List.set_cons_zero, List.set_cons_succ]
                refine wpAnyH_take (i := 6) (oi := { dst := some 85, op := Go.Op.move (Go.Operand.tmp 5), type := 3, pos := "ref.go:131", after := #[], guard := none }) (v := ?_) rfl (by kernel_rfl) (by kernel_rfl) (by kernel_rfl) (fun _ _ _ h => h) (Or.inl ⟨by rfl, ?_⟩) (by assumption) ?_
                rotate_left
                focus (intro W hSw; obtain ⟨hcW, hfW, hbW⟩ := hSw; go_simp; (try with_reducible rfl); done)
                simp only [Act.put, List.setIfInBounds_toArray, List.set_cons_zero, List.set_cons_succ]
                refine wpAnyH_take (i := 7) (oi := { dst := some 86, op := Go.Op.indexAddr 37 (Go.Operand.tmp 84) (Go.Operand.tmp 85), type := 0, pos := "ref.go:131", after := #[{ on := 5, ground := Go.Ground.data }, { on := 6, ground := Go.Ground.data }], guard := none }) (v := ?_) rfl (by kernel_rfl) (by kernel_rfl) (by kernel_rfl) (fun _ _ _ h => h) (Or.inl ⟨by rfl, ?_⟩) (by assumption) ?_
                rotate_left
                focus (intro W hSw; obtain ⟨hcW, hfW, hbW⟩ := hSw; go_simp; (try with_reducible rfl); done)
                simp only [Act.put, List.setIfInBounds_toArray, List.set_cons_zero, List.set_cons_succ]
                refine wpAnyH_take (i := 8) (oi := { dst := some 87, op := Go.Op.load 36 (Go.Operand.tmp 86), type := 36, pos := "ref.go:131", after := #[{ on := 7, ground := Go.Ground.data }], guard := none }) (v := ?_) rfl (by kernel_rfl) (by kernel_rfl) (by kernel_rfl) (fun _ _ _ h => h) (Or.inl ⟨by rfl, ?_⟩) (by assumption) ?_
                rotate_left
                focus (intro W hSw; obtain ⟨hcW, hfW, hbW⟩ := hSw; go_simp; (try with_reducible rfl); done)
                simp only [Act.put, List.setIfInBounds_toArray, List.set_cons_zero, List.set_cons_succ]
                refine wpAnyH_ready (rs := [9]) (by kernel_rfl) (by simp) ?_
                refine AllReadyH.cons (o := { dst := some 88, op := Go.Op.call { callee := Go.Callee.value (Go.Operand.func 29), args := #[Go.Operand.tmp 79, Go.Operand.tmp 87], argTypes := #[28, 36] }, type := 4, pos := "ref.go:131", after := #[{ on := 0, ground := Go.Ground.data }, { on := 8, ground := Go.Ground.data }], guard := none }) rfl (fun K hK => ?_) AllReadyH.nil
                go_simp
                (go_at_call 29; (with_reducible refine (HSRQ.out _).mono ?_); rintro e w8 ⟨rfl, hb8⟩)
                refine hK.out _ _ ?_ (fun hHeld => ?_)
                focus ((try dsimp only); (first | exact Past.below (by assumption) (by assumption) | exact Past.drew1 (by assumption) | exact Past.start1 _); done)
                clear hK K
                try simp only [Act.put, List.setIfInBounds_toArray, List.set_cons_zero, List.set_cons_succ]
                refine wpAnyH_take (i := 10) (oi := { dst := some 89, op := Go.Op.unOp Go.UnOp.not 4 (Go.Operand.tmp 88), type := 4, pos := "ref.go:131", after := #[{ on := 9, ground := Go.Ground.data }], guard := none }) (v := ?_) rfl (by kernel_rfl) (by kernel_rfl) (by kernel_rfl) (fun _ _ _ h => h) (Or.inl ⟨by rfl, ?_⟩) (by assumption) ?_
                rotate_left
                focus (intro W hSw; obtain ⟨hcW, hfW, hbW⟩ := hSw; go_simp; (try with_reducible rfl); done)
                simp only [Act.put, List.setIfInBounds_toArray, List.set_cons_zero, List.set_cons_succ]
                refine wpAnyH_done (by kernel_rfl) ?_ _
                have hp8 : Past wr w8 := by assumption
                have hpz := Past.below hp8.bel hp
                cases B
                · go_wp2
                  go_ret
                  refine ⟨?_, below_then HBX.out (Nat.le_of_lt hbs) hpz.bel⟩
                  rw [show CN = 1 from HN3K.out (HBA.out (HANQ.out (by trivial)))]; rfl
                · go_wp2
                  go_roundw
                  case rel => exact ⟨q + 1, by omega, by go_num, HOKQ2.out (by trivial), hpz⟩
                  case measure => simp [intOf]; omega
              · have hq1 : ¬ (q : Int) < (lm.length : Int) := by omega
                have hall := HAO.out fun j hj => HOKQ.out j (by omega)
                have hbz := HBN.out HLEN.out hall
                have hnx := HNX.out hbz
                have HNXX := Lib.hid hnx
                clear hall hbz hnx
                go_wp2
                go_roundw
                case rel => first | exact ⟨k + 1, by omega, by go_num, HNXX.out, hp⟩ | exact ⟨k + 1, by omega, by omega, HNXX.out⟩
                case measure => simp [intOf]; omega

        · have hlen : lm.length = 0 ∨ t ≤ (lm.length : Int) ∧ (lm.length : Int) ≤ t + 16 := by omega
          have HLEN := Lib.hid hlen
          clear hlen
          go_upto_block 2 with (go_at_call 27; (with_reducible refine (HWI2.out _).mono ?_); rintro e w5 ⟨rfl, hb5⟩; replace hp := Past.below hb5 hp; have hc5 := hp.cc; have hf5 := hp.ff)
          go_wp2_with fail
          go_loopw [5] (fun i wr => ∃ q : Nat, q ≤ lm.length ∧ i = .int .i64 q ∧ (∀ j, j < q → sourceB ⟨m, a, t, r, p, n, enter, code, starts, maps⟩ (s_ lm j) = true) ∧ Past W0 wr) (fun i _ => lm.length - (intOf i).toNat)
          case atStart => exact ⟨0, by omega, rfl, fun j hj => by omega, hp⟩
          case round =>
            obtain ⟨q, hq, rfl, hokq, hpr⟩ := hrel
            have HOKQ := Lib.hid hokq
            clear hokq
            replace hp := hpr
            clear hpr
            have hcq := hp.cc
            have hfq := hp.ff
            have hrlq := hp.bel.size
            have hbs3 : w.heap.size < wr.heap.size := by omega
            have hb0 : b < wr.heap.size := by omega
            have hq0 : (0 : Int) ≤ (q : Int) := by omega
            by_cases hlq : q < lm.length
            · exfalso; omega
            · have hq1 : ¬ (q : Int) < (lm.length : Int) := by omega
              have hall := HAO.out fun j hj => HOKQ.out j (by omega)
              have hbz := HBN.out HLEN.out hall
              have hnx := HNX.out hbz
              have HNXX := Lib.hid hnx
              clear hall hbz hnx
              go_wp2
              go_roundw
              case rel => first | exact ⟨k + 1, by omega, by go_num, HNXX.out, hp⟩ | exact ⟨k + 1, by omega, by omega, HNXX.out⟩
              case measure => simp [intOf]; omega

      · skip
        have hkn : ¬ (k : Int) < (maps.length : Int) := by omega
        have hmo : MapsOk ⟨m, a, t, r, p, n, enter, code, starts, maps⟩ maps.length := by have := HOK.out; rwa [show k = maps.length by omega] at this
        have HMO := Lib.hid hmo
        clear hmo HOK
        have hel0 : (0 : Int) ≤ (enter.length : Int) := by omega
        have hcl0 : (0 : Int) ≤ (code.length : Int) := by omega
        obtain ⟨wm, hwm⟩ : ∃ wm, wm = wr := ⟨_, rfl⟩
        subst hwm
        go_wp2_with fail
        go_loopw [6] (fun i wr => ∃ k : Nat, k ≤ enter.length ∧ i = .int .i64 k ∧ EnterOk ⟨m, a, t, r, p, n, enter, code, starts, maps⟩ k ∧ Past W0 wr) (fun i _ => enter.length - (intOf i).toNat)
        case atStart => exact ⟨0, by omega, rfl, fun j hj => by omega, hp⟩
        case round =>
          obtain ⟨k, hk, rfl, hoke, hpr⟩ := hrel
          have HOKE := Lib.hid hoke
          clear hoke
          replace hp := hpr
          clear hpr
          have hcr := hp.cc
          have hfr := hp.ff
          have hrl := hp.bel.size
          have hbs2 : w.heap.size < wr.heap.size := by omega
          have hk0 : (0 : Int) ≤ (k : Int) := by omega
          by_cases hlk : k < enter.length
          · skip
            obtain ⟨b, o, rfl, hbw, hcells⟩ := HEC.out (by omega)
            have hb0 : b < wr.heap.size := by omega
            obtain ⟨A5, c5, e0, e1, e2, e3, e4, e5, e6, l5, g5⟩ := hcells k hlk
            have hk1 : (k : Int) < (enter.length : Int) := by omega
            have hin2 := fun W (hb : Below W0.heap.size W0 W) => HINS.out (i_ enter k) A5 c5 W (Kd.C_below g5 hb) (HBE.out _ (i_mem hlk)).1
            clear l5 g5
            have hn4 := HN4.out k hlk
            have hnx : (i_ enter k).f0 = 1 → oneB ⟨m, a, t, r, p, n, enter, code, starts, maps⟩ (i_ enter k) = true → EnterOk ⟨m, a, t, r, p, n, enter, code, starts, maps⟩ (k + 1) := fun h1 h2 j hj => by
              by_cases e : j = k
              · rw [e]; exact ⟨h1, h2⟩
              · exact HOKE.out j (by omega)
            generalize oneB ⟨m, a, t, r, p, n, enter, code, starts, maps⟩ (i_ enter k) = B at *
            generalize i_ enter k = ik at *
            obtain ⟨op, nn, ⟨dk, dn, dw⟩, l, q⟩ := ik
            unfold iv at hin2
            simp only at *
            have HI2 := Lib.hid hin2
            have HN4K := Lib.hid hn4
            have HNXX := Lib.hid hnx
            clear hin2 hn4 hnx hcells
            go_upto_region 17 with fail
            refine wp_region_held_drew (S := Past wr) (by kernel_rfl) ?_ (fun hHeld => ?_)
            focus ((try dsimp only); (first | exact Past.below (by assumption) (by assumption) | exact Past.drew1 (by assumption) | exact Past.start1 _); done)
            refine wpAnyH_take (i := 0) (oi := { dst := some 97, op := Go.Op.fieldAddr 28 (Go.Operand.tmp 1) 6, type := 0, pos := "ref.go:137", after := #[], guard := none }) (v := ?_) rfl (by kernel_rfl) (by kernel_rfl) (by kernel_rfl) (fun _ _ _ h => h) (Or.inl ⟨by rfl, ?_⟩) (by assumption) ?_
            rotate_left
            focus (intro W hSw; obtain ⟨hcW, hfW, hbW⟩ := hSw; go_simp; (try with_reducible rfl); done)
            simp only [Act.put, List.setIfInBounds_toArray, List.set_cons_zero, List.set_cons_succ]
            refine wpAnyH_take (i := 1) (oi := { dst := some 98, op := Go.Op.load 24 (Go.Operand.tmp 97), type := 24, pos := "ref.go:137", after := #[{ on := 0, ground := Go.Ground.data }], guard := none }) (v := ?_) rfl (by kernel_rfl) (by kernel_rfl) (by kernel_rfl) (fun _ _ _ h => h) (Or.inl ⟨by rfl, ?_⟩) (by assumption) ?_
            rotate_left
            focus (intro W hSw; obtain ⟨hcW, hfW, hbW⟩ := hSw; go_simp; (try with_reducible rfl); done)
            simp only [Act.put, List.setIfInBounds_toArray, List.set_cons_zero, List.set_cons_succ]
            refine wpAnyH_take (i := 2) (oi := { dst := some 99, op := Go.Op.move (Go.Operand.tmp 6), type := 3, pos := "ref.go:137", after := #[], guard := none }) (v := ?_) rfl (by kernel_rfl) (by kernel_rfl) (by kernel_rfl) (fun _ _ _ h => h) (Or.inl ⟨by rfl, ?_⟩) (by assumption) ?_
            rotate_left
            focus (intro W hSw; obtain ⟨hcW, hfW, hbW⟩ := hSw; go_simp; (try with_reducible rfl); done)
            simp only [Act.put, List.setIfInBounds_toArray, List.set_cons_zero, List.set_cons_succ]
            refine wpAnyH_take (i := 3) (oi := { dst := some 100, op := Go.Op.indexAddr 24 (Go.Operand.tmp 98) (Go.Operand.tmp 99), type := 0, pos := "ref.go:137", after := #[{ on := 1, ground := Go.Ground.data }, { on := 2, ground := Go.Ground.data }], guard := none }) (v := ?_) rfl (by kernel_rfl) (by kernel_rfl) (by kernel_rfl) (fun _ _ _ h => h) (Or.inl ⟨by rfl, ?_⟩) (by assumption) ?_
            rotate_left
            focus (intro W hSw; obtain ⟨hcW, hfW, hbW⟩ := hSw; go_simp; (try with_reducible rfl); done)
            simp only [Act.put, List.setIfInBounds_toArray, List.set_cons_zero, List.set_cons_succ]
            refine wpAnyH_take (i := 4) (oi := { dst := some 101, op := Go.Op.fieldAddr 39 (Go.Operand.tmp 100) 0, type := 0, pos := "ref.go:137", after := #[{ on := 3, ground := Go.Ground.data }], guard := none }) (v := ?_) rfl (by kernel_rfl) (by kernel_rfl) (by kernel_rfl) (fun _ _ _ h => h) (Or.inl ⟨by rfl, ?_⟩) (by assumption) ?_
            rotate_left
            focus (intro W hSw; obtain ⟨hcW, hfW, hbW⟩ := hSw; go_simp; (try with_reducible rfl); done)
            simp only [Act.put, List.setIfInBounds_toArray, List.set_cons_zero, List.set_cons_succ]
            refine wpAnyH_take (i := 5) (oi := { dst := some 102, op := Go.Op.load 3 (Go.Operand.tmp 101), type := 3, pos := "ref.go:137", after := #[{ on := 4, ground := Go.Ground.data }], guard := none }) (v := ?_) rfl (by kernel_rfl) (by kernel_rfl) (by kernel_rfl) (fun _ _ _ h => h) (Or.inl ⟨by rfl, ?_⟩) (by assumption) ?_
            rotate_left
            focus (intro W hSw; obtain ⟨hcW, hfW, hbW⟩ := hSw; go_simp; (try with_reducible rfl); done)
            simp only [Act.put, List.setIfInBounds_toArray, List.set_cons_zero, List.set_cons_succ]
            by_cases s6 : op = 1
            · skip
              subst s6
              refine wpAnyH_take (i := 6) (oi := { dst := some 103, op := Go.Op.binOp Go.BinOp.neq 3 (Go.Operand.tmp 102) (Go.Operand.const (Go.Value.int Go.IntKind.i64 1)) 3, type := 4, pos := "ref.go:137", after := #[{ on := 5, ground := Go.Ground.data }], guard := none }) (v := ?_) rfl (by kernel_rfl) (by kernel_rfl) (by kernel_rfl) (fun _ _ _ h => h) (Or.inl ⟨by rfl, ?_⟩) (by assumption) ?_
              rotate_left
              focus (intro W hSw; obtain ⟨hcW, hfW, hbW⟩ := hSw; go_simp; (try with_reducible rfl); done)
              simp only [Act.put, List.setIfInBounds_toArray, List.set_cons_zero, List.set_cons_succ]
              refine wpAnyH_take (i := 7) (oi := { dst := some 104, op := Go.Op.move (Go.Operand.tmp 103), type := 4, pos := "ref.go:137", after := #[{ on := 6, ground := Go.Ground.data }], guard := none }) (v := ?_) rfl (by kernel_rfl) (by kernel_rfl) (by kernel_rfl) (fun _ _ _ h => h) (Or.inl ⟨by rfl, ?_⟩) (by assumption) ?_
              rotate_left
              focus (intro W hSw; obtain ⟨hcW, hfW, hbW⟩ := hSw; go_simp; (try with_reducible rfl); done)
              simp only [Act.put, List.setIfInBounds_toArray, List.set_cons_zero, List.set_cons_succ]
              refine wpAnyH_take (i := 8) (oi := { dst := some 105, op := Go.Op.load 28 (Go.Operand.tmp 1), type := 28, pos := "ref.go:137", after := #[{ on := 7, ground := Go.Ground.guard }], guard := some (7, false) }) (v := ?_) rfl (by kernel_rfl) (by kernel_rfl) (by kernel_rfl) (fun _ _ _ h => h) (Or.inl ⟨by rfl, ?_⟩) (by assumption) ?_
              rotate_left
              focus (intro W hSw; obtain ⟨hcW, hfW, hbW⟩ := hSw; go_simp; (try with_reducible rfl); done)
              simp only [Act.put, List.setIfInBounds_toArray, List.set_cons_zero, List.set_cons_succ]
              refine wpAnyH_take (i := 9) (oi := { dst := some 106, op := Go.Op.fieldAddr 28 (Go.Operand.tmp 1) 6, type := 0, pos := "ref.go:137", after := #[{ on := 7, ground := Go.Ground.guard }], guard := some (7, false) }) (v := ?_) rfl (by kernel_rfl) (by kernel_rfl) (by kernel_rfl) (fun _ _ _ h => h) (Or.inl ⟨by rfl, ?_⟩) (by assumption) ?_
              rotate_left
              focus (intro W hSw; obtain ⟨hcW, hfW, hbW⟩ := hSw; go_simp; (try with_reducible rfl); done)
              simp only [Act.put, List.setIfInBounds_toArray, List.set_cons_zero, List.set_cons_succ]
              refine wpAnyH_take (i := 10) (oi := { dst := some 107, op := Go.Op.load 24 (Go.Operand.tmp 106), type := 24, pos := "ref.go:137", after := #[{ on := 9, ground := Go.Ground.data }, { on := 7, ground := Go.Ground.guard }], guard := some (7, false) }) (v := ?_) rfl (by kernel_rfl) (by kernel_rfl) (by kernel_rfl) (fun _ _ _ h => h) (Or.inl ⟨by rfl, ?_⟩) (by assumption) ?_
              rotate_left
              focus (intro W hSw; obtain ⟨hcW, hfW, hbW⟩ := hSw; go_simp; (try with_reducible rfl); done)
              simp only [Act.put, List.setIfInBounds_toArray, List.set_cons_zero, List.set_cons_succ]
              refine wpAnyH_take (i := 11) (oi := { dst := some 108, op := Go.Op.move (Go.Operand.tmp 6), type := 3, pos := "ref.go:137", after := #[{ on := 7, ground := Go.Ground.guard }], guard := some (7, false) }) (v := ?_) rfl (by kernel_rfl) (by kernel_rfl) (by kernel_rfl) (fun _ _ _ h => h) (Or.inl ⟨by rfl, ?_⟩) (by assumption) ?_
              rotate_left
              focus (intro W hSw; obtain ⟨hcW, hfW, hbW⟩ := hSw; go_simp; (try with_reducible rfl); done)
              simp only [Act.put, List.setIfInBounds_toArray, List.set_cons_zero, List.set_cons_succ]
              refine wpAnyH_take (i := 12) (oi := { dst := some 109, op := Go.Op.indexAddr 24 (Go.Operand.tmp 107) (Go.Operand.tmp 108), type := 0, pos := "ref.go:137", after := #[{ on := 10, ground := Go.Ground.data }, { on := 11, ground := Go.Ground.data }, { on := 7, ground := Go.Ground.guard }], guard := some (7, false) }) (v := ?_) rfl (by kernel_rfl) (by kernel_rfl) (by kernel_rfl) (fun _ _ _ h => h) (Or.inl ⟨by rfl, ?_⟩) (by assumption) ?_
              rotate_left
              focus (intro W hSw; obtain ⟨hcW, hfW, hbW⟩ := hSw; go_simp; (try with_reducible rfl); done)
              simp only [Act.put, List.setIfInBounds_toArray, List.set_cons_zero, List.set_cons_succ]
              refine wpAnyH_take (i := 13) (oi := { dst := some 110, op := Go.Op.load 39 (Go.Operand.tmp 109), type := 39, pos := "ref.go:137", after := #[{ on := 12, ground := Go.Ground.data }, { on := 7, ground := Go.Ground.guard }], guard := some (7, false) }) (v := ?_) rfl (by kernel_rfl) (by kernel_rfl) (by kernel_rfl) (fun _ _ _ h => h) (Or.inl ⟨by rfl, ?_⟩) (by assumption) ?_
              rotate_left
              focus (intro W hSw; obtain ⟨hcW, hfW, hbW⟩ := hSw; go_simp; (try with_reducible rfl); done)
              simp only [Act.put, List.setIfInBounds_toArray, List.set_cons_zero, List.set_cons_succ]
              refine wpAnyH_ready (rs := [14]) (by kernel_rfl) (by simp) ?_
              refine AllReadyH.cons (o := { dst := some 111, op := Go.Op.call { callee := Go.Callee.value (Go.Operand.func 30), args := #[Go.Operand.tmp 105, Go.Operand.tmp 110], argTypes := #[28, 39] }, type := 4, pos := "ref.go:137", after := #[{ on := 8, ground := Go.Ground.data }, { on := 13, ground := Go.Ground.data }, { on := 7, ground := Go.Ground.chain }, { on := 7, ground := Go.Ground.guard }], guard := some (7, false) }) rfl (fun K hK => ?_) AllReadyH.nil
              go_simp
              (go_at_call 30; (with_reducible refine (HI2.out _ (Past.below (Past.bel (by assumption : Past wr _)) hp).bel).mono ?_); rintro e w9 ⟨rfl, hb9⟩)
              refine hK.out _ _ ?_ (fun hHeld => ?_)
              focus ((try dsimp only); (first | exact Past.below (by assumption) (by assumption) | exact Past.drew1 (by assumption) | exact Past.start1 _); done)
              clear hK K
              try simp only [Act.put, List.setIfInBounds_toArray, List.set_cons_zero, List.set_cons_succ]
              refine wpAnyH_take (i := 15) (oi := { dst := some 112, op := Go.Op.unOp Go.UnOp.not 4 (Go.Operand.tmp 111), type := 4, pos := "ref.go:137", after := #[{ on := 14, ground := Go.Ground.data }, { on := 7, ground := Go.Ground.guard }], guard := some (7, false) }) (v := ?_) rfl (by kernel_rfl) (by kernel_rfl) (by kernel_rfl) (fun _ _ _ h => h) (Or.inl ⟨by rfl, ?_⟩) (by assumption) ?_
              rotate_left
              focus (intro W hSw; obtain ⟨hcW, hfW, hbW⟩ := hSw; go_simp; (try with_reducible rfl); done)
              simp only [Act.put, List.setIfInBounds_toArray, List.set_cons_zero, List.set_cons_succ]
              refine wpAnyH_take (i := 16) (oi := { dst := some 113, op := Go.Op.pick (Go.Operand.tmp 104) (Go.Operand.const (Go.Value.bool true)) (Go.Operand.tmp 112), type := 4, pos := "ref.go:137", after := #[{ on := 7, ground := Go.Ground.data }, { on := 15, ground := Go.Ground.data }], guard := none }) (v := ?_) rfl (by kernel_rfl) (by kernel_rfl) (by kernel_rfl) (fun _ _ _ h => h) (Or.inl ⟨by rfl, ?_⟩) (by assumption) ?_
              rotate_left
              focus (intro W hSw; obtain ⟨hcW, hfW, hbW⟩ := hSw; go_simp; (try with_reducible rfl); done)
              simp only [Act.put, List.setIfInBounds_toArray, List.set_cons_zero, List.set_cons_succ]
              refine wpAnyH_done (by kernel_rfl) ?_ _
              have hp9 : Past wr w9 := by assumption
              have hpz := Past.below hp9.bel hp
              cases B
              · go_wp2
                go_ret
                refine ⟨?_, below_then HBX.out (Nat.le_of_lt hbs) hpz.bel⟩
                rw [show CN = 1 from HN4K.out (by simp [*])]; rfl
              · go_wp2
                go_roundw
                case rel => first | exact ⟨k + 1, by omega, by go_num, HNXX.out (by trivial) (by trivial), hpz⟩
                case measure => simp [intOf]; omega
            · skip
              have s6b : (op != 1) = true := by simpa using s6
              refine wpAnyH_take (i := 6) (oi := { dst := some 103, op := Go.Op.binOp Go.BinOp.neq 3 (Go.Operand.tmp 102) (Go.Operand.const (Go.Value.int Go.IntKind.i64 1)) 3, type := 4, pos := "ref.go:137", after := #[{ on := 5, ground := Go.Ground.data }], guard := none }) (v := ?_) rfl (by kernel_rfl) (by kernel_rfl) (by kernel_rfl) (fun _ _ _ h => h) (Or.inl ⟨by rfl, ?_⟩) (by assumption) ?_
              rotate_left
              focus (intro W hSw; obtain ⟨hcW, hfW, hbW⟩ := hSw; go_simp; (try with_reducible rfl); done)
              simp only [Act.put, List.setIfInBounds_toArray, List.set_cons_zero, List.set_cons_succ]
              refine wpAnyH_take (i := 7) (oi := { dst := some 104, op := Go.Op.move (Go.Operand.tmp 103), type := 4, pos := "ref.go:137", after := #[{ on := 6, ground := Go.Ground.data }], guard := none }) (v := ?_) rfl (by kernel_rfl) (by kernel_rfl) (by kernel_rfl) (fun _ _ _ h => h) (Or.inl ⟨by rfl, ?_⟩) (by assumption) ?_
              rotate_left
              focus (intro W hSw; obtain ⟨hcW, hfW, hbW⟩ := hSw; go_simp; (try with_reducible rfl); done)
              simp only [Act.put, List.setIfInBounds_toArray, List.set_cons_zero, List.set_cons_succ]
              refine wpAnyH_take (i := 8) (oi := { dst := some 105, op := Go.Op.load 28 (Go.Operand.tmp 1), type := 28, pos := "ref.go:137", after := #[{ on := 7, ground := Go.Ground.guard }], guard := some (7, false) }) (v := undef) rfl (by kernel_rfl) (by kernel_rfl) (by kernel_rfl) (fun _ _ _ h => h) (Or.inr ⟨by rfl, rfl⟩) (by assumption) ?_
              simp only [Act.put, List.setIfInBounds_toArray, List.set_cons_zero, List.set_cons_succ]
              refine wpAnyH_take (i := 9) (oi := { dst := some 106, op := Go.Op.fieldAddr 28 (Go.Operand.tmp 1) 6, type := 0, pos := "ref.go:137", after := #[{ on := 7, ground := Go.Ground.guard }], guard := some (7, false) }) (v := undef) rfl (by kernel_rfl) (by kernel_rfl) (by kernel_rfl) (fun _ _ _ h => h) (Or.inr ⟨by rfl, rfl⟩) (by assumption) ?_
              simp only [Act.put, List.setIfInBounds_toArray, List.set_cons_zero, List.set_cons_succ]
              refine wpAnyH_take (i := 10) (oi := { dst := some 107, op := Go.Op.load 24 (Go.Operand.tmp 106), type := 24, pos := "ref.go:137", after := #[{ on := 9, ground := Go.Ground.data }, { on := 7, ground := Go.Ground.guard }], guard := some (7, false) }) (v := undef) rfl (by kernel_rfl) (by kernel_rfl) (by kernel_rfl) (fun _ _ _ h => h) (Or.inr ⟨by rfl, rfl⟩) (by assumption) ?_
              simp only [Act.put, List.setIfInBounds_toArray, List.set_cons_zero, List.set_cons_succ]
              refine wpAnyH_take (i := 11) (oi := { dst := some 108, op := Go.Op.move (Go.Operand.tmp 6), type := 3, pos := "ref.go:137", after := #[{ on := 7, ground := Go.Ground.guard }], guard := some (7, false) }) (v := undef) rfl (by kernel_rfl) (by kernel_rfl) (by kernel_rfl) (fun _ _ _ h => h) (Or.inr ⟨by rfl, rfl⟩) (by assumption) ?_
              simp only [Act.put, List.setIfInBounds_toArray, List.set_cons_zero, List.set_cons_succ]
              refine wpAnyH_take (i := 12) (oi := { dst := some 109, op := Go.Op.indexAddr 24 (Go.Operand.tmp 107) (Go.Operand.tmp 108), type := 0, pos := "ref.go:137", after := #[{ on := 10, ground := Go.Ground.data }, { on := 11, ground := Go.Ground.data }, { on := 7, ground := Go.Ground.guard }], guard := some (7, false) }) (v := undef) rfl (by kernel_rfl) (by kernel_rfl) (by kernel_rfl) (fun _ _ _ h => h) (Or.inr ⟨by rfl, rfl⟩) (by assumption) ?_
              simp only [Act.put, List.setIfInBounds_toArray, List.set_cons_zero, List.set_cons_succ]
              refine wpAnyH_take (i := 13) (oi := { dst := some 110, op := Go.Op.load 39 (Go.Operand.tmp 109), type := 39, pos := "ref.go:137", after := #[{ on := 12, ground := Go.Ground.data }, { on := 7, ground := Go.Ground.guard }], guard := some (7, false) }) (v := undef) rfl (by kernel_rfl) (by kernel_rfl) (by kernel_rfl) (fun _ _ _ h => h) (Or.inr ⟨by rfl, rfl⟩) (by assumption) ?_
              simp only [Act.put, List.setIfInBounds_toArray, List.set_cons_zero, List.set_cons_succ]
              refine wpAnyH_take (i := 14) (oi := { dst := some 111, op := Go.Op.call { callee := Go.Callee.value (Go.Operand.func 30), args := #[Go.Operand.tmp 105, Go.Operand.tmp 110], argTypes := #[28, 39] }, type := 4, pos := "ref.go:137", after := #[{ on := 8, ground := Go.Ground.data }, { on := 13, ground := Go.Ground.data }, { on := 7, ground := Go.Ground.chain }, { on := 7, ground := Go.Ground.guard }], guard := some (7, false) }) (v := undef) rfl (by kernel_rfl) (by kernel_rfl) (by kernel_rfl) (fun _ _ _ h => h) (Or.inr ⟨by rfl, rfl⟩) (by assumption) ?_
              simp only [Act.put, List.setIfInBounds_toArray, List.set_cons_zero, List.set_cons_succ]
              refine wpAnyH_take (i := 15) (oi := { dst := some 112, op := Go.Op.unOp Go.UnOp.not 4 (Go.Operand.tmp 111), type := 4, pos := "ref.go:137", after := #[{ on := 14, ground := Go.Ground.data }, { on := 7, ground := Go.Ground.guard }], guard := some (7, false) }) (v := undef) rfl (by kernel_rfl) (by kernel_rfl) (by kernel_rfl) (fun _ _ _ h => h) (Or.inr ⟨by rfl, rfl⟩) (by assumption) ?_
              simp only [Act.put, List.setIfInBounds_toArray, List.set_cons_zero, List.set_cons_succ]
              refine wpAnyH_take (i := 16) (oi := { dst := some 113, op := Go.Op.pick (Go.Operand.tmp 104) (Go.Operand.const (Go.Value.bool true)) (Go.Operand.tmp 112), type := 4, pos := "ref.go:137", after := #[{ on := 7, ground := Go.Ground.data }, { on := 15, ground := Go.Ground.data }], guard := none }) (v := ?_) rfl (by kernel_rfl) (by kernel_rfl) (by kernel_rfl) (fun _ _ _ h => h) (Or.inl ⟨by rfl, ?_⟩) (by assumption) ?_
              rotate_left
              focus (intro W hSw; obtain ⟨hcW, hfW, hbW⟩ := hSw; go_simp; (try with_reducible rfl); done)
              simp only [Act.put, List.setIfInBounds_toArray, List.set_cons_zero, List.set_cons_succ]
              refine wpAnyH_done (by kernel_rfl) ?_ _
              have hpz := Past.below (Past.bel (by assumption : Past wr _)) hp
              go_wp2
              go_ret
              refine ⟨?_, below_then HBX.out (Nat.le_of_lt hbs) hpz.bel⟩
              rw [show CN = 1 from HN4K.out (by simp [*])]; rfl
          · skip
            have hkn2 : ¬ (k : Int) < (enter.length : Int) := by omega
            have heo : EnterOk ⟨m, a, t, r, p, n, enter, code, starts, maps⟩ enter.length := by have := HOKE.out; rwa [show k = enter.length by omega] at this
            have HEO := Lib.hid heo
            clear heo HOKE
            obtain ⟨wm2, hwm2⟩ : ∃ wm, wm = wr := ⟨_, rfl⟩
            subst hwm2
            go_wp2_with fail
            go_loopw [7] (fun i wr => ∃ k : Nat, k ≤ code.length ∧ i = .int .i64 k ∧ CodeOk ⟨m, a, t, r, p, n, enter, code, starts, maps⟩ k ∧ Past W0 wr) (fun i _ => code.length - (intOf i).toNat)
            case atStart => exact ⟨0, by omega, rfl, fun j hj => by omega, hp⟩
            case round =>
              obtain ⟨k, hk, rfl, hoke, hpr⟩ := hrel
              have HOKE := Lib.hid hoke
              clear hoke
              replace hp := hpr
              clear hpr
              have hcr := hp.cc
              have hfr := hp.ff
              have hrl := hp.bel.size
              have hbs2 : w.heap.size < wr.heap.size := by omega
              have hk0 : (0 : Int) ≤ (k : Int) := by omega
              by_cases hlk : k < code.length
              · skip
                obtain ⟨b, o, rfl, hbw, hcells⟩ := HCC.out (by omega)
                have hb0 : b < wr.heap.size := by omega
                obtain ⟨A5, c5, e0, e1, e2, e3, e4, e5, e6, l5, g5⟩ := hcells k hlk
                have hk1 : (k : Int) < (code.length : Int) := by omega
                have hin2 := fun W (hb : Below W0.heap.size W0 W) => HINS.out (i_ code k) A5 c5 W (Kd.C_below g5 hb) (HBC.out _ (i_mem hlk)).1
                clear l5 g5
                have hn5 := HN5.out k hlk
                have hn6 := HN6.out k hlk
                have hnx : oneB ⟨m, a, t, r, p, n, enter, code, starts, maps⟩ (i_ code k) = true → (∀ j, j < k → ¬ twice (i_ code k) (i_ code j)) → CodeOk ⟨m, a, t, r, p, n, enter, code, starts, maps⟩ (k + 1) := HOKE.out.next
                generalize oneB ⟨m, a, t, r, p, n, enter, code, starts, maps⟩ (i_ code k) = B at *
                have HCELLS := Lib.hid hcells
                clear hcells
                generalize hik : i_ code k = ik at *
                have HIK := Lib.hid hik
                clear hik
                obtain ⟨op, nn, ⟨dk, dn, dw⟩, l, qq⟩ := ik
                unfold iv at hin2
                simp only at *
                have HI2 := Lib.hid hin2
                have HN5K := Lib.hid hn5
                have HN6K0 := Lib.hid hn6
                have HNXX := Lib.hid hnx
                clear hin2 hn5 hnx hn6
                go_upto_region 22 with fail
                refine wp_region_held_drew (S := Past wr) (by kernel_rfl) ?_ (fun hHeld => ?_)
                focus ((try dsimp only); (first | exact Past.below (by assumption) (by assumption) | exact Past.drew1 (by assumption) | exact Past.start1 _); done)
                refine wpAnyH_take (i := 0) (oi := { dst := some 121, op := Go.Op.load 28 (Go.Operand.tmp 1), type := 28, pos := "ref.go:142", after := #[], guard := none }) (v := ?_) rfl (by kernel_rfl) (by kernel_rfl) (by kernel_rfl) (fun _ _ _ h => h) (Or.inl ⟨by rfl, ?_⟩) (by assumption) ?_
                rotate_left
                focus (intro W hSw; obtain ⟨hcW, hfW, hbW⟩ := hSw; go_simp; (try with_reducible rfl); done)
                simp only [Act.put, List.setIfInBounds_toArray, List.set_cons_zero, List.set_cons_succ]
                refine wpAnyH_take (i := 1) (oi := { dst := some 122, op := Go.Op.fieldAddr 28 (Go.Operand.tmp 1) 7, type := 0, pos := "ref.go:142", after := #[], guard := none }) (v := ?_) rfl (by kernel_rfl) (by kernel_rfl) (by kernel_rfl) (fun _ _ _ h => h) (Or.inl ⟨by rfl, ?_⟩) (by assumption) ?_
                rotate_left
                focus (intro W hSw; obtain ⟨hcW, hfW, hbW⟩ := hSw; go_simp; (try with_reducible rfl); done)
                simp only [Act.put, List.setIfInBounds_toArray, List.set_cons_zero, List.set_cons_succ]
                refine wpAnyH_take (i := 2) (oi := { dst := some 123, op := Go.Op.load 24 (Go.Operand.tmp 122), type := 24, pos := "ref.go:142", after := #[{ on := 1, ground := Go.Ground.data }], guard := none }) (v := ?_) rfl (by kernel_rfl) (by kernel_rfl) (by kernel_rfl) (fun _ _ _ h => h) (Or.inl ⟨by rfl, ?_⟩) (by assumption) ?_
                rotate_left
                focus (intro W hSw; obtain ⟨hcW, hfW, hbW⟩ := hSw; go_simp; (try with_reducible rfl); done)
                simp only [Act.put, List.setIfInBounds_toArray, List.set_cons_zero, List.set_cons_succ]
                refine wpAnyH_take (i := 3) (oi := { dst := some 124, op := Go.Op.move (Go.Operand.tmp 7), type := 3, pos := "ref.go:142", after := #[], guard := none }) (v := ?_) rfl (by kernel_rfl) (by kernel_rfl) (by kernel_rfl) (fun _ _ _ h => h) (Or.inl ⟨by rfl, ?_⟩) (by assumption) ?_
                rotate_left
                focus (intro W hSw; obtain ⟨hcW, hfW, hbW⟩ := hSw; go_simp; (try with_reducible rfl); done)
                simp only [Act.put, List.setIfInBounds_toArray, List.set_cons_zero, List.set_cons_succ]
                refine wpAnyH_take (i := 4) (oi := { dst := some 125, op := Go.Op.indexAddr 24 (Go.Operand.tmp 123) (Go.Operand.tmp 124), type := 0, pos := "ref.go:142", after := #[{ on := 2, ground := Go.Ground.data }, { on := 3, ground := Go.Ground.data }], guard := none }) (v := ?_) rfl (by kernel_rfl) (by kernel_rfl) (by kernel_rfl) (fun _ _ _ h => h) (Or.inl ⟨by rfl, ?_⟩) (by assumption) ?_
                rotate_left
                focus (intro W hSw; obtain ⟨hcW, hfW, hbW⟩ := hSw; go_simp; (try with_reducible rfl); done)
                simp only [Act.put, List.setIfInBounds_toArray, List.set_cons_zero, List.set_cons_succ]
                refine wpAnyH_take (i := 5) (oi := { dst := some 126, op := Go.Op.load 39 (Go.Operand.tmp 125), type := 39, pos := "ref.go:142", after := #[{ on := 4, ground := Go.Ground.data }], guard := none }) (v := ?_) rfl (by kernel_rfl) (by kernel_rfl) (by kernel_rfl) (fun _ _ _ h => h) (Or.inl ⟨by rfl, ?_⟩) (by assumption) ?_
                rotate_left
                focus (intro W hSw; obtain ⟨hcW, hfW, hbW⟩ := hSw; go_simp; (try with_reducible rfl); done)
                simp only [Act.put, List.setIfInBounds_toArray, List.set_cons_zero, List.set_cons_succ]
                refine wpAnyH_ready (rs := [6]) (by kernel_rfl) (by simp) ?_
                refine AllReadyH.cons (o := { dst := some 127, op := Go.Op.call { callee := Go.Callee.value (Go.Operand.func 30), args := #[Go.Operand.tmp 121, Go.Operand.tmp 126], argTypes := #[28, 39] }, type := 4, pos := "ref.go:142", after := #[{ on := 0, ground := Go.Ground.data }, { on := 5, ground := Go.Ground.data }], guard := none }) rfl (fun K hK => ?_) AllReadyH.nil
                go_simp
                (go_at_call 30; (with_reducible refine (HI2.out _ (Past.below (Past.bel (by assumption : Past wr _)) hp).bel).mono ?_); rintro e w9 ⟨rfl, hb9⟩)
                refine hK.out _ _ ?_ (fun hHeld => ?_)
                focus ((try dsimp only); (first | exact Past.below (by assumption) (by assumption) | exact Past.drew1 (by assumption) | exact Past.start1 _); done)
                clear hK K
                try simp only [Act.put, List.setIfInBounds_toArray, List.set_cons_zero, List.set_cons_succ]
                refine wpAnyH_take (i := 7) (oi := { dst := some 128, op := Go.Op.unOp Go.UnOp.not 4 (Go.Operand.tmp 127), type := 4, pos := "ref.go:142", after := #[{ on := 6, ground := Go.Ground.data }], guard := none }) (v := ?_) rfl (by kernel_rfl) (by kernel_rfl) (by kernel_rfl) (fun _ _ _ h => h) (Or.inl ⟨by rfl, ?_⟩) (by assumption) ?_
                rotate_left
                focus (intro W hSw; obtain ⟨hcW, hfW, hbW⟩ := hSw; go_simp; (try with_reducible rfl); done)
                simp only [Act.put, List.setIfInBounds_toArray, List.set_cons_zero, List.set_cons_succ]
                refine wpAnyH_done (by kernel_rfl) ?_ _
                have hp9 : Past wr w9 := by assumption
                have hpz := Past.below hp9.bel hp
                cases B
                · go_wp2
                  go_ret
                  refine ⟨?_, below_then HBX.out (Nat.le_of_lt hbs) hpz.bel⟩
                  rw [show CN = 1 from HN5K.out (by trivial)]; rfl
                · skip
                  go_wp2_with fail
                  go_loopw [8] (fun i wr => ∃ q : Nat, q ≤ k ∧ i = .int .i64 q ∧ (∀ j, j < q → ¬ twice ⟨op, nn, ⟨dk, dn, dw⟩, l, qq⟩ (i_ code j)) ∧ Past W0 wr) (fun i _ => k - (intOf i).toNat)
                  case atStart => exact ⟨0, by omega, rfl, fun j hj => by omega, hpz⟩
                  case round =>
                    obtain ⟨q, hq, rfl, hokq, hpr⟩ := hrel
                    have HOKQ := Lib.hid hokq
                    clear hokq
                    replace hp := hpr
                    clear hpr hpz
                    have hcq := hp.cc
                    have hfq := hp.ff
                    have hrlq := hp.bel.size
                    have hbs3 : w.heap.size < wr.heap.size := by omega
                    have hb1 : b < wr.heap.size := by omega
                    have hq0 : (0 : Int) ≤ (q : Int) := by omega
                    by_cases hlq : q < k
                    · obtain ⟨A7, c7, r0, r1, r2, r3, r4, r5, r6, _, _⟩ := HCELLS.out q (by omega)
                      have hq1 : (q : Int) < (k : Int) := by omega
                      have hq2 : (q : Int) < (code.length : Int) := by omega
                      have hokq2 : ¬ twice ⟨op, nn, ⟨dk, dn, dw⟩, l, qq⟩ (i_ code q) → ∀ j, j < q + 1 → ¬ twice ⟨op, nn, ⟨dk, dn, dw⟩, l, qq⟩ (i_ code j) := fun hs j hj => by
                        by_cases e : j = q
                        · rw [e]; exact hs
                        · exact HOKQ.out j (by omega)
                      have hn6 := HN6K0.out q hlq
                      clear r2 r3 r4 r5 r6
                      generalize i_ code q = iq at *
                      obtain ⟨op2, nn2, d2, l2, q2⟩ := iq
                      simp only at r0 r1
                      have HOKQ2 := Lib.hid hokq2
                      have HN6K : Hid (∀ q', q' < k → twice ⟨op, nn, ⟨dk, dn, dw⟩, l, qq⟩ ⟨op2, nn2, d2, l2, q2⟩ → CN = 1) := Lib.hid (fun _ _ => hn6)
                      clear hokq2 hn6
                      go_upto_region 27 with fail
                      refine wp_region_held_drew (S := Past wr) (by kernel_rfl) ?_ (fun hHeld => ?_)
                      focus ((try dsimp only); (first | exact Past.below (by assumption) (by assumption) | exact Past.drew1 (by assumption) | exact Past.start1 _); done)
                      refine wpAnyH_take (i := 0) (oi := { dst := some 134, op := Go.Op.fieldAddr 28 (Go.Operand.tmp 1) 7, type := 0, pos := "ref.go:146", after := #[], guard := none }) (v := ?_) rfl (by kernel_rfl) (by kernel_rfl) (by kernel_rfl) (fun _ _ _ h => h) (Or.inl ⟨by rfl, ?_⟩) (by assumption) ?_
                      rotate_left
                      focus (intro W hSw; obtain ⟨hcW, hfW, hbW⟩ := hSw; go_simp; (try with_reducible rfl); done)
                      simp only [Act.put, List.setIfInBounds_toArray, List.set_cons_zero, List.set_cons_succ]
                      refine wpAnyH_take (i := 1) (oi := { dst := some 135, op := Go.Op.load 24 (Go.Operand.tmp 134), type := 24, pos := "ref.go:146", after := #[{ on := 0, ground := Go.Ground.data }], guard := none }) (v := ?_) rfl (by kernel_rfl) (by kernel_rfl) (by kernel_rfl) (fun _ _ _ h => h) (Or.inl ⟨by rfl, ?_⟩) (by assumption) ?_
                      rotate_left
                      focus (intro W hSw; obtain ⟨hcW, hfW, hbW⟩ := hSw; go_simp; (try with_reducible rfl); done)
                      simp only [Act.put, List.setIfInBounds_toArray, List.set_cons_zero, List.set_cons_succ]
                      refine wpAnyH_take (i := 2) (oi := { dst := some 136, op := Go.Op.move (Go.Operand.tmp 7), type := 3, pos := "ref.go:146", after := #[], guard := none }) (v := ?_) rfl (by kernel_rfl) (by kernel_rfl) (by kernel_rfl) (fun _ _ _ h => h) (Or.inl ⟨by rfl, ?_⟩) (by assumption) ?_
                      rotate_left
                      focus (intro W hSw; obtain ⟨hcW, hfW, hbW⟩ := hSw; go_simp; (try with_reducible rfl); done)
                      simp only [Act.put, List.setIfInBounds_toArray, List.set_cons_zero, List.set_cons_succ]
                      refine wpAnyH_take (i := 3) (oi := { dst := some 137, op := Go.Op.indexAddr 24 (Go.Operand.tmp 135) (Go.Operand.tmp 136), type := 0, pos := "ref.go:146", after := #[{ on := 1, ground := Go.Ground.data }, { on := 2, ground := Go.Ground.data }], guard := none }) (v := ?_) rfl (by kernel_rfl) (by kernel_rfl) (by kernel_rfl) (fun _ _ _ h => h) (Or.inl ⟨by rfl, ?_⟩) (by assumption) ?_
                      rotate_left
                      focus (intro W hSw; obtain ⟨hcW, hfW, hbW⟩ := hSw; go_simp; (try with_reducible rfl); done)
                      simp only [Act.put, List.setIfInBounds_toArray, List.set_cons_zero, List.set_cons_succ]
                      refine wpAnyH_take (i := 4) (oi := { dst := some 138, op := Go.Op.fieldAddr 39 (Go.Operand.tmp 137) 0, type := 0, pos := "ref.go:146", after := #[{ on := 3, ground := Go.Ground.data }], guard := none }) (v := ?_) rfl (by kernel_rfl) (by kernel_rfl) (by kernel_rfl) (fun _ _ _ h => h) (Or.inl ⟨by rfl, ?_⟩) (by assumption) ?_
                      rotate_left
                      focus (intro W hSw; obtain ⟨hcW, hfW, hbW⟩ := hSw; go_simp; (try with_reducible rfl); done)
                      simp only [Act.put, List.setIfInBounds_toArray, List.set_cons_zero, List.set_cons_succ]
                      refine wpAnyH_take (i := 5) (oi := { dst := some 139, op := Go.Op.load 3 (Go.Operand.tmp 138), type := 3, pos := "ref.go:146", after := #[{ on := 4, ground := Go.Ground.data }], guard := none }) (v := ?_) rfl (by kernel_rfl) (by kernel_rfl) (by kernel_rfl) (fun _ _ _ h => h) (Or.inl ⟨by rfl, ?_⟩) (by assumption) ?_
                      rotate_left
                      focus (intro W hSw; obtain ⟨hcW, hfW, hbW⟩ := hSw; go_simp; (try with_reducible rfl); done)
                      simp only [Act.put, List.setIfInBounds_toArray, List.set_cons_zero, List.set_cons_succ]
                      by_cases s6 : op = 7
                      · skip
                        refine wpAnyH_take (i := 6) (oi := { dst := some 140, op := Go.Op.binOp Go.BinOp.eql 3 (Go.Operand.tmp 139) (Go.Operand.const (Go.Value.int Go.IntKind.i64 7)) 3, type := 4, pos := "ref.go:146", after := #[{ on := 5, ground := Go.Ground.data }], guard := none }) (v := ?_) rfl (by kernel_rfl) (by kernel_rfl) (by kernel_rfl) (fun _ _ _ h => h) (Or.inl ⟨by rfl, ?_⟩) (by assumption) ?_
                        rotate_left
                        focus (intro W hSw; obtain ⟨hcW, hfW, hbW⟩ := hSw; go_simp; (try with_reducible rfl); done)
                        simp only [Act.put, List.setIfInBounds_toArray, List.set_cons_zero, List.set_cons_succ]
                        refine wpAnyH_take (i := 7) (oi := { dst := some 141, op := Go.Op.move (Go.Operand.tmp 140), type := 4, pos := "ref.go:146", after := #[{ on := 6, ground := Go.Ground.data }], guard := none }) (v := ?_) rfl (by kernel_rfl) (by kernel_rfl) (by kernel_rfl) (fun _ _ _ h => h) (Or.inl ⟨by rfl, ?_⟩) (by assumption) ?_
                        rotate_left
                        focus (intro W hSw; obtain ⟨hcW, hfW, hbW⟩ := hSw; go_simp; (try with_reducible rfl); done)
                        simp only [Act.put, List.setIfInBounds_toArray, List.set_cons_zero, List.set_cons_succ]
                        refine wpAnyH_take (i := 8) (oi := { dst := some 142, op := Go.Op.fieldAddr 28 (Go.Operand.tmp 1) 7, type := 0, pos := "ref.go:146", after := #[{ on := 7, ground := Go.Ground.guard }], guard := some (7, true) }) (v := ?_) rfl (by kernel_rfl) (by kernel_rfl) (by kernel_rfl) (fun _ _ _ h => h) (Or.inl ⟨by rfl, ?_⟩) (by assumption) ?_
                        rotate_left
                        focus (intro W hSw; obtain ⟨hcW, hfW, hbW⟩ := hSw; go_simp; (try with_reducible rfl); done)
                        simp only [Act.put, List.setIfInBounds_toArray, List.set_cons_zero, List.set_cons_succ]
                        refine wpAnyH_take (i := 9) (oi := { dst := some 143, op := Go.Op.load 24 (Go.Operand.tmp 142), type := 24, pos := "ref.go:146", after := #[{ on := 8, ground := Go.Ground.data }, { on := 7, ground := Go.Ground.guard }], guard := some (7, true) }) (v := ?_) rfl (by kernel_rfl) (by kernel_rfl) (by kernel_rfl) (fun _ _ _ h => h) (Or.inl ⟨by rfl, ?_⟩) (by assumption) ?_
                        rotate_left
                        focus (intro W hSw; obtain ⟨hcW, hfW, hbW⟩ := hSw; go_simp; (try with_reducible rfl); done)
                        simp only [Act.put, List.setIfInBounds_toArray, List.set_cons_zero, List.set_cons_succ]
                        refine wpAnyH_take (i := 10) (oi := { dst := some 144, op := Go.Op.move (Go.Operand.tmp 8), type := 3, pos := "ref.go:146", after := #[{ on := 7, ground := Go.Ground.guard }], guard := some (7, true) }) (v := ?_) rfl (by kernel_rfl) (by kernel_rfl) (by kernel_rfl) (fun _ _ _ h => h) (Or.inl ⟨by rfl, ?_⟩) (by assumption) ?_
                        rotate_left
                        focus (intro W hSw; obtain ⟨hcW, hfW, hbW⟩ := hSw; go_simp; (try with_reducible rfl); done)
                        simp only [Act.put, List.setIfInBounds_toArray, List.set_cons_zero, List.set_cons_succ]
                        refine wpAnyH_take (i := 11) (oi := { dst := some 145, op := Go.Op.indexAddr 24 (Go.Operand.tmp 143) (Go.Operand.tmp 144), type := 0, pos := "ref.go:146", after := #[{ on := 9, ground := Go.Ground.data }, { on := 10, ground := Go.Ground.data }, { on := 7, ground := Go.Ground.guard }], guard := some (7, true) }) (v := ?_) rfl (by kernel_rfl) (by kernel_rfl) (by kernel_rfl) (fun _ _ _ h => h) (Or.inl ⟨by rfl, ?_⟩) (by assumption) ?_
                        rotate_left
                        focus (intro W hSw; obtain ⟨hcW, hfW, hbW⟩ := hSw; go_simp; (try with_reducible rfl); done)
                        simp only [Act.put, List.setIfInBounds_toArray, List.set_cons_zero, List.set_cons_succ]
                        refine wpAnyH_take (i := 12) (oi := { dst := some 146, op := Go.Op.fieldAddr 39 (Go.Operand.tmp 145) 0, type := 0, pos := "ref.go:146", after := #[{ on := 11, ground := Go.Ground.data }, { on := 7, ground := Go.Ground.guard }], guard := some (7, true) }) (v := ?_) rfl (by kernel_rfl) (by kernel_rfl) (by kernel_rfl) (fun _ _ _ h => h) (Or.inl ⟨by rfl, ?_⟩) (by assumption) ?_
                        rotate_left
                        focus (intro W hSw; obtain ⟨hcW, hfW, hbW⟩ := hSw; go_simp; (try with_reducible rfl); done)
                        simp only [Act.put, List.setIfInBounds_toArray, List.set_cons_zero, List.set_cons_succ]
                        refine wpAnyH_take (i := 13) (oi := { dst := some 147, op := Go.Op.load 3 (Go.Operand.tmp 146), type := 3, pos := "ref.go:146", after := #[{ on := 12, ground := Go.Ground.data }, { on := 7, ground := Go.Ground.guard }], guard := some (7, true) }) (v := ?_) rfl (by kernel_rfl) (by kernel_rfl) (by kernel_rfl) (fun _ _ _ h => h) (Or.inl ⟨by rfl, ?_⟩) (by assumption) ?_
                        rotate_left
                        focus (intro W hSw; obtain ⟨hcW, hfW, hbW⟩ := hSw; go_simp; (try with_reducible rfl); done)
                        simp only [Act.put, List.setIfInBounds_toArray, List.set_cons_zero, List.set_cons_succ]
                        by_cases s14 : op2 = 7
                        · skip
                          refine wpAnyH_take (i := 14) (oi := { dst := some 148, op := Go.Op.binOp Go.BinOp.eql 3 (Go.Operand.tmp 147) (Go.Operand.const (Go.Value.int Go.IntKind.i64 7)) 3, type := 4, pos := "ref.go:146", after := #[{ on := 13, ground := Go.Ground.data }, { on := 7, ground := Go.Ground.guard }], guard := some (7, true) }) (v := ?_) rfl (by kernel_rfl) (by kernel_rfl) (by kernel_rfl) (fun _ _ _ h => h) (Or.inl ⟨by rfl, ?_⟩) (by assumption) ?_
                          rotate_left
                          focus (intro W hSw; obtain ⟨hcW, hfW, hbW⟩ := hSw; go_simp; (try with_reducible rfl); done)
                          simp only [Act.put, List.setIfInBounds_toArray, List.set_cons_zero, List.set_cons_succ]
                          refine wpAnyH_take (i := 15) (oi := { dst := some 149, op := Go.Op.pick (Go.Operand.tmp 141) (Go.Operand.tmp 148) (Go.Operand.const (Go.Value.bool false)), type := 4, pos := "ref.go:146", after := #[{ on := 7, ground := Go.Ground.data }, { on := 14, ground := Go.Ground.data }], guard := none }) (v := ?_) rfl (by kernel_rfl) (by kernel_rfl) (by kernel_rfl) (fun _ _ _ h => h) (Or.inl ⟨by rfl, ?_⟩) (by assumption) ?_
                          rotate_left
                          focus (intro W hSw; obtain ⟨hcW, hfW, hbW⟩ := hSw; go_simp; (try with_reducible rfl); done)
                          simp only [Act.put, List.setIfInBounds_toArray, List.set_cons_zero, List.set_cons_succ]
                          refine wpAnyH_take (i := 16) (oi := { dst := some 150, op := Go.Op.move (Go.Operand.tmp 149), type := 4, pos := "ref.go:146", after := #[{ on := 15, ground := Go.Ground.data }, { on := 7, ground := Go.Ground.chain }], guard := none }) (v := ?_) rfl (by kernel_rfl) (by kernel_rfl) (by kernel_rfl) (fun _ _ _ h => h) (Or.inl ⟨by rfl, ?_⟩) (by assumption) ?_
                          rotate_left
                          focus (intro W hSw; obtain ⟨hcW, hfW, hbW⟩ := hSw; go_simp; (try with_reducible rfl); done)
                          simp only [Act.put, List.setIfInBounds_toArray, List.set_cons_zero, List.set_cons_succ]
                          refine wpAnyH_take (i := 17) (oi := { dst := some 151, op := Go.Op.fieldAddr 28 (Go.Operand.tmp 1) 7, type := 0, pos := "ref.go:146", after := #[{ on := 16, ground := Go.Ground.guard }], guard := some (16, true) }) (v := ?_) rfl (by kernel_rfl) (by kernel_rfl) (by kernel_rfl) (fun _ _ _ h => h) (Or.inl ⟨by rfl, ?_⟩) (by assumption) ?_
                          rotate_left
                          focus (intro W hSw; obtain ⟨hcW, hfW, hbW⟩ := hSw; go_simp; (try with_reducible rfl); done)
                          simp only [Act.put, List.setIfInBounds_toArray, List.set_cons_zero, List.set_cons_succ]
                          refine wpAnyH_take (i := 18) (oi := { dst := some 152, op := Go.Op.load 24 (Go.Operand.tmp 151), type := 24, pos := "ref.go:146", after := #[{ on := 17, ground := Go.Ground.data }, { on := 16, ground := Go.Ground.guard }], guard := some (16, true) }) (v := ?_) rfl (by kernel_rfl) (by kernel_rfl) (by kernel_rfl) (fun _ _ _ h => h) (Or.inl ⟨by rfl, ?_⟩) (by assumption) ?_
                          rotate_left
                          focus (intro W hSw; obtain ⟨hcW, hfW, hbW⟩ := hSw; go_simp; (try with_reducible rfl); done)
                          simp only [Act.put, List.setIfInBounds_toArray, List.set_cons_zero, List.set_cons_succ]
                          refine wpAnyH_take (i := 19) (oi := { dst := some 153, op := Go.Op.move (Go.Operand.tmp 7), type := 3, pos := "ref.go:146", after := #[{ on := 16, ground := Go.Ground.guard }], guard := some (16, true) }) (v := ?_) rfl (by kernel_rfl) (by kernel_rfl) (by kernel_rfl) (fun _ _ _ h => h) (Or.inl ⟨by rfl, ?_⟩) (by assumption) ?_
                          rotate_left
                          focus (intro W hSw; obtain ⟨hcW, hfW, hbW⟩ := hSw; go_simp; (try with_reducible rfl); done)
                          simp only [Act.put, List.setIfInBounds_toArray, List.set_cons_zero, List.set_cons_succ]
                          refine wpAnyH_take (i := 20) (oi := { dst := some 154, op := Go.Op.indexAddr 24 (Go.Operand.tmp 152) (Go.Operand.tmp 153), type := 0, pos := "ref.go:146", after := #[{ on := 18, ground := Go.Ground.data }, { on := 19, ground := Go.Ground.data }, { on := 16, ground := Go.Ground.guard }], guard := some (16, true) }) (v := ?_) rfl (by kernel_rfl) (by kernel_rfl) (by kernel_rfl) (fun _ _ _ h => h) (Or.inl ⟨by rfl, ?_⟩) (by assumption) ?_
                          rotate_left
                          focus (intro W hSw; obtain ⟨hcW, hfW, hbW⟩ := hSw; go_simp; (try with_reducible rfl); done)
                          simp only [Act.put, List.setIfInBounds_toArray, List.set_cons_zero, List.set_cons_succ]
                          refine wpAnyH_take (i := 21) (oi := { dst := some 155, op := Go.Op.fieldAddr 39 (Go.Operand.tmp 154) 1, type := 0, pos := "ref.go:146", after := #[{ on := 20, ground := Go.Ground.data }, { on := 16, ground := Go.Ground.guard }], guard := some (16, true) }) (v := ?_) rfl (by kernel_rfl) (by kernel_rfl) (by kernel_rfl) (fun _ _ _ h => h) (Or.inl ⟨by rfl, ?_⟩) (by assumption) ?_
                          rotate_left
                          focus (intro W hSw; obtain ⟨hcW, hfW, hbW⟩ := hSw; go_simp; (try with_reducible rfl); done)
                          simp only [Act.put, List.setIfInBounds_toArray, List.set_cons_zero, List.set_cons_succ]
                          refine wpAnyH_take (i := 22) (oi := { dst := some 156, op := Go.Op.load 3 (Go.Operand.tmp 155), type := 3, pos := "ref.go:146", after := #[{ on := 21, ground := Go.Ground.data }, { on := 16, ground := Go.Ground.guard }], guard := some (16, true) }) (v := ?_) rfl (by kernel_rfl) (by kernel_rfl) (by kernel_rfl) (fun _ _ _ h => h) (Or.inl ⟨by rfl, ?_⟩) (by assumption) ?_
                          rotate_left
                          focus (intro W hSw; obtain ⟨hcW, hfW, hbW⟩ := hSw; go_simp; (try with_reducible rfl); done)
                          simp only [Act.put, List.setIfInBounds_toArray, List.set_cons_zero, List.set_cons_succ]
                          refine wpAnyH_take (i := 23) (oi := { dst := some 157, op := Go.Op.fieldAddr 28 (Go.Operand.tmp 1) 7, type := 0, pos := "ref.go:146", after := #[{ on := 16, ground := Go.Ground.guard }], guard := some (16, true) }) (v := ?_) rfl (by kernel_rfl) (by kernel_rfl) (by kernel_rfl) (fun _ _ _ h => h) (Or.inl ⟨by rfl, ?_⟩) (by assumption) ?_
                          rotate_left
                          focus (intro W hSw; obtain ⟨hcW, hfW, hbW⟩ := hSw; go_simp; (try with_reducible rfl); done)
                          simp only [Act.put, List.setIfInBounds_toArray, List.set_cons_zero, List.set_cons_succ]
                          refine wpAnyH_take (i := 24) (oi := { dst := some 158, op := Go.Op.load 24 (Go.Operand.tmp 157), type := 24, pos := "ref.go:146", after := #[{ on := 23, ground := Go.Ground.data }, { on := 16, ground := Go.Ground.guard }], guard := some (16, true) }) (v := ?_) rfl (by kernel_rfl) (by kernel_rfl) (by kernel_rfl) (fun _ _ _ h => h) (Or.inl ⟨by rfl, ?_⟩) (by assumption) ?_
                          rotate_left
                          focus (intro W hSw; obtain ⟨hcW, hfW, hbW⟩ := hSw; go_simp; (try with_reducible rfl); done)
                          simp only [Act.put, List.setIfInBounds_toArray, List.set_cons_zero, List.set_cons_succ]
                          refine wpAnyH_take (i := 25) (oi := { dst := some 159, op := Go.Op.move (Go.Operand.tmp 8), type := 3, pos := "ref.go:146", after := #[{ on := 16, ground := Go.Ground.guard }], guard := some (16, true) }) (v := ?_) rfl (by kernel_rfl) (by kernel_rfl) (by kernel_rfl) (fun _ _ _ h => h) (Or.inl ⟨by rfl, ?_⟩) (by assumption) ?_
                          rotate_left
                          focus (intro W hSw; obtain ⟨hcW, hfW, hbW⟩ := hSw; go_simp; (try with_reducible rfl); done)
                          simp only [Act.put, List.setIfInBounds_toArray, List.set_cons_zero, List.set_cons_succ]
                          refine wpAnyH_take (i := 26) (oi := { dst := some 160, op := Go.Op.indexAddr 24 (Go.Operand.tmp 158) (Go.Operand.tmp 159), type := 0, pos := "ref.go:146", after := #[{ on := 24, ground := Go.Ground.data }, { on := 25, ground := Go.Ground.data }, { on := 16, ground := Go.Ground.guard }], guard := some (16, true) }) (v := ?_) rfl (by kernel_rfl) (by kernel_rfl) (by kernel_rfl) (fun _ _ _ h => h) (Or.inl ⟨by rfl, ?_⟩) (by assumption) ?_
                          rotate_left
                          focus (intro W hSw; obtain ⟨hcW, hfW, hbW⟩ := hSw; go_simp; (try with_reducible rfl); done)
                          simp only [Act.put, List.setIfInBounds_toArray, List.set_cons_zero, List.set_cons_succ]
                          refine wpAnyH_take (i := 27) (oi := { dst := some 161, op := Go.Op.fieldAddr 39 (Go.Operand.tmp 160) 1, type := 0, pos := "ref.go:146", after := #[{ on := 26, ground := Go.Ground.data }, { on := 16, ground := Go.Ground.guard }], guard := some (16, true) }) (v := ?_) rfl (by kernel_rfl) (by kernel_rfl) (by kernel_rfl) (fun _ _ _ h => h) (Or.inl ⟨by rfl, ?_⟩) (by assumption) ?_
                          rotate_left
                          focus (intro W hSw; obtain ⟨hcW, hfW, hbW⟩ := hSw; go_simp; (try with_reducible rfl); done)
                          simp only [Act.put, List.setIfInBounds_toArray, List.set_cons_zero, List.set_cons_succ]
                          refine wpAnyH_take (i := 28) (oi := { dst := some 162, op := Go.Op.load 3 (Go.Operand.tmp 161), type := 3, pos := "ref.go:146", after := #[{ on := 27, ground := Go.Ground.data }, { on := 16, ground := Go.Ground.guard }], guard := some (16, true) }) (v := ?_) rfl (by kernel_rfl) (by kernel_rfl) (by kernel_rfl) (fun _ _ _ h => h) (Or.inl ⟨by rfl, ?_⟩) (by assumption) ?_
                          rotate_left
                          focus (intro W hSw; obtain ⟨hcW, hfW, hbW⟩ := hSw; go_simp; (try with_reducible rfl); done)
                          simp only [Act.put, List.setIfInBounds_toArray, List.set_cons_zero, List.set_cons_succ]
                          by_cases s29 : nn = nn2
                          · skip
                            refine wpAnyH_take (i := 29) (oi := { dst := some 163, op := Go.Op.binOp Go.BinOp.eql 3 (Go.Operand.tmp 156) (Go.Operand.tmp 162) 3, type := 4, pos := "ref.go:146", after := #[{ on := 22, ground := Go.Ground.data }, { on := 28, ground := Go.Ground.data }, { on := 16, ground := Go.Ground.guard }], guard := some (16, true) }) (v := ?_) rfl (by kernel_rfl) (by kernel_rfl) (by kernel_rfl) (fun _ _ _ h => h) (Or.inl ⟨by rfl, ?_⟩) (by assumption) ?_
                            rotate_left
                            focus (intro W hSw; obtain ⟨hcW, hfW, hbW⟩ := hSw; go_simp; (try with_reducible rfl); done)
                            simp only [Act.put, List.setIfInBounds_toArray, List.set_cons_zero, List.set_cons_succ]
                            refine wpAnyH_take (i := 30) (oi := { dst := some 164, op := Go.Op.pick (Go.Operand.tmp 150) (Go.Operand.tmp 163) (Go.Operand.const (Go.Value.bool false)), type := 4, pos := "ref.go:146", after := #[{ on := 16, ground := Go.Ground.data }, { on := 29, ground := Go.Ground.data }], guard := none }) (v := ?_) rfl (by kernel_rfl) (by kernel_rfl) (by kernel_rfl) (fun _ _ _ h => h) (Or.inl ⟨by rfl, ?_⟩) (by assumption) ?_
                            rotate_left
                            focus (intro W hSw; obtain ⟨hcW, hfW, hbW⟩ := hSw; go_simp; (try with_reducible rfl); done)
                            simp only [Act.put, List.setIfInBounds_toArray, List.set_cons_zero, List.set_cons_succ]
                            refine wpAnyH_done (by kernel_rfl) ?_ _
                            have hpz := Past.below (Past.bel (by assumption : Past wr _)) hp
                            go_wp2
                            go_ret
                            refine ⟨?_, below_then HBX.out (Nat.le_of_lt hbs) hpz.bel⟩
                            rw [show CN = 1 from HN6K.out q hlq ⟨s6, s14, s29⟩]; rfl
                          · skip
                            have s29b : (nn == nn2) = false := by simpa using s29
                            refine wpAnyH_take (i := 29) (oi := { dst := some 163, op := Go.Op.binOp Go.BinOp.eql 3 (Go.Operand.tmp 156) (Go.Operand.tmp 162) 3, type := 4, pos := "ref.go:146", after := #[{ on := 22, ground := Go.Ground.data }, { on := 28, ground := Go.Ground.data }, { on := 16, ground := Go.Ground.guard }], guard := some (16, true) }) (v := ?_) rfl (by kernel_rfl) (by kernel_rfl) (by kernel_rfl) (fun _ _ _ h => h) (Or.inl ⟨by rfl, ?_⟩) (by assumption) ?_
                            rotate_left
                            focus (intro W hSw; obtain ⟨hcW, hfW, hbW⟩ := hSw; go_simp; (try with_reducible rfl); done)
                            simp only [Act.put, List.setIfInBounds_toArray, List.set_cons_zero, List.set_cons_succ]
                            refine wpAnyH_take (i := 30) (oi := { dst := some 164, op := Go.Op.pick (Go.Operand.tmp 150) (Go.Operand.tmp 163) (Go.Operand.const (Go.Value.bool false)), type := 4, pos := "ref.go:146", after := #[{ on := 16, ground := Go.Ground.data }, { on := 29, ground := Go.Ground.data }], guard := none }) (v := ?_) rfl (by kernel_rfl) (by kernel_rfl) (by kernel_rfl) (fun _ _ _ h => h) (Or.inl ⟨by rfl, ?_⟩) (by assumption) ?_
                            rotate_left
                            focus (intro W hSw; obtain ⟨hcW, hfW, hbW⟩ := hSw; go_simp; (try with_reducible rfl); done)
                            simp only [Act.put, List.setIfInBounds_toArray, List.set_cons_zero, List.set_cons_succ]
                            refine wpAnyH_done (by kernel_rfl) ?_ _
                            have hpz := Past.below (Past.bel (by assumption : Past wr _)) hp
                            have hno : ¬ twice ⟨op, nn, ⟨dk, dn, dw⟩, l, qq⟩ ⟨op2, nn2, d2, l2, q2⟩ := fun hh => s29 hh.2.2
                            have hnq2 := HOKQ2.out hno
                            have HNQ := Lib.hid hnq2
                            clear hno hnq2
                            go_wp2
                            go_roundw
                            case rel => first | exact ⟨q + 1, by omega, by go_num, HNQ.out, hpz⟩ | exact ⟨q + 1, by omega, by omega, HNQ.out⟩
                            case measure => simp [intOf]; omega
                        · skip
                          have s14b : (op2 == 7) = false := by simpa using s14
                          refine wpAnyH_take (i := 14) (oi := { dst := some 148, op := Go.Op.binOp Go.BinOp.eql 3 (Go.Operand.tmp 147) (Go.Operand.const (Go.Value.int Go.IntKind.i64 7)) 3, type := 4, pos := "ref.go:146", after := #[{ on := 13, ground := Go.Ground.data }, { on := 7, ground := Go.Ground.guard }], guard := some (7, true) }) (v := ?_) rfl (by kernel_rfl) (by kernel_rfl) (by kernel_rfl) (fun _ _ _ h => h) (Or.inl ⟨by rfl, ?_⟩) (by assumption) ?_
                          rotate_left
                          focus (intro W hSw; obtain ⟨hcW, hfW, hbW⟩ := hSw; go_simp; (try with_reducible rfl); done)
                          simp only [Act.put, List.setIfInBounds_toArray, List.set_cons_zero, List.set_cons_succ]
                          refine wpAnyH_take (i := 15) (oi := { dst := some 149, op := Go.Op.pick (Go.Operand.tmp 141) (Go.Operand.tmp 148) (Go.Operand.const (Go.Value.bool false)), type := 4, pos := "ref.go:146", after := #[{ on := 7, ground := Go.Ground.data }, { on := 14, ground := Go.Ground.data }], guard := none }) (v := ?_) rfl (by kernel_rfl) (by kernel_rfl) (by kernel_rfl) (fun _ _ _ h => h) (Or.inl ⟨by rfl, ?_⟩) (by assumption) ?_
                          rotate_left
                          focus (intro W hSw; obtain ⟨hcW, hfW, hbW⟩ := hSw; go_simp; (try with_reducible rfl); done)
                          simp only [Act.put, List.setIfInBounds_toArray, List.set_cons_zero, List.set_cons_succ]
                          refine wpAnyH_take (i := 16) (oi := { dst := some 150, op := Go.Op.move (Go.Operand.tmp 149), type := 4, pos := "ref.go:146", after := #[{ on := 15, ground := Go.Ground.data }, { on := 7, ground := Go.Ground.chain }], guard := none }) (v := ?_) rfl (by kernel_rfl) (by kernel_rfl) (by kernel_rfl) (fun _ _ _ h => h) (Or.inl ⟨by rfl, ?_⟩) (by assumption) ?_
                          rotate_left
                          focus (intro W hSw; obtain ⟨hcW, hfW, hbW⟩ := hSw; go_simp; (try with_reducible rfl); done)
                          simp only [Act.put, List.setIfInBounds_toArray, List.set_cons_zero, List.set_cons_succ]
                          refine wpAnyH_take (i := 17) (oi := { dst := some 151, op := Go.Op.fieldAddr 28 (Go.Operand.tmp 1) 7, type := 0, pos := "ref.go:146", after := #[{ on := 16, ground := Go.Ground.guard }], guard := some (16, true) }) (v := undef) rfl (by kernel_rfl) (by kernel_rfl) (by kernel_rfl) (fun _ _ _ h => h) (Or.inr ⟨by rfl, rfl⟩) (by assumption) ?_
                          simp only [Act.put, List.setIfInBounds_toArray, List.set_cons_zero, List.set_cons_succ]
                          refine wpAnyH_take (i := 18) (oi := { dst := some 152, op := Go.Op.load 24 (Go.Operand.tmp 151), type := 24, pos := "ref.go:146", after := #[{ on := 17, ground := Go.Ground.data }, { on := 16, ground := Go.Ground.guard }], guard := some (16, true) }) (v := undef) rfl (by kernel_rfl) (by kernel_rfl) (by kernel_rfl) (fun _ _ _ h => h) (Or.inr ⟨by rfl, rfl⟩) (by assumption) ?_
                          simp only [Act.put, List.setIfInBounds_toArray, List.set_cons_zero, List.set_cons_succ]
                          refine wpAnyH_take (i := 19) (oi := { dst := some 153, op := Go.Op.move (Go.Operand.tmp 7), type := 3, pos := "ref.go:146", after := #[{ on := 16, ground := Go.Ground.guard }], guard := some (16, true) }) (v := undef) rfl (by kernel_rfl) (by kernel_rfl) (by kernel_rfl) (fun _ _ _ h => h) (Or.inr ⟨by rfl, rfl⟩) (by assumption) ?_
                          simp only [Act.put, List.setIfInBounds_toArray, List.set_cons_zero, List.set_cons_succ]
                          refine wpAnyH_take (i := 20) (oi := { dst := some 154, op := Go.Op.indexAddr 24 (Go.Operand.tmp 152) (Go.Operand.tmp 153), type := 0, pos := "ref.go:146", after := #[{ on := 18, ground := Go.Ground.data }, { on := 19, ground := Go.Ground.data }, { on := 16, ground := Go.Ground.guard }], guard := some (16, true) }) (v := undef) rfl (by kernel_rfl) (by kernel_rfl) (by kernel_rfl) (fun _ _ _ h => h) (Or.inr ⟨by rfl, rfl⟩) (by assumption) ?_
                          simp only [Act.put, List.setIfInBounds_toArray, List.set_cons_zero, List.set_cons_succ]
                          refine wpAnyH_take (i := 21) (oi := { dst := some 155, op := Go.Op.fieldAddr 39 (Go.Operand.tmp 154) 1, type := 0, pos := "ref.go:146", after := #[{ on := 20, ground := Go.Ground.data }, { on := 16, ground := Go.Ground.guard }], guard := some (16, true) }) (v := undef) rfl (by kernel_rfl) (by kernel_rfl) (by kernel_rfl) (fun _ _ _ h => h) (Or.inr ⟨by rfl, rfl⟩) (by assumption) ?_
                          simp only [Act.put, List.setIfInBounds_toArray, List.set_cons_zero, List.set_cons_succ]
                          refine wpAnyH_take (i := 22) (oi := { dst := some 156, op := Go.Op.load 3 (Go.Operand.tmp 155), type := 3, pos := "ref.go:146", after := #[{ on := 21, ground := Go.Ground.data }, { on := 16, ground := Go.Ground.guard }], guard := some (16, true) }) (v := undef) rfl (by kernel_rfl) (by kernel_rfl) (by kernel_rfl) (fun _ _ _ h => h) (Or.inr ⟨by rfl, rfl⟩) (by assumption) ?_
                          simp only [Act.put, List.setIfInBounds_toArray, List.set_cons_zero, List.set_cons_succ]
                          refine wpAnyH_take (i := 23) (oi := { dst := some 157, op := Go.Op.fieldAddr 28 (Go.Operand.tmp 1) 7, type := 0, pos := "ref.go:146", after := #[{ on := 16, ground := Go.Ground.guard }], guard := some (16, true) }) (v := undef) rfl (by kernel_rfl) (by kernel_rfl) (by kernel_rfl) (fun _ _ _ h => h) (Or.inr ⟨by rfl, rfl⟩) (by assumption) ?_
                          simp only [Act.put, List.setIfInBounds_toArray, List.set_cons_zero, List.set_cons_succ]
                          refine wpAnyH_take (i := 24) (oi := { dst := some 158, op := Go.Op.load 24 (Go.Operand.tmp 157), type := 24, pos := "ref.go:146", after := #[{ on := 23, ground := Go.Ground.data }, { on := 16, ground := Go.Ground.guard }], guard := some (16, true) }) (v := undef) rfl (by kernel_rfl) (by kernel_rfl) (by kernel_rfl) (fun _ _ _ h => h) (Or.inr ⟨by rfl, rfl⟩) (by assumption) ?_
                          simp only [Act.put, List.setIfInBounds_toArray, List.set_cons_zero, List.set_cons_succ]
                          refine wpAnyH_take (i := 25) (oi := { dst := some 159, op := Go.Op.move (Go.Operand.tmp 8), type := 3, pos := "ref.go:146", after := #[{ on := 16, ground := Go.Ground.guard }], guard := some (16, true) }) (v := undef) rfl (by kernel_rfl) (by kernel_rfl) (by kernel_rfl) (fun _ _ _ h => h) (Or.inr ⟨by rfl, rfl⟩) (by assumption) ?_
                          simp only [Act.put, List.setIfInBounds_toArray, List.set_cons_zero, List.set_cons_succ]
                          refine wpAnyH_take (i := 26) (oi := { dst := some 160, op := Go.Op.indexAddr 24 (Go.Operand.tmp 158) (Go.Operand.tmp 159), type := 0, pos := "ref.go:146", after := #[{ on := 24, ground := Go.Ground.data }, { on := 25, ground := Go.Ground.data }, { on := 16, ground := Go.Ground.guard }], guard := some (16, true) }) (v := undef) rfl (by kernel_rfl) (by kernel_rfl) (by kernel_rfl) (fun _ _ _ h => h) (Or.inr ⟨by rfl, rfl⟩) (by assumption) ?_
                          simp only [Act.put, List.setIfInBounds_toArray, List.set_cons_zero, List.set_cons_succ]
                          refine wpAnyH_take (i := 27) (oi := { dst := some 161, op := Go.Op.fieldAddr 39 (Go.Operand.tmp 160) 1, type := 0, pos := "ref.go:146", after := #[{ on := 26, ground := Go.Ground.data }, { on := 16, ground := Go.Ground.guard }], guard := some (16, true) }) (v := undef) rfl (by kernel_rfl) (by kernel_rfl) (by kernel_rfl) (fun _ _ _ h => h) (Or.inr ⟨by rfl, rfl⟩) (by assumption) ?_
                          simp only [Act.put, List.setIfInBounds_toArray, List.set_cons_zero, List.set_cons_succ]
                          refine wpAnyH_take (i := 28) (oi := { dst := some 162, op := Go.Op.load 3 (Go.Operand.tmp 161), type := 3, pos := "ref.go:146", after := #[{ on := 27, ground := Go.Ground.data }, { on := 16, ground := Go.Ground.guard }], guard := some (16, true) }) (v := undef) rfl (by kernel_rfl) (by kernel_rfl) (by kernel_rfl) (fun _ _ _ h => h) (Or.inr ⟨by rfl, rfl⟩) (by assumption) ?_
                          simp only [Act.put, List.setIfInBounds_toArray, List.set_cons_zero, List.set_cons_succ]
                          refine wpAnyH_take (i := 29) (oi := { dst := some 163, op := Go.Op.binOp Go.BinOp.eql 3 (Go.Operand.tmp 156) (Go.Operand.tmp 162) 3, type := 4, pos := "ref.go:146", after := #[{ on := 22, ground := Go.Ground.data }, { on := 28, ground := Go.Ground.data }, { on := 16, ground := Go.Ground.guard }], guard := some (16, true) }) (v := undef) rfl (by kernel_rfl) (by kernel_rfl) (by kernel_rfl) (fun _ _ _ h => h) (Or.inr ⟨by rfl, rfl⟩) (by assumption) ?_
                          simp only [Act.put, List.setIfInBounds_toArray, List.set_cons_zero, List.set_cons_succ]
                          refine wpAnyH_take (i := 30) (oi := { dst := some 164, op := Go.Op.pick (Go.Operand.tmp 150) (Go.Operand.tmp 163) (Go.Operand.const (Go.Value.bool false)), type := 4, pos := "ref.go:146", after := #[{ on := 16, ground := Go.Ground.data }, { on := 29, ground := Go.Ground.data }], guard := none }) (v := ?_) rfl (by kernel_rfl) (by kernel_rfl) (by kernel_rfl) (fun _ _ _ h => h) (Or.inl ⟨by rfl, ?_⟩) (by assumption) ?_
                          rotate_left
                          focus (intro W hSw; obtain ⟨hcW, hfW, hbW⟩ := hSw; go_simp; (try with_reducible rfl); done)
                          simp only [Act.put, List.setIfInBounds_toArray, List.set_cons_zero, List.set_cons_succ]
                          refine wpAnyH_done (by kernel_rfl) ?_ _
                          have hpz := Past.below (Past.bel (by assumption : Past wr _)) hp
                          have hno : ¬ twice ⟨op, nn, ⟨dk, dn, dw⟩, l, qq⟩ ⟨op2, nn2, d2, l2, q2⟩ := fun hh => s14 hh.2.1
                          have hnq2 := HOKQ2.out hno
                          have HNQ := Lib.hid hnq2
                          clear hno hnq2
                          go_wp2
                          go_roundw
                          case rel => first | exact ⟨q + 1, by omega, by go_num, HNQ.out, hpz⟩ | exact ⟨q + 1, by omega, by omega, HNQ.out⟩
                          case measure => simp [intOf]; omega
                      · skip
                        have s6b : (op == 7) = false := by simpa using s6
                        refine wpAnyH_take (i := 6) (oi := { dst := some 140, op := Go.Op.binOp Go.BinOp.eql 3 (Go.Operand.tmp 139) (Go.Operand.const (Go.Value.int Go.IntKind.i64 7)) 3, type := 4, pos := "ref.go:146", after := #[{ on := 5, ground := Go.Ground.data }], guard := none }) (v := ?_) rfl (by kernel_rfl) (by kernel_rfl) (by kernel_rfl) (fun _ _ _ h => h) (Or.inl ⟨by rfl, ?_⟩) (by assumption) ?_
                        rotate_left
                        focus (intro W hSw; obtain ⟨hcW, hfW, hbW⟩ := hSw; go_simp; (try with_reducible rfl); done)
                        simp only [Act.put, List.setIfInBounds_toArray, List.set_cons_zero, List.set_cons_succ]
                        refine wpAnyH_take (i := 7) (oi := { dst := some 141, op := Go.Op.move (Go.Operand.tmp 140), type := 4, pos := "ref.go:146", after := #[{ on := 6, ground := Go.Ground.data }], guard := none }) (v := ?_) rfl (by kernel_rfl) (by kernel_rfl) (by kernel_rfl) (fun _ _ _ h => h) (Or.inl ⟨by rfl, ?_⟩) (by assumption) ?_
                        rotate_left
                        focus (intro W hSw; obtain ⟨hcW, hfW, hbW⟩ := hSw; go_simp; (try with_reducible rfl); done)
                        simp only [Act.put, List.setIfInBounds_toArray, List.set_cons_zero, List.set_cons_succ]
                        refine wpAnyH_take (i := 8) (oi := { dst := some 142, op := Go.Op.fieldAddr 28 (Go.Operand.tmp 1) 7, type := 0, pos := "ref.go:146", after := #[{ on := 7, ground := Go.Ground.guard }], guard := some (7, true) }) (v := undef) rfl (by kernel_rfl) (by kernel_rfl) (by kernel_rfl) (fun _ _ _ h => h) (Or.inr ⟨by rfl, rfl⟩) (by assumption) ?_
                        simp only [Act.put, List.setIfInBounds_toArray, List.set_cons_zero, List.set_cons_succ]
                        refine wpAnyH_take (i := 9) (oi := { dst := some 143, op := Go.Op.load 24 (Go.Operand.tmp 142), type := 24, pos := "ref.go:146", after := #[{ on := 8, ground := Go.Ground.data }, { on := 7, ground := Go.Ground.guard }], guard := some (7, true) }) (v := undef) rfl (by kernel_rfl) (by kernel_rfl) (by kernel_rfl) (fun _ _ _ h => h) (Or.inr ⟨by rfl, rfl⟩) (by assumption) ?_
                        simp only [Act.put, List.setIfInBounds_toArray, List.set_cons_zero, List.set_cons_succ]
                        refine wpAnyH_take (i := 10) (oi := { dst := some 144, op := Go.Op.move (Go.Operand.tmp 8), type := 3, pos := "ref.go:146", after := #[{ on := 7, ground := Go.Ground.guard }], guard := some (7, true) }) (v := undef) rfl (by kernel_rfl) (by kernel_rfl) (by kernel_rfl) (fun _ _ _ h => h) (Or.inr ⟨by rfl, rfl⟩) (by assumption) ?_
                        simp only [Act.put, List.setIfInBounds_toArray, List.set_cons_zero, List.set_cons_succ]
                        refine wpAnyH_take (i := 11) (oi := { dst := some 145, op := Go.Op.indexAddr 24 (Go.Operand.tmp 143) (Go.Operand.tmp 144), type := 0, pos := "ref.go:146", after := #[{ on := 9, ground := Go.Ground.data }, { on := 10, ground := Go.Ground.data }, { on := 7, ground := Go.Ground.guard }], guard := some (7, true) }) (v := undef) rfl (by kernel_rfl) (by kernel_rfl) (by kernel_rfl) (fun _ _ _ h => h) (Or.inr ⟨by rfl, rfl⟩) (by assumption) ?_
                        simp only [Act.put, List.setIfInBounds_toArray, List.set_cons_zero, List.set_cons_succ]
                        refine wpAnyH_take (i := 12) (oi := { dst := some 146, op := Go.Op.fieldAddr 39 (Go.Operand.tmp 145) 0, type := 0, pos := "ref.go:146", after := #[{ on := 11, ground := Go.Ground.data }, { on := 7, ground := Go.Ground.guard }], guard := some (7, true) }) (v := undef) rfl (by kernel_rfl) (by kernel_rfl) (by kernel_rfl) (fun _ _ _ h => h) (Or.inr ⟨by rfl, rfl⟩) (by assumption) ?_
                        simp only [Act.put, List.setIfInBounds_toArray, List.set_cons_zero, List.set_cons_succ]
                        refine wpAnyH_take (i := 13) (oi := { dst := some 147, op := Go.Op.load 3 (Go.Operand.tmp 146), type := 3, pos := "ref.go:146", after := #[{ on := 12, ground := Go.Ground.data }, { on := 7, ground := Go.Ground.guard }], guard := some (7, true) }) (v := undef) rfl (by kernel_rfl) (by kernel_rfl) (by kernel_rfl) (fun _ _ _ h => h) (Or.inr ⟨by rfl, rfl⟩) (by assumption) ?_
                        simp only [Act.put, List.setIfInBounds_toArray, List.set_cons_zero, List.set_cons_succ]
                        refine wpAnyH_take (i := 14) (oi := { dst := some 148, op := Go.Op.binOp Go.BinOp.eql 3 (Go.Operand.tmp 147) (Go.Operand.const (Go.Value.int Go.IntKind.i64 7)) 3, type := 4, pos := "ref.go:146", after := #[{ on := 13, ground := Go.Ground.data }, { on := 7, ground := Go.Ground.guard }], guard := some (7, true) }) (v := undef) rfl (by kernel_rfl) (by kernel_rfl) (by kernel_rfl) (fun _ _ _ h => h) (Or.inr ⟨by rfl, rfl⟩) (by assumption) ?_
                        simp only [Act.put, List.setIfInBounds_toArray, List.set_cons_zero, List.set_cons_succ]
                        refine wpAnyH_take (i := 15) (oi := { dst := some 149, op := Go.Op.pick (Go.Operand.tmp 141) (Go.Operand.tmp 148) (Go.Operand.const (Go.Value.bool false)), type := 4, pos := "ref.go:146", after := #[{ on := 7, ground := Go.Ground.data }, { on := 14, ground := Go.Ground.data }], guard := none }) (v := ?_) rfl (by kernel_rfl) (by kernel_rfl) (by kernel_rfl) (fun _ _ _ h => h) (Or.inl ⟨by rfl, ?_⟩) (by assumption) ?_
                        rotate_left
                        focus (intro W hSw; obtain ⟨hcW, hfW, hbW⟩ := hSw; go_simp; (try with_reducible rfl); done)
                        simp only [Act.put, List.setIfInBounds_toArray, List.set_cons_zero, List.set_cons_succ]
                        refine wpAnyH_take (i := 16) (oi := { dst := some 150, op := Go.Op.move (Go.Operand.tmp 149), type := 4, pos := "ref.go:146", after := #[{ on := 15, ground := Go.Ground.data }, { on := 7, ground := Go.Ground.chain }], guard := none }) (v := ?_) rfl (by kernel_rfl) (by kernel_rfl) (by kernel_rfl) (fun _ _ _ h => h) (Or.inl ⟨by rfl, ?_⟩) (by assumption) ?_
                        rotate_left
                        focus (intro W hSw; obtain ⟨hcW, hfW, hbW⟩ := hSw; go_simp; (try with_reducible rfl); done)
                        simp only [Act.put, List.setIfInBounds_toArray, List.set_cons_zero, List.set_cons_succ]
                        refine wpAnyH_take (i := 17) (oi := { dst := some 151, op := Go.Op.fieldAddr 28 (Go.Operand.tmp 1) 7, type := 0, pos := "ref.go:146", after := #[{ on := 16, ground := Go.Ground.guard }], guard := some (16, true) }) (v := undef) rfl (by kernel_rfl) (by kernel_rfl) (by kernel_rfl) (fun _ _ _ h => h) (Or.inr ⟨by rfl, rfl⟩) (by assumption) ?_
                        simp only [Act.put, List.setIfInBounds_toArray, List.set_cons_zero, List.set_cons_succ]
                        refine wpAnyH_take (i := 18) (oi := { dst := some 152, op := Go.Op.load 24 (Go.Operand.tmp 151), type := 24, pos := "ref.go:146", after := #[{ on := 17, ground := Go.Ground.data }, { on := 16, ground := Go.Ground.guard }], guard := some (16, true) }) (v := undef) rfl (by kernel_rfl) (by kernel_rfl) (by kernel_rfl) (fun _ _ _ h => h) (Or.inr ⟨by rfl, rfl⟩) (by assumption) ?_
                        simp only [Act.put, List.setIfInBounds_toArray, List.set_cons_zero, List.set_cons_succ]
                        refine wpAnyH_take (i := 19) (oi := { dst := some 153, op := Go.Op.move (Go.Operand.tmp 7), type := 3, pos := "ref.go:146", after := #[{ on := 16, ground := Go.Ground.guard }], guard := some (16, true) }) (v := undef) rfl (by kernel_rfl) (by kernel_rfl) (by kernel_rfl) (fun _ _ _ h => h) (Or.inr ⟨by rfl, rfl⟩) (by assumption) ?_
                        simp only [Act.put, List.setIfInBounds_toArray, List.set_cons_zero, List.set_cons_succ]
                        refine wpAnyH_take (i := 20) (oi := { dst := some 154, op := Go.Op.indexAddr 24 (Go.Operand.tmp 152) (Go.Operand.tmp 153), type := 0, pos := "ref.go:146", after := #[{ on := 18, ground := Go.Ground.data }, { on := 19, ground := Go.Ground.data }, { on := 16, ground := Go.Ground.guard }], guard := some (16, true) }) (v := undef) rfl (by kernel_rfl) (by kernel_rfl) (by kernel_rfl) (fun _ _ _ h => h) (Or.inr ⟨by rfl, rfl⟩) (by assumption) ?_
                        simp only [Act.put, List.setIfInBounds_toArray, List.set_cons_zero, List.set_cons_succ]
                        refine wpAnyH_take (i := 21) (oi := { dst := some 155, op := Go.Op.fieldAddr 39 (Go.Operand.tmp 154) 1, type := 0, pos := "ref.go:146", after := #[{ on := 20, ground := Go.Ground.data }, { on := 16, ground := Go.Ground.guard }], guard := some (16, true) }) (v := undef) rfl (by kernel_rfl) (by kernel_rfl) (by kernel_rfl) (fun _ _ _ h => h) (Or.inr ⟨by rfl, rfl⟩) (by assumption) ?_
                        simp only [Act.put, List.setIfInBounds_toArray, List.set_cons_zero, List.set_cons_succ]
                        refine wpAnyH_take (i := 22) (oi := { dst := some 156, op := Go.Op.load 3 (Go.Operand.tmp 155), type := 3, pos := "ref.go:146", after := #[{ on := 21, ground := Go.Ground.data }, { on := 16, ground := Go.Ground.guard }], guard := some (16, true) }) (v := undef) rfl (by kernel_rfl) (by kernel_rfl) (by kernel_rfl) (fun _ _ _ h => h) (Or.inr ⟨by rfl, rfl⟩) (by assumption) ?_
                        simp only [Act.put, List.setIfInBounds_toArray, List.set_cons_zero, List.set_cons_succ]
                        refine wpAnyH_take (i := 23) (oi := { dst := some 157, op := Go.Op.fieldAddr 28 (Go.Operand.tmp 1) 7, type := 0, pos := "ref.go:146", after := #[{ on := 16, ground := Go.Ground.guard }], guard := some (16, true) }) (v := undef) rfl (by kernel_rfl) (by kernel_rfl) (by kernel_rfl) (fun _ _ _ h => h) (Or.inr ⟨by rfl, rfl⟩) (by assumption) ?_
                        simp only [Act.put, List.setIfInBounds_toArray, List.set_cons_zero, List.set_cons_succ]
                        refine wpAnyH_take (i := 24) (oi := { dst := some 158, op := Go.Op.load 24 (Go.Operand.tmp 157), type := 24, pos := "ref.go:146", after := #[{ on := 23, ground := Go.Ground.data }, { on := 16, ground := Go.Ground.guard }], guard := some (16, true) }) (v := undef) rfl (by kernel_rfl) (by kernel_rfl) (by kernel_rfl) (fun _ _ _ h => h) (Or.inr ⟨by rfl, rfl⟩) (by assumption) ?_
                        simp only [Act.put, List.setIfInBounds_toArray, List.set_cons_zero, List.set_cons_succ]
                        refine wpAnyH_take (i := 25) (oi := { dst := some 159, op := Go.Op.move (Go.Operand.tmp 8), type := 3, pos := "ref.go:146", after := #[{ on := 16, ground := Go.Ground.guard }], guard := some (16, true) }) (v := undef) rfl (by kernel_rfl) (by kernel_rfl) (by kernel_rfl) (fun _ _ _ h => h) (Or.inr ⟨by rfl, rfl⟩) (by assumption) ?_
                        simp only [Act.put, List.setIfInBounds_toArray, List.set_cons_zero, List.set_cons_succ]
                        refine wpAnyH_take (i := 26) (oi := { dst := some 160, op := Go.Op.indexAddr 24 (Go.Operand.tmp 158) (Go.Operand.tmp 159), type := 0, pos := "ref.go:146", after := #[{ on := 24, ground := Go.Ground.data }, { on := 25, ground := Go.Ground.data }, { on := 16, ground := Go.Ground.guard }], guard := some (16, true) }) (v := undef) rfl (by kernel_rfl) (by kernel_rfl) (by kernel_rfl) (fun _ _ _ h => h) (Or.inr ⟨by rfl, rfl⟩) (by assumption) ?_
                        simp only [Act.put, List.setIfInBounds_toArray, List.set_cons_zero, List.set_cons_succ]
                        refine wpAnyH_take (i := 27) (oi := { dst := some 161, op := Go.Op.fieldAddr 39 (Go.Operand.tmp 160) 1, type := 0, pos := "ref.go:146", after := #[{ on := 26, ground := Go.Ground.data }, { on := 16, ground := Go.Ground.guard }], guard := some (16, true) }) (v := undef) rfl (by kernel_rfl) (by kernel_rfl) (by kernel_rfl) (fun _ _ _ h => h) (Or.inr ⟨by rfl, rfl⟩) (by assumption) ?_
                        simp only [Act.put, List.setIfInBounds_toArray, List.set_cons_zero, List.set_cons_succ]
                        refine wpAnyH_take (i := 28) (oi := { dst := some 162, op := Go.Op.load 3 (Go.Operand.tmp 161), type := 3, pos := "ref.go:146", after := #[{ on := 27, ground := Go.Ground.data }, { on := 16, ground := Go.Ground.guard }], guard := some (16, true) }) (v := undef) rfl (by kernel_rfl) (by kernel_rfl) (by kernel_rfl) (fun _ _ _ h => h) (Or.inr ⟨by rfl, rfl⟩) (by assumption) ?_
                        simp only [Act.put, List.setIfInBounds_toArray, List.set_cons_zero, List.set_cons_succ]
                        refine wpAnyH_take (i := 29) (oi := { dst := some 163, op := Go.Op.binOp Go.BinOp.eql 3 (Go.Operand.tmp 156) (Go.Operand.tmp 162) 3, type := 4, pos := "ref.go:146", after := #[{ on := 22, ground := Go.Ground.data }, { on := 28, ground := Go.Ground.data }, { on := 16, ground := Go.Ground.guard }], guard := some (16, true) }) (v := undef) rfl (by kernel_rfl) (by kernel_rfl) (by kernel_rfl) (fun _ _ _ h => h) (Or.inr ⟨by rfl, rfl⟩) (by assumption) ?_
                        simp only [Act.put, List.setIfInBounds_toArray, List.set_cons_zero, List.set_cons_succ]
                        refine wpAnyH_take (i := 30) (oi := { dst := some 164, op := Go.Op.pick (Go.Operand.tmp 150) (Go.Operand.tmp 163) (Go.Operand.const (Go.Value.bool false)), type := 4, pos := "ref.go:146", after := #[{ on := 16, ground := Go.Ground.data }, { on := 29, ground := Go.Ground.data }], guard := none }) (v := ?_) rfl (by kernel_rfl) (by kernel_rfl) (by kernel_rfl) (fun _ _ _ h => h) (Or.inl ⟨by rfl, ?_⟩) (by assumption) ?_
                        rotate_left
                        focus (intro W hSw; obtain ⟨hcW, hfW, hbW⟩ := hSw; go_simp; (try with_reducible rfl); done)
                        simp only [Act.put, List.setIfInBounds_toArray, List.set_cons_zero, List.set_cons_succ]
                        refine wpAnyH_done (by kernel_rfl) ?_ _
                        have hpz := Past.below (Past.bel (by assumption : Past wr _)) hp
                        have hno : ¬ twice ⟨op, nn, ⟨dk, dn, dw⟩, l, qq⟩ ⟨op2, nn2, d2, l2, q2⟩ := fun hh => s6 hh.1
                        have hnq2 := HOKQ2.out hno
                        have HNQ := Lib.hid hnq2
                        clear hno hnq2
                        go_wp2
                        go_roundw
                        case rel => first | exact ⟨q + 1, by omega, by go_num, HNQ.out, hpz⟩ | exact ⟨q + 1, by omega, by omega, HNQ.out⟩
                        case measure => simp [intOf]; omega
                    · have hq1 : ¬ (q : Int) < (k : Int) := by omega
                      have hnq := HNXX.out (by trivial) fun j hj => HOKQ.out j (by omega)
                      have HNQ := Lib.hid hnq
                      clear hnq
                      go_wp2
                      go_roundw
                      case rel => first | exact ⟨k + 1, by omega, by go_num, HNQ.out, hp⟩ | exact ⟨k + 1, by omega, by omega, HNQ.out⟩
                      case measure => simp [intOf]; omega
              · have hkn3 : ¬ (k : Int) < (code.length : Int) := by omega
                have hco : CodeOk ⟨m, a, t, r, p, n, enter, code, starts, maps⟩ code.length := by have := HOKE.out; rwa [show k = code.length by omega] at this
                have hv := HYES.out HNUM.out (by trivial) HMO.out HEO.out hco
                have HV := Lib.hid hv
                clear hco hv
                go_wp2
                go_ret
                refine ⟨?_, below_then HBX.out (Nat.le_of_lt hbs) hp.bel⟩
                rw [HV.out]; rfl

end Go.Proofs.Ytkhgbnnhgdcmoaa.IR
