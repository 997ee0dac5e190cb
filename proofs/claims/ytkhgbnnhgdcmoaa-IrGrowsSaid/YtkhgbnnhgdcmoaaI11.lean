/-
  Walks of layer 11 (ir), part I11: what these functions of the program answer and what becomes of memory, for any values. No conditions beyond those that each theorem names.
-/
import Derived.Test.YtkhgbnnhgdcmoaaI10
import Derived.Deep.CutBlock
namespace Go.Proofs.Ytkhgbnnhgdcmoaa.IR
open Go.RowKit Go.Proofs.YtkhgbnnhgdcmoaaW.PrintWords Go.Proofs.YtkhgbnnhgdcmoaaW.PrintLast Go.Proofs.YtkhgbnnhgdcmoaaW.PrintMore Go.Proofs.Ytkhgbnnhgdcmoaa.QIr
attribute [local go_sem high] eqA36

def s_ (l : List S36) (k : Nat) : S36 := l.getD k z36
theorem s_mem {l : List S36} {k : Nat} (h : k < l.length) : s_ l k ∈ l := by
  unfold s_
  rw [List.getD_eq_getElem?_getD, List.getElem?_eq_getElem h]
  exact List.getElem_mem h
theorem allB_of {u : U} {l : List S36} (h : ∀ j, j < l.length → sourceB u (s_ l j) = true) : allB u l = true := by
  unfold allB
  rw [List.all_eq_true]
  intro s hs
  obtain ⟨j, hj, rfl⟩ := List.getElem_of_mem hs
  have := h j hj
  unfold s_ at this
  rwa [List.getD_eq_getElem?_getD, List.getElem?_eq_getElem hj] at this
theorem allB_no (u : U) (l : List S36) (j : Nat) (hj : j < l.length) (h : sourceB u (s_ l j) = false) : allB u l = false := by
  cases hb : allB u l with
  | false => rfl
  | true =>
    unfold allB at hb
    rw [List.all_eq_true] at hb
    rw [hb _ (s_mem hj)] at h; cases h
/-- a source's cells in a row -/
theorem src_cell {w : World} {l : List S36} {A : Option Addr} (hl : Kd.C k36 w A l.length l) (hn : 0 < l.length) :
    ∃ b o : Nat, A = some ⟨b, o, none⟩ ∧ b < w.heap.size ∧ ∀ k, k < l.length → w.cell? ⟨b, o + k * 3, none⟩ = some (.int .i64 (s_ l k).f0) ∧ w.cell? ⟨b, o + k * 3 + 1, none⟩ = some (.int .i64 (s_ l k).f1) ∧ w.cell? ⟨b, o + k * 3 + 2, none⟩ = some (.int .u64 (s_ l k).f2) := by
  obtain ⟨ad, hA, h0, _, _⟩ := at_T36 hl (0 : Int) (by omega) (by omega)
  have h00 : w.cell? ad = some (.int .i64 (rd_T36 l 0).f0) := h0
  have hs := spot_none h00
  refine ⟨ad.block, ad.off, by rw [← hs]; exact hA, World.block_lt_of_cell? _ _ h00, fun k hk => ?_⟩
  obtain ⟨ad2, hA2, e0, e1, e2⟩ := at_T36 hl (k : Int) (by omega) (by omega)
  obtain rfl : ad = ad2 := by rw [hA] at hA2; exact Option.some.inj hA2
  have hrd : rd_T36 l (k : Int) = s_ l k := by unfold rd_T36 s_; rw [Int.toNat_natCast]
  rw [hrd, Int.toNat_natCast] at e0 e1 e2
  by_cases hz : k = 0
  · subst hz
    rw [Nat.zero_mul] at e0 e1 e2
    rw [Nat.zero_mul, Nat.add_zero, ← hs]
    exact ⟨e0, e1, e2⟩
  · have ha : ad.add (k * 3) = ⟨ad.block, ad.off + k * 3, none⟩ := by rw [Addr.add, if_neg (by omega)]
    rw [ha] at e0 e1 e2
    exact ⟨e0, e1, e2⟩

set_option maxHeartbeats 8000000 in
set_option maxRecDepth 100000 in
theorem rinst_any (u : U) (x : UA) (i : S39) (A : Option Addr) (c : Nat) (w : World) (hl : Kd.C k36 w A i.f3.length i.f3) (h0 : 0 ≤ i.f4) :
    Calls Try.prog 30 #[uv u x, iv i A c] w (Ans (.bool (oneB u i)) w) := by
  have hT := fun W => rtakes_any i.f0 W
  have hV := fun W => rleaves_any i.f0 W
  have hP := fun W => rplace_any i.f2 W
  have hS := fun W => rsource_any u x i.f2 W
  have hSr := fun s W => rsource_any u x s W
  have hI := fun W => rInt_any i.f4 h0 W
  have hlen : (0 : Int) ≤ (i.f3.length : Int) := by omega
  have hmx := Kd.C_max hl
  have hst := Two.start w (uc u x) (ic i A c)
  have hall := @allB_of u i.f3
  have halln := allB_no u i.f3
  have hcl := fun hn => src_cell hl hn
  have hmost : mostN u i.f0 = mostN u i.f0 := rfl
  have hword : wordedB i = wordedB i := rfl
  conv at hmost => rhs; unfold mostN
  conv at hword => rhs; unfold wordedB
  generalize hres : oneB u i = RES
  have hml := u.maps.length
  unfold IntW at hI
  unfold uv at *
  unfold iv ic uc sv at *
  obtain ⟨op, nn, ⟨dk, dn, dw⟩, l, q⟩ := i
  unfold oneB dB nilB at hres
  simp only at *
  generalize leastB op = L at *
  generalize mostB op = M at *
  generalize decide (0 < leavesB op) = V at *
  generalize placeB ⟨dk, dn, dw⟩ = P at *
  generalize sourceB u ⟨dk, dn, dw⟩ = S at *
  generalize allB u l = AL at *
  generalize mostN u op = MN at *
  generalize wordedB ⟨op, nn, ⟨dk, dn, dw⟩, l, q⟩ = WD at *
  generalize oddB q = OD at *
  generalize decW q = DW at *
  have HT := Lib.hid hT
  have HV := Lib.hid hV
  have HP := Lib.hid hP
  have HS := Lib.hid hS
  have HSR := Lib.hid hSr
  have HI := Lib.hid hI
  have HST := Lib.hid hst
  have HALL := Lib.hid hall
  have HALLN := Lib.hid halln
  have HCL := Lib.hid hcl
  have HM := Lib.hid hmost
  have HW := Lib.hid hword
  have HRES := Lib.hid hres
  clear hres hT hV hP hS hSr hI hst hall halln hcl hl h0 hmost hword hml
  obtain ⟨m, a, t, r, p, n, enter, code, starts, maps⟩ := u
  simp only at *
  go_enter Try.func30, Try.ntmps30
  go_upto_region 1 with fail
  refine abs_world fun W0 hW0 => ?_
  rw [← hW0] at HST
  obtain ⟨hd0, hc0, _⟩ := HST.out.full
  have hbs : w.heap.size + 1 < W0.heap.size := by rw [hW0]; simp
  have hbs0 : w.heap.size < W0.heap.size := by omega
  have hz0 := HST.out.below_of
  have HZ0 := Lib.hid hz0
  clear hW0 HST hz0
  by_cases g1 : (l.length : Int) < L
  · go_wp2_with (go_at_call 16; (with_reducible refine (HT.out _).mono ?_); rintro e w1 ⟨rfl, hb1⟩; obtain ⟨hc1, hf1, hbb1⟩ := Past.of hb1)
    go_ret
    refine ⟨?_, below_then HZ0.out HZ0.out.size hb1⟩
    rw [show RES = false from by rw [← HRES.out]; simp [*] <;> omega]; rfl
  by_cases g2 : M < (l.length : Int)
  · go_wp2_with (go_at_call 16; (with_reducible refine (HT.out _).mono ?_); rintro e w1 ⟨rfl, hb1⟩; obtain ⟨hc1, hf1, hbb1⟩ := Past.of hb1)
    go_ret
    refine ⟨?_, below_then HZ0.out HZ0.out.size hb1⟩
    rw [show RES = false from by rw [← HRES.out]; simp [*] <;> omega]; rfl
  go_upto_block 0 with (go_at_call 16; (with_reducible refine (HT.out _).mono ?_); rintro e w1 ⟨rfl, hb1⟩; obtain ⟨hc1, hf1, hbb1⟩ := Past.of hb1)
  go_wp2_with fail
  go_loopw [7] (fun i wr => ∃ k : Nat, k ≤ l.length ∧ i = .int .i64 k ∧ (∀ j, j < k → sourceB ⟨m, a, t, r, p, n, enter, code, starts, maps⟩ (s_ l j) = true) ∧ Past W0 wr) (fun i _ => l.length - (intOf i).toNat)
  case atStart => exact ⟨0, by omega, rfl, fun j hj => by omega, Past.of hbb1⟩
  case round =>
    obtain ⟨k, hk, rfl, hok, hpr⟩ := hrel
    have HOK := Lib.hid hok
    clear hok
    have hz := below_then HZ0.out HZ0.out.size hpr.bel
    have HZ := Lib.hid hz
    obtain ⟨hcr, hfr, hbr⟩ := hpr
    have hrl := hbr.size
    have hbs2 : w.heap.size + 1 < wr.heap.size := by omega
    have hbs3 : w.heap.size < wr.heap.size := by omega
    by_cases hlk : k < l.length
    · obtain ⟨b, o, rfl, hbw, hcells⟩ := HCL.out (by omega)
      have hbw0 : b < W0.heap.size := by omega
      have hbwr : b < wr.heap.size := by omega
      have hold := (old_cells HZ0.out).1
      obtain ⟨e0, e1, e2⟩ := hcells k hlk
      have f0 := (hold b (o + k * 3) hbw).trans e0
      have f1 := (hold b (o + k * 3 + 1) hbw).trans e1
      have f2 := (hold b (o + k * 3 + 2) hbw).trans e2
      have hn0 := HALLN.out k hlk
      have hok2 : sourceB ⟨m, a, t, r, p, n, enter, code, starts, maps⟩ (s_ l k) = true → ∀ j, j < k + 1 → sourceB ⟨m, a, t, r, p, n, enter, code, starts, maps⟩ (s_ l j) = true := fun hs j hj => by
        by_cases e : j = k
        · rw [e]; exact hs
        · exact HOK.out j (by omega)
      have hsr := HSR.out (s_ l k)
      have hk0 : (0 : Int) ≤ (k : Int) := by omega
      have hk1 : (k : Int) < (l.length : Int) := by omega
      generalize sourceB ⟨m, a, t, r, p, n, enter, code, starts, maps⟩ (s_ l k) = B at *
      have HN0 := Lib.hid hn0
      have HOK2 := Lib.hid hok2
      generalize hsk : s_ l k = sk at *
      have HSK := Lib.hid hsk
      have HSRK := Lib.hid hsr
      clear hn0 hok2 hsk hsr hold hcells e0 e1 e2 hz
      obtain ⟨k0, k1, k2⟩ := sk
      simp only at *
      go_upto_region 7 with fail
      refine wp_region_held_drew (S := Past wr) (by kernel_rfl) ?_ (fun hHeld => ?_)
      focus ((try dsimp only); (first | exact Past.below (by assumption) (by assumption) | exact Past.drew1 (by assumption) | exact Past.start1 _); done)
      refine wpAnyH_take (i := 0) (oi := { dst := some 37, op := Go.Op.load 28 (Go.Operand.tmp 2), type := 28, pos := "ref.go:71", after := #[], guard := none }) (v := ?_) rfl (by kernel_rfl) (by kernel_rfl) (by kernel_rfl) (fun _ _ _ h => h) (Or.inl ⟨by rfl, ?_⟩) (by assumption) ?_
      rotate_left
      focus (intro W hSw; obtain ⟨hcW, hfW, hbW⟩ := hSw; go_simp; (try with_reducible rfl); done)
      simp only [Act.put, List.setIfInBounds_toArray, List.set_cons_zero, List.set_cons_succ]
      refine wpAnyH_take (i := 1) (oi := { dst := some 38, op := Go.Op.fieldAddr 39 (Go.Operand.tmp 3) 3, type := 0, pos := "ref.go:71", after := #[], guard := none }) (v := ?_) rfl (by kernel_rfl) (by kernel_rfl) (by kernel_rfl) (fun _ _ _ h => h) (Or.inl ⟨by rfl, ?_⟩) (by assumption) ?_
      rotate_left
      focus (intro W hSw; obtain ⟨hcW, hfW, hbW⟩ := hSw; go_simp; (try with_reducible rfl); done)
      simp only [Act.put, List.setIfInBounds_toArray, List.set_cons_zero, List.set_cons_succ]
      refine wpAnyH_take (i := 2) (oi := { dst := some 39, op := Go.Op.load 37 (Go.Operand.tmp 38), type := 37, pos := "ref.go:71", after := #[{ on := 1, ground := Go.Ground.data }], guard := none }) (v := ?_) rfl (by kernel_rfl) (by kernel_rfl) (by kernel_rfl) (fun _ _ _ h => h) (Or.inl ⟨by rfl, ?_⟩) (by assumption) ?_
      rotate_left
      focus (intro W hSw; obtain ⟨hcW, hfW, hbW⟩ := hSw; go_simp; (try with_reducible rfl); done)
      simp only [Act.put, List.setIfInBounds_toArray, List.set_cons_zero, List.set_cons_succ]
      refine wpAnyH_take (i := 3) (oi := { dst := some 40, op := Go.Op.move (Go.Operand.tmp 7), type := 3, pos := "ref.go:71", after := #[], guard := none }) (v := ?_) rfl (by kernel_rfl) (by kernel_rfl) (by kernel_rfl) (fun _ _ _ h => h) (Or.inl ⟨by rfl, ?_⟩) (by assumption) ?_
      rotate_left
      focus (intro W hSw; obtain ⟨hcW, hfW, hbW⟩ := hSw; go_simp; (try with_reducible rfl); done)
      simp only [Act.put, List.setIfInBounds_toArray, List.set_cons_zero, List.set_cons_succ]
      refine wpAnyH_take (i := 4) (oi := { dst := some 41, op := Go.Op.indexAddr 37 (Go.Operand.tmp 39) (Go.Operand.tmp 40), type := 0, pos := "ref.go:71", after := #[{ on := 2, ground := Go.Ground.data }, { on := 3, ground := Go.Ground.data }], guard := none }) (v := ?_) rfl (by kernel_rfl) (by kernel_rfl) (by kernel_rfl) (fun _ _ _ h => h) (Or.inl ⟨by rfl, ?_⟩) (by assumption) ?_
      rotate_left
      focus (intro W hSw; obtain ⟨hcW, hfW, hbW⟩ := hSw; go_simp; (try with_reducible rfl); done)
      simp only [Act.put, List.setIfInBounds_toArray, List.set_cons_zero, List.set_cons_succ]
      refine wpAnyH_take (i := 5) (oi := { dst := some 42, op := Go.Op.load 36 (Go.Operand.tmp 41), type := 36, pos := "ref.go:71", after := #[{ on := 4, ground := Go.Ground.data }], guard := none }) (v := ?_) rfl (by kernel_rfl) (by kernel_rfl) (by kernel_rfl) (fun _ _ _ h => h) (Or.inl ⟨by rfl, ?_⟩) (by assumption) ?_
      rotate_left
      focus (intro W hSw; obtain ⟨hcW, hfW, hbW⟩ := hSw; go_simp; (try with_reducible rfl); done)
      simp only [Act.put, List.setIfInBounds_toArray, List.set_cons_zero, List.set_cons_succ]
      refine wpAnyH_ready (rs := [6]) (by kernel_rfl) (by simp) ?_
      refine AllReadyH.cons (o := { dst := some 43, op := Go.Op.call { callee := Go.Callee.value (Go.Operand.func 29), args := #[Go.Operand.tmp 37, Go.Operand.tmp 42], argTypes := #[28, 36] }, type := 4, pos := "ref.go:71", after := #[{ on := 0, ground := Go.Ground.data }, { on := 5, ground := Go.Ground.data }], guard := none }) rfl (fun K hK => ?_) AllReadyH.nil
      go_simp
      (go_at_call 29; (with_reducible refine (HSRK.out _).mono ?_); rintro e w5 ⟨rfl, hb5⟩)
      refine hK.out _ _ ?_ (fun hHeld => ?_)
      focus ((try dsimp only); (first | exact Past.below (by assumption) (by assumption) | exact Past.drew1 (by assumption) | exact Past.start1 _); done)
      clear hK K
      try simp only [Act.put, List.setIfInBounds_toArray, List.set_cons_zero, List.set_cons_succ]
      refine wpAnyH_take (i := 7) (oi := { dst := some 44, op := Go.Op.unOp Go.UnOp.not 4 (Go.Operand.tmp 43), type := 4, pos := "ref.go:71", after := #[{ on := 6, ground := Go.Ground.data }], guard := none }) (v := ?_) rfl (by kernel_rfl) (by kernel_rfl) (by kernel_rfl) (fun _ _ _ h => h) (Or.inl ⟨by rfl, ?_⟩) (by assumption) ?_
      rotate_left
      focus (intro W hSw; obtain ⟨hcW, hfW, hbW⟩ := hSw; go_simp; (try with_reducible rfl); done)
      simp only [Act.put, List.setIfInBounds_toArray, List.set_cons_zero, List.set_cons_succ]
      refine wpAnyH_done (by kernel_rfl) ?_ _
      have hz2 := below_then HZ.out HZ.out.size (Past.bel (by assumption : Past wr _))
      have hp5 : Past wr w5 := by assumption
      cases B
      · go_wp2
        go_ret
        refine ⟨?_, hz2⟩
        rw [show RES = false from by rw [← HRES.out, HN0.out (by trivial)]; simp]; rfl
      · go_wp2
        go_roundw
        case rel => exact ⟨k + 1, by omega, by go_num, HOK2.out (by trivial), Past.of (below_then hbr hbr.size hp5.bel)⟩
        case measure => simp [intOf]; omega
    · have hkk : ¬ (k : Int) < (l.length : Int) := by omega
      have hv := HALL.out fun j h1 => HOK.out j (by omega)
      have HAV := Lib.hid hv
      clear hv
      have hp := Past.of hbr
      go_upto_region 9 with fail
      have ways : (V = true ∧ P = false) ∨ (V = true ∧ P = true ∧ S = false) ∨ (V = false ∧ (dk == 0 && (dn == 0 && dw == 0)) = false) ∨ (V = true ∧ P = true ∧ S = true) ∨ (V = false ∧ (dk == 0 && (dn == 0 && dw == 0)) = true) := by
        cases V <;> cases P <;> cases S <;> cases hD : (dk == 0 && (dn == 0 && dw == 0)) <;> simp
      rcases ways with ⟨rfl, rfl⟩ | ⟨rfl, rfl, rfl⟩ | ⟨rfl, hD⟩ | ⟨rfl, rfl, rfl⟩ | ⟨rfl, hD⟩
      · go_wp2_with (first | (go_at_call 19; (with_reducible refine (HV.out _).mono ?_); rintro e w6 ⟨rfl, hb6⟩; replace hp := Past.below hb6 hp; have hc6 := hp.cc; have hf6 := hp.ff) | (go_at_call 21; (with_reducible refine (HP.out _).mono ?_); rintro e w7 ⟨rfl, hb7⟩; replace hp := Past.below hb7 hp; have hc7 := hp.cc; have hf7 := hp.ff) | (go_at_call 29; (with_reducible refine (HS.out _).mono ?_); rintro e w8 ⟨rfl, hb8⟩; replace hp := Past.below hb8 hp; have hc8 := hp.cc; have hf8 := hp.ff))
        go_ret
        refine ⟨?_, below_then HZ0.out HZ0.out.size hp.bel⟩
        rw [show RES = false from by rw [← HRES.out]; simp [*]]; rfl
      · go_wp2_with (first | (go_at_call 19; (with_reducible refine (HV.out _).mono ?_); rintro e w6 ⟨rfl, hb6⟩; replace hp := Past.below hb6 hp; have hc6 := hp.cc; have hf6 := hp.ff) | (go_at_call 21; (with_reducible refine (HP.out _).mono ?_); rintro e w7 ⟨rfl, hb7⟩; replace hp := Past.below hb7 hp; have hc7 := hp.cc; have hf7 := hp.ff) | (go_at_call 29; (with_reducible refine (HS.out _).mono ?_); rintro e w8 ⟨rfl, hb8⟩; replace hp := Past.below hb8 hp; have hc8 := hp.cc; have hf8 := hp.ff))
        go_ret
        refine ⟨?_, below_then HZ0.out HZ0.out.size hp.bel⟩
        rw [show RES = false from by rw [← HRES.out]; simp [*]]; rfl
      · go_wp2_with (first | (go_at_call 19; (with_reducible refine (HV.out _).mono ?_); rintro e w6 ⟨rfl, hb6⟩; replace hp := Past.below hb6 hp; have hc6 := hp.cc; have hf6 := hp.ff) | (go_at_call 21; (with_reducible refine (HP.out _).mono ?_); rintro e w7 ⟨rfl, hb7⟩; replace hp := Past.below hb7 hp; have hc7 := hp.cc; have hf7 := hp.ff) | (go_at_call 29; (with_reducible refine (HS.out _).mono ?_); rintro e w8 ⟨rfl, hb8⟩; replace hp := Past.below hb8 hp; have hc8 := hp.cc; have hf8 := hp.ff))
        go_ret
        refine ⟨?_, below_then HZ0.out HZ0.out.size hp.bel⟩
        rw [show RES = false from by rw [← HRES.out]; simp [*]]; rfl
      · go_upto_block 2 with (first | (go_at_call 19; (with_reducible refine (HV.out _).mono ?_); rintro e w6 ⟨rfl, hb6⟩; replace hp := Past.below hb6 hp; have hc6 := hp.cc; have hf6 := hp.ff) | (go_at_call 21; (with_reducible refine (HP.out _).mono ?_); rintro e w7 ⟨rfl, hb7⟩; replace hp := Past.below hb7 hp; have hc7 := hp.cc; have hf7 := hp.ff) | (go_at_call 29; (with_reducible refine (HS.out _).mono ?_); rintro e w8 ⟨rfl, hb8⟩; replace hp := Past.below hb8 hp; have hc8 := hp.cc; have hf8 := hp.ff))
        go_cut [8] (fun v wx => v = .int .i64 MN ∧ Past W0 wx)
        case first =>
          by_cases o2 : op = 2
          · subst o2; go_wp2_with fail; go_meet; exact ⟨by rw [HM.out]; rfl, hp⟩
          by_cases o3 : op = 3
          · subst o3; go_wp2_with fail; go_meet; exact ⟨by rw [HM.out]; rfl, hp⟩
          by_cases o4 : op = 4
          · subst o4; go_wp2_with fail; go_meet; exact ⟨by rw [HM.out]; rfl, hp⟩
          by_cases o5 : op = 5
          · subst o5; go_wp2_with fail; go_meet; exact ⟨by rw [HM.out]; rfl, hp⟩
          by_cases o6 : op = 6
          · subst o6; go_wp2_with fail; go_meet; exact ⟨by rw [HM.out]; rfl, hp⟩
          by_cases o7 : op = 7
          · subst o7; go_wp2_with fail; go_meet; exact ⟨by rw [HM.out]; rfl, hp⟩
          go_wp2_with fail; go_meet; exact ⟨by rw [HM.out]; simp [*], hp⟩
        case rest =>
          obtain ⟨rfl, hp⟩ := hcut
          have hcx := hp.cc
          have hfx := hp.ff
          by_cases n1 : 0 ≤ nn
          · by_cases n2 : nn ≤ MN
            · skip
              by_cases o6 : op = 6
              · subst o6
                cases OD
                all_goals
                  go_wp2_with (go_at_call 46; (with_reducible refine (HI.out _).mono ?_); rintro e w9 ⟨rfl, hb9⟩; replace hp := Past.below hb9 hp; have hc9 := hp.cc; have hf9 := hp.ff)
                  all_goals
                    go_ret
                    refine ⟨?_, below_then HZ0.out HZ0.out.size hp.bel⟩
                    rw [← HRES.out, HW.out]; simp [*, HAV.out] <;> omega
              by_cases o7 : op = 7
              · subst o7
                go_wp2_with (go_at_call 46; (with_reducible refine (HI.out _).mono ?_); rintro e w9 ⟨rfl, hb9⟩; replace hp := Past.below hb9 hp; have hc9 := hp.cc; have hf9 := hp.ff)
                all_goals
                  go_ret
                  refine ⟨?_, below_then HZ0.out HZ0.out.size hp.bel⟩
                  rw [← HRES.out, HW.out]; simp [*, HAV.out] <;> omega
              go_wp2_with (go_at_call 46; (with_reducible refine (HI.out _).mono ?_); rintro e w9 ⟨rfl, hb9⟩; replace hp := Past.below hb9 hp; have hc9 := hp.cc; have hf9 := hp.ff)
              all_goals
                go_ret
                refine ⟨?_, below_then HZ0.out HZ0.out.size hp.bel⟩
                rw [← HRES.out, HW.out]; simp [*, HAV.out] <;> omega
            · skip
              by_cases o6 : op = 6
              · subst o6
                cases OD
                all_goals
                  go_wp2_with (go_at_call 46; (with_reducible refine (HI.out _).mono ?_); rintro e w9 ⟨rfl, hb9⟩; replace hp := Past.below hb9 hp; have hc9 := hp.cc; have hf9 := hp.ff)
                  all_goals
                    go_ret
                    refine ⟨?_, below_then HZ0.out HZ0.out.size hp.bel⟩
                    rw [← HRES.out, HW.out]; simp [*, HAV.out] <;> omega
              by_cases o7 : op = 7
              · subst o7
                go_wp2_with (go_at_call 46; (with_reducible refine (HI.out _).mono ?_); rintro e w9 ⟨rfl, hb9⟩; replace hp := Past.below hb9 hp; have hc9 := hp.cc; have hf9 := hp.ff)
                all_goals
                  go_ret
                  refine ⟨?_, below_then HZ0.out HZ0.out.size hp.bel⟩
                  rw [← HRES.out, HW.out]; simp [*, HAV.out] <;> omega
              go_wp2_with (go_at_call 46; (with_reducible refine (HI.out _).mono ?_); rintro e w9 ⟨rfl, hb9⟩; replace hp := Past.below hb9 hp; have hc9 := hp.cc; have hf9 := hp.ff)
              all_goals
                go_ret
                refine ⟨?_, below_then HZ0.out HZ0.out.size hp.bel⟩
                rw [← HRES.out, HW.out]; simp [*, HAV.out] <;> omega
          · skip
            by_cases o6 : op = 6
            · subst o6
              cases OD
              all_goals
                go_wp2_with (go_at_call 46; (with_reducible refine (HI.out _).mono ?_); rintro e w9 ⟨rfl, hb9⟩; replace hp := Past.below hb9 hp; have hc9 := hp.cc; have hf9 := hp.ff)
                all_goals
                  go_ret
                  refine ⟨?_, below_then HZ0.out HZ0.out.size hp.bel⟩
                  rw [← HRES.out, HW.out]; simp [*, HAV.out] <;> omega
            by_cases o7 : op = 7
            · subst o7
              go_wp2_with (go_at_call 46; (with_reducible refine (HI.out _).mono ?_); rintro e w9 ⟨rfl, hb9⟩; replace hp := Past.below hb9 hp; have hc9 := hp.cc; have hf9 := hp.ff)
              all_goals
                go_ret
                refine ⟨?_, below_then HZ0.out HZ0.out.size hp.bel⟩
                rw [← HRES.out, HW.out]; simp [*, HAV.out] <;> omega
            go_wp2_with (go_at_call 46; (with_reducible refine (HI.out _).mono ?_); rintro e w9 ⟨rfl, hb9⟩; replace hp := Past.below hb9 hp; have hc9 := hp.cc; have hf9 := hp.ff)
            all_goals
              go_ret
              refine ⟨?_, below_then HZ0.out HZ0.out.size hp.bel⟩
              rw [← HRES.out, HW.out]; simp [*, HAV.out] <;> omega
      · go_upto_block 2 with (first | (go_at_call 19; (with_reducible refine (HV.out _).mono ?_); rintro e w6 ⟨rfl, hb6⟩; replace hp := Past.below hb6 hp; have hc6 := hp.cc; have hf6 := hp.ff) | (go_at_call 21; (with_reducible refine (HP.out _).mono ?_); rintro e w7 ⟨rfl, hb7⟩; replace hp := Past.below hb7 hp; have hc7 := hp.cc; have hf7 := hp.ff) | (go_at_call 29; (with_reducible refine (HS.out _).mono ?_); rintro e w8 ⟨rfl, hb8⟩; replace hp := Past.below hb8 hp; have hc8 := hp.cc; have hf8 := hp.ff))
        go_cut [8] (fun v wx => v = .int .i64 MN ∧ Past W0 wx)
        case first =>
          by_cases o2 : op = 2
          · subst o2; go_wp2_with fail; go_meet; exact ⟨by rw [HM.out]; rfl, hp⟩
          by_cases o3 : op = 3
          · subst o3; go_wp2_with fail; go_meet; exact ⟨by rw [HM.out]; rfl, hp⟩
          by_cases o4 : op = 4
          · subst o4; go_wp2_with fail; go_meet; exact ⟨by rw [HM.out]; rfl, hp⟩
          by_cases o5 : op = 5
          · subst o5; go_wp2_with fail; go_meet; exact ⟨by rw [HM.out]; rfl, hp⟩
          by_cases o6 : op = 6
          · subst o6; go_wp2_with fail; go_meet; exact ⟨by rw [HM.out]; rfl, hp⟩
          by_cases o7 : op = 7
          · subst o7; go_wp2_with fail; go_meet; exact ⟨by rw [HM.out]; rfl, hp⟩
          go_wp2_with fail; go_meet; exact ⟨by rw [HM.out]; simp [*], hp⟩
        case rest =>
          obtain ⟨rfl, hp⟩ := hcut
          have hcx := hp.cc
          have hfx := hp.ff
          by_cases n1 : 0 ≤ nn
          · by_cases n2 : nn ≤ MN
            · skip
              by_cases o6 : op = 6
              · subst o6
                cases OD
                all_goals
                  go_wp2_with (go_at_call 46; (with_reducible refine (HI.out _).mono ?_); rintro e w9 ⟨rfl, hb9⟩; replace hp := Past.below hb9 hp; have hc9 := hp.cc; have hf9 := hp.ff)
                  all_goals
                    go_ret
                    refine ⟨?_, below_then HZ0.out HZ0.out.size hp.bel⟩
                    rw [← HRES.out, HW.out]; simp [*, HAV.out] <;> omega
              by_cases o7 : op = 7
              · subst o7
                go_wp2_with (go_at_call 46; (with_reducible refine (HI.out _).mono ?_); rintro e w9 ⟨rfl, hb9⟩; replace hp := Past.below hb9 hp; have hc9 := hp.cc; have hf9 := hp.ff)
                all_goals
                  go_ret
                  refine ⟨?_, below_then HZ0.out HZ0.out.size hp.bel⟩
                  rw [← HRES.out, HW.out]; simp [*, HAV.out] <;> omega
              go_wp2_with (go_at_call 46; (with_reducible refine (HI.out _).mono ?_); rintro e w9 ⟨rfl, hb9⟩; replace hp := Past.below hb9 hp; have hc9 := hp.cc; have hf9 := hp.ff)
              all_goals
                go_ret
                refine ⟨?_, below_then HZ0.out HZ0.out.size hp.bel⟩
                rw [← HRES.out, HW.out]; simp [*, HAV.out] <;> omega
            · skip
              by_cases o6 : op = 6
              · subst o6
                cases OD
                all_goals
                  go_wp2_with (go_at_call 46; (with_reducible refine (HI.out _).mono ?_); rintro e w9 ⟨rfl, hb9⟩; replace hp := Past.below hb9 hp; have hc9 := hp.cc; have hf9 := hp.ff)
                  all_goals
                    go_ret
                    refine ⟨?_, below_then HZ0.out HZ0.out.size hp.bel⟩
                    rw [← HRES.out, HW.out]; simp [*, HAV.out] <;> omega
              by_cases o7 : op = 7
              · subst o7
                go_wp2_with (go_at_call 46; (with_reducible refine (HI.out _).mono ?_); rintro e w9 ⟨rfl, hb9⟩; replace hp := Past.below hb9 hp; have hc9 := hp.cc; have hf9 := hp.ff)
                all_goals
                  go_ret
                  refine ⟨?_, below_then HZ0.out HZ0.out.size hp.bel⟩
                  rw [← HRES.out, HW.out]; simp [*, HAV.out] <;> omega
              go_wp2_with (go_at_call 46; (with_reducible refine (HI.out _).mono ?_); rintro e w9 ⟨rfl, hb9⟩; replace hp := Past.below hb9 hp; have hc9 := hp.cc; have hf9 := hp.ff)
              all_goals
                go_ret
                refine ⟨?_, below_then HZ0.out HZ0.out.size hp.bel⟩
                rw [← HRES.out, HW.out]; simp [*, HAV.out] <;> omega
          · skip
            by_cases o6 : op = 6
            · subst o6
              cases OD
              all_goals
                go_wp2_with (go_at_call 46; (with_reducible refine (HI.out _).mono ?_); rintro e w9 ⟨rfl, hb9⟩; replace hp := Past.below hb9 hp; have hc9 := hp.cc; have hf9 := hp.ff)
                all_goals
                  go_ret
                  refine ⟨?_, below_then HZ0.out HZ0.out.size hp.bel⟩
                  rw [← HRES.out, HW.out]; simp [*, HAV.out] <;> omega
            by_cases o7 : op = 7
            · subst o7
              go_wp2_with (go_at_call 46; (with_reducible refine (HI.out _).mono ?_); rintro e w9 ⟨rfl, hb9⟩; replace hp := Past.below hb9 hp; have hc9 := hp.cc; have hf9 := hp.ff)
              all_goals
                go_ret
                refine ⟨?_, below_then HZ0.out HZ0.out.size hp.bel⟩
                rw [← HRES.out, HW.out]; simp [*, HAV.out] <;> omega
            go_wp2_with (go_at_call 46; (with_reducible refine (HI.out _).mono ?_); rintro e w9 ⟨rfl, hb9⟩; replace hp := Past.below hb9 hp; have hc9 := hp.cc; have hf9 := hp.ff)
            all_goals
              go_ret
              refine ⟨?_, below_then HZ0.out HZ0.out.size hp.bel⟩
              rw [← HRES.out, HW.out]; simp [*, HAV.out] <;> omega
end Go.Proofs.Ytkhgbnnhgdcmoaa.IR
