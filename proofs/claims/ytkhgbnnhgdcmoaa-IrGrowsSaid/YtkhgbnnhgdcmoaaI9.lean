/-
  Walks of layer 11 (ir), part I9: what these functions of the program answer and what becomes of memory, for any values. No conditions beyond those that each theorem names.
-/
import Derived.Test.YtkhgbnnhgdcmoaaI8
import Derived.Laws.MakeOwn
namespace Go.Proofs.Ytkhgbnnhgdcmoaa.IR
open Go.RowKit Go.Proofs.YtkhgbnnhgdcmoaaW.PrintWords Go.Proofs.YtkhgbnnhgdcmoaaW.PrintLast Go.Proofs.YtkhgbnnhgdcmoaaW.PrintMore Go.Proofs.Ytkhgbnnhgdcmoaa.QIr

/-- a unit in memory -/
structure UIn (u : U) (x : UA) (w : World) : Prop where
  he : Kd.C k39 w x.ae u.enter.length u.enter
  hc : Kd.C k39 w x.ac u.code.length u.code
  hs : (Kd.int .i64).C w x.at_ u.starts.length u.starts
  hm : Kd.C (Kd.slice 36 k36) w x.am u.maps.length u.maps
  be : ∀ i ∈ u.enter, 0 ≤ i.f4 ∧ i.f4 ≤ 18446744073709551615
  bc : ∀ i ∈ u.code, 0 ≤ i.f4 ∧ i.f4 ≤ 18446744073709551615
theorem UIn.below {u : U} {x : UA} {w W : World} (h : UIn u x w) (hb : Below w.heap.size w W) : UIn u x W :=
  ⟨Kd.C_below h.he hb, Kd.C_below h.hc hb, Kd.C_below h.hs hb, Kd.C_below h.hm hb, h.be, h.bc⟩

def i_ (l : List S39) (k : Nat) : S39 := l.getD k z39
theorem i_mem {l : List S39} {k : Nat} (h : k < l.length) : i_ l k ∈ l := by
  unfold i_
  rw [List.getD_eq_getElem?_getD, List.getElem?_eq_getElem h]
  exact List.getElem_mem h
/-- two sends of one site -/
def twice (a b : S39) : Prop := a.f0 = 7 ∧ b.f0 = 7 ∧ a.f1 = b.f1
def EnterOk (u : U) (n : Nat) : Prop := ∀ j, j < n → (i_ u.enter j).f0 = 1 ∧ oneB u (i_ u.enter j) = true
def CodeOk (u : U) (n : Nat) : Prop := ∀ j, j < n → oneB u (i_ u.code j) = true ∧ ∀ k, k < j → ¬ twice (i_ u.code j) (i_ u.code k)
def UnitOk (u : U) : Prop := shapedB u = true ∧ EnterOk u u.enter.length ∧ CodeOk u u.code.length
open Classical in
noncomputable def checkN (u : U) : Int := if UnitOk u then 0 else 1
theorem checkN_ok {u : U} (h : UnitOk u) : checkN u = 0 := if_pos h
theorem checkN_no {u : U} (h : ¬ UnitOk u) : checkN u = 1 := if_neg h

theorem info3 : (Try.prog.info? 3).map (fun i => (i.zero, i.size, i.bytes)) = some (some (.int .i64 0), 1, 8) := by kernel_rfl
theorem under25 : Try.prog.underlying 25 = some (.slice 3) := by kernel_rfl
theorem info_parts {i : Option TypeInfo} {z : Value} {s b : Nat} (h : i.map (fun i => (i.zero, i.size, i.bytes)) = some (some z, s, b)) : ∃ j, i = some j ∧ j.zero = some z ∧ j.size = s ∧ j.bytes = b := by
  cases i with
  | none => cases h
  | some j => simp at h; exact ⟨j, rfl, h.1, h.2.1, h.2.2⟩
/-- how many sends of site v stand among the first n -/
def seen (l : List S39) : Nat → Int → Int
  | 0, _ => 0
  | n + 1, v => seen l n v + (if (i_ l n).f0 = 7 ∧ (i_ l n).f1 = v then 1 else 0)
theorem seen_succ (l : List S39) (n : Nat) (v : Int) : seen l (n + 1) v = seen l n v + (if (i_ l n).f0 = 7 ∧ (i_ l n).f1 = v then 1 else 0) := rfl
theorem seen_le (l : List S39) (n : Nat) (v : Int) : 0 ≤ seen l n v ∧ seen l n v ≤ n := by
  induction n with
  | zero => exact ⟨Int.le_refl _, Int.le_refl _⟩
  | succ n ih => unfold seen; split <;> omega
theorem seen_zero {l : List S39} {n : Nat} {v : Int} (h : seen l n v = 0) : ∀ k, k < n → ¬ ((i_ l k).f0 = 7 ∧ (i_ l k).f1 = v) := by
  induction n with
  | zero => intro k hk; omega
  | succ n ih =>
    have h0 := seen_le l n v
    unfold seen at h
    intro k hk
    by_cases e : k = n
    · subst e; intro hc; rw [if_pos hc] at h; omega
    · refine ih ?_ k (by omega); split at h <;> omega
theorem seen_pos {l : List S39} {n : Nat} {v : Int} (h : 0 < seen l n v) : ∃ k, k < n ∧ (i_ l k).f0 = 7 ∧ (i_ l k).f1 = v := by
  induction n with
  | zero => unfold seen at h; omega
  | succ n ih =>
    unfold seen at h
    by_cases hc : (i_ l n).f0 = 7 ∧ (i_ l n).f1 = v
    · exact ⟨n, by omega, hc⟩
    · rw [if_neg hc] at h
      obtain ⟨k, hk, hh⟩ := ih (by omega)
      exact ⟨k, by omega, hh⟩
theorem CodeOk.next {u : U} {k : Nat} (h : CodeOk u k) (h1 : oneB u (i_ u.code k) = true) (h2 : ∀ j, j < k → ¬ twice (i_ u.code k) (i_ u.code j)) : CodeOk u (k + 1) := fun j hj => by
  by_cases e : j = k
  · rw [e]; exact ⟨h1, h2⟩
  · exact h j (by omega)
/-- the sites' row behind the first k instructions -/
def SitesAt (u : U) (k n : Nat) (g : Nat) (w : World) : Prop := ∃ c : Array Value, w.heap[g]? = some (.cells c 3 (0, 0)) ∧ c.size = n ∧ ∀ v : Nat, v < n → c[v]? = some (.int .i64 (seen u.code k v))
theorem SitesAt.below {u : U} {k n g : Nat} {w W : World} (h : SitesAt u k n g w) (hb : Below w.heap.size w W) : SitesAt u k n g W := by
  obtain ⟨c, h1, h2⟩ := h
  exact ⟨c, blk_below h1 hb, h2⟩
theorem SitesAt.same {u : U} {k n g : Nat} {w : World} (h : SitesAt u k n g w) (h7 : ¬ (i_ u.code k).f0 = 7) : SitesAt u (k + 1) n g w := by
  obtain ⟨c, h1, h2, h3⟩ := h
  refine ⟨c, h1, h2, fun v hv => ?_⟩
  rw [h3 v hv, seen_succ, if_neg (fun hc => h7 hc.1), Int.add_zero]
theorem SitesAt.set {u : U} {k n g : Nat} {w : World} (h : SitesAt u k n g w) (m : Nat) (h7 : (i_ u.code k).f0 = 7) (h1 : (i_ u.code k).f1 = m) (hm : m < n) : SitesAt u (k + 1) n g (w.setCell ⟨g, m, none⟩ (.int .i64 (seen u.code k m + 1))) := by
  obtain ⟨c, e1, e2, e3⟩ := h
  refine ⟨c.setIfInBounds m (.int .i64 (seen u.code k m + 1)), blk_set e1 _ _, by simp [e2], fun v hv => ?_⟩
  rw [Array.getElem?_setIfInBounds]
  by_cases e : m = v
  · subst e
    rw [if_pos rfl, if_pos (by omega), seen_succ, if_pos ⟨h7, h1⟩]
  · rw [if_neg e, e3 v hv, seen_succ, if_neg (fun hc => e (by omega)), Int.add_zero]
theorem SitesAt.cell {u : U} {k n g : Nat} {w : World} (h : SitesAt u k n g w) {m : Nat} (hm : m < n) : w.cell? ⟨g, m, none⟩ = some (.int .i64 (seen u.code k m)) ∧ w.frozen? ⟨g, m, none⟩ = false ∧ g < w.heap.size := by
  obtain ⟨c, h1, h2, h3⟩ := h
  exact ⟨(blk_cell h1 m).trans (h3 m hm), blk_frozen h1 m, blk_lt h1⟩
theorem SitesAt.made {u : U} {n : Nat} (w : World) : SitesAt u 0 n w.heap.size (w.alloc (.cells (madeCells #[.int .i64 0] n) 3)) := by
  refine ⟨_, blk_new _ _, by rw [size_madeCells], fun v hv => ?_⟩
  simp only [madeCells]
  rw [Array.getElem?_map]
  simp [hv, seen, Nat.mod_one]
theorem shaped_n {u : U} (h : shapedB u = true) : 0 ≤ u.n ∧ u.n ≤ 128 := by
  unfold shapedB numsB at h
  simp at h
  omega
theorem one_send {u : U} {i : S39} (h : oneB u i = true) (h7 : i.f0 = 7) (hn : 0 ≤ u.n ∧ u.n ≤ 128) : 0 ≤ i.f1 ∧ i.f1 < u.n := by
  unfold oneB at h
  simp only [Bool.and_eq_true, decide_eq_true_eq] at h
  obtain ⟨_, _, _, _, h0, h1, _⟩ := h
  unfold mostN at h1
  rw [h7] at h1
  simp at h1
  unfold wrap64 at h1
  omega

set_option maxHeartbeats 4000000 in
set_option maxRecDepth 100000 in
theorem check_any (u : U) (x : UA) (w : World) (h : UIn u x w) : Calls Try.prog 10 #[uv u x] w (Ans (.int .i64 (checkN u)) w) := by
  have hbx := below_box w (.cells (uc u x) 28)
  have hnew := blk_new w (.cells (uc u x) 28)
  have hsh := shaped_any u x (w.alloc (.cells (uc u x) 28)) (Kd.C_below h.hs hbx) (Kd.C_below h.hm hbx)
  have hone := fun i A c W => one_any u x i A c W
  have hno0 : shapedB u = false → checkN u = 1 := fun hs => checkN_no fun hk => by rw [hk.1] at hs; cases hs
  have hno1 : ∀ k, k < u.enter.length → ¬ ((i_ u.enter k).f0 = 1 ∧ oneB u (i_ u.enter k) = true) → checkN u = 1 := fun k hk hs => checkN_no fun hh => hs (hh.2.1 k hk)
  have H := Lib.hid h
  clear h
  obtain ⟨ae, ce, ac, cc, ast, ct, am, cm⟩ := x
  have hlen := Kd.C_max H.out.he
  have hlen0 : (0 : Int) ≤ (u.enter.length : Int) := by omega
  unfold uv uc at *
  have HN0 := Lib.hid hno0
  have HN1 := Lib.hid hno1
  have HNEW := Lib.hid hnew
  have HONE := Lib.hid hone
  have HSH := Lib.hid hsh
  have HBX := Lib.hid hbx
  clear hno0 hone hsh hnew hno1 hbx
  generalize hsb : shapedB u = sb at *
  have HSB := Lib.hid hsb
  clear hsb
  go_enter Try.func10, Try.ntmps10
  go_upto_region 1 with fail
  generalize hW0 : (w.alloc (.cells #[.int .u64 u.m, .int .i64 u.a, .int .i64 u.t, .int .i64 u.r, .int .i64 u.p, .int .i64 u.n, .slice ae u.enter.length ce, .slice ac u.code.length cc, .slice ast u.starts.length ct, .slice am u.maps.length cm] 28)) = W0 at *
  have hblk : ∀ o, W0.cell? ⟨w.heap.size, o, none⟩ = (#[.int .u64 u.m, .int .i64 u.a, .int .i64 u.t, .int .i64 u.r, .int .i64 u.p, .int .i64 u.n, .slice ae u.enter.length ce, .slice ac u.code.length cc, .slice ast u.starts.length ct, .slice am u.maps.length cm] : Array Value)[o]? := fun o => by simp [World.cell?, HNEW.out]
  have hbs : w.heap.size < W0.heap.size := by rw [← hW0]; simp
  have HW := Lib.hid hW0
  clear hW0
  cases sb with
  | false =>
    go_wp2_with (go_at_call 25; (with_reducible refine HSH.out.mono ?_); rintro e w1 ⟨rfl, hb1⟩)
    go_ret
    refine ⟨?_, below_then HBX.out HBX.out.size hb1⟩
    rw [HN0.out trivial]; rfl
  | true =>
    go_wp2_with (go_at_call 25; (with_reducible refine HSH.out.mono ?_); rintro e w1 ⟨rfl, hb1⟩; obtain ⟨hcW, hfW, hbW⟩ := Past.of hb1)
    go_loopw [14] (fun i wr => ∃ k : Nat, k ≤ u.enter.length ∧ i = .int .i64 k ∧ EnterOk u k ∧ Past W0 wr) (fun i _ => u.enter.length - (intOf i).toNat)
    case atStart => exact ⟨0, by omega, rfl, fun j hj => by omega, Past.of hbW⟩
    case round =>
      obtain ⟨k, hk, rfl, hok, hpw⟩ := hrel
      have HOK := Lib.hid hok
      clear hok
      by_cases hlt : k < u.enter.length
      · have hin := H.out.below (below_then HBX.out (Nat.le_of_lt hbs) hpw.bel)
        have hk0 : (0 : Int) ≤ (k : Int) := by omega
        have hkn : (k : Int) < (u.enter.length : Int) := by omega
        obtain ⟨ad, A5, c5, hA, e0, e1, e2, e3, e4, e5, e6, l5, g5⟩ := at_T39 hin.he (k : Int) hk0 hkn
        have hwf := hin.be _ (i_mem hlt)
        have hcall := fun W (hb : Below wr.heap.size wr W) => HONE.out (i_ u.enter k) A5 c5 W (Kd.C_below g5 hb) (Kd.C_max g5) hwf.1 hwf.2
        have hn1 := HN1.out k hlt
        simp only [Int.toNat_natCast] at e0 e1 e2 e3 e4 e5 e6
        simp only at hA
        subst hA
        change wr.cell? _ = some (.int .i64 (i_ u.enter k).f0) at e0
        have e1' : wr.cell? _ = some (.int .i64 (i_ u.enter k).f1) := e1
        have e2' : wr.cell? _ = some (.int .i64 (i_ u.enter k).f2.f0) := e2
        have e3' : wr.cell? _ = some (.int .i64 (i_ u.enter k).f2.f1) := e3
        have e4' : wr.cell? _ = some (.int .u64 (i_ u.enter k).f2.f2) := e4
        have e5' : wr.cell? _ = some (.slice A5 (i_ u.enter k).f3.length c5) := e5
        have e6' : wr.cell? _ = some (.int .u64 (i_ u.enter k).f4) := e6
        clear e1 e2 e3 e4 e5 e6 l5 g5 hin hwf
        have HCALL := Lib.hid hcall
        have HNO := Lib.hid hn1
        clear hcall hn1
        obtain ⟨hcr, hfr, hbr⟩ := hpw
        have hWlt := hbr.size
        have hbs2 : w.heap.size < wr.heap.size := by omega
        have hro : oneB u (i_ u.enter k) = true → (i_ u.enter k).f0 = 1 → EnterOk u (k + 1) := fun ho h1 j hj => by
          by_cases e : j = k
          · rw [e]; exact ⟨h1, ho⟩
          · exact HOK.out j (by omega)
        generalize oneB u (i_ u.enter k) = b at *
        generalize hik : i_ u.enter k = ik at *
        have HIK := Lib.hid hik
        clear hik
        have HRO := Lib.hid hro
        clear hro
        obtain ⟨op, nn, ⟨dk, dn, dw⟩, l, q⟩ := ik
        simp only at *
        unfold iv at HCALL
        simp only at HCALL
        by_cases h1 : op = 1
        · subst h1
          cases b with
          | false =>
            go_wp2_with (go_at_call 26; (with_reducible refine (HCALL.out _ (below_box _ _)).mono ?_); rintro e w2 ⟨rfl, hb2⟩)
            go_ret
            refine ⟨?_, below_then HBX.out (Nat.le_of_lt hbs) (below_then hbr hbr.size (below_then (below_box wr _) (by rw [World.size_alloc]; omega) hb2))⟩
            rw [HNO.out (by simp)]; rfl
          | true =>
            go_wp2_with (go_at_call 26; (with_reducible refine (HCALL.out _ (below_box _ _)).mono ?_); rintro e w2 ⟨rfl, hb2⟩)
            go_roundw
            case rel => exact ⟨k + 1, by omega, by go_num, HRO.out (by trivial) (by trivial), Past.of (below_then hbr hbr.size (below_then (below_box wr _) (by rw [World.size_alloc]; omega) hb2))⟩
            case measure => simp [intOf]; omega
        · go_wp2_with fail
          go_ret
          refine ⟨?_, below_then HBX.out (Nat.le_of_lt hbs) (below_then hbr hbr.size (below_box wr _))⟩
          rw [HNO.out (by simp [h1])]; rfl
      · have hkn : ¬ (k : Int) < (u.enter.length : Int) := by omega
        obtain ⟨wm, hwm⟩ : ∃ wm, wm = wr := ⟨_, rfl⟩
        subst hwm
        obtain ⟨hcr, hfr, hbr⟩ := hpw
        have hWlt := hbr.size
        have hbs2 : w.heap.size < wm.heap.size := by omega
        have hn := shaped_n HSB.out
        have hent : EnterOk u u.enter.length := by have := HOK.out; rwa [show k = u.enter.length by omega] at this
        obtain ⟨i0, hi0, hz0, hz1, hz2⟩ := info_parts info3
        have hmk := fun W => run_make (P := Try.prog) W 25 3 i0 _ under25 hi0 hz0 .i64 .i64 u.n u.n hn.1 (Int.le_refl _) (by rw [hz2]; omega) (by omega)
        rw [hz1] at hmk
        have hlc := Kd.C_max H.out.hc
        have hlc0 : (0 : Int) ≤ (u.code.length : Int) := by omega
        have hwr := below_then HBX.out (Nat.le_of_lt hbs) hbr
        have hst := SitesAt.made (u := u) (n := u.n.toNat) wm
        have HST := Lib.hid hst
        have HENT := Lib.hid hent
        have HI0 := Lib.hid hi0
        have HWR := Lib.hid hwr
        clear hst hent hi0 hz0 hz1 hz2 hwr hlen hlen0
        go_wp2
        go_loopw [34] (fun i wq => ∃ k : Nat, k ≤ u.code.length ∧ i = .int .i64 k ∧ CodeOk u k ∧ Past wm wq ∧ SitesAt u k u.n.toNat wm.heap.size wq) (fun i _ => u.code.length - (intOf i).toNat)
        case atStart => exact ⟨0, by omega, rfl, fun j hj => by omega, Past.of (below_box _ _), HST.out⟩
        case round =>
          obtain ⟨k, hk, rfl, hok, hpq, hsq⟩ := hrel
          have HOK2 := Lib.hid hok
          clear hok hmk
          obtain ⟨hcq, hfq, hbq⟩ := hpq
          have hqlt := hbq.size
          have hbs3 : w.heap.size < wr.heap.size := by omega
          have hww := below_then HWR.out HWR.out.size hbq
          have hgl : wm.heap.size < wr.heap.size := by obtain ⟨c, h1, _⟩ := hsq; exact blk_lt h1
          have HSQ := Lib.hid hsq
          have HWW := Lib.hid hww
          clear hsq hww
          by_cases hlt : k < u.code.length
          · have hin := H.out.below HWW.out
            have hk0 : (0 : Int) ≤ (k : Int) := by omega
            have hkn2 : (k : Int) < (u.code.length : Int) := by omega
            obtain ⟨ad, A5, c5, hA, e0, e1, e2, e3, e4, e5, e6, l5, g5⟩ := at_T39 hin.hc (k : Int) hk0 hkn2
            have hwf := hin.bc _ (i_mem hlt)
            have hcall := fun W (hb : Below wr.heap.size wr W) => HONE.out (i_ u.code k) A5 c5 W (Kd.C_below g5 hb) (Kd.C_max g5) hwf.1 hwf.2
            simp only [Int.toNat_natCast] at e0 e1 e2 e3 e4 e5 e6
            simp only at hA
            subst hA
            change wr.cell? _ = some (.int .i64 (i_ u.code k).f0) at e0
            have e1' : wr.cell? _ = some (.int .i64 (i_ u.code k).f1) := e1
            have e2' : wr.cell? _ = some (.int .i64 (i_ u.code k).f2.f0) := e2
            have e3' : wr.cell? _ = some (.int .i64 (i_ u.code k).f2.f1) := e3
            have e4' : wr.cell? _ = some (.int .u64 (i_ u.code k).f2.f2) := e4
            have e5' : wr.cell? _ = some (.slice A5 (i_ u.code k).f3.length c5) := e5
            have e6' : wr.cell? _ = some (.int .u64 (i_ u.code k).f4) := e6
            clear e1 e2 e3 e4 e5 e6 l5 g5 hin hwf
            have HCALL := Lib.hid hcall
            clear hcall
            have hbad : oneB u (i_ u.code k) = false → checkN u = 1 := fun hf => checkN_no fun hh => by have := (hh.2.2 k hlt).1; rw [hf] at this; cases this
            have hbad2 : ∀ j, j < k → twice (i_ u.code k) (i_ u.code j) → checkN u = 1 := fun j hj ht => checkN_no fun hh => (hh.2.2 k hlt).2 j hj ht
            have hok1 : oneB u (i_ u.code k) = true → (∀ j, j < k → ¬ twice (i_ u.code k) (i_ u.code j)) → CodeOk u (k + 1) := HOK2.out.next
            have hsend := fun h1 h7 => one_send (u := u) (i := i_ u.code k) h1 h7 hn
            have hsame := HSQ.out.same
            have hset := HSQ.out.set
            have hpos := fun v => @seen_pos u.code k v
            have hzero := fun v => @seen_zero u.code k v
            have hsle := fun v => seen_le u.code k v
            generalize oneB u (i_ u.code k) = b at *
            generalize hik : i_ u.code k = ik at *
            have HIK := Lib.hid hik
            have HB1 := Lib.hid hbad
            have HB2 := Lib.hid hbad2
            have HOK1 := Lib.hid hok1
            have HSEND := Lib.hid hsend
            have HSAME := Lib.hid hsame
            have HSET := Lib.hid hset
            have HPOS := Lib.hid hpos
            have HZERO := Lib.hid hzero
            have HSLE := Lib.hid hsle
            clear hik hbad hbad2 hok1 hsend hsame hset hpos hzero hsle
            obtain ⟨op, nn, ⟨dk, dn, dw⟩, l, q⟩ := ik
            simp only at *
            unfold iv at HCALL
            simp only at HCALL
            cases b with
            | false =>
              go_wp2_with (go_at_call 26; (with_reducible refine (HCALL.out _ (below_box _ _)).mono ?_); rintro e w2 ⟨rfl, hb2⟩)
              go_ret
              refine ⟨?_, below_then HWW.out HWW.out.size (below_then (below_box wr _) (by rw [World.size_alloc]; omega) hb2)⟩
              rw [HB1.out (by trivial)]; rfl
            | true =>
              by_cases h7 : op = 7
              · subst h7
                obtain ⟨h0, h1⟩ := HSEND.out (by trivial) (by trivial)
                obtain ⟨m, rfl⟩ : ∃ m : Nat, nn = (m : Int) := ⟨nn.toNat, by omega⟩
                have hmn : m < u.n.toNat := by omega
                have hmi : (m : Int) < (u.n.toNat : Int) := by omega
                have hsl := HSLE.out (m : Int)
                obtain ⟨hs1, hs2, _⟩ := HSQ.out.cell hmn
                have hset := HSET.out m (by trivial) (by trivial) hmn
                have hz := HZERO.out (m : Int)
                have hp := HPOS.out (m : Int)
                have hm0 : (0 : Int) ≤ (m : Int) := by omega
                have hgl2 : wm.heap.size < wr.heap.size + 1 := by omega
                have htw : ∀ j, j < k → ((i_ u.code j).f0 = 7 ∧ (i_ u.code j).f1 = (m : Int)) → twice ⟨7, (m : Int), ⟨dk, dn, dw⟩, l, q⟩ (i_ u.code j) := fun j _ hh => ⟨rfl, hh.1, hh.2.symm⟩
                have htw2 : ∀ j, twice ⟨7, (m : Int), ⟨dk, dn, dw⟩, l, q⟩ (i_ u.code j) → ((i_ u.code j).f0 = 7 ∧ (i_ u.code j).f1 = (m : Int)) := fun j hh => ⟨hh.2.1, hh.2.2.symm⟩
                generalize hsv : seen u.code k (m : Int) = sv at *
                obtain ⟨hv0, hvk⟩ := hsl
                have hv9 : sv ≤ 9223372036854775806 := by omega
                have HSET2 := Lib.hid hset
                have HZ := Lib.hid hz
                have HP := Lib.hid hp
                have HSV := Lib.hid hsv
                have HTW := Lib.hid htw
                have HTW2 := Lib.hid htw2
                clear hset hz hp hsv hn htw htw2
                by_cases hsz : 0 < sv
                · have hs11 : (1 : Int) < sv + 1 := by omega
                  go_wp2_with (go_at_call 26; (with_reducible refine (HCALL.out _ (below_box _ _)).mono ?_); rintro e w2 ⟨rfl, hb2⟩; obtain ⟨hc2, hf2, hbb2⟩ := Past.of hb2)
                  go_ret
                  have hww2 := below_then HWW.out HWW.out.size (below_then (below_box wr _) (by rw [World.size_alloc]; omega) hb2)
                  refine ⟨?_, hww2.setCell (by simp; omega) _⟩
                  obtain ⟨j, hj, hh⟩ := HP.out hsz
                  rw [HB2.out j hj (HTW.out j hj hh)]; rfl
                · have hs11 : ¬ (1 : Int) < sv + 1 := by omega
                  go_wp2_with (go_at_call 26; (with_reducible refine (HCALL.out _ (below_box _ _)).mono ?_); rintro e w2 ⟨rfl, hb2⟩; obtain ⟨hc2, hf2, hbb2⟩ := Past.of hb2)
                  go_roundw
                  case rel =>
                    have hw2 : Below wr.heap.size wr w2 := below_then (below_box wr _) (by rw [World.size_alloc]; omega) hb2
                    have h1 := (HSQ.out.below hw2).set m (by rw [HIK.out]) (by rw [HIK.out]) hmn
                    rw [HSV.out] at h1
                    exact ⟨k + 1, by omega, by go_num, HOK1.out (by trivial) (fun j hj ht => HZ.out (by omega) j hj (HTW2.out j ht)), Past.of ((below_then hbq hbq.size hw2).setCell (Nat.le_refl _) _), h1⟩
                  case measure => simp [intOf]; omega
              · go_wp2_with (go_at_call 26; (with_reducible refine (HCALL.out _ (below_box _ _)).mono ?_); rintro e w2 ⟨rfl, hb2⟩; obtain ⟨hc2, hf2, hbb2⟩ := Past.of hb2)
                go_roundw
                case rel => exact ⟨k + 1, by omega, by go_num, HOK1.out (by trivial) (fun j hj ht => h7 ht.1), Past.of (below_then hbq hbq.size (below_then (below_box wr _) (by rw [World.size_alloc]; omega) hb2)), (HSAME.out h7).below (below_then (below_box wr _) (by rw [World.size_alloc]; omega) hb2)⟩
                case measure => simp [intOf]; omega
          · have hkn2 : ¬ (k : Int) < (u.code.length : Int) := by omega
            have hfin : UnitOk u := ⟨HSB.out, HENT.out, by have := HOK2.out; rwa [show k = u.code.length by omega] at this⟩
            have hval := checkN_ok hfin
            have HV := Lib.hid hval
            clear hval hfin
            go_wp2
            go_ret
            refine ⟨?_, HWW.out⟩
            rw [HV.out]; rfl
end Go.Proofs.Ytkhgbnnhgdcmoaa.IR
