/-
  Walks of layer 11 (ir), part I25: what these functions of the program answer and what becomes of memory, for any values. No conditions beyond those that each theorem names.
-/
import Derived.Test.YtkhgbnnhgdcmoaaI20
namespace Go.Proofs.Ytkhgbnnhgdcmoaa.IR
open Go.RowKit Go.Proofs.YtkhgbnnhgdcmoaaW.PrintWords Go.Proofs.YtkhgbnnhgdcmoaaW.PrintLast Go.Proofs.YtkhgbnnhgdcmoaaW.PrintMore Go.Proofs.Ytkhgbnnhgdcmoaa.QIr

/-- a place that there is -/
def Good (u : U) (s : S36) : Prop := 0 ≤ s.f1 ∧ (s.f0 = 0 → s.f1 < u.r) ∧ (s.f0 = 3 → s.f1 < u.p)
theorem good_of {u : U} {s : S36} (h1 : placeB s = true) (h2 : sourceB u s = true) : Good u s := by
  unfold placeB at h1
  simp only [Bool.and_eq_true, Bool.or_eq_true, decide_eq_true_eq, beq_iff_eq] at h1
  refine ⟨h1.2.1, fun h0 => ?_, fun h3 => ?_⟩
  · unfold sourceB at h2
    rw [if_pos h0] at h2
    simp at h2
    exact h2.2
  · unfold sourceB at h2
    rw [if_neg (by omega), if_pos h3] at h2
    simp at h2
    exact h2.2
theorem good_reads {u : U} {i : S39} (h : oneB u i = true) : ∀ s ∈ i.f3.filter placeB, Good u s := by
  intro s hs
  rw [List.mem_filter] at hs
  unfold oneB at h
  simp only [Bool.and_eq_true] at h
  have := h.2.2.1
  unfold allB at this
  rw [List.all_eq_true] at this
  exact good_of hs.2 (this s hs.1)
theorem good_writes {u : U} {i : S39} (h : oneB u i = true) (hl : decide (0 < leavesB i.f0) = true) : Good u i.f2 := by
  unfold oneB at h
  simp only [Bool.and_eq_true] at h
  have := h.2.2.2.1
  unfold dB at this
  rw [if_pos hl] at this
  simp only [Bool.and_eq_true] at this
  exact good_of this.1 this.2
theorem sorted_step {l : List Int} (h : sortedB l = true) {k : Nat} (hk : k + 1 < l.length) : at_ l k ≤ at_ l (k + 1) := by
  unfold sortedB at h
  rw [List.all_eq_true] at h
  have := h k (by rw [List.mem_range]; omega)
  simpa using this
theorem sorted_last {l : List Int} (h : sortedB l = true) : ∀ d k, k + d + 1 = l.length → at_ l k ≤ at_ l (l.length - 1) := by
  intro d
  induction d with
  | zero => intro k hk; rw [show k = l.length - 1 by omega]; exact Int.le_refl _
  | succ d ih => intro k hk; exact Int.le_trans (sorted_step h (by omega)) (ih (k + 1) (by omega))
theorem starts_facts {u : U} (h : startsB u = true) : 2 ≤ u.starts.length ∧ u.starts.length ≤ 129 ∧ (u.maps.length : Int) = (u.starts.length : Int) - 1 ∧ (∀ k, k + 1 < u.starts.length → at_ u.starts k ≤ at_ u.starts (k + 1)) ∧ ∀ k, k < u.starts.length → at_ u.starts k ≤ (u.code.length : Int) := by
  unfold startsB at h
  simp at h
  obtain ⟨⟨⟨⟨⟨h1, h2⟩, h3⟩, h4⟩, h5⟩, h6⟩ := h
  refine ⟨by omega, by omega, by omega, fun k hk => sorted_step h6 hk, fun k hk => ?_⟩
  rw [← h5]
  exact sorted_last h6 (u.starts.length - 1 - k) k (by omega)
theorem jump_in {u : U} {i : S39} (h : oneB u i = true) (hop : i.f0 = 5 ∨ i.f0 = 6) (hm : (u.maps.length : Int) ≤ 128) : 0 ≤ i.f1 ∧ i.f1 ≤ (u.maps.length : Int) - 1 := by
  unfold oneB at h
  simp only [Bool.and_eq_true, decide_eq_true_eq] at h
  obtain ⟨_, _, _, _, h0, h1, _⟩ := h
  refine ⟨h0, ?_⟩
  unfold mostN at h1
  rcases hop with e | e <;> rw [e] at h1 <;> simp at h1 <;> unfold wrap64 at h1 <;> omega

set_option maxHeartbeats 8000000 in
set_option maxRecDepth 100000 in
theorem irBounds_any (u : U) (x : UA) (w : World) (h : UIn u x w) (hz : ∀ i ∈ u.code, i.f3.length * 24 ≤ 140737488351232) : Calls Try.prog 8 #[uv u x] w (Ans (.bool true) w) := by
  have hbx := below_box w (.cells (uc u x) 28)
  have hnew := blk_new w (.cells (uc u x) 28)
  have hin := h.below hbx
  have haw := awake_any
  have hck := fun W (hb : Below (w.alloc (.cells (uc u x) 28)).heap.size (w.alloc (.cells (uc u x) 28)) W) => check_any u x W (hin.below hb)
  have hcc := fun hn => ins_cell hin.hc hn
  have hsc := fun hn => int_cell hin.hs hn
  have hm3 := Kd.C_max hin.hc
  have hm4 := Kd.C_max hin.hs
  by_cases hok : UnitOk u
  case neg =>
    rw [checkN_no hok] at hck
    unfold uv uc at *
    have HCK := Lib.hid hck
    have HAW := Lib.hid haw
    have HNEW := Lib.hid hnew
    have HBX := Lib.hid hbx
    clear hok hck haw hnew hbx hin h hcc hsc hz
    go_enter Try.func8, Try.ntmps8
    go_upto_region 1 with fail
    refine abs_world fun W0 hW0 => ?_
    rw [← hW0] at HCK HNEW HBX
    have hblk := blk_cell HNEW.out
    have hbs := blk_lt HNEW.out
    have hp := Past.start W0
    clear hW0
    go_wp2_with (first | (go_at_call 9; (with_reducible refine (HAW.out _).mono ?_); rintro e w1 ⟨rfl, hb1⟩; replace hp := Past.below hb1 hp; have hc1 := hp.cc) | (go_at_call 10; (with_reducible refine (HCK.out _ hp.bel).mono ?_); rintro e w2 ⟨rfl, hb2⟩; replace hp := Past.below hb2 hp; have hc2 := hp.cc))
    go_ret
    exact ⟨rfl, below_then HBX.out HBX.out.size hp.bel⟩
  case pos =>
    rw [checkN_ok hok] at hck
    have hst := starts_facts ((shaped_iff u).1 hok.1).2.1
    have hco := hok.2.2
    have hrd := fun i A c W => readsR_any i A c W
    have hwr := fun i A c W => writes_any i A c W
    have hgr := fun k (hk : k < u.code.length) => good_reads (hco k hk).1
    have hgw := fun k (hk : k < u.code.length) => good_writes (hco k hk).1
    have hji := fun k (hk : k < u.code.length) => jump_in (hco k hk).1
    have hz2 : ∀ k, k < u.code.length → (i_ u.code k).f3.length * 24 ≤ 140737488351232 := fun k hk => hz _ (i_mem hk)
    clear hok hco
    unfold uv uc at *
    obtain ⟨m, a, t, r, p, n, enter, code, starts, maps⟩ := u
    obtain ⟨ae, ce, ac, cc, ast, ct, am, cm⟩ := x
    simp only at *
    obtain ⟨st1, st2, st3, st4, st5⟩ := hst
    have HCK := Lib.hid hck
    have HAW := Lib.hid haw
    have HNEW := Lib.hid hnew
    have HBX := Lib.hid hbx
    have HCC := Lib.hid hcc
    have HSC := Lib.hid hsc
    have HRD := Lib.hid hrd
    have HWR := Lib.hid hwr
    have HGR := Lib.hid hgr
    have HGW := Lib.hid hgw
    have HJI := Lib.hid hji
    have HZ2 := Lib.hid hz2
    have HS4 := Lib.hid st4
    have HS5 := Lib.hid st5
    have HS3 := Lib.hid st3
    clear hck haw hnew hbx hin h hcc hsc hz hrd hwr hgr hgw hji hz2 st4 st5 st3
    go_enter Try.func8, Try.ntmps8
    go_upto_region 1 with fail
    refine abs_world fun W0 hW0 => ?_
    rw [← hW0] at HCK HNEW HBX HCC HSC
    have hblk := blk_cell HNEW.out
    have hbs := blk_lt HNEW.out
    have hp := Past.start W0
    clear hW0
    have hcl0 : (0 : Int) ≤ (code.length : Int) := by omega
    have hsl0 : (0 : Int) ≤ (starts.length : Int) := by omega
    go_upto_block 0 with (first | (go_at_call 9; (with_reducible refine (HAW.out _).mono ?_); rintro e w1 ⟨rfl, hb1⟩; replace hp := Past.below hb1 hp; have hc1 := hp.cc) | (go_at_call 10; (with_reducible refine (HCK.out _ hp.bel).mono ?_); rintro e w2 ⟨rfl, hb2⟩; replace hp := Past.below hb2 hp; have hc2 := hp.cc))
    go_wp2_with fail
    go_loopw [4] (fun i wr => ∃ k : Nat, k ≤ code.length ∧ i = .int .i64 k ∧ Past W0 wr) (fun i _ => code.length - (intOf i).toNat)
    case atStart => exact ⟨0, by omega, rfl, hp⟩
    case round =>
      clear hp
      obtain ⟨k, hk, rfl, hp⟩ := hrel
      have hcr := hp.cc
      have hfr := hp.ff
      have hrl := hp.bel.size
      have hbs2 : w.heap.size < wr.heap.size := by omega
      have hk0 : (0 : Int) ≤ (k : Int) := by omega
      by_cases hlk : k < code.length
      · obtain ⟨b, o, rfl, hbw, hcells⟩ := HCC.out (by omega)
        have hb0 : b < wr.heap.size := by omega
        obtain ⟨A5, c5, e0, e1, e2, e3, e4, e5, e6, l5, g5⟩ := hcells k hlk
        have hk1 : (k : Int) < (code.length : Int) := by omega
        have hrd := fun W (hb : Below W0.heap.size W0 W) => HRD.out (i_ code k) A5 c5 W (Kd.C_below g5 hb) (by have := HZ2.out k hlk; omega)
        have hwr := fun W => HWR.out (i_ code k) A5 c5 W
        have hgr := HGR.out k hlk
        have hgw := HGW.out k hlk
        have hji := HJI.out k hlk
        have hfs : ((i_ code k).f3.filter placeB).length * 24 ≤ 140737488351232 := Nat.le_trans (Nat.mul_le_mul_right _ (List.length_filter_le _ _)) (HZ2.out k hlk)
        generalize hfl : (i_ code k).f3.filter placeB = fl at *
        generalize i_ code k = ik at *
        obtain ⟨op, nn, ⟨dk, dn, dw⟩, l, q⟩ := ik
        unfold iv wrS sv at *
        simp only at *
        generalize decide (0 < leavesB op) = V at *
        have hws : ∃ x y z : Int, (if V = true then Value.agg #[.int .i64 dk, .int .i64 dn, .int .u64 dw] else Value.agg #[.int .i64 0, .int .i64 0, .int .u64 0]) = .agg #[.int .i64 x, .int .i64 y, .int .u64 z] ∧ (V = true → (⟨x, y, z⟩ : S36) = ⟨dk, dn, dw⟩) := by
          cases V
          · exact ⟨0, 0, 0, rfl, fun h => by cases h⟩
          · exact ⟨dk, dn, dw, rfl, fun _ => rfl⟩
        obtain ⟨x, y, z, hxyz, hxd⟩ := hws
        rw [hxyz] at hwr
        have HXD := Lib.hid hxd
        have HR := Lib.hid hrd
        have HW := Lib.hid hwr
        have HGRK := Lib.hid hgr
        have HGWK := Lib.hid hgw
        have HJ := Lib.hid hji
        have HFS := Lib.hid hfs
        clear hrd hwr hgr hgw hji hfs hfl l5 g5 hcells hxyz hxd
        have HP0 := Lib.hid hp
        go_upto_if 38 with (first | (go_at_call 23; (with_reducible refine (HR.out _ hp.bel).mono ?_); rintro e w3 ⟨v, rfl, hv, hb3⟩; replace hp := Past.below hb3 hp; have hc3 := hp.cc; have hf3 := hp.ff) | (go_at_call 17; (with_reducible refine (HW.out _).mono ?_); rintro e w4 ⟨rfl, hb4⟩; have hv4 := Kd.R_below hv hb4; replace hp := Past.below hb4 hp; have hc4 := hp.cc; have hf4 := hp.ff))
        refine abs_world fun W5 hW5 => ?_
        have m1 := blk_new w4 (.cells #[.int .i64 x, .int .i64 y, .int .u64 z] 36)
        have hv5 := Kd.R_below hv4 (below_box w4 (.cells #[.int .i64 x, .int .i64 y, .int .u64 z] 36))
        have hp5 := Past.alloc hp (.cells #[.int .i64 x, .int .i64 y, .int .u64 z] 36)
        have hz5 : w4.heap.size < (w4.alloc (.cells #[.int .i64 x, .int .i64 y, .int .u64 z] 36)).heap.size := by simp
        rw [← hW5] at m1 hv5 hp5 hz5
        have d1 := blk_cell m1
        have hbr : Below wr.heap.size wr W5 := below_then (below_then hb3 hb3.size hb4) (Nat.le_trans hb3.size hb4.size) (by rw [hW5]; exact below_box w4 _)
        have HBR := Lib.hid hbr
        clear hbr
        have hpc := hp5.cc
        have hl5 := hp5.bel.size
        have hbs5 : w.heap.size < W5.heap.size := by omega
        have hb05 : b < W5.heap.size := by omega
        clear hW5 hp hc3 hc4 hf3 hf4 hv hv4
        go_cut [5] (fun v wx => ∃ (l' : List S36) (A : Option Addr) (c : Nat), v = .slice A l'.length c ∧ k36.C wx A l'.length l' ∧ (∀ s ∈ l', Good ⟨m, a, t, r, p, n, enter, code, starts, maps⟩ s) ∧ Past W0 wx)
        case first =>
          have HV5 := Lib.hid hv5
          have HP5 := Lib.hid hp5
          clear hv5 hp5
          cases V with
          | false =>
            go_wp2_with fail
            go_meet
            obtain ⟨A, c, hve, _, hC⟩ := Kd.R_reads HV5.out
            exact ⟨fl, A, c, hve, hC, HGRK.out, HP5.out⟩
          | true =>
            have hx := HXD.out (by trivial)
            go_wp2_with (at_builtin; refine Kd.R_append k36 (w0 := wr) wr.heap.size rfl _ _ 37 36 _ 24 rfl Try.underlying37 info36 rfl (by decide) (by decide) v fl ⟨x, y, z⟩ [.int .i64 x, .int .i64 y, .int .u64 z] (fun _ => True) (fun _ => False) rfl rfl (k36_mkM _ _ _ _) (fun k h => h.elim) (fun _ _ => trivial) HV5.out HBR.out HBR.out.size (by have := HFS.out; omega) ?_; intro v1 w1 hv1 hb1 hg1 hat1)
            go_meet
            obtain ⟨A, c, hve, _, hC⟩ := Kd.R_reads hv1
            refine ⟨fl ++ [⟨x, y, z⟩], A, c, hve, hC, fun s hs => ?_, Past.below hb1 HP0.out⟩
            rw [List.mem_append] at hs
            rcases hs with hs | hs
            · exact HGRK.out s hs
            · rw [List.mem_singleton] at hs
              rw [hs, hx]
              exact HGWK.out (by trivial)
        case rest =>
          obtain ⟨l', A', c', rfl, hC, hgood, hp6⟩ := hcut
          clear hpc hl5 hbs5 hb05 d1 hp5 hv5 m1 hz5
          have hll0 : (0 : Int) ≤ (l'.length : Int) := by omega
          have hll1 := Kd.C_max hC
          have hcw := hp6.cc
          have hlw := hp6.bel.size
          have HP6 := Lib.hid hp6
          have HG := Lib.hid hgood
          have HC6 := Lib.hid hC
          clear hp6 hgood hC
          go_upto_block 2 with fail
          go_wp2_with fail
          go_loopw [8] (fun i wr => ∃ q : Nat, q ≤ l'.length ∧ i = .int .i64 q ∧ Past wc wr) (fun i _ => l'.length - (intOf i).toNat)
          case atStart => exact ⟨0, by omega, rfl, Past.start _⟩
          case round =>
            obtain ⟨q, hq, rfl, hp⟩ := hrel
            have hcq := hp.cc
            have hfq := hp.ff
            have hrq := hp.bel.size
            have hbs6 : w.heap.size < wr.heap.size := by omega
            have hbs7 : w.heap.size < wc.heap.size := by omega
            have hb6 : b < wr.heap.size := by omega
            have hb7 : b < wc.heap.size := by omega
            have hq0 : (0 : Int) ≤ (q : Int) := by omega
            by_cases hlq : q < l'.length
            · obtain ⟨sb, so, rfl, hsbw, hscells⟩ := src_cell HC6.out (by omega)
              have hsb0 : sb < wr.heap.size := by omega
              obtain ⟨s0, s1', s2⟩ := hscells q hlq
              have hq1 : (q : Int) < (l'.length : Int) := by omega
              obtain ⟨g1, g2, g3⟩ := HG.out _ (s_mem hlq)
              generalize s_ l' q = sk at *
              clear hscells
              obtain ⟨k0, k1, k2⟩ := sk
              simp only at *
              have g1n : ¬ k1 < 0 := by omega
              go_upto_region 14 with fail
              refine wp_region_held_drew (S := Past wr) (by kernel_rfl) ?_ (fun hHeld => ?_)
              focus ((try dsimp only); (first | exact Past.below (by assumption) (by assumption) | exact Past.drew1 (by assumption) | exact Past.start1 _); done)
              refine wpAnyH_take (i := 0) (oi := { dst := some 49, op := Go.Op.move (Go.Operand.tmp 5), type := 37, pos := "law.go:80", after := #[], guard := none }) (v := ?_) rfl (by kernel_rfl) (by kernel_rfl) (by kernel_rfl) (fun _ _ _ h => h) (Or.inl ⟨by rfl, ?_⟩) (by assumption) ?_
              rotate_left
              focus (intro W hSw; obtain ⟨hcW, hfW, hbW⟩ := hSw; go_simp; (try with_reducible rfl); done)
              simp only [Act.put, List.setIfInBounds_toArray, List.set_cons_zero, List.set_cons_succ]
              refine wpAnyH_take (i := 1) (oi := { dst := some 50, op := Go.Op.move (Go.Operand.tmp 8), type := 3, pos := "law.go:80", after := #[], guard := none }) (v := ?_) rfl (by kernel_rfl) (by kernel_rfl) (by kernel_rfl) (fun _ _ _ h => h) (Or.inl ⟨by rfl, ?_⟩) (by assumption) ?_
              rotate_left
              focus (intro W hSw; obtain ⟨hcW, hfW, hbW⟩ := hSw; go_simp; (try with_reducible rfl); done)
              simp only [Act.put, List.setIfInBounds_toArray, List.set_cons_zero, List.set_cons_succ]
              refine wpAnyH_take (i := 2) (oi := { dst := some 51, op := Go.Op.indexAddr 37 (Go.Operand.tmp 49) (Go.Operand.tmp 50), type := 0, pos := "law.go:80", after := #[{ on := 0, ground := Go.Ground.data }, { on := 1, ground := Go.Ground.data }], guard := none }) (v := ?_) rfl (by kernel_rfl) (by kernel_rfl) (by kernel_rfl) (fun _ _ _ h => h) (Or.inl ⟨by rfl, ?_⟩) (by assumption) ?_
              rotate_left
              focus (intro W hSw; obtain ⟨hcW, hfW, hbW⟩ := hSw; go_simp; (try with_reducible rfl); done)
              simp only [Act.put, List.setIfInBounds_toArray, List.set_cons_zero, List.set_cons_succ]
              refine wpAnyH_take (i := 3) (oi := { dst := some 52, op := Go.Op.fieldAddr 36 (Go.Operand.tmp 51) 1, type := 0, pos := "law.go:80", after := #[{ on := 2, ground := Go.Ground.data }], guard := none }) (v := ?_) rfl (by kernel_rfl) (by kernel_rfl) (by kernel_rfl) (fun _ _ _ h => h) (Or.inl ⟨by rfl, ?_⟩) (by assumption) ?_
              rotate_left
              focus (intro W hSw; obtain ⟨hcW, hfW, hbW⟩ := hSw; go_simp; (try with_reducible rfl); done)
              simp only [Act.put, List.setIfInBounds_toArray, List.set_cons_zero, List.set_cons_succ]
              refine wpAnyH_take (i := 4) (oi := { dst := some 53, op := Go.Op.load 3 (Go.Operand.tmp 52), type := 3, pos := "law.go:80", after := #[{ on := 3, ground := Go.Ground.data }], guard := none }) (v := ?_) rfl (by kernel_rfl) (by kernel_rfl) (by kernel_rfl) (fun _ _ _ h => h) (Or.inl ⟨by rfl, ?_⟩) (by assumption) ?_
              rotate_left
              focus (intro W hSw; obtain ⟨hcW, hfW, hbW⟩ := hSw; go_simp; (try with_reducible rfl); done)
              simp only [Act.put, List.setIfInBounds_toArray, List.set_cons_zero, List.set_cons_succ]
              refine wpAnyH_take (i := 5) (oi := { dst := some 54, op := Go.Op.binOp Go.BinOp.lss 3 (Go.Operand.tmp 53) (Go.Operand.const (Go.Value.int Go.IntKind.i64 0)) 3, type := 4, pos := "law.go:80", after := #[{ on := 4, ground := Go.Ground.data }], guard := none }) (v := ?_) rfl (by kernel_rfl) (by kernel_rfl) (by kernel_rfl) (fun _ _ _ h => h) (Or.inl ⟨by rfl, ?_⟩) (by assumption) ?_
              rotate_left
              focus (intro W hSw; obtain ⟨hcW, hfW, hbW⟩ := hSw; go_simp; (try with_reducible rfl); done)
              simp only [Act.put, List.setIfInBounds_toArray, List.set_cons_zero, List.set_cons_succ]
              refine wpAnyH_take (i := 6) (oi := { dst := some 55, op := Go.Op.move (Go.Operand.tmp 54), type := 4, pos := "law.go:80", after := #[{ on := 5, ground := Go.Ground.data }], guard := none }) (v := ?_) rfl (by kernel_rfl) (by kernel_rfl) (by kernel_rfl) (fun _ _ _ h => h) (Or.inl ⟨by rfl, ?_⟩) (by assumption) ?_
              rotate_left
              focus (intro W hSw; obtain ⟨hcW, hfW, hbW⟩ := hSw; go_simp; (try with_reducible rfl); done)
              simp only [Act.put, List.setIfInBounds_toArray, List.set_cons_zero, List.set_cons_succ]
              refine wpAnyH_take (i := 7) (oi := { dst := some 56, op := Go.Op.move (Go.Operand.tmp 5), type := 37, pos := "law.go:80", after := #[{ on := 6, ground := Go.Ground.guard }], guard := some (6, false) }) (v := ?_) rfl (by kernel_rfl) (by kernel_rfl) (by kernel_rfl) (fun _ _ _ h => h) (Or.inl ⟨by rfl, ?_⟩) (by assumption) ?_
              rotate_left
              focus (intro W hSw; obtain ⟨hcW, hfW, hbW⟩ := hSw; go_simp; (try with_reducible rfl); done)
              simp only [Act.put, List.setIfInBounds_toArray, List.set_cons_zero, List.set_cons_succ]
              refine wpAnyH_take (i := 8) (oi := { dst := some 57, op := Go.Op.move (Go.Operand.tmp 8), type := 3, pos := "law.go:80", after := #[{ on := 6, ground := Go.Ground.guard }], guard := some (6, false) }) (v := ?_) rfl (by kernel_rfl) (by kernel_rfl) (by kernel_rfl) (fun _ _ _ h => h) (Or.inl ⟨by rfl, ?_⟩) (by assumption) ?_
              rotate_left
              focus (intro W hSw; obtain ⟨hcW, hfW, hbW⟩ := hSw; go_simp; (try with_reducible rfl); done)
              simp only [Act.put, List.setIfInBounds_toArray, List.set_cons_zero, List.set_cons_succ]
              refine wpAnyH_take (i := 9) (oi := { dst := some 58, op := Go.Op.indexAddr 37 (Go.Operand.tmp 56) (Go.Operand.tmp 57), type := 0, pos := "law.go:80", after := #[{ on := 7, ground := Go.Ground.data }, { on := 8, ground := Go.Ground.data }, { on := 6, ground := Go.Ground.guard }], guard := some (6, false) }) (v := ?_) rfl (by kernel_rfl) (by kernel_rfl) (by kernel_rfl) (fun _ _ _ h => h) (Or.inl ⟨by rfl, ?_⟩) (by assumption) ?_
              rotate_left
              focus (intro W hSw; obtain ⟨hcW, hfW, hbW⟩ := hSw; go_simp; (try with_reducible rfl); done)
              simp only [Act.put, List.setIfInBounds_toArray, List.set_cons_zero, List.set_cons_succ]
              refine wpAnyH_take (i := 10) (oi := { dst := some 59, op := Go.Op.fieldAddr 36 (Go.Operand.tmp 58) 0, type := 0, pos := "law.go:80", after := #[{ on := 9, ground := Go.Ground.data }, { on := 6, ground := Go.Ground.guard }], guard := some (6, false) }) (v := ?_) rfl (by kernel_rfl) (by kernel_rfl) (by kernel_rfl) (fun _ _ _ h => h) (Or.inl ⟨by rfl, ?_⟩) (by assumption) ?_
              rotate_left
              focus (intro W hSw; obtain ⟨hcW, hfW, hbW⟩ := hSw; go_simp; (try with_reducible rfl); done)
              simp only [Act.put, List.setIfInBounds_toArray, List.set_cons_zero, List.set_cons_succ]
              refine wpAnyH_take (i := 11) (oi := { dst := some 60, op := Go.Op.load 3 (Go.Operand.tmp 59), type := 3, pos := "law.go:80", after := #[{ on := 10, ground := Go.Ground.data }, { on := 6, ground := Go.Ground.guard }], guard := some (6, false) }) (v := ?_) rfl (by kernel_rfl) (by kernel_rfl) (by kernel_rfl) (fun _ _ _ h => h) (Or.inl ⟨by rfl, ?_⟩) (by assumption) ?_
              rotate_left
              focus (intro W hSw; obtain ⟨hcW, hfW, hbW⟩ := hSw; go_simp; (try with_reducible rfl); done)
              simp only [Act.put, List.setIfInBounds_toArray, List.set_cons_zero, List.set_cons_succ]
              by_cases s12 : k0 = 0
              · skip
                have g2n : ¬ r ≤ k1 := by have := g2 s12; omega
                refine wpAnyH_take (i := 12) (oi := { dst := some 61, op := Go.Op.binOp Go.BinOp.eql 3 (Go.Operand.tmp 60) (Go.Operand.const (Go.Value.int Go.IntKind.i64 0)) 3, type := 4, pos := "law.go:80", after := #[{ on := 11, ground := Go.Ground.data }, { on := 6, ground := Go.Ground.guard }], guard := some (6, false) }) (v := ?_) rfl (by kernel_rfl) (by kernel_rfl) (by kernel_rfl) (fun _ _ _ h => h) (Or.inl ⟨by rfl, ?_⟩) (by assumption) ?_
                rotate_left
                focus (intro W hSw; obtain ⟨hcW, hfW, hbW⟩ := hSw; go_simp; (try with_reducible rfl); done)
                simp only [Act.put, List.setIfInBounds_toArray, List.set_cons_zero, List.set_cons_succ]
                refine wpAnyH_take (i := 13) (oi := { dst := some 62, op := Go.Op.move (Go.Operand.tmp 61), type := 4, pos := "law.go:80", after := #[{ on := 12, ground := Go.Ground.data }, { on := 6, ground := Go.Ground.chain }, { on := 6, ground := Go.Ground.guard }], guard := some (6, false) }) (v := ?_) rfl (by kernel_rfl) (by kernel_rfl) (by kernel_rfl) (fun _ _ _ h => h) (Or.inl ⟨by rfl, ?_⟩) (by assumption) ?_
                rotate_left
                focus (intro W hSw; obtain ⟨hcW, hfW, hbW⟩ := hSw; go_simp; (try with_reducible rfl); done)
                simp only [Act.put, List.setIfInBounds_toArray, List.set_cons_zero, List.set_cons_succ]
                refine wpAnyH_take (i := 14) (oi := { dst := some 63, op := Go.Op.move (Go.Operand.tmp 5), type := 37, pos := "law.go:80", after := #[{ on := 13, ground := Go.Ground.guard }], guard := some (13, true) }) (v := ?_) rfl (by kernel_rfl) (by kernel_rfl) (by kernel_rfl) (fun _ _ _ h => h) (Or.inl ⟨by rfl, ?_⟩) (by assumption) ?_
                rotate_left
                focus (intro W hSw; obtain ⟨hcW, hfW, hbW⟩ := hSw; go_simp; (try with_reducible rfl); done)
                simp only [Act.put, List.setIfInBounds_toArray, List.set_cons_zero, List.set_cons_succ]
                refine wpAnyH_take (i := 15) (oi := { dst := some 64, op := Go.Op.move (Go.Operand.tmp 8), type := 3, pos := "law.go:80", after := #[{ on := 13, ground := Go.Ground.guard }], guard := some (13, true) }) (v := ?_) rfl (by kernel_rfl) (by kernel_rfl) (by kernel_rfl) (fun _ _ _ h => h) (Or.inl ⟨by rfl, ?_⟩) (by assumption) ?_
                rotate_left
                focus (intro W hSw; obtain ⟨hcW, hfW, hbW⟩ := hSw; go_simp; (try with_reducible rfl); done)
                simp only [Act.put, List.setIfInBounds_toArray, List.set_cons_zero, List.set_cons_succ]
                refine wpAnyH_take (i := 16) (oi := { dst := some 65, op := Go.Op.indexAddr 37 (Go.Operand.tmp 63) (Go.Operand.tmp 64), type := 0, pos := "law.go:80", after := #[{ on := 14, ground := Go.Ground.data }, { on := 15, ground := Go.Ground.data }, { on := 13, ground := Go.Ground.guard }], guard := some (13, true) }) (v := ?_) rfl (by kernel_rfl) (by kernel_rfl) (by kernel_rfl) (fun _ _ _ h => h) (Or.inl ⟨by rfl, ?_⟩) (by assumption) ?_
                rotate_left
                focus (intro W hSw; obtain ⟨hcW, hfW, hbW⟩ := hSw; go_simp; (try with_reducible rfl); done)
                simp only [Act.put, List.setIfInBounds_toArray, List.set_cons_zero, List.set_cons_succ]
                refine wpAnyH_take (i := 17) (oi := { dst := some 66, op := Go.Op.fieldAddr 36 (Go.Operand.tmp 65) 1, type := 0, pos := "law.go:80", after := #[{ on := 16, ground := Go.Ground.data }, { on := 13, ground := Go.Ground.guard }], guard := some (13, true) }) (v := ?_) rfl (by kernel_rfl) (by kernel_rfl) (by kernel_rfl) (fun _ _ _ h => h) (Or.inl ⟨by rfl, ?_⟩) (by assumption) ?_
                rotate_left
                focus (intro W hSw; obtain ⟨hcW, hfW, hbW⟩ := hSw; go_simp; (try with_reducible rfl); done)
                simp only [Act.put, List.setIfInBounds_toArray, List.set_cons_zero, List.set_cons_succ]
                refine wpAnyH_take (i := 18) (oi := { dst := some 67, op := Go.Op.load 3 (Go.Operand.tmp 66), type := 3, pos := "law.go:80", after := #[{ on := 17, ground := Go.Ground.data }, { on := 13, ground := Go.Ground.guard }], guard := some (13, true) }) (v := ?_) rfl (by kernel_rfl) (by kernel_rfl) (by kernel_rfl) (fun _ _ _ h => h) (Or.inl ⟨by rfl, ?_⟩) (by assumption) ?_
                rotate_left
                focus (intro W hSw; obtain ⟨hcW, hfW, hbW⟩ := hSw; go_simp; (try with_reducible rfl); done)
                simp only [Act.put, List.setIfInBounds_toArray, List.set_cons_zero, List.set_cons_succ]
                refine wpAnyH_take (i := 19) (oi := { dst := some 68, op := Go.Op.fieldAddr 28 (Go.Operand.tmp 1) 3, type := 0, pos := "law.go:80", after := #[{ on := 13, ground := Go.Ground.guard }], guard := some (13, true) }) (v := ?_) rfl (by kernel_rfl) (by kernel_rfl) (by kernel_rfl) (fun _ _ _ h => h) (Or.inl ⟨by rfl, ?_⟩) (by assumption) ?_
                rotate_left
                focus (intro W hSw; obtain ⟨hcW, hfW, hbW⟩ := hSw; go_simp; (try with_reducible rfl); done)
                simp only [Act.put, List.setIfInBounds_toArray, List.set_cons_zero, List.set_cons_succ]
                refine wpAnyH_take (i := 20) (oi := { dst := some 69, op := Go.Op.load 3 (Go.Operand.tmp 68), type := 3, pos := "law.go:80", after := #[{ on := 19, ground := Go.Ground.data }, { on := 13, ground := Go.Ground.guard }], guard := some (13, true) }) (v := ?_) rfl (by kernel_rfl) (by kernel_rfl) (by kernel_rfl) (fun _ _ _ h => h) (Or.inl ⟨by rfl, ?_⟩) (by assumption) ?_
                rotate_left
                focus (intro W hSw; obtain ⟨hcW, hfW, hbW⟩ := hSw; go_simp; (try with_reducible rfl); done)
                simp only [Act.put, List.setIfInBounds_toArray, List.set_cons_zero, List.set_cons_succ]
                refine wpAnyH_take (i := 21) (oi := { dst := some 70, op := Go.Op.binOp Go.BinOp.geq 3 (Go.Operand.tmp 67) (Go.Operand.tmp 69) 3, type := 4, pos := "law.go:80", after := #[{ on := 18, ground := Go.Ground.data }, { on := 20, ground := Go.Ground.data }, { on := 13, ground := Go.Ground.guard }], guard := some (13, true) }) (v := ?_) rfl (by kernel_rfl) (by kernel_rfl) (by kernel_rfl) (fun _ _ _ h => h) (Or.inl ⟨by rfl, ?_⟩) (by assumption) ?_
                rotate_left
                focus (intro W hSw; obtain ⟨hcW, hfW, hbW⟩ := hSw; go_simp; (try with_reducible rfl); done)
                simp only [Act.put, List.setIfInBounds_toArray, List.set_cons_zero, List.set_cons_succ]
                refine wpAnyH_take (i := 22) (oi := { dst := some 71, op := Go.Op.pick (Go.Operand.tmp 62) (Go.Operand.tmp 70) (Go.Operand.const (Go.Value.bool false)), type := 4, pos := "law.go:80", after := #[{ on := 13, ground := Go.Ground.data }, { on := 21, ground := Go.Ground.data }, { on := 6, ground := Go.Ground.guard }], guard := some (6, false) }) (v := ?_) rfl (by kernel_rfl) (by kernel_rfl) (by kernel_rfl) (fun _ _ _ h => h) (Or.inl ⟨by rfl, ?_⟩) (by assumption) ?_
                rotate_left
                focus (intro W hSw; obtain ⟨hcW, hfW, hbW⟩ := hSw; go_simp; (try with_reducible rfl); done)
                simp only [Act.put, List.setIfInBounds_toArray, List.set_cons_zero, List.set_cons_succ]
                refine wpAnyH_take (i := 23) (oi := { dst := some 72, op := Go.Op.pick (Go.Operand.tmp 55) (Go.Operand.const (Go.Value.bool true)) (Go.Operand.tmp 71), type := 4, pos := "law.go:80", after := #[{ on := 6, ground := Go.Ground.data }, { on := 22, ground := Go.Ground.data }], guard := none }) (v := ?_) rfl (by kernel_rfl) (by kernel_rfl) (by kernel_rfl) (fun _ _ _ h => h) (Or.inl ⟨by rfl, ?_⟩) (by assumption) ?_
                rotate_left
                focus (intro W hSw; obtain ⟨hcW, hfW, hbW⟩ := hSw; go_simp; (try with_reducible rfl); done)
                simp only [Act.put, List.setIfInBounds_toArray, List.set_cons_zero, List.set_cons_succ]
                refine wpAnyH_take (i := 24) (oi := { dst := some 73, op := Go.Op.move (Go.Operand.tmp 72), type := 4, pos := "law.go:80", after := #[{ on := 23, ground := Go.Ground.data }, { on := 13, ground := Go.Ground.chain }], guard := none }) (v := ?_) rfl (by kernel_rfl) (by kernel_rfl) (by kernel_rfl) (fun _ _ _ h => h) (Or.inl ⟨by rfl, ?_⟩) (by assumption) ?_
                rotate_left
                focus (intro W hSw; obtain ⟨hcW, hfW, hbW⟩ := hSw; go_simp; (try with_reducible rfl); done)
                simp only [Act.put, List.setIfInBounds_toArray, List.set_cons_zero, List.set_cons_succ]
                refine wpAnyH_take (i := 25) (oi := { dst := some 74, op := Go.Op.move (Go.Operand.tmp 5), type := 37, pos := "law.go:80", after := #[{ on := 24, ground := Go.Ground.guard }], guard := some (24, false) }) (v := ?_) rfl (by kernel_rfl) (by kernel_rfl) (by kernel_rfl) (fun _ _ _ h => h) (Or.inl ⟨by rfl, ?_⟩) (by assumption) ?_
                rotate_left
                focus (intro W hSw; obtain ⟨hcW, hfW, hbW⟩ := hSw; go_simp; (try with_reducible rfl); done)
                simp only [Act.put, List.setIfInBounds_toArray, List.set_cons_zero, List.set_cons_succ]
                refine wpAnyH_take (i := 26) (oi := { dst := some 75, op := Go.Op.move (Go.Operand.tmp 8), type := 3, pos := "law.go:80", after := #[{ on := 24, ground := Go.Ground.guard }], guard := some (24, false) }) (v := ?_) rfl (by kernel_rfl) (by kernel_rfl) (by kernel_rfl) (fun _ _ _ h => h) (Or.inl ⟨by rfl, ?_⟩) (by assumption) ?_
                rotate_left
                focus (intro W hSw; obtain ⟨hcW, hfW, hbW⟩ := hSw; go_simp; (try with_reducible rfl); done)
                simp only [Act.put, List.setIfInBounds_toArray, List.set_cons_zero, List.set_cons_succ]
                refine wpAnyH_take (i := 27) (oi := { dst := some 76, op := Go.Op.indexAddr 37 (Go.Operand.tmp 74) (Go.Operand.tmp 75), type := 0, pos := "law.go:80", after := #[{ on := 25, ground := Go.Ground.data }, { on := 26, ground := Go.Ground.data }, { on := 24, ground := Go.Ground.guard }], guard := some (24, false) }) (v := ?_) rfl (by kernel_rfl) (by kernel_rfl) (by kernel_rfl) (fun _ _ _ h => h) (Or.inl ⟨by rfl, ?_⟩) (by assumption) ?_
                rotate_left
                focus (intro W hSw; obtain ⟨hcW, hfW, hbW⟩ := hSw; go_simp; (try with_reducible rfl); done)
                simp only [Act.put, List.setIfInBounds_toArray, List.set_cons_zero, List.set_cons_succ]
                refine wpAnyH_take (i := 28) (oi := { dst := some 77, op := Go.Op.fieldAddr 36 (Go.Operand.tmp 76) 0, type := 0, pos := "law.go:80", after := #[{ on := 27, ground := Go.Ground.data }, { on := 24, ground := Go.Ground.guard }], guard := some (24, false) }) (v := ?_) rfl (by kernel_rfl) (by kernel_rfl) (by kernel_rfl) (fun _ _ _ h => h) (Or.inl ⟨by rfl, ?_⟩) (by assumption) ?_
                rotate_left
                focus (intro W hSw; obtain ⟨hcW, hfW, hbW⟩ := hSw; go_simp; (try with_reducible rfl); done)
                simp only [Act.put, List.setIfInBounds_toArray, List.set_cons_zero, List.set_cons_succ]
                refine wpAnyH_take (i := 29) (oi := { dst := some 78, op := Go.Op.load 3 (Go.Operand.tmp 77), type := 3, pos := "law.go:80", after := #[{ on := 28, ground := Go.Ground.data }, { on := 24, ground := Go.Ground.guard }], guard := some (24, false) }) (v := ?_) rfl (by kernel_rfl) (by kernel_rfl) (by kernel_rfl) (fun _ _ _ h => h) (Or.inl ⟨by rfl, ?_⟩) (by assumption) ?_
                rotate_left
                focus (intro W hSw; obtain ⟨hcW, hfW, hbW⟩ := hSw; go_simp; (try with_reducible rfl); done)
                simp only [Act.put, List.setIfInBounds_toArray, List.set_cons_zero, List.set_cons_succ]
                refine wpAnyH_take (i := 30) (oi := { dst := some 79, op := Go.Op.binOp Go.BinOp.eql 3 (Go.Operand.tmp 78) (Go.Operand.const (Go.Value.int Go.IntKind.i64 3)) 3, type := 4, pos := "law.go:80", after := #[{ on := 29, ground := Go.Ground.data }, { on := 24, ground := Go.Ground.guard }], guard := some (24, false) }) (v := ?_) rfl (by kernel_rfl) (by kernel_rfl) (by kernel_rfl) (fun _ _ _ h => h) (Or.inl ⟨by rfl, ?_⟩) (by assumption) ?_
                rotate_left
                focus (intro W hSw; obtain ⟨hcW, hfW, hbW⟩ := hSw; go_simp; (try with_reducible rfl); done)
                simp only [Act.put, List.setIfInBounds_toArray, List.set_cons_zero, List.set_cons_succ]
                refine wpAnyH_take (i := 31) (oi := { dst := some 80, op := Go.Op.move (Go.Operand.tmp 79), type := 4, pos := "law.go:80", after := #[{ on := 30, ground := Go.Ground.data }, { on := 24, ground := Go.Ground.chain }, { on := 24, ground := Go.Ground.guard }], guard := some (24, false) }) (v := ?_) rfl (by kernel_rfl) (by kernel_rfl) (by kernel_rfl) (fun _ _ _ h => h) (Or.inl ⟨by rfl, ?_⟩) (by assumption) ?_
                rotate_left
                focus (intro W hSw; obtain ⟨hcW, hfW, hbW⟩ := hSw; go_simp; (try with_reducible rfl); done)
                simp only [Act.put, List.setIfInBounds_toArray, List.set_cons_zero, List.set_cons_succ]
                refine wpAnyH_take (i := 32) (oi := { dst := some 81, op := Go.Op.move (Go.Operand.tmp 5), type := 37, pos := "law.go:80", after := #[{ on := 31, ground := Go.Ground.guard }], guard := some (31, true) }) (v := undef) rfl (by kernel_rfl) (by kernel_rfl) (by kernel_rfl) (fun _ _ _ h => h) (Or.inr ⟨by rfl, rfl⟩) (by assumption) ?_
                simp only [Act.put, List.setIfInBounds_toArray, List.set_cons_zero, List.set_cons_succ]
                refine wpAnyH_take (i := 33) (oi := { dst := some 82, op := Go.Op.move (Go.Operand.tmp 8), type := 3, pos := "law.go:80", after := #[{ on := 31, ground := Go.Ground.guard }], guard := some (31, true) }) (v := undef) rfl (by kernel_rfl) (by kernel_rfl) (by kernel_rfl) (fun _ _ _ h => h) (Or.inr ⟨by rfl, rfl⟩) (by assumption) ?_
                simp only [Act.put, List.setIfInBounds_toArray, List.set_cons_zero, List.set_cons_succ]
                refine wpAnyH_take (i := 34) (oi := { dst := some 83, op := Go.Op.indexAddr 37 (Go.Operand.tmp 81) (Go.Operand.tmp 82), type := 0, pos := "law.go:80", after := #[{ on := 32, ground := Go.Ground.data }, { on := 33, ground := Go.Ground.data }, { on := 31, ground := Go.Ground.guard }], guard := some (31, true) }) (v := undef) rfl (by kernel_rfl) (by kernel_rfl) (by kernel_rfl) (fun _ _ _ h => h) (Or.inr ⟨by rfl, rfl⟩) (by assumption) ?_
                simp only [Act.put, List.setIfInBounds_toArray, List.set_cons_zero, List.set_cons_succ]
                refine wpAnyH_take (i := 35) (oi := { dst := some 84, op := Go.Op.fieldAddr 36 (Go.Operand.tmp 83) 1, type := 0, pos := "law.go:80", after := #[{ on := 34, ground := Go.Ground.data }, { on := 31, ground := Go.Ground.guard }], guard := some (31, true) }) (v := undef) rfl (by kernel_rfl) (by kernel_rfl) (by kernel_rfl) (fun _ _ _ h => h) (Or.inr ⟨by rfl, rfl⟩) (by assumption) ?_
                simp only [Act.put, List.setIfInBounds_toArray, List.set_cons_zero, List.set_cons_succ]
                refine wpAnyH_take (i := 36) (oi := { dst := some 85, op := Go.Op.load 3 (Go.Operand.tmp 84), type := 3, pos := "law.go:80", after := #[{ on := 35, ground := Go.Ground.data }, { on := 31, ground := Go.Ground.guard }], guard := some (31, true) }) (v := undef) rfl (by kernel_rfl) (by kernel_rfl) (by kernel_rfl) (fun _ _ _ h => h) (Or.inr ⟨by rfl, rfl⟩) (by assumption) ?_
                simp only [Act.put, List.setIfInBounds_toArray, List.set_cons_zero, List.set_cons_succ]
                refine wpAnyH_take (i := 37) (oi := { dst := some 86, op := Go.Op.fieldAddr 28 (Go.Operand.tmp 1) 4, type := 0, pos := "law.go:80", after := #[{ on := 31, ground := Go.Ground.guard }], guard := some (31, true) }) (v := undef) rfl (by kernel_rfl) (by kernel_rfl) (by kernel_rfl) (fun _ _ _ h => h) (Or.inr ⟨by rfl, rfl⟩) (by assumption) ?_
                simp only [Act.put, List.setIfInBounds_toArray, List.set_cons_zero, List.set_cons_succ]
                refine wpAnyH_take (i := 38) (oi := { dst := some 87, op := Go.Op.load 3 (Go.Operand.tmp 86), type := 3, pos := "law.go:80", after := #[{ on := 37, ground := Go.Ground.data }, { on := 31, ground := Go.Ground.guard }], guard := some (31, true) }) (v := undef) rfl (by kernel_rfl) (by kernel_rfl) (by kernel_rfl) (fun _ _ _ h => h) (Or.inr ⟨by rfl, rfl⟩) (by assumption) ?_
                simp only [Act.put, List.setIfInBounds_toArray, List.set_cons_zero, List.set_cons_succ]
                refine wpAnyH_take (i := 39) (oi := { dst := some 88, op := Go.Op.binOp Go.BinOp.geq 3 (Go.Operand.tmp 85) (Go.Operand.tmp 87) 3, type := 4, pos := "law.go:80", after := #[{ on := 36, ground := Go.Ground.data }, { on := 38, ground := Go.Ground.data }, { on := 31, ground := Go.Ground.guard }], guard := some (31, true) }) (v := undef) rfl (by kernel_rfl) (by kernel_rfl) (by kernel_rfl) (fun _ _ _ h => h) (Or.inr ⟨by rfl, rfl⟩) (by assumption) ?_
                simp only [Act.put, List.setIfInBounds_toArray, List.set_cons_zero, List.set_cons_succ]
                refine wpAnyH_take (i := 40) (oi := { dst := some 89, op := Go.Op.pick (Go.Operand.tmp 80) (Go.Operand.tmp 88) (Go.Operand.const (Go.Value.bool false)), type := 4, pos := "law.go:80", after := #[{ on := 31, ground := Go.Ground.data }, { on := 39, ground := Go.Ground.data }, { on := 24, ground := Go.Ground.guard }], guard := some (24, false) }) (v := ?_) rfl (by kernel_rfl) (by kernel_rfl) (by kernel_rfl) (fun _ _ _ h => h) (Or.inl ⟨by rfl, ?_⟩) (by assumption) ?_
                rotate_left
                focus (intro W hSw; obtain ⟨hcW, hfW, hbW⟩ := hSw; go_simp; (try with_reducible rfl); done)
                simp only [Act.put, List.setIfInBounds_toArray, List.set_cons_zero, List.set_cons_succ]
                refine wpAnyH_take (i := 41) (oi := { dst := some 90, op := Go.Op.pick (Go.Operand.tmp 73) (Go.Operand.const (Go.Value.bool true)) (Go.Operand.tmp 89), type := 4, pos := "law.go:80", after := #[{ on := 24, ground := Go.Ground.data }, { on := 40, ground := Go.Ground.data }], guard := none }) (v := ?_) rfl (by kernel_rfl) (by kernel_rfl) (by kernel_rfl) (fun _ _ _ h => h) (Or.inl ⟨by rfl, ?_⟩) (by assumption) ?_
                rotate_left
                focus (intro W hSw; obtain ⟨hcW, hfW, hbW⟩ := hSw; go_simp; (try with_reducible rfl); done)
                simp only [Act.put, List.setIfInBounds_toArray, List.set_cons_zero, List.set_cons_succ]
                refine wpAnyH_done (by kernel_rfl) ?_ _
                have hpz := Past.below (Past.bel (by assumption : Past wr _)) hp
                go_wp2
                go_roundw
                case rel => first | exact ⟨q + 1, by omega, by go_num, hpz⟩ | exact ⟨q + 1, by omega, by omega⟩
                case measure => simp [intOf]; omega
              · skip
                have s12b : (k0 == 0) = false := by simpa using s12
                refine wpAnyH_take (i := 12) (oi := { dst := some 61, op := Go.Op.binOp Go.BinOp.eql 3 (Go.Operand.tmp 60) (Go.Operand.const (Go.Value.int Go.IntKind.i64 0)) 3, type := 4, pos := "law.go:80", after := #[{ on := 11, ground := Go.Ground.data }, { on := 6, ground := Go.Ground.guard }], guard := some (6, false) }) (v := ?_) rfl (by kernel_rfl) (by kernel_rfl) (by kernel_rfl) (fun _ _ _ h => h) (Or.inl ⟨by rfl, ?_⟩) (by assumption) ?_
                rotate_left
                focus (intro W hSw; obtain ⟨hcW, hfW, hbW⟩ := hSw; go_simp; (try with_reducible rfl); done)
                simp only [Act.put, List.setIfInBounds_toArray, List.set_cons_zero, List.set_cons_succ]
                refine wpAnyH_take (i := 13) (oi := { dst := some 62, op := Go.Op.move (Go.Operand.tmp 61), type := 4, pos := "law.go:80", after := #[{ on := 12, ground := Go.Ground.data }, { on := 6, ground := Go.Ground.chain }, { on := 6, ground := Go.Ground.guard }], guard := some (6, false) }) (v := ?_) rfl (by kernel_rfl) (by kernel_rfl) (by kernel_rfl) (fun _ _ _ h => h) (Or.inl ⟨by rfl, ?_⟩) (by assumption) ?_
                rotate_left
                focus (intro W hSw; obtain ⟨hcW, hfW, hbW⟩ := hSw; go_simp; (try with_reducible rfl); done)
                simp only [Act.put, List.setIfInBounds_toArray, List.set_cons_zero, List.set_cons_succ]
                refine wpAnyH_take (i := 14) (oi := { dst := some 63, op := Go.Op.move (Go.Operand.tmp 5), type := 37, pos := "law.go:80", after := #[{ on := 13, ground := Go.Ground.guard }], guard := some (13, true) }) (v := undef) rfl (by kernel_rfl) (by kernel_rfl) (by kernel_rfl) (fun _ _ _ h => h) (Or.inr ⟨by rfl, rfl⟩) (by assumption) ?_
                simp only [Act.put, List.setIfInBounds_toArray, List.set_cons_zero, List.set_cons_succ]
                refine wpAnyH_take (i := 15) (oi := { dst := some 64, op := Go.Op.move (Go.Operand.tmp 8), type := 3, pos := "law.go:80", after := #[{ on := 13, ground := Go.Ground.guard }], guard := some (13, true) }) (v := undef) rfl (by kernel_rfl) (by kernel_rfl) (by kernel_rfl) (fun _ _ _ h => h) (Or.inr ⟨by rfl, rfl⟩) (by assumption) ?_
                simp only [Act.put, List.setIfInBounds_toArray, List.set_cons_zero, List.set_cons_succ]
                refine wpAnyH_take (i := 16) (oi := { dst := some 65, op := Go.Op.indexAddr 37 (Go.Operand.tmp 63) (Go.Operand.tmp 64), type := 0, pos := "law.go:80", after := #[{ on := 14, ground := Go.Ground.data }, { on := 15, ground := Go.Ground.data }, { on := 13, ground := Go.Ground.guard }], guard := some (13, true) }) (v := undef) rfl (by kernel_rfl) (by kernel_rfl) (by kernel_rfl) (fun _ _ _ h => h) (Or.inr ⟨by rfl, rfl⟩) (by assumption) ?_
                simp only [Act.put, List.setIfInBounds_toArray, List.set_cons_zero, List.set_cons_succ]
                refine wpAnyH_take (i := 17) (oi := { dst := some 66, op := Go.Op.fieldAddr 36 (Go.Operand.tmp 65) 1, type := 0, pos := "law.go:80", after := #[{ on := 16, ground := Go.Ground.data }, { on := 13, ground := Go.Ground.guard }], guard := some (13, true) }) (v := undef) rfl (by kernel_rfl) (by kernel_rfl) (by kernel_rfl) (fun _ _ _ h => h) (Or.inr ⟨by rfl, rfl⟩) (by assumption) ?_
                simp only [Act.put, List.setIfInBounds_toArray, List.set_cons_zero, List.set_cons_succ]
                refine wpAnyH_take (i := 18) (oi := { dst := some 67, op := Go.Op.load 3 (Go.Operand.tmp 66), type := 3, pos := "law.go:80", after := #[{ on := 17, ground := Go.Ground.data }, { on := 13, ground := Go.Ground.guard }], guard := some (13, true) }) (v := undef) rfl (by kernel_rfl) (by kernel_rfl) (by kernel_rfl) (fun _ _ _ h => h) (Or.inr ⟨by rfl, rfl⟩) (by assumption) ?_
                simp only [Act.put, List.setIfInBounds_toArray, List.set_cons_zero, List.set_cons_succ]
                refine wpAnyH_take (i := 19) (oi := { dst := some 68, op := Go.Op.fieldAddr 28 (Go.Operand.tmp 1) 3, type := 0, pos := "law.go:80", after := #[{ on := 13, ground := Go.Ground.guard }], guard := some (13, true) }) (v := undef) rfl (by kernel_rfl) (by kernel_rfl) (by kernel_rfl) (fun _ _ _ h => h) (Or.inr ⟨by rfl, rfl⟩) (by assumption) ?_
                simp only [Act.put, List.setIfInBounds_toArray, List.set_cons_zero, List.set_cons_succ]
                refine wpAnyH_take (i := 20) (oi := { dst := some 69, op := Go.Op.load 3 (Go.Operand.tmp 68), type := 3, pos := "law.go:80", after := #[{ on := 19, ground := Go.Ground.data }, { on := 13, ground := Go.Ground.guard }], guard := some (13, true) }) (v := undef) rfl (by kernel_rfl) (by kernel_rfl) (by kernel_rfl) (fun _ _ _ h => h) (Or.inr ⟨by rfl, rfl⟩) (by assumption) ?_
                simp only [Act.put, List.setIfInBounds_toArray, List.set_cons_zero, List.set_cons_succ]
                refine wpAnyH_take (i := 21) (oi := { dst := some 70, op := Go.Op.binOp Go.BinOp.geq 3 (Go.Operand.tmp 67) (Go.Operand.tmp 69) 3, type := 4, pos := "law.go:80", after := #[{ on := 18, ground := Go.Ground.data }, { on := 20, ground := Go.Ground.data }, { on := 13, ground := Go.Ground.guard }], guard := some (13, true) }) (v := undef) rfl (by kernel_rfl) (by kernel_rfl) (by kernel_rfl) (fun _ _ _ h => h) (Or.inr ⟨by rfl, rfl⟩) (by assumption) ?_
                simp only [Act.put, List.setIfInBounds_toArray, List.set_cons_zero, List.set_cons_succ]
                refine wpAnyH_take (i := 22) (oi := { dst := some 71, op := Go.Op.pick (Go.Operand.tmp 62) (Go.Operand.tmp 70) (Go.Operand.const (Go.Value.bool false)), type := 4, pos := "law.go:80", after := #[{ on := 13, ground := Go.Ground.data }, { on := 21, ground := Go.Ground.data }, { on := 6, ground := Go.Ground.guard }], guard := some (6, false) }) (v := ?_) rfl (by kernel_rfl) (by kernel_rfl) (by kernel_rfl) (fun _ _ _ h => h) (Or.inl ⟨by rfl, ?_⟩) (by assumption) ?_
                rotate_left
                focus (intro W hSw; obtain ⟨hcW, hfW, hbW⟩ := hSw; go_simp; (try with_reducible rfl); done)
                simp only [Act.put, List.setIfInBounds_toArray, List.set_cons_zero, List.set_cons_succ]
                refine wpAnyH_take (i := 23) (oi := { dst := some 72, op := Go.Op.pick (Go.Operand.tmp 55) (Go.Operand.const (Go.Value.bool true)) (Go.Operand.tmp 71), type := 4, pos := "law.go:80", after := #[{ on := 6, ground := Go.Ground.data }, { on := 22, ground := Go.Ground.data }], guard := none }) (v := ?_) rfl (by kernel_rfl) (by kernel_rfl) (by kernel_rfl) (fun _ _ _ h => h) (Or.inl ⟨by rfl, ?_⟩) (by assumption) ?_
                rotate_left
                focus (intro W hSw; obtain ⟨hcW, hfW, hbW⟩ := hSw; go_simp; (try with_reducible rfl); done)
                simp only [Act.put, List.setIfInBounds_toArray, List.set_cons_zero, List.set_cons_succ]
                refine wpAnyH_take (i := 24) (oi := { dst := some 73, op := Go.Op.move (Go.Operand.tmp 72), type := 4, pos := "law.go:80", after := #[{ on := 23, ground := Go.Ground.data }, { on := 13, ground := Go.Ground.chain }], guard := none }) (v := ?_) rfl (by kernel_rfl) (by kernel_rfl) (by kernel_rfl) (fun _ _ _ h => h) (Or.inl ⟨by rfl, ?_⟩) (by assumption) ?_
                rotate_left
                focus (intro W hSw; obtain ⟨hcW, hfW, hbW⟩ := hSw; go_simp; (try with_reducible rfl); done)
                simp only [Act.put, List.setIfInBounds_toArray, List.set_cons_zero, List.set_cons_succ]
                refine wpAnyH_take (i := 25) (oi := { dst := some 74, op := Go.Op.move (Go.Operand.tmp 5), type := 37, pos := "law.go:80", after := #[{ on := 24, ground := Go.Ground.guard }], guard := some (24, false) }) (v := ?_) rfl (by kernel_rfl) (by kernel_rfl) (by kernel_rfl) (fun _ _ _ h => h) (Or.inl ⟨by rfl, ?_⟩) (by assumption) ?_
                rotate_left
                focus (intro W hSw; obtain ⟨hcW, hfW, hbW⟩ := hSw; go_simp; (try with_reducible rfl); done)
                simp only [Act.put, List.setIfInBounds_toArray, List.set_cons_zero, List.set_cons_succ]
                refine wpAnyH_take (i := 26) (oi := { dst := some 75, op := Go.Op.move (Go.Operand.tmp 8), type := 3, pos := "law.go:80", after := #[{ on := 24, ground := Go.Ground.guard }], guard := some (24, false) }) (v := ?_) rfl (by kernel_rfl) (by kernel_rfl) (by kernel_rfl) (fun _ _ _ h => h) (Or.inl ⟨by rfl, ?_⟩) (by assumption) ?_
                rotate_left
                focus (intro W hSw; obtain ⟨hcW, hfW, hbW⟩ := hSw; go_simp; (try with_reducible rfl); done)
                simp only [Act.put, List.setIfInBounds_toArray, List.set_cons_zero, List.set_cons_succ]
                refine wpAnyH_take (i := 27) (oi := { dst := some 76, op := Go.Op.indexAddr 37 (Go.Operand.tmp 74) (Go.Operand.tmp 75), type := 0, pos := "law.go:80", after := #[{ on := 25, ground := Go.Ground.data }, { on := 26, ground := Go.Ground.data }, { on := 24, ground := Go.Ground.guard }], guard := some (24, false) }) (v := ?_) rfl (by kernel_rfl) (by kernel_rfl) (by kernel_rfl) (fun _ _ _ h => h) (Or.inl ⟨by rfl, ?_⟩) (by assumption) ?_
                rotate_left
                focus (intro W hSw; obtain ⟨hcW, hfW, hbW⟩ := hSw; go_simp; (try with_reducible rfl); done)
                simp only [Act.put, List.setIfInBounds_toArray, List.set_cons_zero, List.set_cons_succ]
                refine wpAnyH_take (i := 28) (oi := { dst := some 77, op := Go.Op.fieldAddr 36 (Go.Operand.tmp 76) 0, type := 0, pos := "law.go:80", after := #[{ on := 27, ground := Go.Ground.data }, { on := 24, ground := Go.Ground.guard }], guard := some (24, false) }) (v := ?_) rfl (by kernel_rfl) (by kernel_rfl) (by kernel_rfl) (fun _ _ _ h => h) (Or.inl ⟨by rfl, ?_⟩) (by assumption) ?_
                rotate_left
                focus (intro W hSw; obtain ⟨hcW, hfW, hbW⟩ := hSw; go_simp; (try with_reducible rfl); done)
                simp only [Act.put, List.setIfInBounds_toArray, List.set_cons_zero, List.set_cons_succ]
                refine wpAnyH_take (i := 29) (oi := { dst := some 78, op := Go.Op.load 3 (Go.Operand.tmp 77), type := 3, pos := "law.go:80", after := #[{ on := 28, ground := Go.Ground.data }, { on := 24, ground := Go.Ground.guard }], guard := some (24, false) }) (v := ?_) rfl (by kernel_rfl) (by kernel_rfl) (by kernel_rfl) (fun _ _ _ h => h) (Or.inl ⟨by rfl, ?_⟩) (by assumption) ?_
                rotate_left
                focus (intro W hSw; obtain ⟨hcW, hfW, hbW⟩ := hSw; go_simp; (try with_reducible rfl); done)
                simp only [Act.put, List.setIfInBounds_toArray, List.set_cons_zero, List.set_cons_succ]
                by_cases s30 : k0 = 3
                · skip
                  have g3n : ¬ p ≤ k1 := by have := g3 s30; omega
                  refine wpAnyH_take (i := 30) (oi := { dst := some 79, op := Go.Op.binOp Go.BinOp.eql 3 (Go.Operand.tmp 78) (Go.Operand.const (Go.Value.int Go.IntKind.i64 3)) 3, type := 4, pos := "law.go:80", after := #[{ on := 29, ground := Go.Ground.data }, { on := 24, ground := Go.Ground.guard }], guard := some (24, false) }) (v := ?_) rfl (by kernel_rfl) (by kernel_rfl) (by kernel_rfl) (fun _ _ _ h => h) (Or.inl ⟨by rfl, ?_⟩) (by assumption) ?_
                  rotate_left
                  focus (intro W hSw; obtain ⟨hcW, hfW, hbW⟩ := hSw; go_simp; (try with_reducible rfl); done)
                  simp only [Act.put, List.setIfInBounds_toArray, List.set_cons_zero, List.set_cons_succ]
                  refine wpAnyH_take (i := 31) (oi := { dst := some 80, op := Go.Op.move (Go.Operand.tmp 79), type := 4, pos := "law.go:80", after := #[{ on := 30, ground := Go.Ground.data }, { on := 24, ground := Go.Ground.chain }, { on := 24, ground := Go.Ground.guard }], guard := some (24, false) }) (v := ?_) rfl (by kernel_rfl) (by kernel_rfl) (by kernel_rfl) (fun _ _ _ h => h) (Or.inl ⟨by rfl, ?_⟩) (by assumption) ?_
                  rotate_left
                  focus (intro W hSw; obtain ⟨hcW, hfW, hbW⟩ := hSw; go_simp; (try with_reducible rfl); done)
                  simp only [Act.put, List.setIfInBounds_toArray, List.set_cons_zero, List.set_cons_succ]
                  refine wpAnyH_take (i := 32) (oi := { dst := some 81, op := Go.Op.move (Go.Operand.tmp 5), type := 37, pos := "law.go:80", after := #[{ on := 31, ground := Go.Ground.guard }], guard := some (31, true) }) (v := ?_) rfl (by kernel_rfl) (by kernel_rfl) (by kernel_rfl) (fun _ _ _ h => h) (Or.inl ⟨by rfl, ?_⟩) (by assumption) ?_
                  rotate_left
                  focus (intro W hSw; obtain ⟨hcW, hfW, hbW⟩ := hSw; go_simp; (try with_reducible rfl); done)
                  simp only [Act.put, List.setIfInBounds_toArray, List.set_cons_zero, List.set_cons_succ]
                  refine wpAnyH_take (i := 33) (oi := { dst := some 82, op := Go.Op.move (Go.Operand.tmp 8), type := 3, pos := "law.go:80", after := #[{ on := 31, ground := Go.Ground.guard }], guard := some (31, true) }) (v := ?_) rfl (by kernel_rfl) (by kernel_rfl) (by kernel_rfl) (fun _ _ _ h => h) (Or.inl ⟨by rfl, ?_⟩) (by assumption) ?_
                  rotate_left
                  focus (intro W hSw; obtain ⟨hcW, hfW, hbW⟩ := hSw; go_simp; (try with_reducible rfl); done)
                  simp only [Act.put, List.setIfInBounds_toArray, List.set_cons_zero, List.set_cons_succ]
                  refine wpAnyH_take (i := 34) (oi := { dst := some 83, op := Go.Op.indexAddr 37 (Go.Operand.tmp 81) (Go.Operand.tmp 82), type := 0, pos := "law.go:80", after := #[{ on := 32, ground := Go.Ground.data }, { on := 33, ground := Go.Ground.data }, { on := 31, ground := Go.Ground.guard }], guard := some (31, true) }) (v := ?_) rfl (by kernel_rfl) (by kernel_rfl) (by kernel_rfl) (fun _ _ _ h => h) (Or.inl ⟨by rfl, ?_⟩) (by assumption) ?_
                  rotate_left
                  focus (intro W hSw; obtain ⟨hcW, hfW, hbW⟩ := hSw; go_simp; (try with_reducible rfl); done)
                  simp only [Act.put, List.setIfInBounds_toArray, List.set_cons_zero, List.set_cons_succ]
                  refine wpAnyH_take (i := 35) (oi := { dst := some 84, op := Go.Op.fieldAddr 36 (Go.Operand.tmp 83) 1, type := 0, pos := "law.go:80", after := #[{ on := 34, ground := Go.Ground.data }, { on := 31, ground := Go.Ground.guard }], guard := some (31, true) }) (v := ?_) rfl (by kernel_rfl) (by kernel_rfl) (by kernel_rfl) (fun _ _ _ h => h) (Or.inl ⟨by rfl, ?_⟩) (by assumption) ?_
                  rotate_left
                  focus (intro W hSw; obtain ⟨hcW, hfW, hbW⟩ := hSw; go_simp; (try with_reducible rfl); done)
                  simp only [Act.put, List.setIfInBounds_toArray, List.set_cons_zero, List.set_cons_succ]
                  refine wpAnyH_take (i := 36) (oi := { dst := some 85, op := Go.Op.load 3 (Go.Operand.tmp 84), type := 3, pos := "law.go:80", after := #[{ on := 35, ground := Go.Ground.data }, { on := 31, ground := Go.Ground.guard }], guard := some (31, true) }) (v := ?_) rfl (by kernel_rfl) (by kernel_rfl) (by kernel_rfl) (fun _ _ _ h => h) (Or.inl ⟨by rfl, ?_⟩) (by assumption) ?_
                  rotate_left
                  focus (intro W hSw; obtain ⟨hcW, hfW, hbW⟩ := hSw; go_simp; (try with_reducible rfl); done)
                  simp only [Act.put, List.setIfInBounds_toArray, List.set_cons_zero, List.set_cons_succ]
                  refine wpAnyH_take (i := 37) (oi := { dst := some 86, op := Go.Op.fieldAddr 28 (Go.Operand.tmp 1) 4, type := 0, pos := "law.go:80", after := #[{ on := 31, ground := Go.Ground.guard }], guard := some (31, true) }) (v := ?_) rfl (by kernel_rfl) (by kernel_rfl) (by kernel_rfl) (fun _ _ _ h => h) (Or.inl ⟨by rfl, ?_⟩) (by assumption) ?_
                  rotate_left
                  focus (intro W hSw; obtain ⟨hcW, hfW, hbW⟩ := hSw; go_simp; (try with_reducible rfl); done)
                  simp only [Act.put, List.setIfInBounds_toArray, List.set_cons_zero, List.set_cons_succ]
                  refine wpAnyH_take (i := 38) (oi := { dst := some 87, op := Go.Op.load 3 (Go.Operand.tmp 86), type := 3, pos := "law.go:80", after := #[{ on := 37, ground := Go.Ground.data }, { on := 31, ground := Go.Ground.guard }], guard := some (31, true) }) (v := ?_) rfl (by kernel_rfl) (by kernel_rfl) (by kernel_rfl) (fun _ _ _ h => h) (Or.inl ⟨by rfl, ?_⟩) (by assumption) ?_
                  rotate_left
                  focus (intro W hSw; obtain ⟨hcW, hfW, hbW⟩ := hSw; go_simp; (try with_reducible rfl); done)
                  simp only [Act.put, List.setIfInBounds_toArray, List.set_cons_zero, List.set_cons_succ]
                  refine wpAnyH_take (i := 39) (oi := { dst := some 88, op := Go.Op.binOp Go.BinOp.geq 3 (Go.Operand.tmp 85) (Go.Operand.tmp 87) 3, type := 4, pos := "law.go:80", after := #[{ on := 36, ground := Go.Ground.data }, { on := 38, ground := Go.Ground.data }, { on := 31, ground := Go.Ground.guard }], guard := some (31, true) }) (v := ?_) rfl (by kernel_rfl) (by kernel_rfl) (by kernel_rfl) (fun _ _ _ h => h) (Or.inl ⟨by rfl, ?_⟩) (by assumption) ?_
                  rotate_left
                  focus (intro W hSw; obtain ⟨hcW, hfW, hbW⟩ := hSw; go_simp; (try with_reducible rfl); done)
                  simp only [Act.put, List.setIfInBounds_toArray, List.set_cons_zero, List.set_cons_succ]
                  refine wpAnyH_take (i := 40) (oi := { dst := some 89, op := Go.Op.pick (Go.Operand.tmp 80) (Go.Operand.tmp 88) (Go.Operand.const (Go.Value.bool false)), type := 4, pos := "law.go:80", after := #[{ on := 31, ground := Go.Ground.data }, { on := 39, ground := Go.Ground.data }, { on := 24, ground := Go.Ground.guard }], guard := some (24, false) }) (v := ?_) rfl (by kernel_rfl) (by kernel_rfl) (by kernel_rfl) (fun _ _ _ h => h) (Or.inl ⟨by rfl, ?_⟩) (by assumption) ?_
                  rotate_left
                  focus (intro W hSw; obtain ⟨hcW, hfW, hbW⟩ := hSw; go_simp; (try with_reducible rfl); done)
                  simp only [Act.put, List.setIfInBounds_toArray, List.set_cons_zero, List.set_cons_succ]
                  refine wpAnyH_take (i := 41) (oi := { dst := some 90, op := Go.Op.pick (Go.Operand.tmp 73) (Go.Operand.const (Go.Value.bool true)) (Go.Operand.tmp 89), type := 4, pos := "law.go:80", after := #[{ on := 24, ground := Go.Ground.data }, { on := 40, ground := Go.Ground.data }], guard := none }) (v := ?_) rfl (by kernel_rfl) (by kernel_rfl) (by kernel_rfl) (fun _ _ _ h => h) (Or.inl ⟨by rfl, ?_⟩) (by assumption) ?_
                  rotate_left
                  focus (intro W hSw; obtain ⟨hcW, hfW, hbW⟩ := hSw; go_simp; (try with_reducible rfl); done)
                  simp only [Act.put, List.setIfInBounds_toArray, List.set_cons_zero, List.set_cons_succ]
                  refine wpAnyH_done (by kernel_rfl) ?_ _
                  have hpz := Past.below (Past.bel (by assumption : Past wr _)) hp
                  go_wp2
                  go_roundw
                  case rel => first | exact ⟨q + 1, by omega, by go_num, hpz⟩ | exact ⟨q + 1, by omega, by omega⟩
                  case measure => simp [intOf]; omega
                · skip
                  have s30b : (k0 == 3) = false := by simpa using s30
                  refine wpAnyH_take (i := 30) (oi := { dst := some 79, op := Go.Op.binOp Go.BinOp.eql 3 (Go.Operand.tmp 78) (Go.Operand.const (Go.Value.int Go.IntKind.i64 3)) 3, type := 4, pos := "law.go:80", after := #[{ on := 29, ground := Go.Ground.data }, { on := 24, ground := Go.Ground.guard }], guard := some (24, false) }) (v := ?_) rfl (by kernel_rfl) (by kernel_rfl) (by kernel_rfl) (fun _ _ _ h => h) (Or.inl ⟨by rfl, ?_⟩) (by assumption) ?_
                  rotate_left
                  focus (intro W hSw; obtain ⟨hcW, hfW, hbW⟩ := hSw; go_simp; (try with_reducible rfl); done)
                  simp only [Act.put, List.setIfInBounds_toArray, List.set_cons_zero, List.set_cons_succ]
                  refine wpAnyH_take (i := 31) (oi := { dst := some 80, op := Go.Op.move (Go.Operand.tmp 79), type := 4, pos := "law.go:80", after := #[{ on := 30, ground := Go.Ground.data }, { on := 24, ground := Go.Ground.chain }, { on := 24, ground := Go.Ground.guard }], guard := some (24, false) }) (v := ?_) rfl (by kernel_rfl) (by kernel_rfl) (by kernel_rfl) (fun _ _ _ h => h) (Or.inl ⟨by rfl, ?_⟩) (by assumption) ?_
                  rotate_left
                  focus (intro W hSw; obtain ⟨hcW, hfW, hbW⟩ := hSw; go_simp; (try with_reducible rfl); done)
                  simp only [Act.put, List.setIfInBounds_toArray, List.set_cons_zero, List.set_cons_succ]
                  refine wpAnyH_take (i := 32) (oi := { dst := some 81, op := Go.Op.move (Go.Operand.tmp 5), type := 37, pos := "law.go:80", after := #[{ on := 31, ground := Go.Ground.guard }], guard := some (31, true) }) (v := undef) rfl (by kernel_rfl) (by kernel_rfl) (by kernel_rfl) (fun _ _ _ h => h) (Or.inr ⟨by rfl, rfl⟩) (by assumption) ?_
                  simp only [Act.put, List.setIfInBounds_toArray, List.set_cons_zero, List.set_cons_succ]
                  refine wpAnyH_take (i := 33) (oi := { dst := some 82, op := Go.Op.move (Go.Operand.tmp 8), type := 3, pos := "law.go:80", after := #[{ on := 31, ground := Go.Ground.guard }], guard := some (31, true) }) (v := undef) rfl (by kernel_rfl) (by kernel_rfl) (by kernel_rfl) (fun _ _ _ h => h) (Or.inr ⟨by rfl, rfl⟩) (by assumption) ?_
                  simp only [Act.put, List.setIfInBounds_toArray, List.set_cons_zero, List.set_cons_succ]
                  refine wpAnyH_take (i := 34) (oi := { dst := some 83, op := Go.Op.indexAddr 37 (Go.Operand.tmp 81) (Go.Operand.tmp 82), type := 0, pos := "law.go:80", after := #[{ on := 32, ground := Go.Ground.data }, { on := 33, ground := Go.Ground.data }, { on := 31, ground := Go.Ground.guard }], guard := some (31, true) }) (v := undef) rfl (by kernel_rfl) (by kernel_rfl) (by kernel_rfl) (fun _ _ _ h => h) (Or.inr ⟨by rfl, rfl⟩) (by assumption) ?_
                  simp only [Act.put, List.setIfInBounds_toArray, List.set_cons_zero, List.set_cons_succ]
                  refine wpAnyH_take (i := 35) (oi := { dst := some 84, op := Go.Op.fieldAddr 36 (Go.Operand.tmp 83) 1, type := 0, pos := "law.go:80", after := #[{ on := 34, ground := Go.Ground.data }, { on := 31, ground := Go.Ground.guard }], guard := some (31, true) }) (v := undef) rfl (by kernel_rfl) (by kernel_rfl) (by kernel_rfl) (fun _ _ _ h => h) (Or.inr ⟨by rfl, rfl⟩) (by assumption) ?_
                  simp only [Act.put, List.setIfInBounds_toArray, List.set_cons_zero, List.set_cons_succ]
                  refine wpAnyH_take (i := 36) (oi := { dst := some 85, op := Go.Op.load 3 (Go.Operand.tmp 84), type := 3, pos := "law.go:80", after := #[{ on := 35, ground := Go.Ground.data }, { on := 31, ground := Go.Ground.guard }], guard := some (31, true) }) (v := undef) rfl (by kernel_rfl) (by kernel_rfl) (by kernel_rfl) (fun _ _ _ h => h) (Or.inr ⟨by rfl, rfl⟩) (by assumption) ?_
                  simp only [Act.put, List.setIfInBounds_toArray, List.set_cons_zero, List.set_cons_succ]
                  refine wpAnyH_take (i := 37) (oi := { dst := some 86, op := Go.Op.fieldAddr 28 (Go.Operand.tmp 1) 4, type := 0, pos := "law.go:80", after := #[{ on := 31, ground := Go.Ground.guard }], guard := some (31, true) }) (v := undef) rfl (by kernel_rfl) (by kernel_rfl) (by kernel_rfl) (fun _ _ _ h => h) (Or.inr ⟨by rfl, rfl⟩) (by assumption) ?_
                  simp only [Act.put, List.setIfInBounds_toArray, List.set_cons_zero, List.set_cons_succ]
                  refine wpAnyH_take (i := 38) (oi := { dst := some 87, op := Go.Op.load 3 (Go.Operand.tmp 86), type := 3, pos := "law.go:80", after := #[{ on := 37, ground := Go.Ground.data }, { on := 31, ground := Go.Ground.guard }], guard := some (31, true) }) (v := undef) rfl (by kernel_rfl) (by kernel_rfl) (by kernel_rfl) (fun _ _ _ h => h) (Or.inr ⟨by rfl, rfl⟩) (by assumption) ?_
                  simp only [Act.put, List.setIfInBounds_toArray, List.set_cons_zero, List.set_cons_succ]
                  refine wpAnyH_take (i := 39) (oi := { dst := some 88, op := Go.Op.binOp Go.BinOp.geq 3 (Go.Operand.tmp 85) (Go.Operand.tmp 87) 3, type := 4, pos := "law.go:80", after := #[{ on := 36, ground := Go.Ground.data }, { on := 38, ground := Go.Ground.data }, { on := 31, ground := Go.Ground.guard }], guard := some (31, true) }) (v := undef) rfl (by kernel_rfl) (by kernel_rfl) (by kernel_rfl) (fun _ _ _ h => h) (Or.inr ⟨by rfl, rfl⟩) (by assumption) ?_
                  simp only [Act.put, List.setIfInBounds_toArray, List.set_cons_zero, List.set_cons_succ]
                  refine wpAnyH_take (i := 40) (oi := { dst := some 89, op := Go.Op.pick (Go.Operand.tmp 80) (Go.Operand.tmp 88) (Go.Operand.const (Go.Value.bool false)), type := 4, pos := "law.go:80", after := #[{ on := 31, ground := Go.Ground.data }, { on := 39, ground := Go.Ground.data }, { on := 24, ground := Go.Ground.guard }], guard := some (24, false) }) (v := ?_) rfl (by kernel_rfl) (by kernel_rfl) (by kernel_rfl) (fun _ _ _ h => h) (Or.inl ⟨by rfl, ?_⟩) (by assumption) ?_
                  rotate_left
                  focus (intro W hSw; obtain ⟨hcW, hfW, hbW⟩ := hSw; go_simp; (try with_reducible rfl); done)
                  simp only [Act.put, List.setIfInBounds_toArray, List.set_cons_zero, List.set_cons_succ]
                  refine wpAnyH_take (i := 41) (oi := { dst := some 90, op := Go.Op.pick (Go.Operand.tmp 73) (Go.Operand.const (Go.Value.bool true)) (Go.Operand.tmp 89), type := 4, pos := "law.go:80", after := #[{ on := 24, ground := Go.Ground.data }, { on := 40, ground := Go.Ground.data }], guard := none }) (v := ?_) rfl (by kernel_rfl) (by kernel_rfl) (by kernel_rfl) (fun _ _ _ h => h) (Or.inl ⟨by rfl, ?_⟩) (by assumption) ?_
                  rotate_left
                  focus (intro W hSw; obtain ⟨hcW, hfW, hbW⟩ := hSw; go_simp; (try with_reducible rfl); done)
                  simp only [Act.put, List.setIfInBounds_toArray, List.set_cons_zero, List.set_cons_succ]
                  refine wpAnyH_done (by kernel_rfl) ?_ _
                  have hpz := Past.below (Past.bel (by assumption : Past wr _)) hp
                  go_wp2
                  go_roundw
                  case rel => first | exact ⟨q + 1, by omega, by go_num, hpz⟩ | exact ⟨q + 1, by omega, by omega⟩
                  case measure => simp [intOf]; omega
            · have hq1 : ¬ (q : Int) < (l'.length : Int) := by omega
              have hpo := Past.below hp.bel HP6.out
              have HPO := Lib.hid hpo
              clear hpo
              go_upto_region 17 with fail
              replace hp := HPO.out
              refine wp_region_held_drew (S := Past wr) (by kernel_rfl) ?_ (fun hHeld => ?_)
              focus ((try dsimp only); (first | exact Past.below (by assumption) (by assumption) | exact Past.drew1 (by assumption) | exact Past.start1 _); done)
              refine wpAnyH_take (i := 0) (oi := { dst := some 97, op := Go.Op.move (Go.Operand.tmp 9), type := 3, pos := "law.go:85", after := #[], guard := none }) (v := ?_) rfl (by kernel_rfl) (by kernel_rfl) (by kernel_rfl) (fun _ _ _ h => h) (Or.inl ⟨by rfl, ?_⟩) (by assumption) ?_
              rotate_left
              focus (intro W hSw; obtain ⟨hcW, hfW, hbW⟩ := hSw; go_simp; (try with_reducible rfl); done)
              simp only [Act.put, List.setIfInBounds_toArray, List.set_cons_zero, List.set_cons_succ]
              by_cases s1 : op = 5
              · skip
                obtain ⟨j0, j1⟩ := HJ.out (Or.inl s1) (by have := HS3.out; omega)
                have j3 : ¬ nn < 0 := by omega
                have jw : IntKind.i64.wrap (nn + 1) = nn + 1 := IntWalk.i64_in _ (by have := HS3.out; omega)
                have j2 : ¬ (starts.length : Int) ≤ nn + 1 := by have := HS3.out; omega
                refine wpAnyH_take (i := 1) (oi := { dst := some 98, op := Go.Op.binOp Go.BinOp.eql 3 (Go.Operand.tmp 97) (Go.Operand.const (Go.Value.int Go.IntKind.i64 5)) 3, type := 4, pos := "law.go:85", after := #[{ on := 0, ground := Go.Ground.data }], guard := none }) (v := ?_) rfl (by kernel_rfl) (by kernel_rfl) (by kernel_rfl) (fun _ _ _ h => h) (Or.inl ⟨by rfl, ?_⟩) (by assumption) ?_
                rotate_left
                focus (intro W hSw; obtain ⟨hcW, hfW, hbW⟩ := hSw; go_simp; (try with_reducible rfl); done)
                simp only [Act.put, List.setIfInBounds_toArray, List.set_cons_zero, List.set_cons_succ]
                refine wpAnyH_take (i := 2) (oi := { dst := some 99, op := Go.Op.move (Go.Operand.tmp 98), type := 4, pos := "law.go:85", after := #[{ on := 1, ground := Go.Ground.data }], guard := none }) (v := ?_) rfl (by kernel_rfl) (by kernel_rfl) (by kernel_rfl) (fun _ _ _ h => h) (Or.inl ⟨by rfl, ?_⟩) (by assumption) ?_
                rotate_left
                focus (intro W hSw; obtain ⟨hcW, hfW, hbW⟩ := hSw; go_simp; (try with_reducible rfl); done)
                simp only [Act.put, List.setIfInBounds_toArray, List.set_cons_zero, List.set_cons_succ]
                refine wpAnyH_take (i := 3) (oi := { dst := some 100, op := Go.Op.move (Go.Operand.tmp 9), type := 3, pos := "law.go:85", after := #[{ on := 2, ground := Go.Ground.guard }], guard := some (2, false) }) (v := undef) rfl (by kernel_rfl) (by kernel_rfl) (by kernel_rfl) (fun _ _ _ h => h) (Or.inr ⟨by rfl, rfl⟩) (by assumption) ?_
                simp only [Act.put, List.setIfInBounds_toArray, List.set_cons_zero, List.set_cons_succ]
                refine wpAnyH_take (i := 4) (oi := { dst := some 101, op := Go.Op.binOp Go.BinOp.eql 3 (Go.Operand.tmp 100) (Go.Operand.const (Go.Value.int Go.IntKind.i64 6)) 3, type := 4, pos := "law.go:85", after := #[{ on := 3, ground := Go.Ground.data }, { on := 2, ground := Go.Ground.guard }], guard := some (2, false) }) (v := undef) rfl (by kernel_rfl) (by kernel_rfl) (by kernel_rfl) (fun _ _ _ h => h) (Or.inr ⟨by rfl, rfl⟩) (by assumption) ?_
                simp only [Act.put, List.setIfInBounds_toArray, List.set_cons_zero, List.set_cons_succ]
                refine wpAnyH_take (i := 5) (oi := { dst := some 102, op := Go.Op.pick (Go.Operand.tmp 99) (Go.Operand.const (Go.Value.bool true)) (Go.Operand.tmp 101), type := 4, pos := "law.go:85", after := #[{ on := 2, ground := Go.Ground.data }, { on := 4, ground := Go.Ground.data }], guard := none }) (v := ?_) rfl (by kernel_rfl) (by kernel_rfl) (by kernel_rfl) (fun _ _ _ h => h) (Or.inl ⟨by rfl, ?_⟩) (by assumption) ?_
                rotate_left
                focus (intro W hSw; obtain ⟨hcW, hfW, hbW⟩ := hSw; go_simp; (try with_reducible rfl); done)
                simp only [Act.put, List.setIfInBounds_toArray, List.set_cons_zero, List.set_cons_succ]
                refine wpAnyH_take (i := 6) (oi := { dst := some 103, op := Go.Op.move (Go.Operand.tmp 102), type := 4, pos := "law.go:85", after := #[{ on := 5, ground := Go.Ground.data }, { on := 2, ground := Go.Ground.chain }], guard := none }) (v := ?_) rfl (by kernel_rfl) (by kernel_rfl) (by kernel_rfl) (fun _ _ _ h => h) (Or.inl ⟨by rfl, ?_⟩) (by assumption) ?_
                rotate_left
                focus (intro W hSw; obtain ⟨hcW, hfW, hbW⟩ := hSw; go_simp; (try with_reducible rfl); done)
                simp only [Act.put, List.setIfInBounds_toArray, List.set_cons_zero, List.set_cons_succ]
                refine wpAnyH_take (i := 7) (oi := { dst := some 104, op := Go.Op.fieldAddr 28 (Go.Operand.tmp 1) 7, type := 0, pos := "law.go:85", after := #[{ on := 6, ground := Go.Ground.guard }], guard := some (6, true) }) (v := ?_) rfl (by kernel_rfl) (by kernel_rfl) (by kernel_rfl) (fun _ _ _ h => h) (Or.inl ⟨by rfl, ?_⟩) (by assumption) ?_
                rotate_left
                focus (intro W hSw; obtain ⟨hcW, hfW, hbW⟩ := hSw; go_simp; (try with_reducible rfl); done)
                simp only [Act.put, List.setIfInBounds_toArray, List.set_cons_zero, List.set_cons_succ]
                refine wpAnyH_take (i := 8) (oi := { dst := some 105, op := Go.Op.load 24 (Go.Operand.tmp 104), type := 24, pos := "law.go:85", after := #[{ on := 7, ground := Go.Ground.data }, { on := 6, ground := Go.Ground.guard }], guard := some (6, true) }) (v := ?_) rfl (by kernel_rfl) (by kernel_rfl) (by kernel_rfl) (fun _ _ _ h => h) (Or.inl ⟨by rfl, ?_⟩) (by assumption) ?_
                rotate_left
                focus (intro W hSw; obtain ⟨hcW, hfW, hbW⟩ := hSw; go_simp; (try with_reducible rfl); done)
                simp only [Act.put, List.setIfInBounds_toArray, List.set_cons_zero, List.set_cons_succ]
                refine wpAnyH_take (i := 9) (oi := { dst := some 106, op := Go.Op.move (Go.Operand.tmp 4), type := 3, pos := "law.go:85", after := #[{ on := 6, ground := Go.Ground.guard }], guard := some (6, true) }) (v := ?_) rfl (by kernel_rfl) (by kernel_rfl) (by kernel_rfl) (fun _ _ _ h => h) (Or.inl ⟨by rfl, ?_⟩) (by assumption) ?_
                rotate_left
                focus (intro W hSw; obtain ⟨hcW, hfW, hbW⟩ := hSw; go_simp; (try with_reducible rfl); done)
                simp only [Act.put, List.setIfInBounds_toArray, List.set_cons_zero, List.set_cons_succ]
                refine wpAnyH_take (i := 10) (oi := { dst := some 107, op := Go.Op.indexAddr 24 (Go.Operand.tmp 105) (Go.Operand.tmp 106), type := 0, pos := "law.go:85", after := #[{ on := 8, ground := Go.Ground.data }, { on := 9, ground := Go.Ground.data }, { on := 6, ground := Go.Ground.guard }], guard := some (6, true) }) (v := ?_) rfl (by kernel_rfl) (by kernel_rfl) (by kernel_rfl) (fun _ _ _ h => h) (Or.inl ⟨by rfl, ?_⟩) (by assumption) ?_
                rotate_left
                focus (intro W hSw; obtain ⟨hcW, hfW, hbW⟩ := hSw; go_simp; (try with_reducible rfl); done)
                simp only [Act.put, List.setIfInBounds_toArray, List.set_cons_zero, List.set_cons_succ]
                refine wpAnyH_take (i := 11) (oi := { dst := some 108, op := Go.Op.fieldAddr 39 (Go.Operand.tmp 107) 1, type := 0, pos := "law.go:85", after := #[{ on := 10, ground := Go.Ground.data }, { on := 6, ground := Go.Ground.guard }], guard := some (6, true) }) (v := ?_) rfl (by kernel_rfl) (by kernel_rfl) (by kernel_rfl) (fun _ _ _ h => h) (Or.inl ⟨by rfl, ?_⟩) (by assumption) ?_
                rotate_left
                focus (intro W hSw; obtain ⟨hcW, hfW, hbW⟩ := hSw; go_simp; (try with_reducible rfl); done)
                simp only [Act.put, List.setIfInBounds_toArray, List.set_cons_zero, List.set_cons_succ]
                refine wpAnyH_take (i := 12) (oi := { dst := some 109, op := Go.Op.load 3 (Go.Operand.tmp 108), type := 3, pos := "law.go:85", after := #[{ on := 11, ground := Go.Ground.data }, { on := 6, ground := Go.Ground.guard }], guard := some (6, true) }) (v := ?_) rfl (by kernel_rfl) (by kernel_rfl) (by kernel_rfl) (fun _ _ _ h => h) (Or.inl ⟨by rfl, ?_⟩) (by assumption) ?_
                rotate_left
                focus (intro W hSw; obtain ⟨hcW, hfW, hbW⟩ := hSw; go_simp; (try with_reducible rfl); done)
                simp only [Act.put, List.setIfInBounds_toArray, List.set_cons_zero, List.set_cons_succ]
                refine wpAnyH_take (i := 13) (oi := { dst := some 110, op := Go.Op.binOp Go.BinOp.lss 3 (Go.Operand.tmp 109) (Go.Operand.const (Go.Value.int Go.IntKind.i64 0)) 3, type := 4, pos := "law.go:85", after := #[{ on := 12, ground := Go.Ground.data }, { on := 6, ground := Go.Ground.guard }], guard := some (6, true) }) (v := ?_) rfl (by kernel_rfl) (by kernel_rfl) (by kernel_rfl) (fun _ _ _ h => h) (Or.inl ⟨by rfl, ?_⟩) (by assumption) ?_
                rotate_left
                focus (intro W hSw; obtain ⟨hcW, hfW, hbW⟩ := hSw; go_simp; (try with_reducible rfl); done)
                simp only [Act.put, List.setIfInBounds_toArray, List.set_cons_zero, List.set_cons_succ]
                refine wpAnyH_take (i := 14) (oi := { dst := some 111, op := Go.Op.move (Go.Operand.tmp 110), type := 4, pos := "law.go:85", after := #[{ on := 13, ground := Go.Ground.data }, { on := 6, ground := Go.Ground.chain }, { on := 6, ground := Go.Ground.guard }], guard := some (6, true) }) (v := ?_) rfl (by kernel_rfl) (by kernel_rfl) (by kernel_rfl) (fun _ _ _ h => h) (Or.inl ⟨by rfl, ?_⟩) (by assumption) ?_
                rotate_left
                focus (intro W hSw; obtain ⟨hcW, hfW, hbW⟩ := hSw; go_simp; (try with_reducible rfl); done)
                simp only [Act.put, List.setIfInBounds_toArray, List.set_cons_zero, List.set_cons_succ]
                refine wpAnyH_take (i := 15) (oi := { dst := some 112, op := Go.Op.fieldAddr 28 (Go.Operand.tmp 1) 7, type := 0, pos := "law.go:85", after := #[{ on := 14, ground := Go.Ground.guard }], guard := some (14, false) }) (v := ?_) rfl (by kernel_rfl) (by kernel_rfl) (by kernel_rfl) (fun _ _ _ h => h) (Or.inl ⟨by rfl, ?_⟩) (by assumption) ?_
                rotate_left
                focus (intro W hSw; obtain ⟨hcW, hfW, hbW⟩ := hSw; go_simp; (try with_reducible rfl); done)
                simp only [Act.put, List.setIfInBounds_toArray, List.set_cons_zero, List.set_cons_succ]
                refine wpAnyH_take (i := 16) (oi := { dst := some 113, op := Go.Op.load 24 (Go.Operand.tmp 112), type := 24, pos := "law.go:85", after := #[{ on := 15, ground := Go.Ground.data }, { on := 14, ground := Go.Ground.guard }], guard := some (14, false) }) (v := ?_) rfl (by kernel_rfl) (by kernel_rfl) (by kernel_rfl) (fun _ _ _ h => h) (Or.inl ⟨by rfl, ?_⟩) (by assumption) ?_
                rotate_left
                focus (intro W hSw; obtain ⟨hcW, hfW, hbW⟩ := hSw; go_simp; (try with_reducible rfl); done)
                simp only [Act.put, List.setIfInBounds_toArray, List.set_cons_zero, List.set_cons_succ]
                refine wpAnyH_take (i := 17) (oi := { dst := some 114, op := Go.Op.move (Go.Operand.tmp 4), type := 3, pos := "law.go:85", after := #[{ on := 14, ground := Go.Ground.guard }], guard := some (14, false) }) (v := ?_) rfl (by kernel_rfl) (by kernel_rfl) (by kernel_rfl) (fun _ _ _ h => h) (Or.inl ⟨by rfl, ?_⟩) (by assumption) ?_
                rotate_left
                focus (intro W hSw; obtain ⟨hcW, hfW, hbW⟩ := hSw; go_simp; (try with_reducible rfl); done)
                simp only [Act.put, List.setIfInBounds_toArray, List.set_cons_zero, List.set_cons_succ]
                refine wpAnyH_take (i := 18) (oi := { dst := some 115, op := Go.Op.indexAddr 24 (Go.Operand.tmp 113) (Go.Operand.tmp 114), type := 0, pos := "law.go:85", after := #[{ on := 16, ground := Go.Ground.data }, { on := 17, ground := Go.Ground.data }, { on := 14, ground := Go.Ground.guard }], guard := some (14, false) }) (v := ?_) rfl (by kernel_rfl) (by kernel_rfl) (by kernel_rfl) (fun _ _ _ h => h) (Or.inl ⟨by rfl, ?_⟩) (by assumption) ?_
                rotate_left
                focus (intro W hSw; obtain ⟨hcW, hfW, hbW⟩ := hSw; go_simp; (try with_reducible rfl); done)
                simp only [Act.put, List.setIfInBounds_toArray, List.set_cons_zero, List.set_cons_succ]
                refine wpAnyH_take (i := 19) (oi := { dst := some 116, op := Go.Op.fieldAddr 39 (Go.Operand.tmp 115) 1, type := 0, pos := "law.go:85", after := #[{ on := 18, ground := Go.Ground.data }, { on := 14, ground := Go.Ground.guard }], guard := some (14, false) }) (v := ?_) rfl (by kernel_rfl) (by kernel_rfl) (by kernel_rfl) (fun _ _ _ h => h) (Or.inl ⟨by rfl, ?_⟩) (by assumption) ?_
                rotate_left
                focus (intro W hSw; obtain ⟨hcW, hfW, hbW⟩ := hSw; go_simp; (try with_reducible rfl); done)
                simp only [Act.put, List.setIfInBounds_toArray, List.set_cons_zero, List.set_cons_succ]
                refine wpAnyH_take (i := 20) (oi := { dst := some 117, op := Go.Op.load 3 (Go.Operand.tmp 116), type := 3, pos := "law.go:85", after := #[{ on := 19, ground := Go.Ground.data }, { on := 14, ground := Go.Ground.guard }], guard := some (14, false) }) (v := ?_) rfl (by kernel_rfl) (by kernel_rfl) (by kernel_rfl) (fun _ _ _ h => h) (Or.inl ⟨by rfl, ?_⟩) (by assumption) ?_
                rotate_left
                focus (intro W hSw; obtain ⟨hcW, hfW, hbW⟩ := hSw; go_simp; (try with_reducible rfl); done)
                simp only [Act.put, List.setIfInBounds_toArray, List.set_cons_zero, List.set_cons_succ]
                refine wpAnyH_take (i := 21) (oi := { dst := some 118, op := Go.Op.binOp Go.BinOp.add 3 (Go.Operand.tmp 117) (Go.Operand.const (Go.Value.int Go.IntKind.i64 1)) 3, type := 3, pos := "law.go:85", after := #[{ on := 20, ground := Go.Ground.data }, { on := 14, ground := Go.Ground.guard }], guard := some (14, false) }) (v := ?_) rfl (by kernel_rfl) (by kernel_rfl) (by kernel_rfl) (fun _ _ _ h => h) (Or.inl ⟨by rfl, ?_⟩) (by assumption) ?_
                rotate_left
                focus (intro W hSw; obtain ⟨hcW, hfW, hbW⟩ := hSw; go_simp; (try with_reducible rfl); done)
                simp only [Act.put, List.setIfInBounds_toArray, List.set_cons_zero, List.set_cons_succ]
                refine wpAnyH_take (i := 22) (oi := { dst := some 119, op := Go.Op.fieldAddr 28 (Go.Operand.tmp 1) 8, type := 0, pos := "law.go:85", after := #[{ on := 14, ground := Go.Ground.guard }], guard := some (14, false) }) (v := ?_) rfl (by kernel_rfl) (by kernel_rfl) (by kernel_rfl) (fun _ _ _ h => h) (Or.inl ⟨by rfl, ?_⟩) (by assumption) ?_
                rotate_left
                focus (intro W hSw; obtain ⟨hcW, hfW, hbW⟩ := hSw; go_simp; (try with_reducible rfl); done)
                simp only [Act.put, List.setIfInBounds_toArray, List.set_cons_zero, List.set_cons_succ]
                refine wpAnyH_take (i := 23) (oi := { dst := some 120, op := Go.Op.load 25 (Go.Operand.tmp 119), type := 25, pos := "law.go:85", after := #[{ on := 22, ground := Go.Ground.data }, { on := 14, ground := Go.Ground.guard }], guard := some (14, false) }) (v := ?_) rfl (by kernel_rfl) (by kernel_rfl) (by kernel_rfl) (fun _ _ _ h => h) (Or.inl ⟨by rfl, ?_⟩) (by assumption) ?_
                rotate_left
                focus (intro W hSw; obtain ⟨hcW, hfW, hbW⟩ := hSw; go_simp; (try with_reducible rfl); done)
                simp only [Act.put, List.setIfInBounds_toArray, List.set_cons_zero, List.set_cons_succ]
                refine wpAnyH_take (i := 24) (oi := { dst := some 121, op := Go.Op.call { callee := Go.Callee.builtin Go.Builtin.len, args := #[Go.Operand.tmp 120], argTypes := #[25] }, type := 3, pos := "law.go:85", after := #[{ on := 23, ground := Go.Ground.data }, { on := 14, ground := Go.Ground.guard }], guard := some (14, false) }) (v := ?_) rfl (by kernel_rfl) (by kernel_rfl) (by kernel_rfl) (fun _ _ _ h => h) (Or.inl ⟨by rfl, ?_⟩) (by assumption) ?_
                rotate_left
                focus (intro W hSw; obtain ⟨hcW, hfW, hbW⟩ := hSw; go_simp; (try with_reducible rfl); done)
                simp only [Act.put, List.setIfInBounds_toArray, List.set_cons_zero, List.set_cons_succ]
                refine wpAnyH_take (i := 25) (oi := { dst := some 122, op := Go.Op.binOp Go.BinOp.geq 3 (Go.Operand.tmp 118) (Go.Operand.tmp 121) 3, type := 4, pos := "law.go:85", after := #[{ on := 21, ground := Go.Ground.data }, { on := 24, ground := Go.Ground.data }, { on := 14, ground := Go.Ground.guard }], guard := some (14, false) }) (v := ?_) rfl (by kernel_rfl) (by kernel_rfl) (by kernel_rfl) (fun _ _ _ h => h) (Or.inl ⟨by rfl, ?_⟩) (by assumption) ?_
                rotate_left
                focus (intro W hSw; obtain ⟨hcW, hfW, hbW⟩ := hSw; go_simp; (try with_reducible rfl); done)
                simp only [Act.put, List.setIfInBounds_toArray, List.set_cons_zero, List.set_cons_succ]
                refine wpAnyH_take (i := 26) (oi := { dst := some 123, op := Go.Op.pick (Go.Operand.tmp 111) (Go.Operand.const (Go.Value.bool true)) (Go.Operand.tmp 122), type := 4, pos := "law.go:85", after := #[{ on := 14, ground := Go.Ground.data }, { on := 25, ground := Go.Ground.data }, { on := 6, ground := Go.Ground.guard }], guard := some (6, true) }) (v := ?_) rfl (by kernel_rfl) (by kernel_rfl) (by kernel_rfl) (fun _ _ _ h => h) (Or.inl ⟨by rfl, ?_⟩) (by assumption) ?_
                rotate_left
                focus (intro W hSw; obtain ⟨hcW, hfW, hbW⟩ := hSw; go_simp; (try with_reducible rfl); done)
                simp only [Act.put, List.setIfInBounds_toArray, List.set_cons_zero, List.set_cons_succ]
                refine wpAnyH_take (i := 27) (oi := { dst := some 124, op := Go.Op.pick (Go.Operand.tmp 103) (Go.Operand.tmp 123) (Go.Operand.const (Go.Value.bool false)), type := 4, pos := "law.go:85", after := #[{ on := 6, ground := Go.Ground.data }, { on := 26, ground := Go.Ground.data }], guard := none }) (v := ?_) rfl (by kernel_rfl) (by kernel_rfl) (by kernel_rfl) (fun _ _ _ h => h) (Or.inl ⟨by rfl, ?_⟩) (by assumption) ?_
                rotate_left
                focus (intro W hSw; obtain ⟨hcW, hfW, hbW⟩ := hSw; go_simp; (try with_reducible rfl); done)
                simp only [Act.put, List.setIfInBounds_toArray, List.set_cons_zero, List.set_cons_succ]
                refine wpAnyH_done (by kernel_rfl) ?_ _
                have hpz := Past.below (Past.bel (by assumption : Past wr _)) hp
                go_wp2
                go_roundw
                case rel => first | exact ⟨k + 1, by omega, by go_num, hpz⟩ | exact ⟨k + 1, by omega, by omega⟩
                case measure => simp [intOf]; omega
              · skip
                have s1b : (op == 5) = false := by simpa using s1
                refine wpAnyH_take (i := 1) (oi := { dst := some 98, op := Go.Op.binOp Go.BinOp.eql 3 (Go.Operand.tmp 97) (Go.Operand.const (Go.Value.int Go.IntKind.i64 5)) 3, type := 4, pos := "law.go:85", after := #[{ on := 0, ground := Go.Ground.data }], guard := none }) (v := ?_) rfl (by kernel_rfl) (by kernel_rfl) (by kernel_rfl) (fun _ _ _ h => h) (Or.inl ⟨by rfl, ?_⟩) (by assumption) ?_
                rotate_left
                focus (intro W hSw; obtain ⟨hcW, hfW, hbW⟩ := hSw; go_simp; (try with_reducible rfl); done)
                simp only [Act.put, List.setIfInBounds_toArray, List.set_cons_zero, List.set_cons_succ]
                refine wpAnyH_take (i := 2) (oi := { dst := some 99, op := Go.Op.move (Go.Operand.tmp 98), type := 4, pos := "law.go:85", after := #[{ on := 1, ground := Go.Ground.data }], guard := none }) (v := ?_) rfl (by kernel_rfl) (by kernel_rfl) (by kernel_rfl) (fun _ _ _ h => h) (Or.inl ⟨by rfl, ?_⟩) (by assumption) ?_
                rotate_left
                focus (intro W hSw; obtain ⟨hcW, hfW, hbW⟩ := hSw; go_simp; (try with_reducible rfl); done)
                simp only [Act.put, List.setIfInBounds_toArray, List.set_cons_zero, List.set_cons_succ]
                refine wpAnyH_take (i := 3) (oi := { dst := some 100, op := Go.Op.move (Go.Operand.tmp 9), type := 3, pos := "law.go:85", after := #[{ on := 2, ground := Go.Ground.guard }], guard := some (2, false) }) (v := ?_) rfl (by kernel_rfl) (by kernel_rfl) (by kernel_rfl) (fun _ _ _ h => h) (Or.inl ⟨by rfl, ?_⟩) (by assumption) ?_
                rotate_left
                focus (intro W hSw; obtain ⟨hcW, hfW, hbW⟩ := hSw; go_simp; (try with_reducible rfl); done)
                simp only [Act.put, List.setIfInBounds_toArray, List.set_cons_zero, List.set_cons_succ]
                by_cases s4 : op = 6
                · skip
                  obtain ⟨j0, j1⟩ := HJ.out (Or.inr s4) (by have := HS3.out; omega)
                  have j3 : ¬ nn < 0 := by omega
                  have jw : IntKind.i64.wrap (nn + 1) = nn + 1 := IntWalk.i64_in _ (by have := HS3.out; omega)
                  have j2 : ¬ (starts.length : Int) ≤ nn + 1 := by have := HS3.out; omega
                  refine wpAnyH_take (i := 4) (oi := { dst := some 101, op := Go.Op.binOp Go.BinOp.eql 3 (Go.Operand.tmp 100) (Go.Operand.const (Go.Value.int Go.IntKind.i64 6)) 3, type := 4, pos := "law.go:85", after := #[{ on := 3, ground := Go.Ground.data }, { on := 2, ground := Go.Ground.guard }], guard := some (2, false) }) (v := ?_) rfl (by kernel_rfl) (by kernel_rfl) (by kernel_rfl) (fun _ _ _ h => h) (Or.inl ⟨by rfl, ?_⟩) (by assumption) ?_
                  rotate_left
                  focus (intro W hSw; obtain ⟨hcW, hfW, hbW⟩ := hSw; go_simp; (try with_reducible rfl); done)
                  simp only [Act.put, List.setIfInBounds_toArray, List.set_cons_zero, List.set_cons_succ]
                  refine wpAnyH_take (i := 5) (oi := { dst := some 102, op := Go.Op.pick (Go.Operand.tmp 99) (Go.Operand.const (Go.Value.bool true)) (Go.Operand.tmp 101), type := 4, pos := "law.go:85", after := #[{ on := 2, ground := Go.Ground.data }, { on := 4, ground := Go.Ground.data }], guard := none }) (v := ?_) rfl (by kernel_rfl) (by kernel_rfl) (by kernel_rfl) (fun _ _ _ h => h) (Or.inl ⟨by rfl, ?_⟩) (by assumption) ?_
                  rotate_left
                  focus (intro W hSw; obtain ⟨hcW, hfW, hbW⟩ := hSw; go_simp; (try with_reducible rfl); done)
                  simp only [Act.put, List.setIfInBounds_toArray, List.set_cons_zero, List.set_cons_succ]
                  refine wpAnyH_take (i := 6) (oi := { dst := some 103, op := Go.Op.move (Go.Operand.tmp 102), type := 4, pos := "law.go:85", after := #[{ on := 5, ground := Go.Ground.data }, { on := 2, ground := Go.Ground.chain }], guard := none }) (v := ?_) rfl (by kernel_rfl) (by kernel_rfl) (by kernel_rfl) (fun _ _ _ h => h) (Or.inl ⟨by rfl, ?_⟩) (by assumption) ?_
                  rotate_left
                  focus (intro W hSw; obtain ⟨hcW, hfW, hbW⟩ := hSw; go_simp; (try with_reducible rfl); done)
                  simp only [Act.put, List.setIfInBounds_toArray, List.set_cons_zero, List.set_cons_succ]
                  refine wpAnyH_take (i := 7) (oi := { dst := some 104, op := Go.Op.fieldAddr 28 (Go.Operand.tmp 1) 7, type := 0, pos := "law.go:85", after := #[{ on := 6, ground := Go.Ground.guard }], guard := some (6, true) }) (v := ?_) rfl (by kernel_rfl) (by kernel_rfl) (by kernel_rfl) (fun _ _ _ h => h) (Or.inl ⟨by rfl, ?_⟩) (by assumption) ?_
                  rotate_left
                  focus (intro W hSw; obtain ⟨hcW, hfW, hbW⟩ := hSw; go_simp; (try with_reducible rfl); done)
                  simp only [Act.put, List.setIfInBounds_toArray, List.set_cons_zero, List.set_cons_succ]
                  refine wpAnyH_take (i := 8) (oi := { dst := some 105, op := Go.Op.load 24 (Go.Operand.tmp 104), type := 24, pos := "law.go:85", after := #[{ on := 7, ground := Go.Ground.data }, { on := 6, ground := Go.Ground.guard }], guard := some (6, true) }) (v := ?_) rfl (by kernel_rfl) (by kernel_rfl) (by kernel_rfl) (fun _ _ _ h => h) (Or.inl ⟨by rfl, ?_⟩) (by assumption) ?_
                  rotate_left
                  focus (intro W hSw; obtain ⟨hcW, hfW, hbW⟩ := hSw; go_simp; (try with_reducible rfl); done)
                  simp only [Act.put, List.setIfInBounds_toArray, List.set_cons_zero, List.set_cons_succ]
                  refine wpAnyH_take (i := 9) (oi := { dst := some 106, op := Go.Op.move (Go.Operand.tmp 4), type := 3, pos := "law.go:85", after := #[{ on := 6, ground := Go.Ground.guard }], guard := some (6, true) }) (v := ?_) rfl (by kernel_rfl) (by kernel_rfl) (by kernel_rfl) (fun _ _ _ h => h) (Or.inl ⟨by rfl, ?_⟩) (by assumption) ?_
                  rotate_left
                  focus (intro W hSw; obtain ⟨hcW, hfW, hbW⟩ := hSw; go_simp; (try with_reducible rfl); done)
                  simp only [Act.put, List.setIfInBounds_toArray, List.set_cons_zero, List.set_cons_succ]
                  refine wpAnyH_take (i := 10) (oi := { dst := some 107, op := Go.Op.indexAddr 24 (Go.Operand.tmp 105) (Go.Operand.tmp 106), type := 0, pos := "law.go:85", after := #[{ on := 8, ground := Go.Ground.data }, { on := 9, ground := Go.Ground.data }, { on := 6, ground := Go.Ground.guard }], guard := some (6, true) }) (v := ?_) rfl (by kernel_rfl) (by kernel_rfl) (by kernel_rfl) (fun _ _ _ h => h) (Or.inl ⟨by rfl, ?_⟩) (by assumption) ?_
                  rotate_left
                  focus (intro W hSw; obtain ⟨hcW, hfW, hbW⟩ := hSw; go_simp; (try with_reducible rfl); done)
                  simp only [Act.put, List.setIfInBounds_toArray, List.set_cons_zero, List.set_cons_succ]
                  refine wpAnyH_take (i := 11) (oi := { dst := some 108, op := Go.Op.fieldAddr 39 (Go.Operand.tmp 107) 1, type := 0, pos := "law.go:85", after := #[{ on := 10, ground := Go.Ground.data }, { on := 6, ground := Go.Ground.guard }], guard := some (6, true) }) (v := ?_) rfl (by kernel_rfl) (by kernel_rfl) (by kernel_rfl) (fun _ _ _ h => h) (Or.inl ⟨by rfl, ?_⟩) (by assumption) ?_
                  rotate_left
                  focus (intro W hSw; obtain ⟨hcW, hfW, hbW⟩ := hSw; go_simp; (try with_reducible rfl); done)
                  simp only [Act.put, List.setIfInBounds_toArray, List.set_cons_zero, List.set_cons_succ]
                  refine wpAnyH_take (i := 12) (oi := { dst := some 109, op := Go.Op.load 3 (Go.Operand.tmp 108), type := 3, pos := "law.go:85", after := #[{ on := 11, ground := Go.Ground.data }, { on := 6, ground := Go.Ground.guard }], guard := some (6, true) }) (v := ?_) rfl (by kernel_rfl) (by kernel_rfl) (by kernel_rfl) (fun _ _ _ h => h) (Or.inl ⟨by rfl, ?_⟩) (by assumption) ?_
                  rotate_left
                  focus (intro W hSw; obtain ⟨hcW, hfW, hbW⟩ := hSw; go_simp; (try with_reducible rfl); done)
                  simp only [Act.put, List.setIfInBounds_toArray, List.set_cons_zero, List.set_cons_succ]
                  refine wpAnyH_take (i := 13) (oi := { dst := some 110, op := Go.Op.binOp Go.BinOp.lss 3 (Go.Operand.tmp 109) (Go.Operand.const (Go.Value.int Go.IntKind.i64 0)) 3, type := 4, pos := "law.go:85", after := #[{ on := 12, ground := Go.Ground.data }, { on := 6, ground := Go.Ground.guard }], guard := some (6, true) }) (v := ?_) rfl (by kernel_rfl) (by kernel_rfl) (by kernel_rfl) (fun _ _ _ h => h) (Or.inl ⟨by rfl, ?_⟩) (by assumption) ?_
                  rotate_left
                  focus (intro W hSw; obtain ⟨hcW, hfW, hbW⟩ := hSw; go_simp; (try with_reducible rfl); done)
                  simp only [Act.put, List.setIfInBounds_toArray, List.set_cons_zero, List.set_cons_succ]
                  refine wpAnyH_take (i := 14) (oi := { dst := some 111, op := Go.Op.move (Go.Operand.tmp 110), type := 4, pos := "law.go:85", after := #[{ on := 13, ground := Go.Ground.data }, { on := 6, ground := Go.Ground.chain }, { on := 6, ground := Go.Ground.guard }], guard := some (6, true) }) (v := ?_) rfl (by kernel_rfl) (by kernel_rfl) (by kernel_rfl) (fun _ _ _ h => h) (Or.inl ⟨by rfl, ?_⟩) (by assumption) ?_
                  rotate_left
                  focus (intro W hSw; obtain ⟨hcW, hfW, hbW⟩ := hSw; go_simp; (try with_reducible rfl); done)
                  simp only [Act.put, List.setIfInBounds_toArray, List.set_cons_zero, List.set_cons_succ]
                  refine wpAnyH_take (i := 15) (oi := { dst := some 112, op := Go.Op.fieldAddr 28 (Go.Operand.tmp 1) 7, type := 0, pos := "law.go:85", after := #[{ on := 14, ground := Go.Ground.guard }], guard := some (14, false) }) (v := ?_) rfl (by kernel_rfl) (by kernel_rfl) (by kernel_rfl) (fun _ _ _ h => h) (Or.inl ⟨by rfl, ?_⟩) (by assumption) ?_
                  rotate_left
                  focus (intro W hSw; obtain ⟨hcW, hfW, hbW⟩ := hSw; go_simp; (try with_reducible rfl); done)
                  simp only [Act.put, List.setIfInBounds_toArray, List.set_cons_zero, List.set_cons_succ]
                  refine wpAnyH_take (i := 16) (oi := { dst := some 113, op := Go.Op.load 24 (Go.Operand.tmp 112), type := 24, pos := "law.go:85", after := #[{ on := 15, ground := Go.Ground.data }, { on := 14, ground := Go.Ground.guard }], guard := some (14, false) }) (v := ?_) rfl (by kernel_rfl) (by kernel_rfl) (by kernel_rfl) (fun _ _ _ h => h) (Or.inl ⟨by rfl, ?_⟩) (by assumption) ?_
                  rotate_left
                  focus (intro W hSw; obtain ⟨hcW, hfW, hbW⟩ := hSw; go_simp; (try with_reducible rfl); done)
                  simp only [Act.put, List.setIfInBounds_toArray, List.set_cons_zero, List.set_cons_succ]
                  refine wpAnyH_take (i := 17) (oi := { dst := some 114, op := Go.Op.move (Go.Operand.tmp 4), type := 3, pos := "law.go:85", after := #[{ on := 14, ground := Go.Ground.guard }], guard := some (14, false) }) (v := ?_) rfl (by kernel_rfl) (by kernel_rfl) (by kernel_rfl) (fun _ _ _ h => h) (Or.inl ⟨by rfl, ?_⟩) (by assumption) ?_
                  rotate_left
                  focus (intro W hSw; obtain ⟨hcW, hfW, hbW⟩ := hSw; go_simp; (try with_reducible rfl); done)
                  simp only [Act.put, List.setIfInBounds_toArray, List.set_cons_zero, List.set_cons_succ]
                  refine wpAnyH_take (i := 18) (oi := { dst := some 115, op := Go.Op.indexAddr 24 (Go.Operand.tmp 113) (Go.Operand.tmp 114), type := 0, pos := "law.go:85", after := #[{ on := 16, ground := Go.Ground.data }, { on := 17, ground := Go.Ground.data }, { on := 14, ground := Go.Ground.guard }], guard := some (14, false) }) (v := ?_) rfl (by kernel_rfl) (by kernel_rfl) (by kernel_rfl) (fun _ _ _ h => h) (Or.inl ⟨by rfl, ?_⟩) (by assumption) ?_
                  rotate_left
                  focus (intro W hSw; obtain ⟨hcW, hfW, hbW⟩ := hSw; go_simp; (try with_reducible rfl); done)
                  simp only [Act.put, List.setIfInBounds_toArray, List.set_cons_zero, List.set_cons_succ]
                  refine wpAnyH_take (i := 19) (oi := { dst := some 116, op := Go.Op.fieldAddr 39 (Go.Operand.tmp 115) 1, type := 0, pos := "law.go:85", after := #[{ on := 18, ground := Go.Ground.data }, { on := 14, ground := Go.Ground.guard }], guard := some (14, false) }) (v := ?_) rfl (by kernel_rfl) (by kernel_rfl) (by kernel_rfl) (fun _ _ _ h => h) (Or.inl ⟨by rfl, ?_⟩) (by assumption) ?_
                  rotate_left
                  focus (intro W hSw; obtain ⟨hcW, hfW, hbW⟩ := hSw; go_simp; (try with_reducible rfl); done)
                  simp only [Act.put, List.setIfInBounds_toArray, List.set_cons_zero, List.set_cons_succ]
                  refine wpAnyH_take (i := 20) (oi := { dst := some 117, op := Go.Op.load 3 (Go.Operand.tmp 116), type := 3, pos := "law.go:85", after := #[{ on := 19, ground := Go.Ground.data }, { on := 14, ground := Go.Ground.guard }], guard := some (14, false) }) (v := ?_) rfl (by kernel_rfl) (by kernel_rfl) (by kernel_rfl) (fun _ _ _ h => h) (Or.inl ⟨by rfl, ?_⟩) (by assumption) ?_
                  rotate_left
                  focus (intro W hSw; obtain ⟨hcW, hfW, hbW⟩ := hSw; go_simp; (try with_reducible rfl); done)
                  simp only [Act.put, List.setIfInBounds_toArray, List.set_cons_zero, List.set_cons_succ]
                  refine wpAnyH_take (i := 21) (oi := { dst := some 118, op := Go.Op.binOp Go.BinOp.add 3 (Go.Operand.tmp 117) (Go.Operand.const (Go.Value.int Go.IntKind.i64 1)) 3, type := 3, pos := "law.go:85", after := #[{ on := 20, ground := Go.Ground.data }, { on := 14, ground := Go.Ground.guard }], guard := some (14, false) }) (v := ?_) rfl (by kernel_rfl) (by kernel_rfl) (by kernel_rfl) (fun _ _ _ h => h) (Or.inl ⟨by rfl, ?_⟩) (by assumption) ?_
                  rotate_left
                  focus (intro W hSw; obtain ⟨hcW, hfW, hbW⟩ := hSw; go_simp; (try with_reducible rfl); done)
                  simp only [Act.put, List.setIfInBounds_toArray, List.set_cons_zero, List.set_cons_succ]
                  refine wpAnyH_take (i := 22) (oi := { dst := some 119, op := Go.Op.fieldAddr 28 (Go.Operand.tmp 1) 8, type := 0, pos := "law.go:85", after := #[{ on := 14, ground := Go.Ground.guard }], guard := some (14, false) }) (v := ?_) rfl (by kernel_rfl) (by kernel_rfl) (by kernel_rfl) (fun _ _ _ h => h) (Or.inl ⟨by rfl, ?_⟩) (by assumption) ?_
                  rotate_left
                  focus (intro W hSw; obtain ⟨hcW, hfW, hbW⟩ := hSw; go_simp; (try with_reducible rfl); done)
                  simp only [Act.put, List.setIfInBounds_toArray, List.set_cons_zero, List.set_cons_succ]
                  refine wpAnyH_take (i := 23) (oi := { dst := some 120, op := Go.Op.load 25 (Go.Operand.tmp 119), type := 25, pos := "law.go:85", after := #[{ on := 22, ground := Go.Ground.data }, { on := 14, ground := Go.Ground.guard }], guard := some (14, false) }) (v := ?_) rfl (by kernel_rfl) (by kernel_rfl) (by kernel_rfl) (fun _ _ _ h => h) (Or.inl ⟨by rfl, ?_⟩) (by assumption) ?_
                  rotate_left
                  focus (intro W hSw; obtain ⟨hcW, hfW, hbW⟩ := hSw; go_simp; (try with_reducible rfl); done)
                  simp only [Act.put, List.setIfInBounds_toArray, List.set_cons_zero, List.set_cons_succ]
                  refine wpAnyH_take (i := 24) (oi := { dst := some 121, op := Go.Op.call { callee := Go.Callee.builtin Go.Builtin.len, args := #[Go.Operand.tmp 120], argTypes := #[25] }, type := 3, pos := "law.go:85", after := #[{ on := 23, ground := Go.Ground.data }, { on := 14, ground := Go.Ground.guard }], guard := some (14, false) }) (v := ?_) rfl (by kernel_rfl) (by kernel_rfl) (by kernel_rfl) (fun _ _ _ h => h) (Or.inl ⟨by rfl, ?_⟩) (by assumption) ?_
                  rotate_left
                  focus (intro W hSw; obtain ⟨hcW, hfW, hbW⟩ := hSw; go_simp; (try with_reducible rfl); done)
                  simp only [Act.put, List.setIfInBounds_toArray, List.set_cons_zero, List.set_cons_succ]
                  refine wpAnyH_take (i := 25) (oi := { dst := some 122, op := Go.Op.binOp Go.BinOp.geq 3 (Go.Operand.tmp 118) (Go.Operand.tmp 121) 3, type := 4, pos := "law.go:85", after := #[{ on := 21, ground := Go.Ground.data }, { on := 24, ground := Go.Ground.data }, { on := 14, ground := Go.Ground.guard }], guard := some (14, false) }) (v := ?_) rfl (by kernel_rfl) (by kernel_rfl) (by kernel_rfl) (fun _ _ _ h => h) (Or.inl ⟨by rfl, ?_⟩) (by assumption) ?_
                  rotate_left
                  focus (intro W hSw; obtain ⟨hcW, hfW, hbW⟩ := hSw; go_simp; (try with_reducible rfl); done)
                  simp only [Act.put, List.setIfInBounds_toArray, List.set_cons_zero, List.set_cons_succ]
                  refine wpAnyH_take (i := 26) (oi := { dst := some 123, op := Go.Op.pick (Go.Operand.tmp 111) (Go.Operand.const (Go.Value.bool true)) (Go.Operand.tmp 122), type := 4, pos := "law.go:85", after := #[{ on := 14, ground := Go.Ground.data }, { on := 25, ground := Go.Ground.data }, { on := 6, ground := Go.Ground.guard }], guard := some (6, true) }) (v := ?_) rfl (by kernel_rfl) (by kernel_rfl) (by kernel_rfl) (fun _ _ _ h => h) (Or.inl ⟨by rfl, ?_⟩) (by assumption) ?_
                  rotate_left
                  focus (intro W hSw; obtain ⟨hcW, hfW, hbW⟩ := hSw; go_simp; (try with_reducible rfl); done)
                  simp only [Act.put, List.setIfInBounds_toArray, List.set_cons_zero, List.set_cons_succ]
                  refine wpAnyH_take (i := 27) (oi := { dst := some 124, op := Go.Op.pick (Go.Operand.tmp 103) (Go.Operand.tmp 123) (Go.Operand.const (Go.Value.bool false)), type := 4, pos := "law.go:85", after := #[{ on := 6, ground := Go.Ground.data }, { on := 26, ground := Go.Ground.data }], guard := none }) (v := ?_) rfl (by kernel_rfl) (by kernel_rfl) (by kernel_rfl) (fun _ _ _ h => h) (Or.inl ⟨by rfl, ?_⟩) (by assumption) ?_
                  rotate_left
                  focus (intro W hSw; obtain ⟨hcW, hfW, hbW⟩ := hSw; go_simp; (try with_reducible rfl); done)
                  simp only [Act.put, List.setIfInBounds_toArray, List.set_cons_zero, List.set_cons_succ]
                  refine wpAnyH_done (by kernel_rfl) ?_ _
                  have hpz := Past.below (Past.bel (by assumption : Past wr _)) hp
                  go_wp2
                  go_roundw
                  case rel => first | exact ⟨k + 1, by omega, by go_num, hpz⟩ | exact ⟨k + 1, by omega, by omega⟩
                  case measure => simp [intOf]; omega
                · skip
                  have s4b : (op == 6) = false := by simpa using s4
                  refine wpAnyH_take (i := 4) (oi := { dst := some 101, op := Go.Op.binOp Go.BinOp.eql 3 (Go.Operand.tmp 100) (Go.Operand.const (Go.Value.int Go.IntKind.i64 6)) 3, type := 4, pos := "law.go:85", after := #[{ on := 3, ground := Go.Ground.data }, { on := 2, ground := Go.Ground.guard }], guard := some (2, false) }) (v := ?_) rfl (by kernel_rfl) (by kernel_rfl) (by kernel_rfl) (fun _ _ _ h => h) (Or.inl ⟨by rfl, ?_⟩) (by assumption) ?_
                  rotate_left
                  focus (intro W hSw; obtain ⟨hcW, hfW, hbW⟩ := hSw; go_simp; (try with_reducible rfl); done)
                  simp only [Act.put, List.setIfInBounds_toArray, List.set_cons_zero, List.set_cons_succ]
                  refine wpAnyH_take (i := 5) (oi := { dst := some 102, op := Go.Op.pick (Go.Operand.tmp 99) (Go.Operand.const (Go.Value.bool true)) (Go.Operand.tmp 101), type := 4, pos := "law.go:85", after := #[{ on := 2, ground := Go.Ground.data }, { on := 4, ground := Go.Ground.data }], guard := none }) (v := ?_) rfl (by kernel_rfl) (by kernel_rfl) (by kernel_rfl) (fun _ _ _ h => h) (Or.inl ⟨by rfl, ?_⟩) (by assumption) ?_
                  rotate_left
                  focus (intro W hSw; obtain ⟨hcW, hfW, hbW⟩ := hSw; go_simp; (try with_reducible rfl); done)
                  simp only [Act.put, List.setIfInBounds_toArray, List.set_cons_zero, List.set_cons_succ]
                  refine wpAnyH_take (i := 6) (oi := { dst := some 103, op := Go.Op.move (Go.Operand.tmp 102), type := 4, pos := "law.go:85", after := #[{ on := 5, ground := Go.Ground.data }, { on := 2, ground := Go.Ground.chain }], guard := none }) (v := ?_) rfl (by kernel_rfl) (by kernel_rfl) (by kernel_rfl) (fun _ _ _ h => h) (Or.inl ⟨by rfl, ?_⟩) (by assumption) ?_
                  rotate_left
                  focus (intro W hSw; obtain ⟨hcW, hfW, hbW⟩ := hSw; go_simp; (try with_reducible rfl); done)
                  simp only [Act.put, List.setIfInBounds_toArray, List.set_cons_zero, List.set_cons_succ]
                  refine wpAnyH_take (i := 7) (oi := { dst := some 104, op := Go.Op.fieldAddr 28 (Go.Operand.tmp 1) 7, type := 0, pos := "law.go:85", after := #[{ on := 6, ground := Go.Ground.guard }], guard := some (6, true) }) (v := undef) rfl (by kernel_rfl) (by kernel_rfl) (by kernel_rfl) (fun _ _ _ h => h) (Or.inr ⟨by rfl, rfl⟩) (by assumption) ?_
                  simp only [Act.put, List.setIfInBounds_toArray, List.set_cons_zero, List.set_cons_succ]
                  refine wpAnyH_take (i := 8) (oi := { dst := some 105, op := Go.Op.load 24 (Go.Operand.tmp 104), type := 24, pos := "law.go:85", after := #[{ on := 7, ground := Go.Ground.data }, { on := 6, ground := Go.Ground.guard }], guard := some (6, true) }) (v := undef) rfl (by kernel_rfl) (by kernel_rfl) (by kernel_rfl) (fun _ _ _ h => h) (Or.inr ⟨by rfl, rfl⟩) (by assumption) ?_
                  simp only [Act.put, List.setIfInBounds_toArray, List.set_cons_zero, List.set_cons_succ]
                  refine wpAnyH_take (i := 9) (oi := { dst := some 106, op := Go.Op.move (Go.Operand.tmp 4), type := 3, pos := "law.go:85", after := #[{ on := 6, ground := Go.Ground.guard }], guard := some (6, true) }) (v := undef) rfl (by kernel_rfl) (by kernel_rfl) (by kernel_rfl) (fun _ _ _ h => h) (Or.inr ⟨by rfl, rfl⟩) (by assumption) ?_
                  simp only [Act.put, List.setIfInBounds_toArray, List.set_cons_zero, List.set_cons_succ]
                  refine wpAnyH_take (i := 10) (oi := { dst := some 107, op := Go.Op.indexAddr 24 (Go.Operand.tmp 105) (Go.Operand.tmp 106), type := 0, pos := "law.go:85", after := #[{ on := 8, ground := Go.Ground.data }, { on := 9, ground := Go.Ground.data }, { on := 6, ground := Go.Ground.guard }], guard := some (6, true) }) (v := undef) rfl (by kernel_rfl) (by kernel_rfl) (by kernel_rfl) (fun _ _ _ h => h) (Or.inr ⟨by rfl, rfl⟩) (by assumption) ?_
                  simp only [Act.put, List.setIfInBounds_toArray, List.set_cons_zero, List.set_cons_succ]
                  refine wpAnyH_take (i := 11) (oi := { dst := some 108, op := Go.Op.fieldAddr 39 (Go.Operand.tmp 107) 1, type := 0, pos := "law.go:85", after := #[{ on := 10, ground := Go.Ground.data }, { on := 6, ground := Go.Ground.guard }], guard := some (6, true) }) (v := undef) rfl (by kernel_rfl) (by kernel_rfl) (by kernel_rfl) (fun _ _ _ h => h) (Or.inr ⟨by rfl, rfl⟩) (by assumption) ?_
                  simp only [Act.put, List.setIfInBounds_toArray, List.set_cons_zero, List.set_cons_succ]
                  refine wpAnyH_take (i := 12) (oi := { dst := some 109, op := Go.Op.load 3 (Go.Operand.tmp 108), type := 3, pos := "law.go:85", after := #[{ on := 11, ground := Go.Ground.data }, { on := 6, ground := Go.Ground.guard }], guard := some (6, true) }) (v := undef) rfl (by kernel_rfl) (by kernel_rfl) (by kernel_rfl) (fun _ _ _ h => h) (Or.inr ⟨by rfl, rfl⟩) (by assumption) ?_
                  simp only [Act.put, List.setIfInBounds_toArray, List.set_cons_zero, List.set_cons_succ]
                  refine wpAnyH_take (i := 13) (oi := { dst := some 110, op := Go.Op.binOp Go.BinOp.lss 3 (Go.Operand.tmp 109) (Go.Operand.const (Go.Value.int Go.IntKind.i64 0)) 3, type := 4, pos := "law.go:85", after := #[{ on := 12, ground := Go.Ground.data }, { on := 6, ground := Go.Ground.guard }], guard := some (6, true) }) (v := undef) rfl (by kernel_rfl) (by kernel_rfl) (by kernel_rfl) (fun _ _ _ h => h) (Or.inr ⟨by rfl, rfl⟩) (by assumption) ?_
                  simp only [Act.put, List.setIfInBounds_toArray, List.set_cons_zero, List.set_cons_succ]
                  refine wpAnyH_take (i := 14) (oi := { dst := some 111, op := Go.Op.move (Go.Operand.tmp 110), type := 4, pos := "law.go:85", after := #[{ on := 13, ground := Go.Ground.data }, { on := 6, ground := Go.Ground.chain }, { on := 6, ground := Go.Ground.guard }], guard := some (6, true) }) (v := undef) rfl (by kernel_rfl) (by kernel_rfl) (by kernel_rfl) (fun _ _ _ h => h) (Or.inr ⟨by rfl, rfl⟩) (by assumption) ?_
                  simp only [Act.put, List.setIfInBounds_toArray, List.set_cons_zero, List.set_cons_succ]
                  refine wpAnyH_take (i := 15) (oi := { dst := some 112, op := Go.Op.fieldAddr 28 (Go.Operand.tmp 1) 7, type := 0, pos := "law.go:85", after := #[{ on := 14, ground := Go.Ground.guard }], guard := some (14, false) }) (v := undef) rfl (by kernel_rfl) (by kernel_rfl) (by kernel_rfl) (fun _ _ _ h => h) (Or.inr ⟨by rfl, rfl⟩) (by assumption) ?_
                  simp only [Act.put, List.setIfInBounds_toArray, List.set_cons_zero, List.set_cons_succ]
                  refine wpAnyH_take (i := 16) (oi := { dst := some 113, op := Go.Op.load 24 (Go.Operand.tmp 112), type := 24, pos := "law.go:85", after := #[{ on := 15, ground := Go.Ground.data }, { on := 14, ground := Go.Ground.guard }], guard := some (14, false) }) (v := undef) rfl (by kernel_rfl) (by kernel_rfl) (by kernel_rfl) (fun _ _ _ h => h) (Or.inr ⟨by rfl, rfl⟩) (by assumption) ?_
                  simp only [Act.put, List.setIfInBounds_toArray, List.set_cons_zero, List.set_cons_succ]
                  refine wpAnyH_take (i := 17) (oi := { dst := some 114, op := Go.Op.move (Go.Operand.tmp 4), type := 3, pos := "law.go:85", after := #[{ on := 14, ground := Go.Ground.guard }], guard := some (14, false) }) (v := undef) rfl (by kernel_rfl) (by kernel_rfl) (by kernel_rfl) (fun _ _ _ h => h) (Or.inr ⟨by rfl, rfl⟩) (by assumption) ?_
                  simp only [Act.put, List.setIfInBounds_toArray, List.set_cons_zero, List.set_cons_succ]
                  refine wpAnyH_take (i := 18) (oi := { dst := some 115, op := Go.Op.indexAddr 24 (Go.Operand.tmp 113) (Go.Operand.tmp 114), type := 0, pos := "law.go:85", after := #[{ on := 16, ground := Go.Ground.data }, { on := 17, ground := Go.Ground.data }, { on := 14, ground := Go.Ground.guard }], guard := some (14, false) }) (v := undef) rfl (by kernel_rfl) (by kernel_rfl) (by kernel_rfl) (fun _ _ _ h => h) (Or.inr ⟨by rfl, rfl⟩) (by assumption) ?_
                  simp only [Act.put, List.setIfInBounds_toArray, List.set_cons_zero, List.set_cons_succ]
                  refine wpAnyH_take (i := 19) (oi := { dst := some 116, op := Go.Op.fieldAddr 39 (Go.Operand.tmp 115) 1, type := 0, pos := "law.go:85", after := #[{ on := 18, ground := Go.Ground.data }, { on := 14, ground := Go.Ground.guard }], guard := some (14, false) }) (v := undef) rfl (by kernel_rfl) (by kernel_rfl) (by kernel_rfl) (fun _ _ _ h => h) (Or.inr ⟨by rfl, rfl⟩) (by assumption) ?_
                  simp only [Act.put, List.setIfInBounds_toArray, List.set_cons_zero, List.set_cons_succ]
                  refine wpAnyH_take (i := 20) (oi := { dst := some 117, op := Go.Op.load 3 (Go.Operand.tmp 116), type := 3, pos := "law.go:85", after := #[{ on := 19, ground := Go.Ground.data }, { on := 14, ground := Go.Ground.guard }], guard := some (14, false) }) (v := undef) rfl (by kernel_rfl) (by kernel_rfl) (by kernel_rfl) (fun _ _ _ h => h) (Or.inr ⟨by rfl, rfl⟩) (by assumption) ?_
                  simp only [Act.put, List.setIfInBounds_toArray, List.set_cons_zero, List.set_cons_succ]
                  refine wpAnyH_take (i := 21) (oi := { dst := some 118, op := Go.Op.binOp Go.BinOp.add 3 (Go.Operand.tmp 117) (Go.Operand.const (Go.Value.int Go.IntKind.i64 1)) 3, type := 3, pos := "law.go:85", after := #[{ on := 20, ground := Go.Ground.data }, { on := 14, ground := Go.Ground.guard }], guard := some (14, false) }) (v := undef) rfl (by kernel_rfl) (by kernel_rfl) (by kernel_rfl) (fun _ _ _ h => h) (Or.inr ⟨by rfl, rfl⟩) (by assumption) ?_
                  simp only [Act.put, List.setIfInBounds_toArray, List.set_cons_zero, List.set_cons_succ]
                  refine wpAnyH_take (i := 22) (oi := { dst := some 119, op := Go.Op.fieldAddr 28 (Go.Operand.tmp 1) 8, type := 0, pos := "law.go:85", after := #[{ on := 14, ground := Go.Ground.guard }], guard := some (14, false) }) (v := undef) rfl (by kernel_rfl) (by kernel_rfl) (by kernel_rfl) (fun _ _ _ h => h) (Or.inr ⟨by rfl, rfl⟩) (by assumption) ?_
                  simp only [Act.put, List.setIfInBounds_toArray, List.set_cons_zero, List.set_cons_succ]
                  refine wpAnyH_take (i := 23) (oi := { dst := some 120, op := Go.Op.load 25 (Go.Operand.tmp 119), type := 25, pos := "law.go:85", after := #[{ on := 22, ground := Go.Ground.data }, { on := 14, ground := Go.Ground.guard }], guard := some (14, false) }) (v := undef) rfl (by kernel_rfl) (by kernel_rfl) (by kernel_rfl) (fun _ _ _ h => h) (Or.inr ⟨by rfl, rfl⟩) (by assumption) ?_
                  simp only [Act.put, List.setIfInBounds_toArray, List.set_cons_zero, List.set_cons_succ]
                  refine wpAnyH_take (i := 24) (oi := { dst := some 121, op := Go.Op.call { callee := Go.Callee.builtin Go.Builtin.len, args := #[Go.Operand.tmp 120], argTypes := #[25] }, type := 3, pos := "law.go:85", after := #[{ on := 23, ground := Go.Ground.data }, { on := 14, ground := Go.Ground.guard }], guard := some (14, false) }) (v := undef) rfl (by kernel_rfl) (by kernel_rfl) (by kernel_rfl) (fun _ _ _ h => h) (Or.inr ⟨by rfl, rfl⟩) (by assumption) ?_
                  simp only [Act.put, List.setIfInBounds_toArray, List.set_cons_zero, List.set_cons_succ]
                  refine wpAnyH_take (i := 25) (oi := { dst := some 122, op := Go.Op.binOp Go.BinOp.geq 3 (Go.Operand.tmp 118) (Go.Operand.tmp 121) 3, type := 4, pos := "law.go:85", after := #[{ on := 21, ground := Go.Ground.data }, { on := 24, ground := Go.Ground.data }, { on := 14, ground := Go.Ground.guard }], guard := some (14, false) }) (v := undef) rfl (by kernel_rfl) (by kernel_rfl) (by kernel_rfl) (fun _ _ _ h => h) (Or.inr ⟨by rfl, rfl⟩) (by assumption) ?_
                  simp only [Act.put, List.setIfInBounds_toArray, List.set_cons_zero, List.set_cons_succ]
                  refine wpAnyH_take (i := 26) (oi := { dst := some 123, op := Go.Op.pick (Go.Operand.tmp 111) (Go.Operand.const (Go.Value.bool true)) (Go.Operand.tmp 122), type := 4, pos := "law.go:85", after := #[{ on := 14, ground := Go.Ground.data }, { on := 25, ground := Go.Ground.data }, { on := 6, ground := Go.Ground.guard }], guard := some (6, true) }) (v := undef) rfl (by kernel_rfl) (by kernel_rfl) (by kernel_rfl) (fun _ _ _ h => h) (Or.inr ⟨by rfl, rfl⟩) (by assumption) ?_
                  simp only [Act.put, List.setIfInBounds_toArray, List.set_cons_zero, List.set_cons_succ]
                  refine wpAnyH_take (i := 27) (oi := { dst := some 124, op := Go.Op.pick (Go.Operand.tmp 103) (Go.Operand.tmp 123) (Go.Operand.const (Go.Value.bool false)), type := 4, pos := "law.go:85", after := #[{ on := 6, ground := Go.Ground.data }, { on := 26, ground := Go.Ground.data }], guard := none }) (v := ?_) rfl (by kernel_rfl) (by kernel_rfl) (by kernel_rfl) (fun _ _ _ h => h) (Or.inl ⟨by rfl, ?_⟩) (by assumption) ?_
                  rotate_left
                  focus (intro W hSw; obtain ⟨hcW, hfW, hbW⟩ := hSw; go_simp; (try with_reducible rfl); done)
                  simp only [Act.put, List.setIfInBounds_toArray, List.set_cons_zero, List.set_cons_succ]
                  refine wpAnyH_done (by kernel_rfl) ?_ _
                  have hpz := Past.below (Past.bel (by assumption : Past wr _)) hp
                  go_wp2
                  go_roundw
                  case rel => first | exact ⟨k + 1, by omega, by go_num, hpz⟩ | exact ⟨k + 1, by omega, by omega⟩
                  case measure => simp [intOf]; omega

      · skip
        have hkn : ¬ (k : Int) < (code.length : Int) := by omega
        obtain ⟨wm, hwm⟩ : ∃ wm, wm = wr := ⟨_, rfl⟩
        subst hwm
        go_upto_block 4 with fail
        go_wp2_with fail
        go_loopw [10] (fun i wr => ∃ q : Nat, 1 ≤ q ∧ q ≤ starts.length ∧ i = .int .i64 q ∧ Past W0 wr) (fun i _ => starts.length - (intOf i).toNat)
        case atStart => exact ⟨1, by omega, by omega, rfl, hp⟩
        case round =>
          clear hp hcr hfr hrl hbs2
          obtain ⟨k2, hq0', hq, rfl, hp⟩ := hrel
          have hcr := hp.cc
          have hfr := hp.ff
          have hrl := hp.bel.size
          have hbs2 : w.heap.size < wr.heap.size := by omega
          by_cases hlq : k2 < starts.length
          · obtain ⟨q, rfl⟩ : ∃ q : Nat, k2 = q + 1 := ⟨k2 - 1, by omega⟩
            obtain ⟨sb, so, rfl, hsbw, hscells⟩ := HSC.out (by omega)
            have hsb0 : sb < wr.heap.size := by omega
            have e2 := hscells (q + 1) hlq
            have e3 := hscells q (by omega)
            have hx1 := HS4.out q hlq
            have hx2 := HS5.out (q + 1) hlq
            have hq0 : (0 : Int) ≤ (q : Int) := by omega
            have hq1 : (q : Int) < (starts.length : Int) := by omega
            have hq2 : (q : Int) + 1 < (starts.length : Int) := by omega
            have hq3 : (0 : Int) ≤ (q : Int) + 1 := by omega
            have hw5 : IntKind.i64.wrap (q : Int) = (q : Int) := IntWalk.i64_in _ (by omega)
            have hq4 : ((q : Int) + 1).toNat = q + 1 := by omega
            have hcast : ((q + 1 : Nat) : Int) = (q : Int) + 1 := by omega
            rw [hcast]
            have HC := Lib.hid hcast
            clear hcast hscells
            generalize at_ starts (q + 1) = X at *
            generalize at_ starts q = Z at *
            have hx3 : ¬ X < Z := by omega
            have hx4 : ¬ (code.length : Int) < X := by omega
            go_upto_region 22 with fail
            refine wp_region_held_drew (S := Past wr) (by kernel_rfl) ?_ (fun hHeld => ?_)
            focus ((try dsimp only); (first | exact Past.below (by assumption) (by assumption) | exact Past.drew1 (by assumption) | exact Past.start1 _); done)
            refine wpAnyH_take (i := 0) (oi := { dst := some 132, op := Go.Op.fieldAddr 28 (Go.Operand.tmp 1) 8, type := 0, pos := "law.go:90", after := #[], guard := none }) (v := ?_) rfl (by kernel_rfl) (by kernel_rfl) (by kernel_rfl) (fun _ _ _ h => h) (Or.inl ⟨by rfl, ?_⟩) (by assumption) ?_
            rotate_left
            focus (intro W hSw; obtain ⟨hcW, hfW, hbW⟩ := hSw; go_simp; (try with_reducible rfl); done)
            simp only [Act.put, List.setIfInBounds_toArray, List.set_cons_zero, List.set_cons_succ]
            refine wpAnyH_take (i := 1) (oi := { dst := some 133, op := Go.Op.load 25 (Go.Operand.tmp 132), type := 25, pos := "law.go:90", after := #[{ on := 0, ground := Go.Ground.data }], guard := none }) (v := ?_) rfl (by kernel_rfl) (by kernel_rfl) (by kernel_rfl) (fun _ _ _ h => h) (Or.inl ⟨by rfl, ?_⟩) (by assumption) ?_
            rotate_left
            focus (intro W hSw; obtain ⟨hcW, hfW, hbW⟩ := hSw; go_simp; (try with_reducible rfl); done)
            simp only [Act.put, List.setIfInBounds_toArray, List.set_cons_zero, List.set_cons_succ]
            refine wpAnyH_take (i := 2) (oi := { dst := some 134, op := Go.Op.move (Go.Operand.tmp 10), type := 3, pos := "law.go:90", after := #[], guard := none }) (v := ?_) rfl (by kernel_rfl) (by kernel_rfl) (by kernel_rfl) (fun _ _ _ h => h) (Or.inl ⟨by rfl, ?_⟩) (by assumption) ?_
            rotate_left
            focus (intro W hSw; obtain ⟨hcW, hfW, hbW⟩ := hSw; go_simp; (try with_reducible rfl); done)
            simp only [Act.put, List.setIfInBounds_toArray, List.set_cons_zero, List.set_cons_succ]
            refine wpAnyH_take (i := 3) (oi := { dst := some 135, op := Go.Op.indexAddr 25 (Go.Operand.tmp 133) (Go.Operand.tmp 134), type := 0, pos := "law.go:90", after := #[{ on := 1, ground := Go.Ground.data }, { on := 2, ground := Go.Ground.data }], guard := none }) (v := ?_) rfl (by kernel_rfl) (by kernel_rfl) (by kernel_rfl) (fun _ _ _ h => h) (Or.inl ⟨by rfl, ?_⟩) (by assumption) ?_
            rotate_left
            focus (intro W hSw; obtain ⟨hcW, hfW, hbW⟩ := hSw; go_simp; (try with_reducible rfl); done)
            simp only [Act.put, List.setIfInBounds_toArray, List.set_cons_zero, List.set_cons_succ]
            refine wpAnyH_take (i := 4) (oi := { dst := some 136, op := Go.Op.load 3 (Go.Operand.tmp 135), type := 3, pos := "law.go:90", after := #[{ on := 3, ground := Go.Ground.data }], guard := none }) (v := ?_) rfl (by kernel_rfl) (by kernel_rfl) (by kernel_rfl) (fun _ _ _ h => h) (Or.inl ⟨by rfl, ?_⟩) (by assumption) ?_
            rotate_left
            focus (intro W hSw; obtain ⟨hcW, hfW, hbW⟩ := hSw; go_simp; (try with_reducible rfl); done)
            simp only [Act.put, List.setIfInBounds_toArray, List.set_cons_zero, List.set_cons_succ]
            refine wpAnyH_take (i := 5) (oi := { dst := some 137, op := Go.Op.fieldAddr 28 (Go.Operand.tmp 1) 8, type := 0, pos := "law.go:90", after := #[], guard := none }) (v := ?_) rfl (by kernel_rfl) (by kernel_rfl) (by kernel_rfl) (fun _ _ _ h => h) (Or.inl ⟨by rfl, ?_⟩) (by assumption) ?_
            rotate_left
            focus (intro W hSw; obtain ⟨hcW, hfW, hbW⟩ := hSw; go_simp; (try with_reducible rfl); done)
            simp only [Act.put, List.setIfInBounds_toArray, List.set_cons_zero, List.set_cons_succ]
            refine wpAnyH_take (i := 6) (oi := { dst := some 138, op := Go.Op.load 25 (Go.Operand.tmp 137), type := 25, pos := "law.go:90", after := #[{ on := 5, ground := Go.Ground.data }], guard := none }) (v := ?_) rfl (by kernel_rfl) (by kernel_rfl) (by kernel_rfl) (fun _ _ _ h => h) (Or.inl ⟨by rfl, ?_⟩) (by assumption) ?_
            rotate_left
            focus (intro W hSw; obtain ⟨hcW, hfW, hbW⟩ := hSw; go_simp; (try with_reducible rfl); done)
            simp only [Act.put, List.setIfInBounds_toArray, List.set_cons_zero, List.set_cons_succ]
            refine wpAnyH_take (i := 7) (oi := { dst := some 139, op := Go.Op.move (Go.Operand.tmp 10), type := 3, pos := "law.go:90", after := #[], guard := none }) (v := ?_) rfl (by kernel_rfl) (by kernel_rfl) (by kernel_rfl) (fun _ _ _ h => h) (Or.inl ⟨by rfl, ?_⟩) (by assumption) ?_
            rotate_left
            focus (intro W hSw; obtain ⟨hcW, hfW, hbW⟩ := hSw; go_simp; (try with_reducible rfl); done)
            simp only [Act.put, List.setIfInBounds_toArray, List.set_cons_zero, List.set_cons_succ]
            refine wpAnyH_take (i := 8) (oi := { dst := some 140, op := Go.Op.binOp Go.BinOp.sub 3 (Go.Operand.tmp 139) (Go.Operand.const (Go.Value.int Go.IntKind.i64 1)) 3, type := 3, pos := "law.go:90", after := #[{ on := 7, ground := Go.Ground.data }], guard := none }) (v := ?_) rfl (by kernel_rfl) (by kernel_rfl) (by kernel_rfl) (fun _ _ _ h => h) (Or.inl ⟨by rfl, ?_⟩) (by assumption) ?_
            rotate_left
            focus (intro W hSw; obtain ⟨hcW, hfW, hbW⟩ := hSw; go_simp; (try with_reducible rfl); done)
            simp only [Act.put, List.setIfInBounds_toArray, List.set_cons_zero, List.set_cons_succ]
            refine wpAnyH_take (i := 9) (oi := { dst := some 141, op := Go.Op.indexAddr 25 (Go.Operand.tmp 138) (Go.Operand.tmp 140), type := 0, pos := "law.go:90", after := #[{ on := 6, ground := Go.Ground.data }, { on := 8, ground := Go.Ground.data }], guard := none }) (v := ?_) rfl (by kernel_rfl) (by kernel_rfl) (by kernel_rfl) (fun _ _ _ h => h) (Or.inl ⟨by rfl, ?_⟩) (by assumption) ?_
            rotate_left
            focus (intro W hSw; obtain ⟨hcW, hfW, hbW⟩ := hSw; go_simp; (try with_reducible rfl); done)
            simp only [Act.put, List.setIfInBounds_toArray, List.set_cons_zero, List.set_cons_succ]
            refine wpAnyH_take (i := 10) (oi := { dst := some 142, op := Go.Op.load 3 (Go.Operand.tmp 141), type := 3, pos := "law.go:90", after := #[{ on := 9, ground := Go.Ground.data }], guard := none }) (v := ?_) rfl (by kernel_rfl) (by kernel_rfl) (by kernel_rfl) (fun _ _ _ h => h) (Or.inl ⟨by rfl, ?_⟩) (by assumption) ?_
            rotate_left
            focus (intro W hSw; obtain ⟨hcW, hfW, hbW⟩ := hSw; go_simp; (try with_reducible rfl); done)
            simp only [Act.put, List.setIfInBounds_toArray, List.set_cons_zero, List.set_cons_succ]
            refine wpAnyH_take (i := 11) (oi := { dst := some 143, op := Go.Op.binOp Go.BinOp.lss 3 (Go.Operand.tmp 136) (Go.Operand.tmp 142) 3, type := 4, pos := "law.go:90", after := #[{ on := 4, ground := Go.Ground.data }, { on := 10, ground := Go.Ground.data }], guard := none }) (v := ?_) rfl (by kernel_rfl) (by kernel_rfl) (by kernel_rfl) (fun _ _ _ h => h) (Or.inl ⟨by rfl, ?_⟩) (by assumption) ?_
            rotate_left
            focus (intro W hSw; obtain ⟨hcW, hfW, hbW⟩ := hSw; go_simp; (try with_reducible rfl); done)
            simp only [Act.put, List.setIfInBounds_toArray, List.set_cons_zero, List.set_cons_succ]
            refine wpAnyH_take (i := 12) (oi := { dst := some 144, op := Go.Op.move (Go.Operand.tmp 143), type := 4, pos := "law.go:90", after := #[{ on := 11, ground := Go.Ground.data }], guard := none }) (v := ?_) rfl (by kernel_rfl) (by kernel_rfl) (by kernel_rfl) (fun _ _ _ h => h) (Or.inl ⟨by rfl, ?_⟩) (by assumption) ?_
            rotate_left
            focus (intro W hSw; obtain ⟨hcW, hfW, hbW⟩ := hSw; go_simp; (try with_reducible rfl); done)
            simp only [Act.put, List.setIfInBounds_toArray, List.set_cons_zero, List.set_cons_succ]
            refine wpAnyH_take (i := 13) (oi := { dst := some 145, op := Go.Op.fieldAddr 28 (Go.Operand.tmp 1) 8, type := 0, pos := "law.go:90", after := #[{ on := 12, ground := Go.Ground.guard }], guard := some (12, false) }) (v := ?_) rfl (by kernel_rfl) (by kernel_rfl) (by kernel_rfl) (fun _ _ _ h => h) (Or.inl ⟨by rfl, ?_⟩) (by assumption) ?_
            rotate_left
            focus (intro W hSw; obtain ⟨hcW, hfW, hbW⟩ := hSw; go_simp; (try with_reducible rfl); done)
            simp only [Act.put, List.setIfInBounds_toArray, List.set_cons_zero, List.set_cons_succ]
            refine wpAnyH_take (i := 14) (oi := { dst := some 146, op := Go.Op.load 25 (Go.Operand.tmp 145), type := 25, pos := "law.go:90", after := #[{ on := 13, ground := Go.Ground.data }, { on := 12, ground := Go.Ground.guard }], guard := some (12, false) }) (v := ?_) rfl (by kernel_rfl) (by kernel_rfl) (by kernel_rfl) (fun _ _ _ h => h) (Or.inl ⟨by rfl, ?_⟩) (by assumption) ?_
            rotate_left
            focus (intro W hSw; obtain ⟨hcW, hfW, hbW⟩ := hSw; go_simp; (try with_reducible rfl); done)
            simp only [Act.put, List.setIfInBounds_toArray, List.set_cons_zero, List.set_cons_succ]
            refine wpAnyH_take (i := 15) (oi := { dst := some 147, op := Go.Op.move (Go.Operand.tmp 10), type := 3, pos := "law.go:90", after := #[{ on := 12, ground := Go.Ground.guard }], guard := some (12, false) }) (v := ?_) rfl (by kernel_rfl) (by kernel_rfl) (by kernel_rfl) (fun _ _ _ h => h) (Or.inl ⟨by rfl, ?_⟩) (by assumption) ?_
            rotate_left
            focus (intro W hSw; obtain ⟨hcW, hfW, hbW⟩ := hSw; go_simp; (try with_reducible rfl); done)
            simp only [Act.put, List.setIfInBounds_toArray, List.set_cons_zero, List.set_cons_succ]
            refine wpAnyH_take (i := 16) (oi := { dst := some 148, op := Go.Op.indexAddr 25 (Go.Operand.tmp 146) (Go.Operand.tmp 147), type := 0, pos := "law.go:90", after := #[{ on := 14, ground := Go.Ground.data }, { on := 15, ground := Go.Ground.data }, { on := 12, ground := Go.Ground.guard }], guard := some (12, false) }) (v := ?_) rfl (by kernel_rfl) (by kernel_rfl) (by kernel_rfl) (fun _ _ _ h => h) (Or.inl ⟨by rfl, ?_⟩) (by assumption) ?_
            rotate_left
            focus (intro W hSw; obtain ⟨hcW, hfW, hbW⟩ := hSw; go_simp; (try with_reducible rfl); done)
            simp only [Act.put, List.setIfInBounds_toArray, List.set_cons_zero, List.set_cons_succ]
            refine wpAnyH_take (i := 17) (oi := { dst := some 149, op := Go.Op.load 3 (Go.Operand.tmp 148), type := 3, pos := "law.go:90", after := #[{ on := 16, ground := Go.Ground.data }, { on := 12, ground := Go.Ground.guard }], guard := some (12, false) }) (v := ?_) rfl (by kernel_rfl) (by kernel_rfl) (by kernel_rfl) (fun _ _ _ h => h) (Or.inl ⟨by rfl, ?_⟩) (by assumption) ?_
            rotate_left
            focus (intro W hSw; obtain ⟨hcW, hfW, hbW⟩ := hSw; go_simp; (try with_reducible rfl); done)
            simp only [Act.put, List.setIfInBounds_toArray, List.set_cons_zero, List.set_cons_succ]
            refine wpAnyH_take (i := 18) (oi := { dst := some 150, op := Go.Op.fieldAddr 28 (Go.Operand.tmp 1) 7, type := 0, pos := "law.go:90", after := #[{ on := 12, ground := Go.Ground.guard }], guard := some (12, false) }) (v := ?_) rfl (by kernel_rfl) (by kernel_rfl) (by kernel_rfl) (fun _ _ _ h => h) (Or.inl ⟨by rfl, ?_⟩) (by assumption) ?_
            rotate_left
            focus (intro W hSw; obtain ⟨hcW, hfW, hbW⟩ := hSw; go_simp; (try with_reducible rfl); done)
            simp only [Act.put, List.setIfInBounds_toArray, List.set_cons_zero, List.set_cons_succ]
            refine wpAnyH_take (i := 19) (oi := { dst := some 151, op := Go.Op.load 24 (Go.Operand.tmp 150), type := 24, pos := "law.go:90", after := #[{ on := 18, ground := Go.Ground.data }, { on := 12, ground := Go.Ground.guard }], guard := some (12, false) }) (v := ?_) rfl (by kernel_rfl) (by kernel_rfl) (by kernel_rfl) (fun _ _ _ h => h) (Or.inl ⟨by rfl, ?_⟩) (by assumption) ?_
            rotate_left
            focus (intro W hSw; obtain ⟨hcW, hfW, hbW⟩ := hSw; go_simp; (try with_reducible rfl); done)
            simp only [Act.put, List.setIfInBounds_toArray, List.set_cons_zero, List.set_cons_succ]
            refine wpAnyH_take (i := 20) (oi := { dst := some 152, op := Go.Op.call { callee := Go.Callee.builtin Go.Builtin.len, args := #[Go.Operand.tmp 151], argTypes := #[24] }, type := 3, pos := "law.go:90", after := #[{ on := 19, ground := Go.Ground.data }, { on := 12, ground := Go.Ground.guard }], guard := some (12, false) }) (v := ?_) rfl (by kernel_rfl) (by kernel_rfl) (by kernel_rfl) (fun _ _ _ h => h) (Or.inl ⟨by rfl, ?_⟩) (by assumption) ?_
            rotate_left
            focus (intro W hSw; obtain ⟨hcW, hfW, hbW⟩ := hSw; go_simp; (try with_reducible rfl); done)
            simp only [Act.put, List.setIfInBounds_toArray, List.set_cons_zero, List.set_cons_succ]
            refine wpAnyH_take (i := 21) (oi := { dst := some 153, op := Go.Op.binOp Go.BinOp.gtr 3 (Go.Operand.tmp 149) (Go.Operand.tmp 152) 3, type := 4, pos := "law.go:90", after := #[{ on := 17, ground := Go.Ground.data }, { on := 20, ground := Go.Ground.data }, { on := 12, ground := Go.Ground.guard }], guard := some (12, false) }) (v := ?_) rfl (by kernel_rfl) (by kernel_rfl) (by kernel_rfl) (fun _ _ _ h => h) (Or.inl ⟨by rfl, ?_⟩) (by assumption) ?_
            rotate_left
            focus (intro W hSw; obtain ⟨hcW, hfW, hbW⟩ := hSw; go_simp; (try with_reducible rfl); done)
            simp only [Act.put, List.setIfInBounds_toArray, List.set_cons_zero, List.set_cons_succ]
            refine wpAnyH_take (i := 22) (oi := { dst := some 154, op := Go.Op.pick (Go.Operand.tmp 144) (Go.Operand.const (Go.Value.bool true)) (Go.Operand.tmp 153), type := 4, pos := "law.go:90", after := #[{ on := 12, ground := Go.Ground.data }, { on := 21, ground := Go.Ground.data }], guard := none }) (v := ?_) rfl (by kernel_rfl) (by kernel_rfl) (by kernel_rfl) (fun _ _ _ h => h) (Or.inl ⟨by rfl, ?_⟩) (by assumption) ?_
            rotate_left
            focus (intro W hSw; obtain ⟨hcW, hfW, hbW⟩ := hSw; go_simp; (try with_reducible rfl); done)
            simp only [Act.put, List.setIfInBounds_toArray, List.set_cons_zero, List.set_cons_succ]
            refine wpAnyH_done (by kernel_rfl) ?_ _
            have hpz := Past.below (Past.bel (by assumption : Past wr _)) hp
            go_wp2
            go_roundw
            case rel => first | exact ⟨q + 2, by omega, by omega, by go_num, hpz⟩ | exact ⟨q + 2, by omega, by omega, by omega⟩
            case measure => simp [intOf]; omega
          · have hkk : ¬ (k2 : Int) < (starts.length : Int) := by omega
            go_wp2
            go_ret
            exact ⟨rfl, below_then HBX.out HBX.out.size hp.bel⟩

end Go.Proofs.Ytkhgbnnhgdcmoaa.IR
