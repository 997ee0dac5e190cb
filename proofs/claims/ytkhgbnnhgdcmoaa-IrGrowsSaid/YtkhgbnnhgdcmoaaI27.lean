/-
  Walks of layer 11 (ir), part I27: what these functions of the program answer and what becomes of memory, for any values. No conditions beyond those that each theorem names.
-/
import Derived.Test.YtkhgbnnhgdcmoaaI26
namespace Go.Proofs.Ytkhgbnnhgdcmoaa.IR
open Go.RowKit Go.Proofs.YtkhgbnnhgdcmoaaW.PrintWords Go.Proofs.YtkhgbnnhgdcmoaaW.PrintLast Go.Proofs.YtkhgbnnhgdcmoaaW.PrintMore Go.Proofs.Ytkhgbnnhgdcmoaa.QIr

theorem R_C {α : Type} {d : Kd α} {e base : Nat} {ok : Nat → Prop} {A : Option Addr} {c : Nat} {xs : List α} {w : World} (h : d.R e w base ok (.slice A xs.length c) xs) : d.C w A xs.length xs := by
  obtain ⟨A', c', he, _, hC⟩ := Kd.R_reads h
  injection he with h1 h2 h3
  rw [h1]; exact hC
set_option maxHeartbeats 8000000 in
set_option maxRecDepth 100000 in
theorem irGrows_any (u : U) (x : UA) (n : Int) (w : World) (h : UIn u x w) (hz : USz u) : Calls Try.prog 6 #[uv u x, .int .i64 n] w (Ans (.bool true) w) := by
  have hbx := below_box w (.cells (uc u x) 28)
  have hnew := blk_new w (.cells (uc u x) 28)
  have hin := h.below hbx
  have haw := awake_any
  have hck := fun W (hb : Below (w.alloc (.cells (uc u x) 28)).heap.size (w.alloc (.cells (uc u x) 28)) W) => check_any u x W (hin.below hb)
  by_cases hok : UnitOk u
  case neg =>
    rw [checkN_no hok] at hck
    unfold uv uc at *
    have HCK := Lib.hid hck
    have HAW := Lib.hid haw
    have HNEW := Lib.hid hnew
    have HBX := Lib.hid hbx
    clear hok hck haw hnew hbx hin h hz
    go_enter Try.func6, Try.ntmps6
    go_upto_region 1 with fail
    refine abs_world fun W0 hW0 => ?_
    rw [← hW0] at HCK HNEW HBX
    have hblk := blk_cell HNEW.out
    have hbs := blk_lt HNEW.out
    have hp := Past.start W0
    clear hW0
    go_wp2_with (first | (go_at_call 9; (with_reducible refine (HAW.out _).mono ?_); rintro e w1 ⟨rfl, hb1⟩; replace hp := Past.below hb1 hp; have hc1 := hp.cc) | (go_at_call 10; (with_reducible refine (HCK.out _ hp.bel).mono ?_); rintro e w2 ⟨rfl, hb2⟩; replace hp := Past.below hb2 hp; have hc2 := hp.cc))
    go_ret
    exact ⟨rfl, below_then HBX.out HBX.out.size hp.bel⟩
  case pos =>
    rw [checkN_ok hok] at hck
    have hcp := fun W (hb : Below (w.alloc (.cells (uc u x) 28)).heap.size (w.alloc (.cells (uc u x) 28)) W) => copy_any u x W (hin.below hb) hz
    have hn3 := nums_of ((shaped_iff u).1 hok.1).1
    have hst := starts_facts ((shaped_iff u).1 hok.1).2.1
    have hla := starts_last ((shaped_iff u).1 hok.1).2.1
    have hno := fun k => checkN_no (up1_no k hok)
    have hyes := fun k h1 h2 h3 h4 => checkN_ok (up2_ok (k := k) hok h1 h2 h3 h4)
    obtain ⟨K, hK⟩ : ∃ K, K = Go.bits .and .i64 n 15 := ⟨_, rfl⟩
    have hk15 := and15 n
    rw [← hK] at hk15
    obtain ⟨hk0, hk1⟩ := hk15
    have hcsz := hz.co
    unfold up1 at hno
    unfold up2 at hyes
    unfold uv uc at *
    unfold CopyOf uv at hcp
    obtain ⟨m, a, t, r, p, q, enter, code, starts, maps⟩ := u
    simp only at *
    obtain ⟨_, _, _, _, r0, r1, p0, p1, q0, q1, _⟩ := hn3
    obtain ⟨st1, st2, _, _, _⟩ := hst
    have hbe := h.be
    have hbc := h.bc
    have HCK := Lib.hid hck
    have HAW := Lib.hid haw
    have HCP := Lib.hid hcp
    have HNEW := Lib.hid hnew
    have HBX := Lib.hid hbx
    have HNO := Lib.hid hno
    have HYES := Lib.hid hyes
    have HLA := Lib.hid hla
    have HBE := Lib.hid hbe
    have HBC := Lib.hid hbc
    have HCS := Lib.hid hcsz
    clear hok hck haw hnew hbx hin h hz hcp hno hyes hla hbe hbc hcsz
    have hbit := hK.symm
    clear hK
    have hs0 : (0 : Int) ≤ (starts.length : Int) := by omega
    have hs00 : ((starts.length : Int) == 0) = false := by rw [beq_eq_false_iff_ne]; omega
    go_enter Try.func6, Try.ntmps6
    go_upto_region 1 with fail
    refine abs_world fun W0 hW0 => ?_
    rw [← hW0] at HCK HNEW HBX HCP
    have hblk := blk_cell HNEW.out
    have hbs := blk_lt HNEW.out
    have hp := Past.start W0
    clear hW0
    go_upto_region 5 with (first | (go_at_call 9; (with_reducible refine (HAW.out _).mono ?_); rintro e w1 ⟨rfl, hb1⟩; replace hp := Past.below hb1 hp; have hc1 := hp.cc) | (go_at_call 10; (with_reducible refine (HCK.out _ hp.bel).mono ?_); rintro e w2 ⟨rfl, hb2⟩; replace hp := Past.below hb2 hp; have hc2 := hp.cc; have hp2 := hp) | (go_at_call 14; (with_reducible refine (HCP.out _ hp.bel).mono ?_); rintro e w3 ⟨⟨xe, xec, xc, xcc, xs, xsc, xm, xmc⟩, N, rfl, hown, hb3⟩; replace hp := Past.below hb3 hp; have hc3 := hp.cc))
    have hw3 : Below w.heap.size w (w3.alloc (.cells #[.int .u64 m, .int .i64 a, .int .i64 t, .int .i64 (r + K), .int .i64 (p + K), .int .i64 (q + K), .slice xe enter.length xec, .slice xc code.length xcc, .slice xs starts.length xsc, .slice xm maps.length xmc] 28)) := by
      have h1 := below_then HBX.out HBX.out.size hp.bel
      exact h1.alloc h1.size _
    have HW3 := Lib.hid hw3
    clear hw3
    by_cases gr : 4096 < r + K
    · skip
      go_wp2_with fail
      go_ret
      exact ⟨rfl, HW3.out⟩
    by_cases gp : 4096 < p + K
    · skip
      go_wp2_with fail
      go_ret
      exact ⟨rfl, HW3.out⟩
    by_cases gq : 128 < q + K
    · skip
      go_wp2_with fail
      go_ret
      exact ⟨rfl, HW3.out⟩
    go_upto_region 13 with fail
    have hb6 := below_box w3 (.cells #[.int .u64 m, .int .i64 a, .int .i64 t, .int .i64 (r + K), .int .i64 (p + K), .int .i64 (q + K), .slice xe enter.length xec, .slice xc code.length xcc, .slice xs starts.length xsc, .slice xm maps.length xmc] 28)
    have n6 := blk_new w3 (.cells #[.int .u64 m, .int .i64 a, .int .i64 t, .int .i64 (r + K), .int .i64 (p + K), .int .i64 (q + K), .slice xe enter.length xec, .slice xc code.length xcc, .slice xs starts.length xsc, .slice xm maps.length xmc] 28)
    have w3s : W0.heap.size ≤ w3.heap.size := hp.bel.size
    refine abs_world fun W6 hW6 => ?_
    rw [← hW6] at hb6 n6 HW3
    clear hW6
    have c6 := blk_cell n6
    have l6 := blk_lt n6
    have f6 : ∀ o, W6.frozen? ⟨w3.heap.size, o, none⟩ = false := fun o => blk_frozen n6 o
    have ren := Kd.R_below hown.en hb6
    have rco := Kd.R_below hown.co hb6
    have rst := Kd.R_below hown.st hb6
    have rma := Kd.R_below hown.ma hb6
    have hrow := own_row rco
    have hown0 : ∀ g, (Value.slice xc code.length xcc).ownBlock = some g → g < N := rco.1
    have HREN := Lib.hid ren
    have HRST := Lib.hid rst
    have HRMA := Lib.hid rma
    have HROW := Lib.hid hrow
    have HOWN0 := Lib.hid hown0
    have HN6 := Lib.hid n6
    have HRCO := Lib.hid (Kd.R_mono (ok' := fun k => k < N ∨ W6.heap.size ≤ k) rco (fun k hk => Or.inl hk))
    have hbase6 : Below w2.heap.size w2 W6 := below_then hb3 hb3.size hb6
    have HB6 := Lib.hid hbase6
    clear ren rco rst rma hrow hown0 n6 hown hb6 hbase6
    go_upto_region 14 with (at_builtin; refine Kd.R_append k39 (w0 := w2) w2.heap.size rfl _ _ 24 39 _ 72 rfl Try.underlying24 info39 rfl (by decide) (by decide) (.slice xc code.length xcc) code trap [.int .i64 9, .int .i64 0, .int .i64 0, .int .i64 0, .int .u64 0, .slice none 0 0, .int .u64 0] (fun k => k < N ∨ W6.heap.size ≤ k) (fun _ => False) rfl rfl (k39_mkM _ _ _ trap (Kd.R_nil _ _ _ _ _)) (fun k h => h.elim) (fun k hk => Or.inr hk) HRCO.out HB6.out HB6.out.size (by have h9 : code.length * 72 ≤ 140737488351232 := HCS.out; omega) ?_; intro v7 w7 hv7 hb7 hg7 hat7; obtain ⟨A7, c7, rfl⟩ := Kd.R_slice hv7; have k7 := blk_grown HN6.out hg7 (fun e => by obtain ⟨cc2, hcc2⟩ := HROW.out _ e.symm; have := blk_ne HN6.out hcc2 (by decide); exact this rfl); have c7' := blk_cell k7; have f7 : ∀ o, w7.frozen? ⟨w3.heap.size, o, none⟩ = false := fun o => blk_frozen k7 o)
    have k8 : (w7.setCell ⟨w3.heap.size, 7, none⟩ (.slice A7 (code.length + 1) c7)).heap[w3.heap.size]? = some (.cells #[.int .u64 m, .int .i64 a, .int .i64 t, .int .i64 (r + K), .int .i64 (p + K), .int .i64 (q + K), .slice xe enter.length xec, .slice A7 (code.length + 1) c7, .slice xs starts.length xsc, .slice xm maps.length xmc] 28 (0, 0)) := (blk_set k7 7 _).trans rfl
    have ren := Kd.R_set (Kd.R_grown HREN.out hg7 (fun k hk e => by have := HOWN0.out k e.symm; omega)) k7 (by decide) 7 (.slice A7 (code.length + 1) c7)
    have rco := Kd.R_set hv7 k7 (by decide) 7 (.slice A7 (code.length + 1) c7)
    have rst := Kd.R_set (grown_types HROW.out (by decide) HRST.out hg7) k7 (by decide) 7 (.slice A7 (code.length + 1) c7)
    have rma := Kd.R_set (grown_types HROW.out (by decide) HRMA.out hg7) k7 (by decide) 7 (.slice A7 (code.length + 1) c7)
    have hwb := (below_then HBX.out HBX.out.size hp.bel).size
    have hw8 := (below_then (below_then HBX.out HBX.out.size hp2.bel) (Nat.le_trans HBX.out.size hp2.bel.size) hb7).setCell (p := ⟨w3.heap.size, 7, none⟩) hwb (.slice A7 (code.length + 1) c7)
    refine abs_world fun W8 hW8 => ?_
    rw [← hW8] at k8 ren rco rst rma hw8
    clear hW8
    have hbc2 : ∀ i ∈ code ++ [trap], 0 ≤ i.f4 ∧ i.f4 ≤ 18446744073709551615 := fun i hi => by
      rw [List.mem_append] at hi
      rcases hi with hi | hi
      · exact HBC.out i hi
      · rw [List.mem_singleton] at hi; subst hi; exact ⟨by decide, by decide⟩
    have hck1 := check_any ⟨m, a, t, r + K, p + K, q + K, enter, code ++ [trap], starts, maps⟩ ⟨xe, xec, A7, c7, xs, xsc, xm, xmc⟩ W8 ⟨R_C ren, R_C rco, R_C rst, R_C rma, HBE.out, hbc2⟩
    rw [HNO.out K] at hck1
    unfold uv at hck1
    simp only [List.length_append, List.length_singleton] at hck1
    have HCK1 := Lib.hid hck1
    have c8 := blk_cell k8
    have l8 := blk_lt k8
    have f8 : ∀ o, W8.frozen? ⟨w3.heap.size, o, none⟩ = false := fun o => blk_frozen k8 o
    have HK8 := Lib.hid k8
    have HREN8 := Lib.hid ren
    have HRCO8 := Lib.hid rco
    have HRST8 := Lib.hid rst
    have HRMA8 := Lib.hid rma
    have HW8 := Lib.hid hw8
    have HBC2 := Lib.hid hbc2
    clear hck1 k8 ren rco rst rma hw8 hbc2 hv7 hb7 hg7 hat7 k7 c7' f7
    go_upto_region 15 with (go_at_call 10; (with_reducible refine HCK1.out.mono ?_); rintro e w9 ⟨rfl, hb9⟩)
    have k9 := blk_below HK8.out hb9
    have c9 := blk_cell k9
    have l9 := blk_lt k9
    have rst9 := Kd.R_below HRST8.out hb9
    obtain ⟨gs, scs, hxs, hgs, ks9, es9, rst10⟩ := ints_set rst9 (k := starts.length - 1) (by omega) ((code.length : Int) + 1)
    subst hxs
    rw [HLA.out] at es9
    have hcl9 : (0 : Int) ≤ (code.length : Int) ∧ (code.length : Int) * 72 ≤ 140737488351232 := by have h9 : code.length * 72 ≤ 140737488351232 := HCS.out; omega
    have fs9 : ∀ o, w9.frozen? ⟨gs, o, none⟩ = false := fun o => blk_frozen ks9 o
    have hne9 := blk_ne k9 ks9 (by decide)
    have sw : IntKind.i64.wrap ((starts.length : Int) - 1) = (starts.length : Int) - 1 := IntWalk.i64_in _ (by omega)
    have cw : IntKind.i64.wrap ((code.length : Int) + 1) = (code.length : Int) + 1 := IntWalk.i64_in _ (by omega)
    have s1 : ((starts.length : Int) - 1).toNat = starts.length - 1 := by omega
    have s2 : (1 : Int) ≤ (starts.length : Int) := by omega
    have s3 : (0 : Int) ≤ (starts.length : Int) - 1 := by omega
    have s4 : (starts.length : Int) - 1 < (starts.length : Int) := by omega
    have HK9 := Lib.hid k9
    have HKS9 := Lib.hid ks9
    have HRST10 := Lib.hid rst10
    have HW9 := Lib.hid (below_then HW8.out HW8.out.size hb9)
    clear k9 ks9 rst10 rst9
    go_upto_region 16 with fail
    have hw10 := HW9.out.setCell (p := ⟨gs, starts.length - 1, none⟩) (Nat.le_trans (Nat.le_trans HBX.out.size hp2.bel.size) hgs) (.int .i64 ((code.length : Int) + 1))
    have k10 := blk_far HK9.out (p := ⟨gs, starts.length - 1, none⟩) hne9 (.int .i64 ((code.length : Int) + 1))
    have ren := Kd.R_set (Kd.R_below HREN8.out hb9) HKS9.out (by decide) (starts.length - 1) (.int .i64 ((code.length : Int) + 1))
    have rco := Kd.R_set (Kd.R_below HRCO8.out hb9) HKS9.out (by decide) (starts.length - 1) (.int .i64 ((code.length : Int) + 1))
    have rma := Kd.R_set (Kd.R_below HRMA8.out hb9) HKS9.out (by decide) (starts.length - 1) (.int .i64 ((code.length : Int) + 1))
    have rst := HRST10.out
    refine abs_world fun W10 hW10 => ?_
    rw [← hW10] at hw10 k10 ren rco rma rst
    clear hW10
    have hy := HYES.out K hk0 (by omega) (by omega) (by omega)
    rw [HLA.out] at hy
    have hck2 := check_any ⟨m, a, t, r + K, p + K, q + K, enter, code ++ [trap], starts.set (starts.length - 1) ((code.length : Int) + 1), maps⟩ ⟨xe, xec, A7, c7, some ⟨gs, 0, none⟩, xsc, xm, xmc⟩ W10 ⟨R_C ren, R_C rco, R_C (by rw [List.length_set]; exact rst), R_C rma, HBE.out, HBC2.out⟩
    rw [hy] at hck2
    unfold uv at hck2
    simp only [List.length_append, List.length_singleton, List.length_set] at hck2
    have HCK2 := Lib.hid hck2
    have c10 := blk_cell k10
    have l10 := blk_lt k10
    have HW10 := Lib.hid hw10
    clear hck2 hy k10 ren rco rma rst hw10
    go_wp2_with (go_at_call 10; (with_reducible refine HCK2.out.mono ?_); rintro e w11 ⟨rfl, hb11⟩)
    go_ret
    exact ⟨rfl, below_then HW10.out HW10.out.size hb11⟩
end Go.Proofs.Ytkhgbnnhgdcmoaa.IR
