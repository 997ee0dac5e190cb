/-
  Walks of layer 11 (ir), part I13: what these functions of the program answer and what becomes of memory, for any values. No conditions beyond those that each theorem names.
-/
import Derived.Test.YtkhgbnnhgdcmoaaI12
namespace Go.Proofs.Ytkhgbnnhgdcmoaa.IR
open Go.RowKit Go.Proofs.YtkhgbnnhgdcmoaaW.PrintWords Go.Proofs.YtkhgbnnhgdcmoaaW.PrintLast Go.Proofs.YtkhgbnnhgdcmoaaW.PrintMore Go.Proofs.Ytkhgbnnhgdcmoaa.QIr

def wrS (i : S39) (b : Bool) : Value := if b = true then sv i.f2 else .agg #[.int .i64 0, .int .i64 0, .int .u64 0]
set_option maxHeartbeats 2000000 in
set_option maxRecDepth 100000 in
theorem writes_any (i : S39) (A : Option Addr) (c : Nat) (w : World) : Calls Try.prog 17 #[iv i A c] w (Ans (.tuple #[wrS i (decide (0 < leavesB i.f0)), .bool (decide (0 < leavesB i.f0))]) w) := by
  have hV := fun W => leaves_any i.f0 W
  obtain ⟨op, nn, ⟨dk, dn, dw⟩, l, q⟩ := i
  simp only at *
  generalize decide (0 < leavesB op) = V at *
  have HV := Lib.hid hV
  clear hV
  unfold iv wrS sv
  cases V
  · go_enter Try.func17, Try.ntmps17
    go_wp2_with (go_at_call 13; (with_reducible refine (HV.out _).mono ?_); rintro e w1 ⟨rfl, hb1⟩; have hc1 := (old_cells hb1).1; have hf1 := (old_cells hb1).2; have hz1 := hb1.size)
    have hq := blk_below (blk_new (w.alloc (.cells #[.int .i64 op, .int .i64 nn, .int .i64 dk, .int .i64 dn, .int .u64 dw, .slice A l.length c, .int .u64 q] 39)) (.cells #[.int .i64 0, .int .i64 0, .int .u64 0] 36)) hb1
    simp only [World.size_alloc] at hq
    refine bodyPost_ret (v := .tuple #[.agg #[.int .i64 0, .int .i64 0, .int .u64 0], .bool false]) (Eq.trans (results_ct rfl _ _ (w.heap.size + 1) 36 #[.int .i64 0, .int .i64 0, .int .u64 0] (0, 0) _ rfl ((blk_set (blk_set (blk_set hq 0 (.int .i64 0)) 1 (.int .i64 0)) 2 (.int .u64 0)).trans rfl) Try.underlying36 rfl (by kernel_rfl)) rfl) rfl ⟨rfl, ?_⟩
    exact (((two_below hb1).setCell (by simp) _).setCell (by simp) _).setCell (by simp) _
  · go_enter Try.func17, Try.ntmps17
    go_wp2_with (go_at_call 13; (with_reducible refine (HV.out _).mono ?_); rintro e w1 ⟨rfl, hb1⟩; have hc1 := (old_cells hb1).1; have hf1 := (old_cells hb1).2; have hz1 := hb1.size)
    have hq := blk_below (blk_new (w.alloc (.cells #[.int .i64 op, .int .i64 nn, .int .i64 dk, .int .i64 dn, .int .u64 dw, .slice A l.length c, .int .u64 q] 39)) (.cells #[.int .i64 0, .int .i64 0, .int .u64 0] 36)) hb1
    simp only [World.size_alloc] at hq
    refine bodyPost_ret (v := .tuple #[.agg #[.int .i64 dk, .int .i64 dn, .int .u64 dw], .bool true]) (Eq.trans (results_ct rfl _ _ (w.heap.size + 1) 36 #[.int .i64 dk, .int .i64 dn, .int .u64 dw] (0, 0) _ rfl ((blk_set (blk_set (blk_set hq 0 (.int .i64 dk)) 1 (.int .i64 dn)) 2 (.int .u64 dw)).trans rfl) Try.underlying36 rfl (by kernel_rfl)) rfl) rfl ⟨rfl, ?_⟩
    exact (((two_below hb1).setCell (by simp) _).setCell (by simp) _).setCell (by simp) _
set_option maxHeartbeats 2000000 in
set_option maxRecDepth 100000 in
theorem rwrites_any (i : S39) (A : Option Addr) (c : Nat) (w : World) : Calls Try.prog 18 #[iv i A c] w (Ans (.tuple #[wrS i (decide (0 < leavesB i.f0)), .bool (decide (0 < leavesB i.f0))]) w) := by
  have hV := fun W => rleaves_any i.f0 W
  obtain ⟨op, nn, ⟨dk, dn, dw⟩, l, q⟩ := i
  simp only at *
  generalize decide (0 < leavesB op) = V at *
  have HV := Lib.hid hV
  clear hV
  unfold iv wrS sv
  cases V
  · go_enter Try.func18, Try.ntmps18
    go_wp2_with (go_at_call 19; (with_reducible refine (HV.out _).mono ?_); rintro e w1 ⟨rfl, hb1⟩; have hc1 := (old_cells hb1).1; have hf1 := (old_cells hb1).2; have hz1 := hb1.size)
    have hq := blk_below (blk_new (w.alloc (.cells #[.int .i64 op, .int .i64 nn, .int .i64 dk, .int .i64 dn, .int .u64 dw, .slice A l.length c, .int .u64 q] 39)) (.cells #[.int .i64 0, .int .i64 0, .int .u64 0] 36)) hb1
    simp only [World.size_alloc] at hq
    refine bodyPost_ret (v := .tuple #[.agg #[.int .i64 0, .int .i64 0, .int .u64 0], .bool false]) (Eq.trans (results_ct rfl _ _ (w.heap.size + 1) 36 #[.int .i64 0, .int .i64 0, .int .u64 0] (0, 0) _ rfl ((blk_set (blk_set (blk_set hq 0 (.int .i64 0)) 1 (.int .i64 0)) 2 (.int .u64 0)).trans rfl) Try.underlying36 rfl (by kernel_rfl)) rfl) rfl ⟨rfl, ?_⟩
    exact (((two_below hb1).setCell (by simp) _).setCell (by simp) _).setCell (by simp) _
  · go_enter Try.func18, Try.ntmps18
    go_wp2_with (go_at_call 19; (with_reducible refine (HV.out _).mono ?_); rintro e w1 ⟨rfl, hb1⟩; have hc1 := (old_cells hb1).1; have hf1 := (old_cells hb1).2; have hz1 := hb1.size)
    have hq := blk_below (blk_new (w.alloc (.cells #[.int .i64 op, .int .i64 nn, .int .i64 dk, .int .i64 dn, .int .u64 dw, .slice A l.length c, .int .u64 q] 39)) (.cells #[.int .i64 0, .int .i64 0, .int .u64 0] 36)) hb1
    simp only [World.size_alloc] at hq
    refine bodyPost_ret (v := .tuple #[.agg #[.int .i64 dk, .int .i64 dn, .int .u64 dw], .bool true]) (Eq.trans (results_ct rfl _ _ (w.heap.size + 1) 36 #[.int .i64 dk, .int .i64 dn, .int .u64 dw] (0, 0) _ rfl ((blk_set (blk_set (blk_set hq 0 (.int .i64 dk)) 1 (.int .i64 dn)) 2 (.int .u64 dw)).trans rfl) Try.underlying36 rfl (by kernel_rfl)) rfl) rfl ⟨rfl, ?_⟩
    exact (((two_below hb1).setCell (by simp) _).setCell (by simp) _).setCell (by simp) _
end Go.Proofs.Ytkhgbnnhgdcmoaa.IR
