/-
  Walks of layer 11 (ir), part I21: what these functions of the program answer and what becomes of memory, for any values. No conditions beyond those that each theorem names.
-/
import Derived.Test.YtkhgbnnhgdcmoaaI17
import Derived.Test.YtkhgbnnhgdcmoaaK1
namespace Go.Proofs.Ytkhgbnnhgdcmoaa.IR
open Go.RowKit Go.Proofs.YtkhgbnnhgdcmoaaW.PrintWords Go.Proofs.YtkhgbnnhgdcmoaaW.PrintLast Go.Proofs.YtkhgbnnhgdcmoaaW.PrintMore Go.Proofs.Ytkhgbnnhgdcmoaa.QIr

/-- a row of the call's own whose cells are those that were read -/
def Shallow {α : Type} (d : Kd α) (t : Nat) (w0 w : World) (l : List α) (e : Ending) (w' : World) : Prop := ∃ v news, e = .returned v ∧ w'.ownsRow w.heap.size t d.sz v l.length news ∧ Reps (d.K w0) d.sz l news ∧ Below w.heap.size w w'
theorem owns_empty {w : World} {base g t sz : Nat} (hg : base ≤ g) (h : w.heap[g]? = some (.cells #[] t (0, 0))) : w.ownsRow base t sz (.slice (some ⟨g, 0, none⟩) 0 0) 0 [] :=
  ⟨by simp, .inr ⟨g, 0, #[], rfl, hg, h, Nat.le_refl _, by unfold maxLen; omega, by simp, by simp⟩⟩
theorem reps_one {α : Type} {d : Kd α} {w : World} {l : List α} {news : List Value} (h : Reps (d.K w) d.sz l news) (hs : 0 < d.sz) : ∀ u ∈ news, u.oneCell' = true := by
  intro u hu
  obtain ⟨q, hq, rfl⟩ := List.mem_iff_getElem.1 hu
  have hql : q / d.sz < l.length := by
    rw [Nat.div_lt_iff_lt_mul hs, ← h.1]
    exact hq
  have hc := h.2 (q / d.sz) _ (List.getElem?_eq_getElem hql)
  refine d.K_one hc _ ?_
  rw [List.mem_iff_getElem?]
  refine ⟨q % d.sz, ?_⟩
  rw [List.getElem?_take, if_pos (Nat.mod_lt _ hs), List.getElem?_drop, Nat.mul_comm, Nat.div_add_mod, List.getElem?_eq_getElem hq]
theorem info39 : (Try.prog.info? 39).map (fun i => (i.zero, i.size, i.bytes)) = some (some (.agg #[.int .i64 0, .int .i64 0, .int .i64 0, .int .i64 0, .int .u64 0, .slice none 0 0, .int .u64 0]), 7, 72) := by kernel_rfl
theorem info37 : (Try.prog.info? 37).map (fun i => (i.zero, i.size, i.bytes)) = some (some (.slice none 0 0), 1, 24) := by kernel_rfl
theorem eql_nil24 (A : Option Addr) (n c : Nat) (w : World) : (binOp .eql 24 (.slice A n c) (.slice none 0 0)).run Try.prog w = .ok (.bool A.isNone) w := eql_nil Try.underlying24 A n c w
theorem eql_nil25 (A : Option Addr) (n c : Nat) (w : World) : (binOp .eql 25 (.slice A n c) (.slice none 0 0)).run Try.prog w = .ok (.bool A.isNone) w := eql_nil Try.underlying25 A n c w
theorem eql_nil26 (A : Option Addr) (n c : Nat) (w : World) : (binOp .eql 26 (.slice A n c) (.slice none 0 0)).run Try.prog w = .ok (.bool A.isNone) w := eql_nil Try.underlying26 A n c w
attribute [local go_sem] eql_nil24 eql_nil25 eql_nil26

set_option maxHeartbeats 4000000 in
set_option maxRecDepth 100000 in
theorem cloneIns_any (l : List S39) (A : Option Addr) (c : Nat) (w0 w : World) (hl : Kd.C k39 w0 A l.length l) (hb0 : Below w0.heap.size w0 w) (hsz : l.length * 72 ≤ 140737488355328) : Calls Try.prog 48 #[.slice A l.length c] w (Shallow k39 39 w0 w l) := by
  cases A with
  | none =>
    have h0 : l.length = 0 := by
      rcases Nat.eq_zero_or_pos l.length with h | h
      · exact h
      · obtain ⟨ad, h1, _⟩ := hl.2.2 h
        cases h1
    obtain rfl : l = [] := List.length_eq_zero_iff.1 h0
    clear hl hsz hb0
    go_enter Try.func48, Try.ntmps48
    go_wp2
    go_ret
    exact ⟨_, [], rfl, own_nil _ _ _ _, Reps.none _ _, Below.refl _ _⟩
  | some ad =>
    obtain ⟨news, hrep, hcell⟩ := ReadsRow.inner_ hl
    obtain ⟨i0, hi0, hz0, hz1, hz2⟩ := info_parts info39
    have hbx := below_box w (.cells #[] 39)
    have hgr := fun (w1 : World) (hg : (w.alloc (.cells #[] 39)).grownBy w1 (some w.heap.size)) => pw_below_grown hbx (some w.heap.size) (by rw [World.size_alloc]; omega) hg (fun k hk => by injection hk with hk; omega)
    have HG := Lib.hid hgr
    have HL := Lib.hid hl
    have HSZ := Lib.hid hsz
    have HOW := Lib.hid (owns_empty (w := w.alloc (.cells #[] 39)) (base := w.heap.size) (sz := Kd.sz k39) (Nat.le_refl _) (blk_new w (.cells #[] 39)))
    have HREP := Lib.hid hrep
    have HCELL := Lib.hid (fun j u (hj : news[j]? = some u) => pw_cell_below hbx (pw_cell_below hb0 (hcell j u hj)))
    have HI := Lib.hid hi0
    have HZ0 := Lib.hid hz0
    have HZ1 := Lib.hid hz1
    have HZ2 := Lib.hid hz2
    clear hl hsz hb0 hrep hcell hi0 hz0 hz1 hz2 hbx hgr
    go_enter Try.func48, Try.ntmps48
    go_wp2_with (at_builtin; refine wpList_append_own _ rfl _ _ 24 rfl w.heap.size 39 i0 _ (Kd.sz k39) 72 Try.underlying24 HI.out HZ0.out HZ1.out HZ2.out rfl (by decide) (.slice (some ⟨w.heap.size, 0, none⟩) 0 0) 0 [] rfl HOW.out ad l.length c news rfl HREP.out.1 HCELL.out (reps_one HREP.out (by decide)) (by have := HSZ.out; simp only [maxLen]; omega) (by have := HSZ.out; omega) (by rw [World.size_alloc]; omega) ?_; intro v1 w1 hown1 hg1 _)
    go_ret
    exact ⟨_, news, rfl, by simpa using hown1, HREP.out, HG.out w1 hg1⟩

set_option maxHeartbeats 4000000 in
set_option maxRecDepth 100000 in
theorem cloneMaps_any (l : List (List S36)) (A : Option Addr) (c : Nat) (w0 w : World) (hl : Kd.C (Kd.slice 36 k36) w0 A l.length l) (hb0 : Below w0.heap.size w0 w) (hsz : l.length * 24 ≤ 140737488355328) : Calls Try.prog 34 #[.slice A l.length c] w (Shallow (Kd.slice 36 k36) 37 w0 w l) := by
  cases A with
  | none =>
    have h0 : l.length = 0 := by
      rcases Nat.eq_zero_or_pos l.length with h | h
      · exact h
      · obtain ⟨ad, h1, _⟩ := hl.2.2 h
        cases h1
    obtain rfl : l = [] := List.length_eq_zero_iff.1 h0
    clear hl hsz hb0
    go_enter Try.func34, Try.ntmps34
    go_wp2
    go_ret
    exact ⟨_, [], rfl, own_nil _ _ _ _, Reps.none _ _, Below.refl _ _⟩
  | some ad =>
    obtain ⟨news, hrep, hcell⟩ := ReadsRow.inner_ hl
    obtain ⟨i0, hi0, hz0, hz1, hz2⟩ := info_parts info37
    have hbx := below_box w (.cells #[] 37)
    have hgr := fun (w1 : World) (hg : (w.alloc (.cells #[] 37)).grownBy w1 (some w.heap.size)) => pw_below_grown hbx (some w.heap.size) (by rw [World.size_alloc]; omega) hg (fun k hk => by injection hk with hk; omega)
    have HG := Lib.hid hgr
    have HL := Lib.hid hl
    have HSZ := Lib.hid hsz
    have HOW := Lib.hid (owns_empty (w := w.alloc (.cells #[] 37)) (base := w.heap.size) (sz := Kd.sz (Kd.slice 36 k36)) (Nat.le_refl _) (blk_new w (.cells #[] 37)))
    have HREP := Lib.hid hrep
    have HCELL := Lib.hid (fun j u (hj : news[j]? = some u) => pw_cell_below hbx (pw_cell_below hb0 (hcell j u hj)))
    have HI := Lib.hid hi0
    have HZ0 := Lib.hid hz0
    have HZ1 := Lib.hid hz1
    have HZ2 := Lib.hid hz2
    clear hl hsz hb0 hrep hcell hi0 hz0 hz1 hz2 hbx hgr
    go_enter Try.func34, Try.ntmps34
    go_wp2_with (at_builtin; refine wpList_append_own _ rfl _ _ 26 rfl w.heap.size 37 i0 _ (Kd.sz (Kd.slice 36 k36)) 24 Try.underlying26 HI.out HZ0.out HZ1.out HZ2.out rfl (by decide) (.slice (some ⟨w.heap.size, 0, none⟩) 0 0) 0 [] rfl HOW.out ad l.length c news rfl HREP.out.1 HCELL.out (reps_one HREP.out (by decide)) (by have := HSZ.out; simp only [maxLen]; omega) (by have := HSZ.out; omega) (by rw [World.size_alloc]; omega) ?_; intro v1 w1 hown1 hg1 _)
    go_ret
    exact ⟨_, news, rfl, by simpa using hown1, HREP.out, HG.out w1 hg1⟩

set_option maxHeartbeats 4000000 in
set_option maxRecDepth 100000 in
theorem cloneInts_any (l : List Int) (A : Option Addr) (c : Nat) (w0 w : World) (hl : Kd.C (Kd.int .i64) w0 A l.length l) (hb0 : Below w0.heap.size w0 w) (hsz : l.length * 8 ≤ 140737488355328) : Calls Try.prog 33 #[.slice A l.length c] w (Shallow (Kd.int .i64) 3 w0 w l) := by
  cases A with
  | none =>
    have h0 : l.length = 0 := by
      rcases Nat.eq_zero_or_pos l.length with h | h
      · exact h
      · obtain ⟨ad, h1, _⟩ := hl.2.2 h
        cases h1
    obtain rfl : l = [] := List.length_eq_zero_iff.1 h0
    clear hl hsz hb0
    go_enter Try.func33, Try.ntmps33
    go_wp2
    go_ret
    exact ⟨_, [], rfl, own_nil _ _ _ _, Reps.none _ _, Below.refl _ _⟩
  | some ad =>
    obtain ⟨news, hrep, hcell⟩ := ReadsRow.inner_ hl
    obtain ⟨i0, hi0, hz0, hz1, hz2⟩ := info_parts info3
    have hbx := below_box w (.cells #[] 3)
    have hgr := fun (w1 : World) (hg : (w.alloc (.cells #[] 3)).grownBy w1 (some w.heap.size)) => pw_below_grown hbx (some w.heap.size) (by rw [World.size_alloc]; omega) hg (fun k hk => by injection hk with hk; omega)
    have HG := Lib.hid hgr
    have HL := Lib.hid hl
    have HSZ := Lib.hid hsz
    have HOW := Lib.hid (owns_empty (w := w.alloc (.cells #[] 3)) (base := w.heap.size) (sz := Kd.sz (Kd.int .i64)) (Nat.le_refl _) (blk_new w (.cells #[] 3)))
    have HREP := Lib.hid hrep
    have HCELL := Lib.hid (fun j u (hj : news[j]? = some u) => pw_cell_below hbx (pw_cell_below hb0 (hcell j u hj)))
    have HI := Lib.hid hi0
    have HZ0 := Lib.hid hz0
    have HZ1 := Lib.hid hz1
    have HZ2 := Lib.hid hz2
    clear hl hsz hb0 hrep hcell hi0 hz0 hz1 hz2 hbx hgr
    go_enter Try.func33, Try.ntmps33
    go_wp2_with (at_builtin; refine wpList_append_own _ rfl _ _ 25 rfl w.heap.size 3 i0 _ (Kd.sz (Kd.int .i64)) 8 Try.underlying25 HI.out HZ0.out HZ1.out HZ2.out rfl (by decide) (.slice (some ⟨w.heap.size, 0, none⟩) 0 0) 0 [] rfl HOW.out ad l.length c news rfl HREP.out.1 HCELL.out (reps_one HREP.out (by decide)) (by have := HSZ.out; simp only [maxLen]; omega) (by have := HSZ.out; omega) (by rw [World.size_alloc]; omega) ?_; intro v1 w1 hown1 hg1 _)
    go_ret
    exact ⟨_, news, rfl, by simpa using hown1, HREP.out, HG.out w1 hg1⟩
end Go.Proofs.Ytkhgbnnhgdcmoaa.IR
