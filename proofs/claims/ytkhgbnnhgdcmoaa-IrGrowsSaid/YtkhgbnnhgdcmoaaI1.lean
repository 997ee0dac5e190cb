/-
  Walks of small functions of layer 11 (ir): what these functions of the program answer and what becomes of memory, for any values. No conditions beyond those that each theorem names.
-/
import Derived.Test.YtkhgbnnhgdcmoaaQIrx0
import Derived.Lib.Hide
import Derived.Outline
import Derived.Laws.Tables
import Derived.Laws.Rows
import Derived.Laws.CopyOwn
namespace Go.Proofs.Ytkhgbnnhgdcmoaa.IR
open Go.RowKit Go.Proofs.YtkhgbnnhgdcmoaaW.PrintWords Go.Proofs.YtkhgbnnhgdcmoaaW.PrintLast Go.Proofs.YtkhgbnnhgdcmoaaW.PrintMore Go.Proofs.Ytkhgbnnhgdcmoaa.QIr

def sv (s : S36) : Value := .agg #[.int .i64 s.f0, .int .i64 s.f1, .int .u64 s.f2]
/-- a unit, but for where its lists lie -/
structure U where
  m : Int
  a : Int
  t : Int
  r : Int
  p : Int
  n : Int
  enter : List S39
  code : List S39
  starts : List Int
  maps : List (List S36)
structure UA where
  ae : Option Addr
  ce : Nat
  ac : Option Addr
  cc : Nat
  at_ : Option Addr
  ct : Nat
  am : Option Addr
  cm : Nat
def uv (u : U) (x : UA) : Value := .agg #[.int .u64 u.m, .int .i64 u.a, .int .i64 u.t, .int .i64 u.r, .int .i64 u.p, .int .i64 u.n, .slice x.ae u.enter.length x.ce, .slice x.ac u.code.length x.cc, .slice x.at_ u.starts.length x.ct, .slice x.am u.maps.length x.cm]
def placeB (s : S36) : Bool := (s.f0 == 0 || s.f0 == 3) && (decide (0 ≤ s.f1) && s.f2 == 0)
def sourceB (u : U) (s : S36) : Bool :=
  if s.f0 = 0 then placeB s && decide (s.f1 < u.r) else if s.f0 = 3 then placeB s && decide (s.f1 < u.p)
  else if s.f0 = 1 then s.f1 == 0 && s.f2 != 0 else if s.f0 = 2 then s.f1 == 0 && s.f2 == 0 else false
def Ans (v : Value) (w : World) (e : Ending) (w' : World) : Prop := e = .returned v ∧ Below w.heap.size w w'

theorem below_box (w : World) (o : Obj) : Below w.heap.size w (w.alloc o) := (Below.refl _ _).alloc (Nat.le_refl _) _

set_option maxHeartbeats 1000000 in
set_option maxRecDepth 100000 in
theorem place_any (s : S36) (w : World) : Calls Try.prog 20 #[sv s] w (Ans (.bool (placeB s)) w) := by
  obtain ⟨k, n, x⟩ := s
  unfold sv
  go_enter Try.func20, Try.ntmps20
  go_wp2
  all_goals
    go_ret
    refine ⟨?_, below_box _ _⟩
    first | (simp [placeB, *]; done) | (simp [placeB, *]; omega)
set_option maxHeartbeats 1000000 in
set_option maxRecDepth 100000 in
theorem rplace_any (s : S36) (w : World) : Calls Try.prog 21 #[sv s] w (Ans (.bool (placeB s)) w) := by
  obtain ⟨k, n, x⟩ := s
  unfold sv
  go_enter Try.func21, Try.ntmps21
  go_wp2
  all_goals
    go_ret
    refine ⟨?_, below_box _ _⟩
    first | (simp [placeB, *]; done) | (simp [placeB, *]; omega)

theorem old_cells {W w1 : World} (hb : Below W.heap.size W w1) : (∀ b o, b < W.heap.size → w1.cell? ⟨b, o, none⟩ = W.cell? ⟨b, o, none⟩) ∧ (∀ b o, b < W.heap.size → w1.frozen? ⟨b, o, none⟩ = W.frozen? ⟨b, o, none⟩) :=
  ⟨fun b o h => hb.cell (p := ⟨b, o, none⟩) h, fun b o h => hb.frozen (p := ⟨b, o, none⟩) h⟩
theorem two_below {w w' : World} {o o' : Obj} (h : Below ((w.alloc o).alloc o').heap.size ((w.alloc o).alloc o') w') : Below w.heap.size w w' :=
  below_then ((below_box w o).alloc (by rw [World.size_alloc]; omega) _) (by rw [World.size_alloc, World.size_alloc]; omega) h

set_option maxHeartbeats 1000000 in
set_option maxRecDepth 100000 in
theorem source_any (u : U) (x : UA) (s : S36) (w : World) : Calls Try.prog 43 #[uv u x, sv s] w (Ans (.bool (sourceB u s)) w) := by
  by_cases hp : s.f0 = 0 ∨ s.f0 = 3
  · obtain ⟨b, hb⟩ : ∃ b, b = placeB s := ⟨_, rfl⟩
    have hpl := fun W => place_any s W
    rw [← hb] at hpl
    have HB := Lib.hid hb
    clear hb
    obtain ⟨m, a, t, r, p, n, enter, code, starts, maps⟩ := u
    obtain ⟨k, j, q⟩ := s
    unfold sv at hpl
    have HP := Lib.hid hpl
    clear hpl
    have hp' : k = 0 ∨ k = 3 := hp
    clear hp
    unfold uv sv
    go_enter Try.func43, Try.ntmps43
    rcases hp' with h | h
    all_goals
      subst h
      go_wp2_with fail
      refine (HP.out _).mono ?_
      rintro e w' ⟨rfl, hbl⟩
      have hb2 := two_below hbl
      obtain ⟨hcl, hfr⟩ := old_cells hbl
      go_wp2
      all_goals
        go_ret
        refine ⟨?_, hb2⟩
        simp [sourceB, ← HB.out, *]
  · obtain ⟨m, a, t, r, p, n, enter, code, starts, maps⟩ := u
    obtain ⟨k, j, q⟩ := s
    have hk0 : ¬ k = 0 := fun h => hp (.inl h)
    have hk3 : ¬ k = 3 := fun h => hp (.inr h)
    clear hp
    unfold uv sv
    go_enter Try.func43, Try.ntmps43
    go_wp2
    all_goals
      go_ret
      refine ⟨?_, (below_box _ _).alloc (by rw [World.size_alloc]; omega) _⟩
      simp_all [sourceB]

set_option maxHeartbeats 1000000 in
set_option maxRecDepth 100000 in
theorem rsource_any (u : U) (x : UA) (s : S36) (w : World) : Calls Try.prog 29 #[uv u x, sv s] w (Ans (.bool (sourceB u s)) w) := by
  obtain ⟨m, a, t, r, p, n, enter, code, starts, maps⟩ := u
  obtain ⟨k, j, q⟩ := s
  unfold uv sv
  go_enter Try.func29, Try.ntmps29
  go_wp2
  all_goals
    go_ret
    refine ⟨?_, (below_box _ _).alloc (by rw [World.size_alloc]; omega) _⟩
    first | (simp_all [sourceB, placeB]; done) | (simp_all [sourceB, placeB]; omega)

/-! ### what an operation takes and leaves -/
def leastB (op : Int) : Int := if op = 1 then 1 else if op = 2 then 2 else if op = 4 then 1 else if op = 6 then 1 else if op = 7 then 1 else if op = 8 then 1 else 0
def mostB (op : Int) : Int := if op = 1 then 1 else if op = 2 then 2 else if op = 3 then 0 else if op = 4 then 1 else if op = 5 then 0 else if op = 6 then 1 else if op = 7 then 5 else if op = 8 then 1 else if op = 9 then 0 else -1
def leavesB (op : Int) : Int := if op = 1 then 1 else if op = 2 then 1 else if op = 3 then 1 else if op = 7 then 1 else 0


def rowsA : Array Value := #[.int .i64 0, .int .i64 (-1), .int .i64 0, .int .i64 1, .int .i64 1, .int .i64 1, .int .i64 2, .int .i64 2, .int .i64 1, .int .i64 0, .int .i64 0, .int .i64 1, .int .i64 1, .int .i64 1, .int .i64 0,
  .int .i64 0, .int .i64 0, .int .i64 0, .int .i64 1, .int .i64 1, .int .i64 0, .int .i64 1, .int .i64 5, .int .i64 1, .int .i64 1, .int .i64 1, .int .i64 0, .int .i64 0, .int .i64 0, .int .i64 0]
theorem rows_size : (Try.prog.info? 70).map (·.size) = some rowsA.size := by kernel_rfl
theorem rows_cell : rowsA.all (·.oneCell') = true := by kernel_rfl
set_option maxHeartbeats 1000000 in
set_option maxRecDepth 100000 in
theorem rows_any (w : World) : Calls Try.prog 47 #[] w (Ans (.agg rowsA) w) := by
  go_enter Try.func47, Try.ntmps47
  go_wp2_with (first | (refine wpList_build rfl 70 _ rfl (by kernel_rfl) ?_) | (refine wpList_store_row rfl 70 (.tmp 0) (.tmp 11) rfl w.heap.size rowsA rfl (by kernel_rfl) 70 _ (heap_alloc_new w _) rows_size (by kernel_rfl) rows_cell ?_))
  refine bodyPost_ret (v := .agg rowsA) (results_cell_row rfl _ _ w.heap.size 70 rowsA (0, 0) _ rfl (setRow_heap _ _ _ _ _ _ (heap_alloc_new w _)) Try.underlying70 rfl rows_size) rfl ⟨rfl, below_setRow (below_box _ _) (Nat.le_refl _) _⟩

theorem rows_at (op : Nat) (h : op < 10) : rowsA[op * 3]? = some (.int .i64 (leastB op)) ∧ rowsA[op * 3 + 1]? = some (.int .i64 (mostB op)) ∧ rowsA[op * 3 + 2]? = some (.int .i64 (leavesB op)) := by
  have : op = 0 ∨ op = 1 ∨ op = 2 ∨ op = 3 ∨ op = 4 ∨ op = 5 ∨ op = 6 ∨ op = 7 ∨ op = 8 ∨ op = 9 := by omega
  rcases this with h | h | h | h | h | h | h | h | h | h <;> subst h <;> refine ⟨rfl, rfl, rfl⟩
theorem zero_op (op : Int) (h : op < 0 ∨ 10 ≤ op) : leastB op = 0 ∧ mostB op = -1 ∧ leavesB op = 0 := by
  unfold leastB mostB leavesB
  refine ⟨?_, ?_, ?_⟩ <;> (repeat (rw [if_neg (by omega)]))

theorem store_rows {ops : Array Oper} {rest : List Oper} {o : Oper} {a : Act} {Q : Exit → Act → World → Prop} {w1 : World} (hgd : o.guard = none) (ho : o.op = .store 70 (.tmp 3) (.tmp 4))
    (hx : a.eval (.tmp 3) = .pointer (some ⟨w1.heap.size, 0, none⟩)) (hy : a.eval (.tmp 4) = .agg rowsA) (old : Array Value) (hold : old.size = rowsA.size)
    (h : ∀ W2 : World, W2.heap[w1.heap.size]? = some (.cells rowsA 70 (0, 0)) → Below w1.heap.size w1 W2 → w1.heap.size < W2.heap.size → wpList Try.prog ops Q rest (a.put o.dst undef) W2) :
    wpList Try.prog ops Q (o :: rest) a (w1.alloc (.cells old 70)) := by
  refine wpList_store_row hgd 70 (.tmp 3) (.tmp 4) ho w1.heap.size rowsA hx hy 70 old (heap_alloc_new w1 _) rows_size hold rows_cell ?_
  exact h _ (setRow_heap _ _ _ _ _ _ (heap_alloc_new w1 _)) (below_setRow (below_box _ _) (Nat.le_refl _) _) (by rw [size_setRow, World.size_alloc]; omega)
def zero3 : Array Value := #[.int .i64 0, .int .i64 0, .int .i64 0]
theorem of_facts {w w1 W2 : World} (hb1 : Below (w.alloc (.cells zero3 54 (0, 0))).heap.size (w.alloc (.cells zero3 54 (0, 0))) w1) (hb2 : Below w1.heap.size w1 W2) :
    W2.heap[w.heap.size]? = some (.cells zero3 54 (0, 0)) ∧ w.heap.size < w1.heap.size ∧ Below w.heap.size w W2 := by
  have h1 : w.heap.size < w1.heap.size := by have := hb1.size; rw [World.size_alloc] at this; omega
  refine ⟨blk_below (blk_below (blk_new w _) hb1) hb2, h1, ?_⟩
  exact below_then (below_then (below_box w _) (by rw [World.size_alloc]; omega) hb1) (by omega) hb2

set_option maxHeartbeats 1000000 in
set_option maxRecDepth 100000 in
theorem of_any (op : Int) (w : World) : Calls Try.prog 31 #[.int .i64 op] w (Ans (.agg #[.int .i64 (leastB op), .int .i64 (mostB op), .int .i64 (leavesB op)]) w) := by
  obtain ⟨k, hk, hkop⟩ : ∃ k : Nat, k < 10 ∧ ((op < 0 ∨ 10 ≤ op) ∧ k = 0 ∨ op = (k : Int)) := by
    by_cases h : op < 0 ∨ 10 ≤ op
    · exact ⟨0, by omega, .inl ⟨h, rfl⟩⟩
    · exact ⟨op.toNat, by omega, .inr (by omega)⟩
  have hval : leastB op = leastB k ∧ mostB op = mostB k ∧ leavesB op = leavesB k := by
    rcases hkop with ⟨h, rfl⟩ | h
    · obtain ⟨z1, z2, z3⟩ := zero_op op h
      rw [z1, z2, z3]; exact ⟨rfl, rfl, rfl⟩
    · rw [h]; exact ⟨rfl, rfl, rfl⟩
  rw [hval.1, hval.2.1, hval.2.2]
  clear hval
  have hr := rows_at k hk
  generalize leastB (k : Int) = L at *
  generalize mostB (k : Int) = M at *
  generalize leavesB (k : Int) = V at *
  obtain ⟨r0, r1, r2⟩ := hr
  have R0 := Lib.hid r0
  have R1 := Lib.hid r1
  have R2 := Lib.hid r2
  clear r0 r1 r2
  rcases hkop with ⟨hout, rfl⟩ | rfl
  · go_enter Try.func31, Try.ntmps31
    go_wp2_with (first | (go_at_call 47; refine (rows_any _).mono ?_; rintro e w1 ⟨rfl, hb1⟩) | (refine store_rows rfl rfl rfl rfl _ rfl ?_; intro W2 hrow hb2 hlt; obtain ⟨hres, hlt2, hbw⟩ := of_facts hb1 hb2; have c0 := (blk_cell hrow (0)).trans R0.out; have c1 := (blk_cell hrow (0 + 1)).trans R1.out; have c2 := (blk_cell hrow (0 + 2)).trans R2.out; have q0 : W2.cell? ⟨w.heap.size, 0, none⟩ = some (.int .i64 0) := (blk_cell hres 0).trans rfl; have q1 : W2.cell? ⟨w.heap.size, 1, none⟩ = some (.int .i64 0) := (blk_cell hres 1).trans rfl; have q2 : W2.cell? ⟨w.heap.size, 2, none⟩ = some (.int .i64 0) := (blk_cell hres 2).trans rfl; have f0 := blk_frozen hres 0; have f1 := blk_frozen hres 1; have f2 := blk_frozen hres 2))
    all_goals
      refine bodyPost_ret (v := .agg #[.int .i64 L, .int .i64 M, .int .i64 V]) (results_cell_row rfl _ _ w.heap.size 54 #[.int .i64 L, .int .i64 M, .int .i64 V] (0, 0) _ rfl ((blk_set (blk_set (blk_set hres 0 (.int .i64 L)) 1 (.int .i64 M)) 2 (.int .i64 V)).trans rfl) Try.underlying54 rfl (by kernel_rfl)) rfl ⟨rfl, ?_⟩
      exact ((hbw.setCell (Nat.le_refl _) _).setCell (Nat.le_refl _) _).setCell (Nat.le_refl _) _
  · have hk0 : (0 : Int) ≤ (k : Int) := by omega
    have hk1 : (k : Int) < 10 := by omega
    go_enter Try.func31, Try.ntmps31
    go_wp2_with (first | (go_at_call 47; refine (rows_any _).mono ?_; rintro e w1 ⟨rfl, hb1⟩) | (refine store_rows rfl rfl rfl rfl _ rfl ?_; intro W2 hrow hb2 hlt; obtain ⟨hres, hlt2, hbw⟩ := of_facts hb1 hb2; have c0 := (blk_cell hrow (k * 3)).trans R0.out; have c1 := (blk_cell hrow (k * 3 + 1)).trans R1.out; have c2 := (blk_cell hrow (k * 3 + 2)).trans R2.out; have q0 : W2.cell? ⟨w.heap.size, 0, none⟩ = some (.int .i64 0) := (blk_cell hres 0).trans rfl; have q1 : W2.cell? ⟨w.heap.size, 1, none⟩ = some (.int .i64 0) := (blk_cell hres 1).trans rfl; have q2 : W2.cell? ⟨w.heap.size, 2, none⟩ = some (.int .i64 0) := (blk_cell hres 2).trans rfl; have f0 := blk_frozen hres 0; have f1 := blk_frozen hres 1; have f2 := blk_frozen hres 2))
    refine bodyPost_ret (v := .agg #[.int .i64 L, .int .i64 M, .int .i64 V]) (results_cell_row rfl _ _ w.heap.size 54 #[.int .i64 L, .int .i64 M, .int .i64 V] (0, 0) _ rfl ((blk_set (blk_set (blk_set hres 0 (.int .i64 L)) 1 (.int .i64 M)) 2 (.int .i64 V)).trans rfl) Try.underlying54 rfl (by kernel_rfl)) rfl ⟨rfl, ?_⟩
    exact ((hbw.setCell (Nat.le_refl _) _).setCell (Nat.le_refl _) _).setCell (Nat.le_refl _) _
end Go.Proofs.Ytkhgbnnhgdcmoaa.IR
