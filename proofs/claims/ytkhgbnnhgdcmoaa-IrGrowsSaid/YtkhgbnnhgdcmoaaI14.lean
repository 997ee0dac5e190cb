/-
  Walks of layer 11 (ir), part I14: what these functions of the program answer and what becomes of memory, for any values. No conditions beyond those that each theorem names.
-/
import Derived.Test.YtkhgbnnhgdcmoaaI13
namespace Go.Proofs.Ytkhgbnnhgdcmoaa.IR
open Go.RowKit Go.Proofs.YtkhgbnnhgdcmoaaW.PrintWords Go.Proofs.YtkhgbnnhgdcmoaaW.PrintLast Go.Proofs.YtkhgbnnhgdcmoaaW.PrintMore Go.Proofs.Ytkhgbnnhgdcmoaa.QIr

theorem add_zero_addr (b n : Nat) : (⟨b, 0, none⟩ : Addr).add n = ⟨b, n, none⟩ := by
  unfold Addr.add
  by_cases h : n = 0
  · rw [if_pos h, h]
  · rw [if_neg h, Nat.zero_add]
theorem C_block {α : Type} {d : Kd α} {w : World} {b t : Nat} {cs : Array Value} {xs : List α} (h : w.heap[b]? = some (.cells cs t (0, 0))) (hlen : xs.length ≤ 9223372036854775807)
    (hx : ∀ j p, xs[j]? = some p → ∃ c : List Value, c.length = d.sz ∧ d.K w p c ∧ ∀ i u, c[i]? = some u → cs[j * d.sz + i]? = some u) : d.C w (some ⟨b, 0, none⟩) xs.length xs := by
  refine ⟨rfl, hlen, fun _ => ⟨_, rfl, fun j p hj => ?_⟩⟩
  obtain ⟨c, h1, h2, h3⟩ := hx j p hj
  refine ⟨c, h1, h2, fun i u hu => ?_⟩
  rw [add_zero_addr, blk_cell h]
  exact h3 i u hu
theorem C_nil {α : Type} (d : Kd α) (w : World) (A : Option Addr) : d.C w A 0 [] := ⟨rfl, by omega, fun h => by omega⟩
theorem one_get {α : Type} {x p : α} {j : Nat} (h : [x][j]? = some p) : j = 0 ∧ p = x := by
  cases j with
  | zero => simp at h; exact ⟨rfl, h.symm⟩
  | succ j => simp at h
theorem C_ints {w : World} {b t : Nat} {x y : Int} (h : w.heap[b]? = some (.cells #[.int .i64 x, .int .i64 y] t (0, 0))) : (Kd.int .i64).C w (some ⟨b, 0, none⟩) 2 [x, y] := by
  refine C_block (xs := [x, y]) h (by simp) fun j p hj => ?_
  match j, hj with
  | 0, hj => cases hj; exact ⟨[.int .i64 x], rfl, rfl, fun i u hu => by obtain ⟨rfl, rfl⟩ := one_get hu; rfl⟩
  | 1, hj => cases hj; exact ⟨[.int .i64 y], rfl, rfl, fun i u hu => by obtain ⟨rfl, rfl⟩ := one_get hu; rfl⟩
  | j + 2, hj => simp at hj
theorem C_src1 {w : World} {b t : Nat} {s : S36} (h : w.heap[b]? = some (.cells #[.int .i64 s.f0, .int .i64 s.f1, .int .u64 s.f2] t (0, 0))) : k36.C w (some ⟨b, 0, none⟩) 1 [s] := by
  refine C_block (xs := [s]) h (by simp) fun j p hj => ?_
  obtain ⟨rfl, rfl⟩ := one_get hj
  exact ⟨_, rfl, k36_mk w p, fun i u hu => by rw [Nat.zero_mul, Nat.zero_add]; simpa using hu⟩
theorem C_map1 {w : World} {b t : Nat} (h : w.heap[b]? = some (.cells #[.slice none 0 0] t (0, 0))) : Kd.C (Kd.slice 36 k36) w (some ⟨b, 0, none⟩) 1 [[]] := by
  refine C_block (xs := [[]]) h (by simp) fun j p hj => ?_
  obtain ⟨rfl, rfl⟩ := one_get hj
  exact ⟨[.slice none 0 0], rfl, ⟨none, 0, rfl, Nat.le_refl _, C_nil _ _ _⟩, fun i u hu => by rw [Nat.zero_mul, Nat.zero_add]; simpa using hu⟩
theorem C_ins1 {w : World} {b t : Nat} {i : S39} {A : Option Addr} {c : Nat} (h : w.heap[b]? = some (.cells (ic i A c) t (0, 0))) (hl : i.f3.length ≤ c) (hk : k36.C w A i.f3.length i.f3) : k39.C w (some ⟨b, 0, none⟩) 1 [i] := by
  refine C_block (xs := [i]) h (by simp) fun j p hj => ?_
  obtain ⟨rfl, rfl⟩ := one_get hj
  exact ⟨_, rfl, k39_mk w p hl hk, fun i u hu => by rw [Nat.zero_mul, Nat.zero_add]; unfold ic; simpa using hu⟩

theorem laid6 (w : World) (o0 o1 o2 o3 o4 o5 : Obj) : let W := (((((w.alloc o0).alloc o1).alloc o2).alloc o3).alloc o4).alloc o5
    W.heap[w.heap.size]? = some o0 ∧ W.heap[w.heap.size + 1]? = some o1 ∧ W.heap[w.heap.size + 2]? = some o2 ∧ W.heap[w.heap.size + 3]? = some o3 ∧ W.heap[w.heap.size + 4]? = some o4 ∧ W.heap[w.heap.size + 5]? = some o5 ∧ W.heap.size = w.heap.size + 6 ∧ Below w.heap.size w W := by
  have s1 : (w.alloc o0).heap.size = w.heap.size + 1 := World.size_alloc ..
  have s2 : ((w.alloc o0).alloc o1).heap.size = w.heap.size + 2 := by rw [World.size_alloc, s1]
  have s3 : (((w.alloc o0).alloc o1).alloc o2).heap.size = w.heap.size + 3 := by rw [World.size_alloc, s2]
  have s4 : ((((w.alloc o0).alloc o1).alloc o2).alloc o3).heap.size = w.heap.size + 4 := by rw [World.size_alloc, s3]
  have s5 : (((((w.alloc o0).alloc o1).alloc o2).alloc o3).alloc o4).heap.size = w.heap.size + 5 := by rw [World.size_alloc, s4]
  have n0 := blk_new w o0
  have n1 := blk_new (w.alloc o0) o1
  have n2 := blk_new ((w.alloc o0).alloc o1) o2
  have n3 := blk_new (((w.alloc o0).alloc o1).alloc o2) o3
  have n4 := blk_new ((((w.alloc o0).alloc o1).alloc o2).alloc o3) o4
  have n5 := blk_new (((((w.alloc o0).alloc o1).alloc o2).alloc o3).alloc o4) o5
  rw [s1] at n1
  rw [s2] at n2
  rw [s3] at n3
  rw [s4] at n4
  rw [s5] at n5
  refine ⟨blk_alloc (blk_alloc (blk_alloc (blk_alloc (blk_alloc n0 _) _) _) _) _, blk_alloc (blk_alloc (blk_alloc (blk_alloc n1 _) _) _) _, blk_alloc (blk_alloc (blk_alloc n2 _) _) _, blk_alloc (blk_alloc n3 _) _, blk_alloc n4 _, n5, by rw [World.size_alloc, s5], ?_⟩
  exact ((((((below_box w o0).alloc (by omega) o1).alloc (by omega) o2).alloc (by omega) o3).alloc (by omega) o4).alloc (by omega) o5)

def uA : U := ⟨1, 0, 0, 1, 0, 0, [], [⟨8, 0, ⟨0, 0, 0⟩, [⟨0, 0, 0⟩], 0⟩], [0, 1], [[]]⟩
def u0 : U := ⟨0, 0, 0, 0, 0, 0, [], [], [], []⟩
theorem checkA : checkN uA = 0 := by
  refine checkN_ok ⟨by decide, fun j hj => ?_, fun j hj => ?_⟩
  · exact absurd hj (by simp [uA])
  · have : j = 0 := by simp [uA] at hj; omega
    subst this
    exact ⟨by decide, fun k hk => by omega⟩
theorem check0 : checkN u0 = 1 := checkN_no fun h => by have := h.1; revert this; decide

set_option maxHeartbeats 4000000 in
set_option maxRecDepth 100000 in
theorem awake_any (w : World) : Calls Try.prog 9 #[] w (Ans (.bool true) w) := by
  have hT7 := fun W => takes_any 7 W
  have hT10 := fun W => takes_any 10 W
  have hL4 := fun W => leaves_any 4 W
  have hL2 := fun W => leaves_any 2 W
  have hW4 := fun W => writes_any ⟨4, 0, ⟨0, 0, 0⟩, [], 0⟩ none 0 W
  have hW1 := fun W => writes_any ⟨1, 0, ⟨0, 3, 0⟩, [], 0⟩ none 0 W
  have hP1 := fun W => place_any ⟨1, 0, 5⟩ W
  have hP3 := fun W => place_any ⟨3, 2, 0⟩ W
  change ∀ W, Calls Try.prog 12 #[.int .i64 7] W (Ans (.tuple #[.int .i64 1, .int .i64 5]) W) at hT7
  change ∀ W, Calls Try.prog 12 #[.int .i64 10] W (Ans (.tuple #[.int .i64 0, .int .i64 (-1)]) W) at hT10
  change ∀ W, Calls Try.prog 13 #[.int .i64 4] W (Ans (.bool false) W) at hL4
  change ∀ W, Calls Try.prog 13 #[.int .i64 2] W (Ans (.bool true) W) at hL2
  change ∀ W, Calls Try.prog 17 #[.agg #[.int .i64 4, .int .i64 0, .int .i64 0, .int .i64 0, .int .u64 0, .slice none 0 0, .int .u64 0]] W (Ans (.tuple #[.agg #[.int .i64 0, .int .i64 0, .int .u64 0], .bool false]) W) at hW4
  change ∀ W, Calls Try.prog 17 #[.agg #[.int .i64 1, .int .i64 0, .int .i64 0, .int .i64 3, .int .u64 0, .slice none 0 0, .int .u64 0]] W (Ans (.tuple #[.agg #[.int .i64 0, .int .i64 3, .int .u64 0], .bool true]) W) at hW1
  change ∀ W, Calls Try.prog 20 #[.agg #[.int .i64 1, .int .i64 0, .int .u64 5]] W (Ans (.bool false) W) at hP1
  change ∀ W, Calls Try.prog 20 #[.agg #[.int .i64 3, .int .i64 2, .int .u64 0]] W (Ans (.bool true) W) at hP3
  have HT7 := Lib.hid hT7
  have HT10 := Lib.hid hT10
  have HL4 := Lib.hid hL4
  have HL2 := Lib.hid hL2
  have HW4 := Lib.hid hW4
  have HW1 := Lib.hid hW1
  have HP1 := Lib.hid hP1
  have HP3 := Lib.hid hP3
  clear hT7 hT10 hL4 hL2 hW4 hW1 hP1 hP3
  go_enter Try.func9, Try.ntmps9
  go_upto_region 5 with (first | (go_at_call 12; (with_reducible refine (HT7.out _).mono ?_); rintro e w1 ⟨rfl, hb1⟩) | (go_at_call 12; (with_reducible refine (HT10.out _).mono ?_); rintro e w2 ⟨rfl, hb2⟩) | (go_at_call 17; (with_reducible refine (HW4.out _).mono ?_); rintro e w3 ⟨rfl, hb3⟩) | (go_at_call 17; (with_reducible refine (HW1.out _).mono ?_); rintro e w4 ⟨rfl, hb4⟩))
  go_upto_region 6 with fail
  refine abs_world fun W0 hW0 => ?_
  have h43 : Below w3.heap.size w3 w4 := below_then (below_box _ _) (by simp) hb4
  have hw2 := below_then hb1 hb1.size hb2
  have hw3 := below_then hw2 hw2.size hb3
  have hw4 : Below w.heap.size w w4 := below_then hw3 hw3.size h43
  have hL := laid6 w4 (.cells #[.int .i64 0, .int .i64 3, .int .u64 0] 36) (.cells #[.int .i64 0, .int .i64 1] 3) (.cells #[.slice none 0 0] 37) (.cells #[.int .i64 0, .int .i64 0, .int .u64 0] 36) (.cells (ic ⟨8, 0, ⟨0, 0, 0⟩, [⟨0, 0, 0⟩], 0⟩ (some ⟨w4.heap.size + 3, 0, none⟩) 1) 39) (.cells #[.int .u64 1, .int .i64 0, .int .i64 0, .int .i64 1, .int .i64 0, .int .i64 0, .slice none 0 0, .slice (some ⟨w4.heap.size + 4, 0, none⟩) 1 1, .slice (some ⟨w4.heap.size + 1, 0, none⟩) 2 2, .slice (some ⟨w4.heap.size + 2, 0, none⟩) 1 1] 28)
  have hW1 : W0 = _ := hW0
  dsimp only at hL
  rw [show (((((w4.alloc (.cells #[.int .i64 0, .int .i64 3, .int .u64 0] 36)).alloc (.cells #[.int .i64 0, .int .i64 1] 3)).alloc (.cells #[.slice none 0 0] 37)).alloc (.cells #[.int .i64 0, .int .i64 0, .int .u64 0] 36)).alloc (.cells (ic ⟨8, 0, ⟨0, 0, 0⟩, [⟨0, 0, 0⟩], 0⟩ (some ⟨w4.heap.size + 3, 0, none⟩) 1) 39)).alloc (.cells #[.int .u64 1, .int .i64 0, .int .i64 0, .int .i64 1, .int .i64 0, .int .i64 0, .slice none 0 0, .slice (some ⟨w4.heap.size + 4, 0, none⟩) 1 1, .slice (some ⟨w4.heap.size + 1, 0, none⟩) 2 2, .slice (some ⟨w4.heap.size + 2, 0, none⟩) 1 1] 28) = W0 from hW1.symm] at hL
  obtain ⟨k0, k1, k2, k3, k4, k50, hsz, hbw⟩ := hL
  have k5 : ∀ o, W0.cell? ⟨w4.heap.size + 5, o, none⟩ = (#[.int .u64 1, .int .i64 0, .int .i64 0, .int .i64 1, .int .i64 0, .int .i64 0, .slice none 0 0, .slice (some ⟨w4.heap.size + 4, 0, none⟩) 1 1, .slice (some ⟨w4.heap.size + 1, 0, none⟩) 2 2, .slice (some ⟨w4.heap.size + 2, 0, none⟩) 1 1] : Array Value)[o]? := blk_cell k50
  have k6 : ∀ o, W0.cell? ⟨w4.heap.size, o, none⟩ = (#[Value.int .i64 0, .int .i64 3, .int .u64 0] : Array Value)[o]? := blk_cell k0
  have ks : w4.heap.size + 5 < W0.heap.size := by omega
  have ks2 : w4.heap.size < W0.heap.size := by omega
  clear hW1 k0 k50 hsz
  clear hW0
  have hin : UIn uA ⟨none, 0, some ⟨w4.heap.size + 4, 0, none⟩, 1, some ⟨w4.heap.size + 1, 0, none⟩, 2, some ⟨w4.heap.size + 2, 0, none⟩, 1⟩ W0 :=
    ⟨C_nil _ _ _, C_ins1 k4 (by simp) (C_src1 k3), C_ints k1, C_map1 k2, fun i hi => by simp [uA] at hi, fun i hi => by simp [uA] at hi; subst hi; simp⟩
  have hA := fun W (hp : Past W0 W) => check_any _ _ W (hin.below hp.bel)
  rw [checkA] at hA
  change ∀ W, Past W0 W → Calls Try.prog 10 #[.agg #[.int .u64 1, .int .i64 0, .int .i64 0, .int .i64 1, .int .i64 0, .int .i64 0, .slice none 0 0, .slice (some ⟨w4.heap.size + 4, 0, none⟩) 1 1, .slice (some ⟨w4.heap.size + 1, 0, none⟩) 2 2, .slice (some ⟨w4.heap.size + 2, 0, none⟩) 1 1]] W (Ans (.int .i64 0) W) at hA
  have hE := fun W => check_any u0 ⟨none, 0, none, 0, none, 0, none, 0⟩ W ⟨C_nil _ _ _, C_nil _ _ _, C_nil _ _ _, C_nil _ _ _, fun i hi => by simp [u0] at hi, fun i hi => by simp [u0] at hi⟩
  rw [check0] at hE
  change ∀ W, Calls Try.prog 10 #[.agg #[.int .u64 0, .int .i64 0, .int .i64 0, .int .i64 0, .int .i64 0, .int .i64 0, .slice none 0 0, .slice none 0 0, .slice none 0 0, .slice none 0 0]] W (Ans (.int .i64 1) W) at hE
  have HA := Lib.hid hA
  have HE := Lib.hid hE
  have hp := Past.start W0
  have HBW := Lib.hid (below_then hw4 hw4.size hbw)
  clear hA hE hin k1 k2 k3 k4 hbw hw4
  go_wp2_with (first | (go_at_call 13; (with_reducible refine (HL4.out _).mono ?_); rintro e w5 ⟨rfl, hb5⟩; replace hp := Past.below hb5 hp; have hc5 := hp.cc) | (go_at_call 13; (with_reducible refine (HL2.out _).mono ?_); rintro e w6 ⟨rfl, hb6⟩; replace hp := Past.below hb6 hp; have hc6 := hp.cc) | (go_at_call 20; (with_reducible refine (HP1.out _).mono ?_); rintro e w7 ⟨rfl, hb7⟩; replace hp := Past.below hb7 hp; have hc7 := hp.cc) | (go_at_call 20; (with_reducible refine (HP3.out _).mono ?_); rintro e w8 ⟨rfl, hb8⟩; replace hp := Past.below hb8 hp; have hc8 := hp.cc) | (go_at_call 10; (with_reducible refine (HA.out _ hp).mono ?_); rintro e w9 ⟨rfl, hb9⟩; replace hp := Past.below hb9 hp; have hc9 := hp.cc) | (go_at_call 10; (with_reducible refine (HE.out _).mono ?_); rintro e w10 ⟨rfl, hb10⟩; replace hp := Past.below hb10 hp; have hc10 := hp.cc))
  go_ret
  exact ⟨rfl, below_then HBW.out HBW.out.size hp.bel⟩
end Go.Proofs.Ytkhgbnnhgdcmoaa.IR
