/-
  Walks of layer 11 (ir), part I15: what these functions of the program answer and what becomes of memory, for any values. No conditions beyond those that each theorem names.
-/
import Derived.Test.YtkhgbnnhgdcmoaaI14
namespace Go.Proofs.Ytkhgbnnhgdcmoaa.IR
open Go.RowKit Go.Proofs.YtkhgbnnhgdcmoaaW.PrintWords Go.Proofs.YtkhgbnnhgdcmoaaW.PrintLast Go.Proofs.YtkhgbnnhgdcmoaaW.PrintMore Go.Proofs.Ytkhgbnnhgdcmoaa.QIr

set_option maxHeartbeats 4000000 in
set_option maxRecDepth 100000 in
theorem irChecks_any (u : U) (x : UA) (w : World) (h : UIn u x w) : Calls Try.prog 3 #[uv u x] w (Ans (.bool true) w) := by
  have hbx := below_box w (.cells (uc u x) 28)
  have hnew := blk_new w (.cells (uc u x) 28)
  have haw := awake_any
  have hck := fun W (hb : Below w.heap.size w W) => check_any u x W (h.below hb)
  have hrk := fun W (hb : Below w.heap.size w W) => rcheck_any u x W (h.below hb)
  generalize checkN u = CN at *
  unfold uv uc at *
  have HNEW := Lib.hid hnew
  have HBX := Lib.hid hbx
  have HAW := Lib.hid haw
  have HCK := Lib.hid hck
  have HRK := Lib.hid hrk
  clear hnew hbx haw hck hrk h
  go_enter Try.func3, Try.ntmps3
  go_upto_region 1 with fail
  refine abs_world fun W0 hW0 => ?_
  rw [← hW0] at HNEW HBX
  have hblk : ∀ o, W0.cell? ⟨w.heap.size, o, none⟩ = (#[.int .u64 u.m, .int .i64 u.a, .int .i64 u.t, .int .i64 u.r, .int .i64 u.p, .int .i64 u.n, .slice x.ae u.enter.length x.ce, .slice x.ac u.code.length x.cc, .slice x.at_ u.starts.length x.ct, .slice x.am u.maps.length x.cm] : Array Value)[o]? := fun o => by simp [World.cell?, HNEW.out]
  have hbs : w.heap.size < W0.heap.size := by rw [hW0]; simp
  clear hW0
  go_upto_region 2 with (go_at_call 9; (with_reducible refine (HAW.out _).mono ?_); rintro e w1 ⟨rfl, hb1⟩)
  have hp := Past.of hb1
  have hc1 := hp.cc
  have hf1 := hp.ff
  have hs1 : w.heap.size < w1.heap.size := by have := hp.bel.size; omega
  refine wp_region_held_drew (S := Past w1) (by kernel_rfl) ?_ (fun hHeld => ?_)
  focus ((try dsimp only); (first | exact Past.below (by assumption) (by assumption) | exact Past.drew1 (by assumption) | exact Past.start1 _); done)
  refine wpAnyH_take (i := 0) (oi := { dst := some 5, op := Go.Op.move (Go.Operand.tmp 3), type := 4, pos := "law.go:33", after := #[], guard := none }) (v := ?_) rfl (by kernel_rfl) (by kernel_rfl) (by kernel_rfl) (fun _ _ _ h => h) (Or.inl ⟨by rfl, ?_⟩) (by assumption) ?_
  rotate_left
  focus (intro W hSw; obtain ⟨hcW, hfW, hbW⟩ := hSw; go_simp; (try with_reducible rfl); done)
  simp only [Act.put, List.setIfInBounds_toArray, List.set_cons_zero, List.set_cons_succ]
  refine wpAnyH_take (i := 1) (oi := { dst := some 6, op := Go.Op.move (Go.Operand.tmp 5), type := 4, pos := "law.go:33", after := #[{ on := 0, ground := Go.Ground.data }], guard := none }) (v := ?_) rfl (by kernel_rfl) (by kernel_rfl) (by kernel_rfl) (fun _ _ _ h => h) (Or.inl ⟨by rfl, ?_⟩) (by assumption) ?_
  rotate_left
  focus (intro W hSw; obtain ⟨hcW, hfW, hbW⟩ := hSw; go_simp; (try with_reducible rfl); done)
  simp only [Act.put, List.setIfInBounds_toArray, List.set_cons_zero, List.set_cons_succ]
  refine wpAnyH_take (i := 2) (oi := { dst := some 7, op := Go.Op.load 28 (Go.Operand.tmp 1), type := 28, pos := "law.go:33", after := #[{ on := 1, ground := Go.Ground.guard }], guard := some (1, true) }) (v := ?_) rfl (by kernel_rfl) (by kernel_rfl) (by kernel_rfl) (fun _ _ _ h => h) (Or.inl ⟨by rfl, ?_⟩) (by assumption) ?_
  rotate_left
  focus (intro W hSw; obtain ⟨hcW, hfW, hbW⟩ := hSw; go_simp; (try with_reducible rfl); done)
  simp only [Act.put, List.setIfInBounds_toArray, List.set_cons_zero, List.set_cons_succ]
  refine wpAnyH_take (i := 4) (oi := { dst := some 9, op := Go.Op.load 28 (Go.Operand.tmp 1), type := 28, pos := "law.go:33", after := #[{ on := 1, ground := Go.Ground.guard }], guard := some (1, true) }) (v := ?_) rfl (by kernel_rfl) (by kernel_rfl) (by kernel_rfl) (fun _ _ _ h => h) (Or.inl ⟨by rfl, ?_⟩) (by assumption) ?_
  rotate_left
  focus (intro W hSw; obtain ⟨hcW, hfW, hbW⟩ := hSw; go_simp; (try with_reducible rfl); done)
  simp only [Act.put, List.setIfInBounds_toArray, List.set_cons_zero, List.set_cons_succ]
  refine wpAnyH_ready (rs := [3]) (by kernel_rfl) (by simp) ?_
  refine AllReadyH.cons (o := { dst := some 8, op := Go.Op.call { callee := Go.Callee.value (Go.Operand.func 10), args := #[Go.Operand.tmp 7], argTypes := #[28] }, type := 30, pos := "law.go:33", after := #[{ on := 2, ground := Go.Ground.data }, { on := 1, ground := Go.Ground.chain }, { on := 1, ground := Go.Ground.guard }], guard := some (1, true) }) rfl (fun K hK => ?_) AllReadyH.nil
  go_simp
  (go_at_call 10; (with_reducible refine (HCK.out _ (below_then HBX.out (Nat.le_of_lt hbs) (Past.below (Past.bel (by assumption : Past w1 _)) hp).bel)).mono ?_); rintro e w2 ⟨rfl, hb2⟩)
  refine hK.out _ _ ?_ (fun hHeld => ?_)
  focus ((try dsimp only); (first | exact Past.below (by assumption) (by assumption) | exact Past.drew1 (by assumption) | exact Past.start1 _); done)
  clear hK K
  try simp only [Act.put, List.setIfInBounds_toArray, List.set_cons_zero, List.set_cons_succ]
  refine wpAnyH_ready (rs := [5]) (by kernel_rfl) (by simp) ?_
  refine AllReadyH.cons (o := { dst := some 10, op := Go.Op.call { callee := Go.Callee.value (Go.Operand.func 11), args := #[Go.Operand.tmp 9], argTypes := #[28] }, type := 30, pos := "law.go:33", after := #[{ on := 4, ground := Go.Ground.data }, { on := 3, ground := Go.Ground.chain }, { on := 1, ground := Go.Ground.guard }], guard := some (1, true) }) rfl (fun K hK => ?_) AllReadyH.nil
  go_simp
  (go_at_call 11; (with_reducible refine (HRK.out _ (below_then HBX.out (Nat.le_of_lt hbs) (Past.below (Past.bel (by assumption : Past w1 _)) hp).bel)).mono ?_); rintro e w3 ⟨rfl, hb3⟩)
  refine hK.out _ _ ?_ (fun hHeld => ?_)
  focus ((try dsimp only); (first | exact Past.below (by assumption) (by assumption) | exact Past.drew1 (by assumption) | exact Past.start1 _); done)
  clear hK K
  try simp only [Act.put, List.setIfInBounds_toArray, List.set_cons_zero, List.set_cons_succ]
  refine wpAnyH_take (i := 6) (oi := { dst := some 11, op := Go.Op.binOp Go.BinOp.eql 30 (Go.Operand.tmp 8) (Go.Operand.tmp 10) 30, type := 4, pos := "law.go:33", after := #[{ on := 3, ground := Go.Ground.data }, { on := 5, ground := Go.Ground.data }, { on := 1, ground := Go.Ground.guard }], guard := some (1, true) }) (v := ?_) rfl (by kernel_rfl) (by kernel_rfl) (by kernel_rfl) (fun _ _ _ h => h) (Or.inl ⟨by rfl, ?_⟩) (by assumption) ?_
  rotate_left
  focus (intro W hSw; obtain ⟨hcW, hfW, hbW⟩ := hSw; go_simp; (try with_reducible rfl); done)
  simp only [Act.put, List.setIfInBounds_toArray, List.set_cons_zero, List.set_cons_succ]
  refine wpAnyH_take (i := 7) (oi := { dst := some 12, op := Go.Op.pick (Go.Operand.tmp 6) (Go.Operand.tmp 11) (Go.Operand.const (Go.Value.bool false)), type := 4, pos := "law.go:33", after := #[{ on := 1, ground := Go.Ground.data }, { on := 6, ground := Go.Ground.data }], guard := none }) (v := ?_) rfl (by kernel_rfl) (by kernel_rfl) (by kernel_rfl) (fun _ _ _ h => h) (Or.inl ⟨by rfl, ?_⟩) (by assumption) ?_
  rotate_left
  focus (intro W hSw; obtain ⟨hcW, hfW, hbW⟩ := hSw; go_simp; (try with_reducible rfl); done)
  simp only [Act.put, List.setIfInBounds_toArray, List.set_cons_zero, List.set_cons_succ]
  refine wpAnyH_take (i := 8) (oi := { dst := some 2, op := Go.Op.assign (Go.Operand.tmp 12), type := 4, pos := "law.go:33", after := #[{ on := 7, ground := Go.Ground.data }, { on := 5, ground := Go.Ground.chain }, { on := 0, ground := Go.Ground.phase }, { on := 1, ground := Go.Ground.phase }, { on := 2, ground := Go.Ground.phase }, { on := 3, ground := Go.Ground.phase }, { on := 4, ground := Go.Ground.phase }, { on := 5, ground := Go.Ground.phase }, { on := 6, ground := Go.Ground.phase }, { on := 7, ground := Go.Ground.phase }], guard := none }) (v := ?_) rfl (by kernel_rfl) (by kernel_rfl) (by kernel_rfl) (fun _ _ _ h => h) (Or.inl ⟨by rfl, ?_⟩) (by assumption) ?_
  rotate_left
  focus (intro W hSw; obtain ⟨hcW, hfW, hbW⟩ := hSw; go_simp; (try with_reducible rfl); done)
  simp only [Act.put, List.setIfInBounds_toArray, List.set_cons_zero, List.set_cons_succ]
  refine wpAnyH_done (by kernel_rfl) ?_ _
  have hpz := Past.below (Past.bel (by assumption : Past w1 w3)) hp
  go_wp2
  go_ret
  refine ⟨?_, below_then HBX.out (Nat.le_of_lt hbs) hpz.bel⟩
  first | rfl | simp

def uN (op : Int) : U := ⟨2, 0, 0, 0, 0, 0, [], [⟨op, 0, ⟨0, 0, 0⟩, [], 0⟩], [0, 1], [[]]⟩
theorem checkNone (op : Int) (h : ¬ (1 ≤ op ∧ op ≤ 9)) : checkN (uN op) = 1 := checkN_no fun hk => by
  have h1 := (hk.2.2 0 (by simp [uN])).1
  have h2 : oneB (uN op) ⟨op, 0, ⟨0, 0, 0⟩, [], 0⟩ = true := h1
  unfold oneB at h2
  have hm : mostB op = -1 := by unfold mostB; repeat (rw [if_neg (by omega)])
  rw [hm] at h2
  simp at h2
theorem laid4 (w : World) (o0 o1 o2 o3 : Obj) : let W := (((w.alloc o0).alloc o1).alloc o2).alloc o3
    W.heap[w.heap.size]? = some o0 ∧ W.heap[w.heap.size + 1]? = some o1 ∧ W.heap[w.heap.size + 2]? = some o2 ∧ W.heap[w.heap.size + 3]? = some o3 ∧ W.heap.size = w.heap.size + 4 ∧ Below w.heap.size w W := by
  have s1 : (w.alloc o0).heap.size = w.heap.size + 1 := World.size_alloc ..
  have s2 : ((w.alloc o0).alloc o1).heap.size = w.heap.size + 2 := by rw [World.size_alloc, s1]
  have s3 : (((w.alloc o0).alloc o1).alloc o2).heap.size = w.heap.size + 3 := by rw [World.size_alloc, s2]
  have n0 := blk_new w o0
  have n1 := blk_new (w.alloc o0) o1
  have n2 := blk_new ((w.alloc o0).alloc o1) o2
  have n3 := blk_new (((w.alloc o0).alloc o1).alloc o2) o3
  rw [s1] at n1
  rw [s2] at n2
  rw [s3] at n3
  refine ⟨blk_alloc (blk_alloc (blk_alloc n0 _) _) _, blk_alloc (blk_alloc n1 _) _, blk_alloc n2 _, n3, by rw [World.size_alloc, s3], ?_⟩
  exact ((((below_box w o0).alloc (by omega) o1).alloc (by omega) o2).alloc (by omega) o3)
theorem least_most (op : Int) (h : 1 ≤ op ∧ op ≤ 9) : 0 ≤ leastB op ∧ leastB op ≤ mostB op := by
  have : op = 1 ∨ op = 2 ∨ op = 3 ∨ op = 4 ∨ op = 5 ∨ op = 6 ∨ op = 7 ∨ op = 8 ∨ op = 9 := by omega
  rcases this with h | h | h | h | h | h | h | h | h <;> subst h <;> decide
theorem zero_op2 (op : Int) (h : ¬ (1 ≤ op ∧ op ≤ 9)) : leastB op = 0 ∧ mostB op = -1 ∧ decide (0 < leavesB op) = false := by
  unfold leastB mostB leavesB
  refine ⟨?_, ?_, ?_⟩ <;> (repeat (rw [if_neg (by omega)])) <;> rfl

set_option maxHeartbeats 4000000 in
set_option maxRecDepth 100000 in
theorem irNone_any (op : Int) (w : World) : Calls Try.prog 4 #[.int .i64 op] w (Ans (.bool true) w) := by
  have haw := awake_any
  have htk := fun W => takes_any op W
  have hlv := fun W => leaves_any op W
  have HAW := Lib.hid haw
  have hlm := least_most op
  have hz := zero_op2 op
  have hcn := checkNone op
  generalize leastB op = L at *
  generalize mostB op = M at *
  generalize decide (0 < leavesB op) = V at *
  have HTK := Lib.hid htk
  have HLV := Lib.hid hlv
  have HLM := Lib.hid hlm
  have HZ := Lib.hid hz
  have HCN := Lib.hid hcn
  clear haw htk hlv hlm hz hcn
  go_enter Try.func4, Try.ntmps4
  go_upto_region 4 with (first | (go_at_call 9; (with_reducible refine (HAW.out _).mono ?_); rintro e w1 ⟨rfl, hb1⟩) | (go_at_call 12; (with_reducible refine (HTK.out _).mono ?_); rintro e w2 ⟨rfl, hb2⟩))
  refine abs_world fun W0 hW0 => ?_
  have hw2 := below_then hb1 hb1.size hb2
  have hL := laid4 w2 (.cells #[.int .i64 0, .int .i64 1] 3) (.cells #[.slice none 0 0] 37) (.cells (ic ⟨op, 0, ⟨0, 0, 0⟩, [], 0⟩ none 0) 39) (.cells #[.int .u64 2, .int .i64 0, .int .i64 0, .int .i64 0, .int .i64 0, .int .i64 0, .slice none 0 0, .slice (some ⟨w2.heap.size + 2, 0, none⟩) 1 1, .slice (some ⟨w2.heap.size, 0, none⟩) 2 2, .slice (some ⟨w2.heap.size + 1, 0, none⟩) 1 1] 28)
  have hW1 : W0 = _ := hW0
  dsimp only at hL
  rw [show (((w2.alloc (.cells #[.int .i64 0, .int .i64 1] 3)).alloc (.cells #[.slice none 0 0] 37)).alloc (.cells (ic ⟨op, 0, ⟨0, 0, 0⟩, [], 0⟩ none 0) 39)).alloc (.cells #[.int .u64 2, .int .i64 0, .int .i64 0, .int .i64 0, .int .i64 0, .int .i64 0, .slice none 0 0, .slice (some ⟨w2.heap.size + 2, 0, none⟩) 1 1, .slice (some ⟨w2.heap.size, 0, none⟩) 2 2, .slice (some ⟨w2.heap.size + 1, 0, none⟩) 1 1] 28) = W0 from hW1.symm] at hL
  obtain ⟨k1, k2, k4, k50, hsz, hbw⟩ := hL
  have k5 : ∀ o, W0.cell? ⟨w2.heap.size + 3, o, none⟩ = (#[.int .u64 2, .int .i64 0, .int .i64 0, .int .i64 0, .int .i64 0, .int .i64 0, .slice none 0 0, .slice (some ⟨w2.heap.size + 2, 0, none⟩) 1 1, .slice (some ⟨w2.heap.size, 0, none⟩) 2 2, .slice (some ⟨w2.heap.size + 1, 0, none⟩) 1 1] : Array Value)[o]? := blk_cell k50
  have ks : w2.heap.size + 3 < W0.heap.size := by omega
  clear hW1 hW0 k50 hsz
  have hin : UIn (uN op) ⟨none, 0, some ⟨w2.heap.size + 2, 0, none⟩, 1, some ⟨w2.heap.size, 0, none⟩, 2, some ⟨w2.heap.size + 1, 0, none⟩, 1⟩ W0 :=
    ⟨C_nil _ _ _, C_ins1 k4 (by simp) (C_nil _ _ _), C_ints k1, C_map1 k2, fun i hi => by simp [uN] at hi, fun i hi => by simp [uN] at hi; subst hi; simp⟩
  have hA := fun W (hp : Past W0 W) => check_any _ _ W (hin.below hp.bel)
  change ∀ W, Past W0 W → Calls Try.prog 10 #[.agg #[.int .u64 2, .int .i64 0, .int .i64 0, .int .i64 0, .int .i64 0, .int .i64 0, .slice none 0 0, .slice (some ⟨w2.heap.size + 2, 0, none⟩) 1 1, .slice (some ⟨w2.heap.size, 0, none⟩) 2 2, .slice (some ⟨w2.heap.size + 1, 0, none⟩) 1 1]] W (Ans (.int .i64 (checkN (uN op))) W) at hA
  generalize checkN (uN op) = CN at *
  have HA := Lib.hid hA
  have hp := Past.start W0
  have HBW := Lib.hid (below_then hw2 hw2.size hbw)
  clear hA hin k1 k2 k4 hbw hw2
  by_cases g1 : 1 ≤ op
  · by_cases g2 : op ≤ 9
    · obtain ⟨l0, lm⟩ := HLM.out ⟨g1, g2⟩
      go_wp2_with fail
      go_ret
      exact ⟨by first | rfl | simp [*], HBW.out⟩
    · obtain ⟨rfl, rfl, rfl⟩ := HZ.out (by omega)
      obtain rfl := HCN.out (by omega)
      go_wp2_with (first | (go_at_call 13; (with_reducible refine (HLV.out _).mono ?_); rintro e w5 ⟨rfl, hb5⟩; replace hp := Past.below hb5 hp; have hc5 := hp.cc) | (go_at_call 10; (with_reducible refine (HA.out _ hp).mono ?_); rintro e w6 ⟨rfl, hb6⟩; replace hp := Past.below hb6 hp; have hc6 := hp.cc))
      go_ret
      exact ⟨by first | rfl | simp [*], below_then HBW.out HBW.out.size hp.bel⟩
  · obtain ⟨rfl, rfl, rfl⟩ := HZ.out (by omega)
    obtain rfl := HCN.out (by omega)
    go_wp2_with (first | (go_at_call 13; (with_reducible refine (HLV.out _).mono ?_); rintro e w5 ⟨rfl, hb5⟩; replace hp := Past.below hb5 hp; have hc5 := hp.cc) | (go_at_call 10; (with_reducible refine (HA.out _ hp).mono ?_); rintro e w6 ⟨rfl, hb6⟩; replace hp := Past.below hb6 hp; have hc6 := hp.cc))
    go_ret
    exact ⟨by first | rfl | simp [*], below_then HBW.out HBW.out.size hp.bel⟩
end Go.Proofs.Ytkhgbnnhgdcmoaa.IR
