/-
  Walks of layer 11 (ir), part I20: what these functions of the program answer and what becomes of memory, for any values. No conditions beyond those that each theorem names.
-/
import Derived.Test.YtkhgbnnhgdcmoaaI19
namespace Go.Proofs.Ytkhgbnnhgdcmoaa.IR
open Go.RowKit Go.Proofs.YtkhgbnnhgdcmoaaW.PrintWords Go.Proofs.YtkhgbnnhgdcmoaaW.PrintLast Go.Proofs.YtkhgbnnhgdcmoaaW.PrintMore Go.Proofs.Ytkhgbnnhgdcmoaa.QIr
attribute [local go_sem high] eqA36

theorem place_f (s : S36) : tappetref11_Place.f s.f0 s.f1 s.f2 = some (placeB s) := by
  unfold tappetref11_Place.f placeB
  by_cases h0 : s.f0 = 0
  · rw [if_pos h0]
    by_cases h1 : s.f1 ≥ 0
    · rw [if_pos h1]; simp [h0, show (0 : Int) ≤ s.f1 from h1]
    · rw [if_neg h1]; have : ¬ (0 : Int) ≤ s.f1 := h1; simp [this]
  · rw [if_neg h0]
    by_cases h3 : s.f0 = 3
    · rw [if_pos h3]
      by_cases h1 : s.f1 ≥ 0
      · rw [if_pos h1]; simp [h3, show (0 : Int) ≤ s.f1 from h1]
      · rw [if_neg h1]; have : ¬ (0 : Int) ≤ s.f1 := h1; simp [this]
    · rw [if_neg h3]; simp [h0, h3]
theorem rd36_s (l : List S36) (k : Nat) : rd_T36 l (k : Int) = s_ l k := by unfold rd_T36 s_; rw [Int.toNat_natCast]
theorem wrap_succ (k n : Nat) (h : k < n) (hn : n ≤ 9223372036854775807) : wrap64 ((k : Int) + 1) = ((k + 1 : Nat) : Int) := by unfold wrap64; omega
theorem same_l (l : List S36) (hl : l.length ≤ 9223372036854775807) : ∀ d i : Nat, i + d = l.length → tappetref11_SameSrcs.l0 (d + 1) l l (i : Int) = some true := by
  intro d
  induction d with
  | zero => intro i hi; unfold tappetref11_SameSrcs.l0; rw [if_neg (by omega)]
  | succ d ih =>
    intro i hi
    unfold tappetref11_SameSrcs.l0
    rw [if_pos (by omega), if_pos (by omega), if_pos (by omega), if_neg (by simp), wrap_succ i l.length (by omega) hl]
    exact ih (i + 1) (by omega)
theorem same_f (l : List S36) (hl : l.length ≤ 9223372036854775807) : tappetref11_SameSrcs.f (l.length + 1) l l = some true := by
  unfold tappetref11_SameSrcs.f
  rw [if_pos rfl]
  exact same_l l hl l.length 0 (by omega)
theorem reads_l (l : List S36) (hl : l.length * 24 ≤ 140737488351232) (a b c d e f : Int) : ∀ dd i : Nat, i + dd = l.length → tappetref11_Reads.l0 (dd + 1) (Kept l i) (i : Int) a b c d e l f = some (l.filter placeB) := by
  intro dd
  induction dd with
  | zero =>
    intro i hi
    unfold tappetref11_Reads.l0
    rw [if_neg (by omega)]
    unfold Kept
    rw [show i = l.length by omega, List.take_length]
  | succ dd ih =>
    intro i hi
    unfold tappetref11_Reads.l0
    rw [if_pos (by omega), if_pos (by omega), rd36_s, place_f, Option.bind_some, wrap_succ i l.length (by omega) (by omega)]
    have hk := kept_succ (l := l) (k := i) (by omega)
    have hn := ih (i + 1) (by omega)
    have hle := kept_le l i
    cases hb : placeB (s_ l i) with
    | true =>
      rw [hb] at hk
      rw [if_pos rfl, if_pos (by omega)]
      rw [hk] at hn
      simpa using hn
    | false =>
      rw [hb] at hk
      rw [if_neg (by simp)]
      rw [hk] at hn
      simpa using hn
theorem reads_f (l : List S36) (hl : l.length * 24 ≤ 140737488351232) (a b c d e f : Int) : tappetref11_Reads.f (l.length + 1) a b c d e l f = some (l.filter placeB) := by
  unfold tappetref11_Reads.f
  exact reads_l l hl a b c d e f l.length 0 (by omega)
theorem rreads_any (i : S39) (A : Option Addr) (c : Nat) (w : World) (hl : k36.C w A i.f3.length i.f3) (hc : i.f3.length ≤ c) (hsz : i.f3.length * 24 ≤ 140737488351232) : Calls Try.prog 24 #[iv i A c] w (RowOf (i.f3.filter placeB) w) := by
  refine (tappetref11_Reads.calls (i.f3.length + 1) i.f0 i.f1 i.f2.f0 i.f2.f1 i.f2.f2 A c i.f3 i.f4 _ w hl hc (reads_f i.f3 hsz _ _ _ _ _ _)).mono ?_
  rintro e w' ⟨v, rfl, hv, hb⟩
  obtain ⟨A2, c2, rfl, hle, hC⟩ := Kd.R_reads hv
  exact ⟨A2, c2, rfl, hC, hle, hb⟩
theorem same_any (l : List S36) (A A2 : Option Addr) (c c2 : Nat) (w : World) (h1 : k36.C w A l.length l) (hc : l.length ≤ c) (h2 : k36.C w A2 l.length l) (hc2 : l.length ≤ c2) : Calls Try.prog 22 #[.slice A l.length c, .slice A2 l.length c2] w (Ans (.bool true) w) := by
  refine (tappetref11_SameSrcs.calls (l.length + 1) A c l A2 c2 l true w h1 hc h2 hc2 (same_f l (Kd.C_max h1))).mono ?_
  rintro e w' ⟨rfl, n, rfl⟩
  exact ⟨rfl, pw_below_drewN (Below.refl _ _) n⟩

theorem Past.alloc {w0 W : World} (h : Past w0 W) (o : Obj) : Past w0 (W.alloc o) := Past.below (below_box W o) h
set_option maxHeartbeats 8000000 in
set_option maxRecDepth 100000 in
theorem irParts_any (i : S39) (A : Option Addr) (c : Nat) (s : S36) (w : World) (hl : k36.C w A i.f3.length i.f3) (hc : i.f3.length ≤ c) (hsz : i.f3.length * 24 ≤ 140737488351232) : Calls Try.prog 7 #[iv i A c, sv s] w (Ans (.bool true) w) := by
  have haw := awake_any
  have htk := fun W => takes_any i.f0 W
  have hrt := fun W => rtakes_any i.f0 W
  have hwr := fun W => writes_any i A c W
  have hrw := fun W => rwrites_any i A c W
  have hlv := fun W => leaves_any i.f0 W
  have hrl := fun W => rleaves_any i.f0 W
  have hpl := fun W => place_any s W
  have hrp := fun W => rplace_any s W
  have hrd := fun W (hb : Below w.heap.size w W) => reads_any i A c W (Kd.C_below hl hb) (by omega)
  have hrr := fun W (hb : Below w.heap.size w W) => rreads_any i A c W (Kd.C_below hl hb) hc hsz
  have hsm := fun A A2 c c2 W h1 hc h2 hc2 => same_any (i.f3.filter placeB) A A2 c c2 W h1 hc h2 hc2
  generalize hfl : i.f3.filter placeB = fl at *
  obtain ⟨op, nn, ⟨dk, dn, dw⟩, l, q⟩ := i
  obtain ⟨k0, k1, k2⟩ := s
  unfold iv sv at *
  simp only at *
  generalize leastB op = L at *
  generalize mostB op = M at *
  generalize decide (0 < leavesB op) = V at *
  generalize placeB ⟨k0, k1, k2⟩ = P at *
  have hws : ∃ x y z : Int, wrS ⟨op, nn, ⟨dk, dn, dw⟩, l, q⟩ V = .agg #[.int .i64 x, .int .i64 y, .int .u64 z] := by cases V <;> exact ⟨_, _, _, rfl⟩
  obtain ⟨x, y, z, hxyz⟩ := hws
  rw [hxyz] at hwr hrw
  have HAW := Lib.hid haw
  have HTK := Lib.hid htk
  have HRT := Lib.hid hrt
  have HWR := Lib.hid hwr
  have HRW := Lib.hid hrw
  have HLV := Lib.hid hlv
  have HRL := Lib.hid hrl
  have HPL := Lib.hid hpl
  have HRP := Lib.hid hrp
  have HRD := Lib.hid hrd
  have HRR := Lib.hid hrr
  have HSM := Lib.hid hsm
  clear haw htk hrt hwr hrw hlv hrl hpl hrp hrd hrr hsm hl hc hsz hxyz hfl
  go_enter Try.func7, Try.ntmps7
  go_upto_region 1 with fail
  have hb0 := (below_box w (.cells #[.int .i64 op, .int .i64 nn, .int .i64 dk, .int .i64 dn, .int .u64 dw, .slice A l.length c, .int .u64 q] 39)).alloc (Nat.le_of_lt (by simp)) (.cells #[.int .i64 k0, .int .i64 k1, .int .u64 k2] 36)
  have n1 := blk_alloc (blk_new w (.cells #[.int .i64 op, .int .i64 nn, .int .i64 dk, .int .i64 dn, .int .u64 dw, .slice A l.length c, .int .u64 q] 39)) (.cells #[.int .i64 k0, .int .i64 k1, .int .u64 k2] 36)
  have n2 := blk_new (w.alloc (.cells #[.int .i64 op, .int .i64 nn, .int .i64 dk, .int .i64 dn, .int .u64 dw, .slice A l.length c, .int .u64 q] 39)) (.cells #[.int .i64 k0, .int .i64 k1, .int .u64 k2] 36)
  rw [World.size_alloc] at n2
  refine abs_world fun W0 hW0 => ?_
  rw [← hW0] at hb0 n1 n2
  have c1 := blk_cell n1
  have c2 := blk_cell n2
  have hs0 := blk_lt n1
  have hs1 := blk_lt n2
  have HB0 := Lib.hid hb0
  clear hW0 n1 n2 hb0
  have hp := Past.start W0
  go_upto_region 6 with (first | (go_at_call 9; (with_reducible refine (HAW.out _).mono ?_); rintro e w1 ⟨rfl, hb1⟩; (first | replace hp := Past.below hb1 hp | replace hp := Past.below hb1 (Past.alloc hp _)); have hc1 := hp.cc; have hf1 := hp.ff; have hz1 := Nat.lt_of_lt_of_le hs0 hp.bel.size; have hy1 := Nat.lt_of_lt_of_le hs1 hp.bel.size) | (go_at_call 12; (with_reducible refine (HTK.out _).mono ?_); rintro e w2 ⟨rfl, hb2⟩; (first | replace hp := Past.below hb2 hp | replace hp := Past.below hb2 (Past.alloc hp _)); have hc2 := hp.cc; have hf2 := hp.ff; have hz2 := Nat.lt_of_lt_of_le hs0 hp.bel.size; have hy2 := Nat.lt_of_lt_of_le hs1 hp.bel.size) | (go_at_call 16; (with_reducible refine (HRT.out _).mono ?_); rintro e w3 ⟨rfl, hb3⟩; (first | replace hp := Past.below hb3 hp | replace hp := Past.below hb3 (Past.alloc hp _)); have hc3 := hp.cc; have hf3 := hp.ff; have hz3 := Nat.lt_of_lt_of_le hs0 hp.bel.size; have hy3 := Nat.lt_of_lt_of_le hs1 hp.bel.size) | (go_at_call 17; (with_reducible refine (HWR.out _).mono ?_); rintro e w4 ⟨rfl, hb4⟩; (first | replace hp := Past.below hb4 hp | replace hp := Past.below hb4 (Past.alloc hp _)); have hc4 := hp.cc; have hf4 := hp.ff; have hz4 := Nat.lt_of_lt_of_le hs0 hp.bel.size; have hy4 := Nat.lt_of_lt_of_le hs1 hp.bel.size) | (go_at_call 18; (with_reducible refine (HRW.out _).mono ?_); rintro e w5 ⟨rfl, hb5⟩; (first | replace hp := Past.below hb5 hp | replace hp := Past.below hb5 (Past.alloc hp _)); have hc5 := hp.cc; have hf5 := hp.ff; have hz5 := Nat.lt_of_lt_of_le hs0 hp.bel.size; have hy5 := Nat.lt_of_lt_of_le hs1 hp.bel.size))
  refine abs_world fun W1 hW1 => ?_
  have m1 := blk_alloc (blk_below (blk_new w4 (.cells #[.int .i64 x, .int .i64 y, .int .u64 z] 36)) hb5) (.cells #[.int .i64 x, .int .i64 y, .int .u64 z] 36)
  have m2 := blk_new w5 (.cells #[.int .i64 x, .int .i64 y, .int .u64 z] 36)
  have hp1 := Past.alloc hp (.cells #[.int .i64 x, .int .i64 y, .int .u64 z] 36)
  rw [← hW1] at m1 m2 hp1
  have d3 := blk_cell m1
  have d4 := blk_cell m2
  have s3 := blk_lt m1
  have s4 := blk_lt m2
  have s1 := Nat.lt_of_lt_of_le hs0 hp1.bel.size
  have s2 := Nat.lt_of_lt_of_le hs1 hp1.bel.size
  have d1 : ∀ o, W1.cell? ⟨w.heap.size, o, none⟩ = _ := fun o => (hp1.cc _ o hs0).trans (c1 o)
  have d2 : ∀ o, W1.cell? ⟨w.heap.size + 1, o, none⟩ = _ := fun o => (hp1.cc _ o hs1).trans (c2 o)
  have HBW := Lib.hid (below_then HB0.out HB0.out.size hp1.bel)
  clear hW1 m1 m2 hp1 hp hb1 hb2 hb3 hb4 hb5 hc1 hc2 hc3 hc4 hc5 hf1 hf2 hf3 hf4 hf5 hz1 hz2 hz3 hz4 hz5 hy1 hy2 hy3 hy4 hy5 c1 c2 hs0 hs1 HB0 HAW HTK HRT HWR HRW
  refine wp_region_held_drew (S := Past W1) (by kernel_rfl) ?_ (fun hHeld => ?_)
  focus ((try dsimp only); (first | exact Past.below (by assumption) (by assumption) | exact Past.drew1 (by assumption) | exact Past.start1 _); done)
  refine wpAnyH_take (i := 0) (oi := { dst := some 37, op := Go.Op.move (Go.Operand.tmp 5), type := 4, pos := "law.go:27", after := #[], guard := none }) (v := ?_) rfl (by kernel_rfl) (by kernel_rfl) (by kernel_rfl) (fun _ _ _ h => h) (Or.inl ⟨by rfl, ?_⟩) (by assumption) ?_
  rotate_left
  focus (intro W hSw; obtain ⟨hcW, hfW, hbW⟩ := hSw; go_simp; (try with_reducible rfl); done)
  simp only [Act.put, List.setIfInBounds_toArray, List.set_cons_zero, List.set_cons_succ]
  refine wpAnyH_take (i := 1) (oi := { dst := some 38, op := Go.Op.move (Go.Operand.tmp 37), type := 4, pos := "law.go:27", after := #[{ on := 0, ground := Go.Ground.data }], guard := none }) (v := ?_) rfl (by kernel_rfl) (by kernel_rfl) (by kernel_rfl) (fun _ _ _ h => h) (Or.inl ⟨by rfl, ?_⟩) (by assumption) ?_
  rotate_left
  focus (intro W hSw; obtain ⟨hcW, hfW, hbW⟩ := hSw; go_simp; (try with_reducible rfl); done)
  simp only [Act.put, List.setIfInBounds_toArray, List.set_cons_zero, List.set_cons_succ]
  refine wpAnyH_take (i := 2) (oi := { dst := some 39, op := Go.Op.move (Go.Operand.tmp 6), type := 3, pos := "law.go:27", after := #[{ on := 1, ground := Go.Ground.guard }], guard := some (1, true) }) (v := ?_) rfl (by kernel_rfl) (by kernel_rfl) (by kernel_rfl) (fun _ _ _ h => h) (Or.inl ⟨by rfl, ?_⟩) (by assumption) ?_
  rotate_left
  focus (intro W hSw; obtain ⟨hcW, hfW, hbW⟩ := hSw; go_simp; (try with_reducible rfl); done)
  simp only [Act.put, List.setIfInBounds_toArray, List.set_cons_zero, List.set_cons_succ]
  refine wpAnyH_take (i := 3) (oi := { dst := some 40, op := Go.Op.move (Go.Operand.tmp 8), type := 3, pos := "law.go:27", after := #[{ on := 1, ground := Go.Ground.guard }], guard := some (1, true) }) (v := ?_) rfl (by kernel_rfl) (by kernel_rfl) (by kernel_rfl) (fun _ _ _ h => h) (Or.inl ⟨by rfl, ?_⟩) (by assumption) ?_
  rotate_left
  focus (intro W hSw; obtain ⟨hcW, hfW, hbW⟩ := hSw; go_simp; (try with_reducible rfl); done)
  simp only [Act.put, List.setIfInBounds_toArray, List.set_cons_zero, List.set_cons_succ]
  refine wpAnyH_take (i := 4) (oi := { dst := some 41, op := Go.Op.binOp Go.BinOp.eql 3 (Go.Operand.tmp 39) (Go.Operand.tmp 40) 3, type := 4, pos := "law.go:27", after := #[{ on := 2, ground := Go.Ground.data }, { on := 3, ground := Go.Ground.data }, { on := 1, ground := Go.Ground.guard }], guard := some (1, true) }) (v := ?_) rfl (by kernel_rfl) (by kernel_rfl) (by kernel_rfl) (fun _ _ _ h => h) (Or.inl ⟨by rfl, ?_⟩) (by assumption) ?_
  rotate_left
  focus (intro W hSw; obtain ⟨hcW, hfW, hbW⟩ := hSw; go_simp; (try with_reducible rfl); done)
  simp only [Act.put, List.setIfInBounds_toArray, List.set_cons_zero, List.set_cons_succ]
  refine wpAnyH_take (i := 5) (oi := { dst := some 42, op := Go.Op.pick (Go.Operand.tmp 38) (Go.Operand.tmp 41) (Go.Operand.const (Go.Value.bool false)), type := 4, pos := "law.go:27", after := #[{ on := 1, ground := Go.Ground.data }, { on := 4, ground := Go.Ground.data }], guard := none }) (v := ?_) rfl (by kernel_rfl) (by kernel_rfl) (by kernel_rfl) (fun _ _ _ h => h) (Or.inl ⟨by rfl, ?_⟩) (by assumption) ?_
  rotate_left
  focus (intro W hSw; obtain ⟨hcW, hfW, hbW⟩ := hSw; go_simp; (try with_reducible rfl); done)
  simp only [Act.put, List.setIfInBounds_toArray, List.set_cons_zero, List.set_cons_succ]
  refine wpAnyH_take (i := 6) (oi := { dst := some 43, op := Go.Op.move (Go.Operand.tmp 42), type := 4, pos := "law.go:27", after := #[{ on := 5, ground := Go.Ground.data }, { on := 1, ground := Go.Ground.chain }], guard := none }) (v := ?_) rfl (by kernel_rfl) (by kernel_rfl) (by kernel_rfl) (fun _ _ _ h => h) (Or.inl ⟨by rfl, ?_⟩) (by assumption) ?_
  rotate_left
  focus (intro W hSw; obtain ⟨hcW, hfW, hbW⟩ := hSw; go_simp; (try with_reducible rfl); done)
  simp only [Act.put, List.setIfInBounds_toArray, List.set_cons_zero, List.set_cons_succ]
  refine wpAnyH_take (i := 7) (oi := { dst := some 44, op := Go.Op.move (Go.Operand.tmp 7), type := 3, pos := "law.go:27", after := #[{ on := 6, ground := Go.Ground.guard }], guard := some (6, true) }) (v := ?_) rfl (by kernel_rfl) (by kernel_rfl) (by kernel_rfl) (fun _ _ _ h => h) (Or.inl ⟨by rfl, ?_⟩) (by assumption) ?_
  rotate_left
  focus (intro W hSw; obtain ⟨hcW, hfW, hbW⟩ := hSw; go_simp; (try with_reducible rfl); done)
  simp only [Act.put, List.setIfInBounds_toArray, List.set_cons_zero, List.set_cons_succ]
  refine wpAnyH_take (i := 8) (oi := { dst := some 45, op := Go.Op.move (Go.Operand.tmp 9), type := 3, pos := "law.go:27", after := #[{ on := 6, ground := Go.Ground.guard }], guard := some (6, true) }) (v := ?_) rfl (by kernel_rfl) (by kernel_rfl) (by kernel_rfl) (fun _ _ _ h => h) (Or.inl ⟨by rfl, ?_⟩) (by assumption) ?_
  rotate_left
  focus (intro W hSw; obtain ⟨hcW, hfW, hbW⟩ := hSw; go_simp; (try with_reducible rfl); done)
  simp only [Act.put, List.setIfInBounds_toArray, List.set_cons_zero, List.set_cons_succ]
  refine wpAnyH_take (i := 9) (oi := { dst := some 46, op := Go.Op.binOp Go.BinOp.eql 3 (Go.Operand.tmp 44) (Go.Operand.tmp 45) 3, type := 4, pos := "law.go:27", after := #[{ on := 7, ground := Go.Ground.data }, { on := 8, ground := Go.Ground.data }, { on := 6, ground := Go.Ground.guard }], guard := some (6, true) }) (v := ?_) rfl (by kernel_rfl) (by kernel_rfl) (by kernel_rfl) (fun _ _ _ h => h) (Or.inl ⟨by rfl, ?_⟩) (by assumption) ?_
  rotate_left
  focus (intro W hSw; obtain ⟨hcW, hfW, hbW⟩ := hSw; go_simp; (try with_reducible rfl); done)
  simp only [Act.put, List.setIfInBounds_toArray, List.set_cons_zero, List.set_cons_succ]
  refine wpAnyH_take (i := 10) (oi := { dst := some 47, op := Go.Op.pick (Go.Operand.tmp 43) (Go.Operand.tmp 46) (Go.Operand.const (Go.Value.bool false)), type := 4, pos := "law.go:27", after := #[{ on := 6, ground := Go.Ground.data }, { on := 9, ground := Go.Ground.data }], guard := none }) (v := ?_) rfl (by kernel_rfl) (by kernel_rfl) (by kernel_rfl) (fun _ _ _ h => h) (Or.inl ⟨by rfl, ?_⟩) (by assumption) ?_
  rotate_left
  focus (intro W hSw; obtain ⟨hcW, hfW, hbW⟩ := hSw; go_simp; (try with_reducible rfl); done)
  simp only [Act.put, List.setIfInBounds_toArray, List.set_cons_zero, List.set_cons_succ]
  refine wpAnyH_take (i := 11) (oi := { dst := some 48, op := Go.Op.move (Go.Operand.tmp 47), type := 4, pos := "law.go:27", after := #[{ on := 10, ground := Go.Ground.data }, { on := 6, ground := Go.Ground.chain }], guard := none }) (v := ?_) rfl (by kernel_rfl) (by kernel_rfl) (by kernel_rfl) (fun _ _ _ h => h) (Or.inl ⟨by rfl, ?_⟩) (by assumption) ?_
  rotate_left
  focus (intro W hSw; obtain ⟨hcW, hfW, hbW⟩ := hSw; go_simp; (try with_reducible rfl); done)
  simp only [Act.put, List.setIfInBounds_toArray, List.set_cons_zero, List.set_cons_succ]
  refine wpAnyH_take (i := 12) (oi := { dst := some 49, op := Go.Op.fieldAddr 39 (Go.Operand.tmp 2) 0, type := 0, pos := "law.go:27", after := #[{ on := 11, ground := Go.Ground.guard }], guard := some (11, true) }) (v := ?_) rfl (by kernel_rfl) (by kernel_rfl) (by kernel_rfl) (fun _ _ _ h => h) (Or.inl ⟨by rfl, ?_⟩) (by assumption) ?_
  rotate_left
  focus (intro W hSw; obtain ⟨hcW, hfW, hbW⟩ := hSw; go_simp; (try with_reducible rfl); done)
  simp only [Act.put, List.setIfInBounds_toArray, List.set_cons_zero, List.set_cons_succ]
  refine wpAnyH_take (i := 13) (oi := { dst := some 50, op := Go.Op.load 3 (Go.Operand.tmp 49), type := 3, pos := "law.go:27", after := #[{ on := 12, ground := Go.Ground.data }, { on := 11, ground := Go.Ground.guard }], guard := some (11, true) }) (v := ?_) rfl (by kernel_rfl) (by kernel_rfl) (by kernel_rfl) (fun _ _ _ h => h) (Or.inl ⟨by rfl, ?_⟩) (by assumption) ?_
  rotate_left
  focus (intro W hSw; obtain ⟨hcW, hfW, hbW⟩ := hSw; go_simp; (try with_reducible rfl); done)
  simp only [Act.put, List.setIfInBounds_toArray, List.set_cons_zero, List.set_cons_succ]
  refine wpAnyH_take (i := 15) (oi := { dst := some 52, op := Go.Op.fieldAddr 39 (Go.Operand.tmp 2) 0, type := 0, pos := "law.go:27", after := #[{ on := 11, ground := Go.Ground.guard }], guard := some (11, true) }) (v := ?_) rfl (by kernel_rfl) (by kernel_rfl) (by kernel_rfl) (fun _ _ _ h => h) (Or.inl ⟨by rfl, ?_⟩) (by assumption) ?_
  rotate_left
  focus (intro W hSw; obtain ⟨hcW, hfW, hbW⟩ := hSw; go_simp; (try with_reducible rfl); done)
  simp only [Act.put, List.setIfInBounds_toArray, List.set_cons_zero, List.set_cons_succ]
  refine wpAnyH_take (i := 16) (oi := { dst := some 53, op := Go.Op.load 3 (Go.Operand.tmp 52), type := 3, pos := "law.go:27", after := #[{ on := 15, ground := Go.Ground.data }, { on := 11, ground := Go.Ground.guard }], guard := some (11, true) }) (v := ?_) rfl (by kernel_rfl) (by kernel_rfl) (by kernel_rfl) (fun _ _ _ h => h) (Or.inl ⟨by rfl, ?_⟩) (by assumption) ?_
  rotate_left
  focus (intro W hSw; obtain ⟨hcW, hfW, hbW⟩ := hSw; go_simp; (try with_reducible rfl); done)
  simp only [Act.put, List.setIfInBounds_toArray, List.set_cons_zero, List.set_cons_succ]
  refine wpAnyH_ready (rs := [14]) (by kernel_rfl) (by simp) ?_
  refine AllReadyH.cons (o := { dst := some 51, op := Go.Op.call { callee := Go.Callee.value (Go.Operand.func 13), args := #[Go.Operand.tmp 50], argTypes := #[3] }, type := 4, pos := "law.go:27", after := #[{ on := 13, ground := Go.Ground.data }, { on := 11, ground := Go.Ground.chain }, { on := 11, ground := Go.Ground.guard }], guard := some (11, true) }) rfl (fun K hK => ?_) AllReadyH.nil
  go_simp
  (go_at_call 13; (with_reducible refine (HLV.out _).mono ?_); rintro e w11 ⟨rfl, hb11⟩)
  refine hK.out _ _ ?_ (fun hHeld => ?_)
  focus ((try dsimp only); (first | exact Past.below (by assumption) (by assumption) | exact Past.drew1 (by assumption) | exact Past.start1 _); done)
  clear hK K
  try simp only [Act.put, List.setIfInBounds_toArray, List.set_cons_zero, List.set_cons_succ]
  refine wpAnyH_ready (rs := [17]) (by kernel_rfl) (by simp) ?_
  refine AllReadyH.cons (o := { dst := some 54, op := Go.Op.call { callee := Go.Callee.value (Go.Operand.func 19), args := #[Go.Operand.tmp 53], argTypes := #[3] }, type := 4, pos := "law.go:27", after := #[{ on := 16, ground := Go.Ground.data }, { on := 14, ground := Go.Ground.chain }, { on := 11, ground := Go.Ground.guard }], guard := some (11, true) }) rfl (fun K hK => ?_) AllReadyH.nil
  go_simp
  (go_at_call 19; (with_reducible refine (HRL.out _).mono ?_); rintro e w12 ⟨rfl, hb12⟩)
  refine hK.out _ _ ?_ (fun hHeld => ?_)
  focus ((try dsimp only); (first | exact Past.below (by assumption) (by assumption) | exact Past.drew1 (by assumption) | exact Past.start1 _); done)
  clear hK K
  try simp only [Act.put, List.setIfInBounds_toArray, List.set_cons_zero, List.set_cons_succ]
  refine wpAnyH_take (i := 18) (oi := { dst := some 55, op := Go.Op.binOp Go.BinOp.eql 4 (Go.Operand.tmp 51) (Go.Operand.tmp 54) 4, type := 4, pos := "law.go:27", after := #[{ on := 14, ground := Go.Ground.data }, { on := 17, ground := Go.Ground.data }, { on := 11, ground := Go.Ground.guard }], guard := some (11, true) }) (v := ?_) rfl (by kernel_rfl) (by kernel_rfl) (by kernel_rfl) (fun _ _ _ h => h) (Or.inl ⟨by rfl, ?_⟩) (by assumption) ?_
  rotate_left
  focus (intro W hSw; obtain ⟨hcW, hfW, hbW⟩ := hSw; go_simp; (try with_reducible rfl); done)
  simp only [Act.put, List.setIfInBounds_toArray, List.set_cons_zero, List.set_cons_succ]
  refine wpAnyH_take (i := 19) (oi := { dst := some 56, op := Go.Op.pick (Go.Operand.tmp 48) (Go.Operand.tmp 55) (Go.Operand.const (Go.Value.bool false)), type := 4, pos := "law.go:27", after := #[{ on := 11, ground := Go.Ground.data }, { on := 18, ground := Go.Ground.data }], guard := none }) (v := ?_) rfl (by kernel_rfl) (by kernel_rfl) (by kernel_rfl) (fun _ _ _ h => h) (Or.inl ⟨by rfl, ?_⟩) (by assumption) ?_
  rotate_left
  focus (intro W hSw; obtain ⟨hcW, hfW, hbW⟩ := hSw; go_simp; (try with_reducible rfl); done)
  simp only [Act.put, List.setIfInBounds_toArray, List.set_cons_zero, List.set_cons_succ]
  refine wpAnyH_take (i := 20) (oi := { dst := some 57, op := Go.Op.move (Go.Operand.tmp 56), type := 4, pos := "law.go:27", after := #[{ on := 19, ground := Go.Ground.data }, { on := 17, ground := Go.Ground.chain }], guard := none }) (v := ?_) rfl (by kernel_rfl) (by kernel_rfl) (by kernel_rfl) (fun _ _ _ h => h) (Or.inl ⟨by rfl, ?_⟩) (by assumption) ?_
  rotate_left
  focus (intro W hSw; obtain ⟨hcW, hfW, hbW⟩ := hSw; go_simp; (try with_reducible rfl); done)
  simp only [Act.put, List.setIfInBounds_toArray, List.set_cons_zero, List.set_cons_succ]
  refine wpAnyH_take (i := 21) (oi := { dst := some 58, op := Go.Op.load 36 (Go.Operand.tmp 3), type := 36, pos := "law.go:27", after := #[{ on := 20, ground := Go.Ground.guard }], guard := some (20, true) }) (v := ?_) rfl (by kernel_rfl) (by kernel_rfl) (by kernel_rfl) (fun _ _ _ h => h) (Or.inl ⟨by rfl, ?_⟩) (by assumption) ?_
  rotate_left
  focus (intro W hSw; obtain ⟨hcW, hfW, hbW⟩ := hSw; go_simp; (try with_reducible rfl); done)
  simp only [Act.put, List.setIfInBounds_toArray, List.set_cons_zero, List.set_cons_succ]
  refine wpAnyH_take (i := 23) (oi := { dst := some 60, op := Go.Op.load 36 (Go.Operand.tmp 3), type := 36, pos := "law.go:27", after := #[{ on := 20, ground := Go.Ground.guard }], guard := some (20, true) }) (v := ?_) rfl (by kernel_rfl) (by kernel_rfl) (by kernel_rfl) (fun _ _ _ h => h) (Or.inl ⟨by rfl, ?_⟩) (by assumption) ?_
  rotate_left
  focus (intro W hSw; obtain ⟨hcW, hfW, hbW⟩ := hSw; go_simp; (try with_reducible rfl); done)
  simp only [Act.put, List.setIfInBounds_toArray, List.set_cons_zero, List.set_cons_succ]
  refine wpAnyH_ready (rs := [22]) (by kernel_rfl) (by simp) ?_
  refine AllReadyH.cons (o := { dst := some 59, op := Go.Op.call { callee := Go.Callee.value (Go.Operand.func 20), args := #[Go.Operand.tmp 58], argTypes := #[36] }, type := 4, pos := "law.go:27", after := #[{ on := 21, ground := Go.Ground.data }, { on := 20, ground := Go.Ground.chain }, { on := 20, ground := Go.Ground.guard }], guard := some (20, true) }) rfl (fun K hK => ?_) AllReadyH.nil
  go_simp
  (go_at_call 20; (with_reducible refine (HPL.out _).mono ?_); rintro e w13 ⟨rfl, hb13⟩)
  refine hK.out _ _ ?_ (fun hHeld => ?_)
  focus ((try dsimp only); (first | exact Past.below (by assumption) (by assumption) | exact Past.drew1 (by assumption) | exact Past.start1 _); done)
  clear hK K
  try simp only [Act.put, List.setIfInBounds_toArray, List.set_cons_zero, List.set_cons_succ]
  refine wpAnyH_ready (rs := [24]) (by kernel_rfl) (by simp) ?_
  refine AllReadyH.cons (o := { dst := some 61, op := Go.Op.call { callee := Go.Callee.value (Go.Operand.func 21), args := #[Go.Operand.tmp 60], argTypes := #[36] }, type := 4, pos := "law.go:27", after := #[{ on := 23, ground := Go.Ground.data }, { on := 22, ground := Go.Ground.chain }, { on := 20, ground := Go.Ground.guard }], guard := some (20, true) }) rfl (fun K hK => ?_) AllReadyH.nil
  go_simp
  (go_at_call 21; (with_reducible refine (HRP.out _).mono ?_); rintro e w14 ⟨rfl, hb14⟩)
  refine hK.out _ _ ?_ (fun hHeld => ?_)
  focus ((try dsimp only); (first | exact Past.below (by assumption) (by assumption) | exact Past.drew1 (by assumption) | exact Past.start1 _); done)
  clear hK K
  try simp only [Act.put, List.setIfInBounds_toArray, List.set_cons_zero, List.set_cons_succ]
  refine wpAnyH_take (i := 25) (oi := { dst := some 62, op := Go.Op.binOp Go.BinOp.eql 4 (Go.Operand.tmp 59) (Go.Operand.tmp 61) 4, type := 4, pos := "law.go:27", after := #[{ on := 22, ground := Go.Ground.data }, { on := 24, ground := Go.Ground.data }, { on := 20, ground := Go.Ground.guard }], guard := some (20, true) }) (v := ?_) rfl (by kernel_rfl) (by kernel_rfl) (by kernel_rfl) (fun _ _ _ h => h) (Or.inl ⟨by rfl, ?_⟩) (by assumption) ?_
  rotate_left
  focus (intro W hSw; obtain ⟨hcW, hfW, hbW⟩ := hSw; go_simp; (try with_reducible rfl); done)
  simp only [Act.put, List.setIfInBounds_toArray, List.set_cons_zero, List.set_cons_succ]
  refine wpAnyH_take (i := 26) (oi := { dst := some 63, op := Go.Op.pick (Go.Operand.tmp 57) (Go.Operand.tmp 62) (Go.Operand.const (Go.Value.bool false)), type := 4, pos := "law.go:27", after := #[{ on := 20, ground := Go.Ground.data }, { on := 25, ground := Go.Ground.data }], guard := none }) (v := ?_) rfl (by kernel_rfl) (by kernel_rfl) (by kernel_rfl) (fun _ _ _ h => h) (Or.inl ⟨by rfl, ?_⟩) (by assumption) ?_
  rotate_left
  focus (intro W hSw; obtain ⟨hcW, hfW, hbW⟩ := hSw; go_simp; (try with_reducible rfl); done)
  simp only [Act.put, List.setIfInBounds_toArray, List.set_cons_zero, List.set_cons_succ]
  refine wpAnyH_take (i := 27) (oi := { dst := some 64, op := Go.Op.move (Go.Operand.tmp 63), type := 4, pos := "law.go:27", after := #[{ on := 26, ground := Go.Ground.data }, { on := 24, ground := Go.Ground.chain }], guard := none }) (v := ?_) rfl (by kernel_rfl) (by kernel_rfl) (by kernel_rfl) (fun _ _ _ h => h) (Or.inl ⟨by rfl, ?_⟩) (by assumption) ?_
  rotate_left
  focus (intro W hSw; obtain ⟨hcW, hfW, hbW⟩ := hSw; go_simp; (try with_reducible rfl); done)
  simp only [Act.put, List.setIfInBounds_toArray, List.set_cons_zero, List.set_cons_succ]
  refine wpAnyH_take (i := 28) (oi := { dst := some 65, op := Go.Op.load 36 (Go.Operand.tmp 10), type := 36, pos := "law.go:27", after := #[{ on := 27, ground := Go.Ground.guard }], guard := some (27, true) }) (v := ?_) rfl (by kernel_rfl) (by kernel_rfl) (by kernel_rfl) (fun _ _ _ h => h) (Or.inl ⟨by rfl, ?_⟩) (by assumption) ?_
  rotate_left
  focus (intro W hSw; obtain ⟨hcW, hfW, hbW⟩ := hSw; go_simp; (try with_reducible rfl); done)
  simp only [Act.put, List.setIfInBounds_toArray, List.set_cons_zero, List.set_cons_succ]
  refine wpAnyH_take (i := 29) (oi := { dst := some 66, op := Go.Op.load 36 (Go.Operand.tmp 12), type := 36, pos := "law.go:27", after := #[{ on := 27, ground := Go.Ground.guard }], guard := some (27, true) }) (v := ?_) rfl (by kernel_rfl) (by kernel_rfl) (by kernel_rfl) (fun _ _ _ h => h) (Or.inl ⟨by rfl, ?_⟩) (by assumption) ?_
  rotate_left
  focus (intro W hSw; obtain ⟨hcW, hfW, hbW⟩ := hSw; go_simp; (try with_reducible rfl); done)
  simp only [Act.put, List.setIfInBounds_toArray, List.set_cons_zero, List.set_cons_succ]
  refine wpAnyH_take (i := 30) (oi := { dst := some 67, op := Go.Op.binOp Go.BinOp.eql 36 (Go.Operand.tmp 65) (Go.Operand.tmp 66) 36, type := 4, pos := "law.go:27", after := #[{ on := 28, ground := Go.Ground.data }, { on := 29, ground := Go.Ground.data }, { on := 27, ground := Go.Ground.guard }], guard := some (27, true) }) (v := ?_) rfl (by kernel_rfl) (by kernel_rfl) (by kernel_rfl) (fun _ _ _ h => h) (Or.inl ⟨by rfl, ?_⟩) (by assumption) ?_
  rotate_left
  focus (intro W hSw; obtain ⟨hcW, hfW, hbW⟩ := hSw; go_simp; (try with_reducible rfl); done)
  simp only [Act.put, List.setIfInBounds_toArray, List.set_cons_zero, List.set_cons_succ]
  refine wpAnyH_take (i := 31) (oi := { dst := some 68, op := Go.Op.pick (Go.Operand.tmp 64) (Go.Operand.tmp 67) (Go.Operand.const (Go.Value.bool false)), type := 4, pos := "law.go:27", after := #[{ on := 27, ground := Go.Ground.data }, { on := 30, ground := Go.Ground.data }], guard := none }) (v := ?_) rfl (by kernel_rfl) (by kernel_rfl) (by kernel_rfl) (fun _ _ _ h => h) (Or.inl ⟨by rfl, ?_⟩) (by assumption) ?_
  rotate_left
  focus (intro W hSw; obtain ⟨hcW, hfW, hbW⟩ := hSw; go_simp; (try with_reducible rfl); done)
  simp only [Act.put, List.setIfInBounds_toArray, List.set_cons_zero, List.set_cons_succ]
  refine wpAnyH_take (i := 32) (oi := { dst := some 69, op := Go.Op.move (Go.Operand.tmp 68), type := 4, pos := "law.go:27", after := #[{ on := 31, ground := Go.Ground.data }, { on := 27, ground := Go.Ground.chain }], guard := none }) (v := ?_) rfl (by kernel_rfl) (by kernel_rfl) (by kernel_rfl) (fun _ _ _ h => h) (Or.inl ⟨by rfl, ?_⟩) (by assumption) ?_
  rotate_left
  focus (intro W hSw; obtain ⟨hcW, hfW, hbW⟩ := hSw; go_simp; (try with_reducible rfl); done)
  simp only [Act.put, List.setIfInBounds_toArray, List.set_cons_zero, List.set_cons_succ]
  refine wpAnyH_take (i := 33) (oi := { dst := some 70, op := Go.Op.move (Go.Operand.tmp 11), type := 4, pos := "law.go:27", after := #[{ on := 32, ground := Go.Ground.guard }], guard := some (32, true) }) (v := ?_) rfl (by kernel_rfl) (by kernel_rfl) (by kernel_rfl) (fun _ _ _ h => h) (Or.inl ⟨by rfl, ?_⟩) (by assumption) ?_
  rotate_left
  focus (intro W hSw; obtain ⟨hcW, hfW, hbW⟩ := hSw; go_simp; (try with_reducible rfl); done)
  simp only [Act.put, List.setIfInBounds_toArray, List.set_cons_zero, List.set_cons_succ]
  refine wpAnyH_take (i := 34) (oi := { dst := some 71, op := Go.Op.move (Go.Operand.tmp 13), type := 4, pos := "law.go:27", after := #[{ on := 32, ground := Go.Ground.guard }], guard := some (32, true) }) (v := ?_) rfl (by kernel_rfl) (by kernel_rfl) (by kernel_rfl) (fun _ _ _ h => h) (Or.inl ⟨by rfl, ?_⟩) (by assumption) ?_
  rotate_left
  focus (intro W hSw; obtain ⟨hcW, hfW, hbW⟩ := hSw; go_simp; (try with_reducible rfl); done)
  simp only [Act.put, List.setIfInBounds_toArray, List.set_cons_zero, List.set_cons_succ]
  refine wpAnyH_take (i := 35) (oi := { dst := some 72, op := Go.Op.binOp Go.BinOp.eql 4 (Go.Operand.tmp 70) (Go.Operand.tmp 71) 4, type := 4, pos := "law.go:27", after := #[{ on := 33, ground := Go.Ground.data }, { on := 34, ground := Go.Ground.data }, { on := 32, ground := Go.Ground.guard }], guard := some (32, true) }) (v := ?_) rfl (by kernel_rfl) (by kernel_rfl) (by kernel_rfl) (fun _ _ _ h => h) (Or.inl ⟨by rfl, ?_⟩) (by assumption) ?_
  rotate_left
  focus (intro W hSw; obtain ⟨hcW, hfW, hbW⟩ := hSw; go_simp; (try with_reducible rfl); done)
  simp only [Act.put, List.setIfInBounds_toArray, List.set_cons_zero, List.set_cons_succ]
  refine wpAnyH_take (i := 36) (oi := { dst := some 73, op := Go.Op.pick (Go.Operand.tmp 69) (Go.Operand.tmp 72) (Go.Operand.const (Go.Value.bool false)), type := 4, pos := "law.go:27", after := #[{ on := 32, ground := Go.Ground.data }, { on := 35, ground := Go.Ground.data }], guard := none }) (v := ?_) rfl (by kernel_rfl) (by kernel_rfl) (by kernel_rfl) (fun _ _ _ h => h) (Or.inl ⟨by rfl, ?_⟩) (by assumption) ?_
  rotate_left
  focus (intro W hSw; obtain ⟨hcW, hfW, hbW⟩ := hSw; go_simp; (try with_reducible rfl); done)
  simp only [Act.put, List.setIfInBounds_toArray, List.set_cons_zero, List.set_cons_succ]
  refine wpAnyH_take (i := 37) (oi := { dst := some 74, op := Go.Op.move (Go.Operand.tmp 73), type := 4, pos := "law.go:27", after := #[{ on := 36, ground := Go.Ground.data }, { on := 32, ground := Go.Ground.chain }], guard := none }) (v := ?_) rfl (by kernel_rfl) (by kernel_rfl) (by kernel_rfl) (fun _ _ _ h => h) (Or.inl ⟨by rfl, ?_⟩) (by assumption) ?_
  rotate_left
  focus (intro W hSw; obtain ⟨hcW, hfW, hbW⟩ := hSw; go_simp; (try with_reducible rfl); done)
  simp only [Act.put, List.setIfInBounds_toArray, List.set_cons_zero, List.set_cons_succ]
  refine wpAnyH_take (i := 38) (oi := { dst := some 75, op := Go.Op.load 39 (Go.Operand.tmp 2), type := 39, pos := "law.go:27", after := #[{ on := 37, ground := Go.Ground.guard }], guard := some (37, true) }) (v := ?_) rfl (by kernel_rfl) (by kernel_rfl) (by kernel_rfl) (fun _ _ _ h => h) (Or.inl ⟨by rfl, ?_⟩) (by assumption) ?_
  rotate_left
  focus (intro W hSw; obtain ⟨hcW, hfW, hbW⟩ := hSw; go_simp; (try with_reducible rfl); done)
  simp only [Act.put, List.setIfInBounds_toArray, List.set_cons_zero, List.set_cons_succ]
  refine wpAnyH_take (i := 40) (oi := { dst := some 77, op := Go.Op.load 39 (Go.Operand.tmp 2), type := 39, pos := "law.go:27", after := #[{ on := 37, ground := Go.Ground.guard }], guard := some (37, true) }) (v := ?_) rfl (by kernel_rfl) (by kernel_rfl) (by kernel_rfl) (fun _ _ _ h => h) (Or.inl ⟨by rfl, ?_⟩) (by assumption) ?_
  rotate_left
  focus (intro W hSw; obtain ⟨hcW, hfW, hbW⟩ := hSw; go_simp; (try with_reducible rfl); done)
  simp only [Act.put, List.setIfInBounds_toArray, List.set_cons_zero, List.set_cons_succ]
  refine wpAnyH_ready (rs := [39]) (by kernel_rfl) (by simp) ?_
  refine AllReadyH.cons (o := { dst := some 76, op := Go.Op.call { callee := Go.Callee.value (Go.Operand.func 23), args := #[Go.Operand.tmp 75], argTypes := #[39] }, type := 37, pos := "law.go:27", after := #[{ on := 38, ground := Go.Ground.data }, { on := 37, ground := Go.Ground.chain }, { on := 37, ground := Go.Ground.guard }], guard := some (37, true) }) rfl (fun K hK => ?_) AllReadyH.nil
  go_simp
  (go_at_call 23; (with_reducible refine (HRD.out _ (below_then HBW.out HBW.out.size (Past.bel (by assumption : Past W1 _)))).mono ?_); rintro e w15 ⟨A15, c15, rfl, hC15, hle15, hb15⟩)
  refine hK.out _ _ ?_ (fun hHeld => ?_)
  focus ((try dsimp only); (first | exact Past.below (by assumption) (by assumption) | exact Past.drew1 (by assumption) | exact Past.start1 _); done)
  clear hK K
  try simp only [Act.put, List.setIfInBounds_toArray, List.set_cons_zero, List.set_cons_succ]
  refine wpAnyH_ready (rs := [41]) (by kernel_rfl) (by simp) ?_
  refine AllReadyH.cons (o := { dst := some 78, op := Go.Op.call { callee := Go.Callee.value (Go.Operand.func 24), args := #[Go.Operand.tmp 77], argTypes := #[39] }, type := 37, pos := "law.go:27", after := #[{ on := 40, ground := Go.Ground.data }, { on := 39, ground := Go.Ground.chain }, { on := 37, ground := Go.Ground.guard }], guard := some (37, true) }) rfl (fun K hK => ?_) AllReadyH.nil
  go_simp
  (go_at_call 24; (with_reducible refine (HRR.out _ (below_then HBW.out HBW.out.size (Past.bel (by assumption : Past W1 _)))).mono ?_); rintro e w16 ⟨A16, c16, rfl, hC16, hle16, hb16⟩)
  refine hK.out _ _ ?_ (fun hHeld => ?_)
  focus ((try dsimp only); (first | exact Past.below (by assumption) (by assumption) | exact Past.drew1 (by assumption) | exact Past.start1 _); done)
  clear hK K
  try simp only [Act.put, List.setIfInBounds_toArray, List.set_cons_zero, List.set_cons_succ]
  refine wpAnyH_ready (rs := [42]) (by kernel_rfl) (by simp) ?_
  refine AllReadyH.cons (o := { dst := some 79, op := Go.Op.call { callee := Go.Callee.value (Go.Operand.func 22), args := #[Go.Operand.tmp 76, Go.Operand.tmp 78], argTypes := #[37, 37] }, type := 4, pos := "law.go:27", after := #[{ on := 39, ground := Go.Ground.data }, { on := 41, ground := Go.Ground.data }, { on := 41, ground := Go.Ground.chain }, { on := 37, ground := Go.Ground.guard }], guard := some (37, true) }) rfl (fun K hK => ?_) AllReadyH.nil
  go_simp
  (go_at_call 22; (with_reducible refine (HSM.out _ _ _ _ _ (Kd.C_below hC15 hb16) hle15 hC16 hle16).mono ?_); rintro e w17 ⟨rfl, hb17⟩)
  refine hK.out _ _ ?_ (fun hHeld => ?_)
  focus ((try dsimp only); (first | exact Past.below (by assumption) (by assumption) | exact Past.drew1 (by assumption) | exact Past.start1 _); done)
  clear hK K
  try simp only [Act.put, List.setIfInBounds_toArray, List.set_cons_zero, List.set_cons_succ]
  refine wpAnyH_take (i := 43) (oi := { dst := some 80, op := Go.Op.pick (Go.Operand.tmp 74) (Go.Operand.tmp 79) (Go.Operand.const (Go.Value.bool false)), type := 4, pos := "law.go:27", after := #[{ on := 37, ground := Go.Ground.data }, { on := 42, ground := Go.Ground.data }], guard := none }) (v := ?_) rfl (by kernel_rfl) (by kernel_rfl) (by kernel_rfl) (fun _ _ _ h => h) (Or.inl ⟨by rfl, ?_⟩) (by assumption) ?_
  rotate_left
  focus (intro W hSw; obtain ⟨hcW, hfW, hbW⟩ := hSw; go_simp; (try with_reducible rfl); done)
  simp only [Act.put, List.setIfInBounds_toArray, List.set_cons_zero, List.set_cons_succ]
  refine wpAnyH_take (i := 44) (oi := { dst := some 4, op := Go.Op.assign (Go.Operand.tmp 80), type := 4, pos := "law.go:27", after := #[{ on := 43, ground := Go.Ground.data }, { on := 42, ground := Go.Ground.chain }, { on := 0, ground := Go.Ground.phase }, { on := 1, ground := Go.Ground.phase }, { on := 2, ground := Go.Ground.phase }, { on := 3, ground := Go.Ground.phase }, { on := 4, ground := Go.Ground.phase }, { on := 5, ground := Go.Ground.phase }, { on := 6, ground := Go.Ground.phase }, { on := 7, ground := Go.Ground.phase }, { on := 8, ground := Go.Ground.phase }, { on := 9, ground := Go.Ground.phase }, { on := 10, ground := Go.Ground.phase }, { on := 11, ground := Go.Ground.phase }, { on := 12, ground := Go.Ground.phase }, { on := 13, ground := Go.Ground.phase }, { on := 14, ground := Go.Ground.phase }, { on := 15, ground := Go.Ground.phase }, { on := 16, ground := Go.Ground.phase }, { on := 17, ground := Go.Ground.phase }, { on := 18, ground := Go.Ground.phase }, { on := 19, ground := Go.Ground.phase }, { on := 20, ground := Go.Ground.phase }, { on := 21, ground := Go.Ground.phase }, { on := 22, ground := Go.Ground.phase }, { on := 23, ground := Go.Ground.phase }, { on := 24, ground := Go.Ground.phase }, { on := 25, ground := Go.Ground.phase }, { on := 26, ground := Go.Ground.phase }, { on := 27, ground := Go.Ground.phase }, { on := 28, ground := Go.Ground.phase }, { on := 29, ground := Go.Ground.phase }, { on := 30, ground := Go.Ground.phase }, { on := 31, ground := Go.Ground.phase }, { on := 32, ground := Go.Ground.phase }, { on := 33, ground := Go.Ground.phase }, { on := 34, ground := Go.Ground.phase }, { on := 35, ground := Go.Ground.phase }, { on := 36, ground := Go.Ground.phase }, { on := 37, ground := Go.Ground.phase }, { on := 38, ground := Go.Ground.phase }, { on := 39, ground := Go.Ground.phase }, { on := 40, ground := Go.Ground.phase }, { on := 41, ground := Go.Ground.phase }, { on := 42, ground := Go.Ground.phase }, { on := 43, ground := Go.Ground.phase }], guard := none }) (v := ?_) rfl (by kernel_rfl) (by kernel_rfl) (by kernel_rfl) (fun _ _ _ h => h) (Or.inl ⟨by rfl, ?_⟩) (by assumption) ?_
  rotate_left
  focus (intro W hSw; obtain ⟨hcW, hfW, hbW⟩ := hSw; go_simp; (try with_reducible rfl); done)
  simp only [Act.put, List.setIfInBounds_toArray, List.set_cons_zero, List.set_cons_succ]
  refine wpAnyH_done (by kernel_rfl) ?_ _
  have hpz : Past W1 w17 := by assumption
  have hz := below_then HBW.out HBW.out.size hpz.bel
  go_wp2
  go_ret
  exact ⟨by first | rfl | simp, hz⟩
end Go.Proofs.Ytkhgbnnhgdcmoaa.IR
