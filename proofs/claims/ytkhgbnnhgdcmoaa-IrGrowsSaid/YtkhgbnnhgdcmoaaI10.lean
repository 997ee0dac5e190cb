/-
  Walks of layer 11 (ir), part I10: what these functions of the program answer and what becomes of memory, for any values. No conditions beyond those that each theorem names.
-/
import Derived.Test.YtkhgbnnhgdcmoaaI9
namespace Go.Proofs.Ytkhgbnnhgdcmoaa.IR
open Go.RowKit Go.Proofs.YtkhgbnnhgdcmoaaW.PrintWords Go.Proofs.YtkhgbnnhgdcmoaaW.PrintLast Go.Proofs.YtkhgbnnhgdcmoaaW.PrintMore Go.Proofs.Ytkhgbnnhgdcmoaa.QIr

theorem abs_world {P : Program} {c : Code} {Q : Exit → Act → World → Prop} {a : Act} {w : World} (h : ∀ W, W = w → c.wp P Q a W) : c.wp P Q a w := h w rfl
theorem Past.cc {w0 W : World} (h : Past w0 W) : ∀ b o, b < w0.heap.size → W.cell? ⟨b, o, none⟩ = w0.cell? ⟨b, o, none⟩ := h.1
theorem Past.ff {w0 W : World} (h : Past w0 W) : ∀ b o, b < w0.heap.size → W.frozen? ⟨b, o, none⟩ = w0.frozen? ⟨b, o, none⟩ := h.2.1

set_option maxHeartbeats 4000000 in
set_option maxRecDepth 100000 in
theorem rstarts_any (u : U) (x : UA) (w : World) (hs : (Kd.int .i64).C w x.at_ u.starts.length u.starts) (hmax : u.maps.length ≤ 9223372036854775807) (hmax2 : u.code.length ≤ 9223372036854775807) :
    Calls Try.prog 28 #[uv u x] w (Ans (.bool (startsB u)) w) := by
  have hbx := below_box w (.cells (uc u x) 28)
  have hnew := blk_new w (.cells (uc u x) 28)
  have hcl := fun (hn : 0 < u.starts.length) => int_cell (Kd.C_below hs hbx) hn
  have hyes := @sorted_yes u.starts
  have hno := @sorted_no u.starts
  have hsl := Kd.C_max hs
  unfold startsB
  unfold uv uc at *
  obtain ⟨m, a, t, r, p, n, enter, code, starts, maps⟩ := u
  obtain ⟨ae, ce, ac, cc, ast, ct, am, cm⟩ := x
  simp only at *
  have HL := Lib.hid hcl
  have HN := Lib.hid hnew
  have HBX := Lib.hid hbx
  have HY := Lib.hid hyes
  have HNO := Lib.hid hno
  clear hcl hnew hs hbx hyes hno
  generalize hso : sortedB starts = SO at *
  have HSO := Lib.hid hso
  clear hso
  go_enter Try.func28, Try.ntmps28
  go_upto_region 2 with fail
  refine abs_world fun W0 hW0 => ?_
  rw [← hW0] at HL HN HBX
  have hblk : ∀ o, W0.cell? ⟨w.heap.size, o, none⟩ = #[Value.int .u64 m, .int .i64 a, .int .i64 t, .int .i64 r, .int .i64 p, .int .i64 n, .slice ae enter.length ce, .slice ac code.length cc, .slice ast starts.length ct, .slice am maps.length cm][o]? := fun o => by simp [World.cell?, HN.out]
  have hbs : w.heap.size < W0.heap.size := by rw [hW0]; simp
  clear hW0
  have hln : (0 : Int) ≤ (starts.length : Int) := by omega
  have hw1 : IntKind.i64.wrap ((starts.length : Int) - 1) = (starts.length : Int) - 1 := IntWalk.i64_in _ (by omega)
  refine wp_region_held_drew (S := Past W0) (by kernel_rfl) ?_ (fun hHeld => ?_)
  focus ((try dsimp only); (first | exact Past.below (by assumption) (by assumption) | exact Past.drew1 (by assumption) | exact Past.start1 _); done)
  refine wpAnyH_take (i := 0) (oi := { dst := some 8, op := Go.Op.move (Go.Operand.tmp 3), type := 3, pos := "ref.go:106", after := #[], guard := none }) (v := ?_) rfl (by kernel_rfl) (by kernel_rfl) (by kernel_rfl) (fun _ _ _ h => h) (Or.inl ⟨by rfl, ?_⟩) (by assumption) ?_
  rotate_left
  focus (intro W hSw; obtain ⟨hcW, hfW, hbW⟩ := hSw; go_simp; (try with_reducible rfl); done)
  simp only [Act.put, List.setIfInBounds_toArray, List.set_cons_zero, List.set_cons_succ]
  by_cases s1 : (starts.length : Int) < 2
  · skip
    refine wpAnyH_take (i := 1) (oi := { dst := some 9, op := Go.Op.binOp Go.BinOp.lss 3 (Go.Operand.tmp 8) (Go.Operand.const (Go.Value.int Go.IntKind.i64 2)) 3, type := 4, pos := "ref.go:106", after := #[{ on := 0, ground := Go.Ground.data }], guard := none }) (v := ?_) rfl (by kernel_rfl) (by kernel_rfl) (by kernel_rfl) (fun _ _ _ h => h) (Or.inl ⟨by rfl, ?_⟩) (by assumption) ?_
    rotate_left
    focus (intro W hSw; obtain ⟨hcW, hfW, hbW⟩ := hSw; go_simp; (try with_reducible rfl); done)
    simp only [Act.put, List.setIfInBounds_toArray, List.set_cons_zero, List.set_cons_succ]
    refine wpAnyH_take (i := 2) (oi := { dst := some 10, op := Go.Op.move (Go.Operand.tmp 9), type := 4, pos := "ref.go:106", after := #[{ on := 1, ground := Go.Ground.data }], guard := none }) (v := ?_) rfl (by kernel_rfl) (by kernel_rfl) (by kernel_rfl) (fun _ _ _ h => h) (Or.inl ⟨by rfl, ?_⟩) (by assumption) ?_
    rotate_left
    focus (intro W hSw; obtain ⟨hcW, hfW, hbW⟩ := hSw; go_simp; (try with_reducible rfl); done)
    simp only [Act.put, List.setIfInBounds_toArray, List.set_cons_zero, List.set_cons_succ]
    refine wpAnyH_take (i := 3) (oi := { dst := some 11, op := Go.Op.move (Go.Operand.tmp 3), type := 3, pos := "ref.go:106", after := #[{ on := 2, ground := Go.Ground.guard }], guard := some (2, false) }) (v := undef) rfl (by kernel_rfl) (by kernel_rfl) (by kernel_rfl) (fun _ _ _ h => h) (Or.inr ⟨by rfl, rfl⟩) (by assumption) ?_
    simp only [Act.put, List.setIfInBounds_toArray, List.set_cons_zero, List.set_cons_succ]
    refine wpAnyH_take (i := 4) (oi := { dst := some 12, op := Go.Op.binOp Go.BinOp.gtr 3 (Go.Operand.tmp 11) (Go.Operand.const (Go.Value.int Go.IntKind.i64 129)) 3, type := 4, pos := "ref.go:106", after := #[{ on := 3, ground := Go.Ground.data }, { on := 2, ground := Go.Ground.guard }], guard := some (2, false) }) (v := undef) rfl (by kernel_rfl) (by kernel_rfl) (by kernel_rfl) (fun _ _ _ h => h) (Or.inr ⟨by rfl, rfl⟩) (by assumption) ?_
    simp only [Act.put, List.setIfInBounds_toArray, List.set_cons_zero, List.set_cons_succ]
    refine wpAnyH_take (i := 5) (oi := { dst := some 13, op := Go.Op.pick (Go.Operand.tmp 10) (Go.Operand.const (Go.Value.bool true)) (Go.Operand.tmp 12), type := 4, pos := "ref.go:106", after := #[{ on := 2, ground := Go.Ground.data }, { on := 4, ground := Go.Ground.data }], guard := none }) (v := ?_) rfl (by kernel_rfl) (by kernel_rfl) (by kernel_rfl) (fun _ _ _ h => h) (Or.inl ⟨by rfl, ?_⟩) (by assumption) ?_
    rotate_left
    focus (intro W hSw; obtain ⟨hcW, hfW, hbW⟩ := hSw; go_simp; (try with_reducible rfl); done)
    simp only [Act.put, List.setIfInBounds_toArray, List.set_cons_zero, List.set_cons_succ]
    refine wpAnyH_take (i := 6) (oi := { dst := some 14, op := Go.Op.move (Go.Operand.tmp 13), type := 4, pos := "ref.go:106", after := #[{ on := 5, ground := Go.Ground.data }, { on := 2, ground := Go.Ground.chain }], guard := none }) (v := ?_) rfl (by kernel_rfl) (by kernel_rfl) (by kernel_rfl) (fun _ _ _ h => h) (Or.inl ⟨by rfl, ?_⟩) (by assumption) ?_
    rotate_left
    focus (intro W hSw; obtain ⟨hcW, hfW, hbW⟩ := hSw; go_simp; (try with_reducible rfl); done)
    simp only [Act.put, List.setIfInBounds_toArray, List.set_cons_zero, List.set_cons_succ]
    refine wpAnyH_take (i := 7) (oi := { dst := some 15, op := Go.Op.fieldAddr 28 (Go.Operand.tmp 1) 9, type := 0, pos := "ref.go:106", after := #[{ on := 6, ground := Go.Ground.guard }], guard := some (6, false) }) (v := undef) rfl (by kernel_rfl) (by kernel_rfl) (by kernel_rfl) (fun _ _ _ h => h) (Or.inr ⟨by rfl, rfl⟩) (by assumption) ?_
    simp only [Act.put, List.setIfInBounds_toArray, List.set_cons_zero, List.set_cons_succ]
    refine wpAnyH_take (i := 8) (oi := { dst := some 16, op := Go.Op.load 26 (Go.Operand.tmp 15), type := 26, pos := "ref.go:106", after := #[{ on := 7, ground := Go.Ground.data }, { on := 6, ground := Go.Ground.guard }], guard := some (6, false) }) (v := undef) rfl (by kernel_rfl) (by kernel_rfl) (by kernel_rfl) (fun _ _ _ h => h) (Or.inr ⟨by rfl, rfl⟩) (by assumption) ?_
    simp only [Act.put, List.setIfInBounds_toArray, List.set_cons_zero, List.set_cons_succ]
    refine wpAnyH_take (i := 9) (oi := { dst := some 17, op := Go.Op.call { callee := Go.Callee.builtin Go.Builtin.len, args := #[Go.Operand.tmp 16], argTypes := #[26] }, type := 3, pos := "ref.go:106", after := #[{ on := 8, ground := Go.Ground.data }, { on := 6, ground := Go.Ground.guard }], guard := some (6, false) }) (v := undef) rfl (by kernel_rfl) (by kernel_rfl) (by kernel_rfl) (fun _ _ _ h => h) (Or.inr ⟨by rfl, rfl⟩) (by assumption) ?_
    simp only [Act.put, List.setIfInBounds_toArray, List.set_cons_zero, List.set_cons_succ]
    refine wpAnyH_take (i := 10) (oi := { dst := some 18, op := Go.Op.move (Go.Operand.tmp 3), type := 3, pos := "ref.go:106", after := #[{ on := 6, ground := Go.Ground.guard }], guard := some (6, false) }) (v := undef) rfl (by kernel_rfl) (by kernel_rfl) (by kernel_rfl) (fun _ _ _ h => h) (Or.inr ⟨by rfl, rfl⟩) (by assumption) ?_
    simp only [Act.put, List.setIfInBounds_toArray, List.set_cons_zero, List.set_cons_succ]
    refine wpAnyH_take (i := 11) (oi := { dst := some 19, op := Go.Op.binOp Go.BinOp.sub 3 (Go.Operand.tmp 18) (Go.Operand.const (Go.Value.int Go.IntKind.i64 1)) 3, type := 3, pos := "ref.go:106", after := #[{ on := 10, ground := Go.Ground.data }, { on := 6, ground := Go.Ground.guard }], guard := some (6, false) }) (v := undef) rfl (by kernel_rfl) (by kernel_rfl) (by kernel_rfl) (fun _ _ _ h => h) (Or.inr ⟨by rfl, rfl⟩) (by assumption) ?_
    simp only [Act.put, List.setIfInBounds_toArray, List.set_cons_zero, List.set_cons_succ]
    refine wpAnyH_take (i := 12) (oi := { dst := some 20, op := Go.Op.binOp Go.BinOp.neq 3 (Go.Operand.tmp 17) (Go.Operand.tmp 19) 3, type := 4, pos := "ref.go:106", after := #[{ on := 9, ground := Go.Ground.data }, { on := 11, ground := Go.Ground.data }, { on := 6, ground := Go.Ground.guard }], guard := some (6, false) }) (v := undef) rfl (by kernel_rfl) (by kernel_rfl) (by kernel_rfl) (fun _ _ _ h => h) (Or.inr ⟨by rfl, rfl⟩) (by assumption) ?_
    simp only [Act.put, List.setIfInBounds_toArray, List.set_cons_zero, List.set_cons_succ]
    refine wpAnyH_take (i := 13) (oi := { dst := some 21, op := Go.Op.pick (Go.Operand.tmp 14) (Go.Operand.const (Go.Value.bool true)) (Go.Operand.tmp 20), type := 4, pos := "ref.go:106", after := #[{ on := 6, ground := Go.Ground.data }, { on := 12, ground := Go.Ground.data }], guard := none }) (v := ?_) rfl (by kernel_rfl) (by kernel_rfl) (by kernel_rfl) (fun _ _ _ h => h) (Or.inl ⟨by rfl, ?_⟩) (by assumption) ?_
    rotate_left
    focus (intro W hSw; obtain ⟨hcW, hfW, hbW⟩ := hSw; go_simp; (try with_reducible rfl); done)
    simp only [Act.put, List.setIfInBounds_toArray, List.set_cons_zero, List.set_cons_succ]
    refine wpAnyH_take (i := 14) (oi := { dst := some 22, op := Go.Op.move (Go.Operand.tmp 21), type := 4, pos := "ref.go:106", after := #[{ on := 13, ground := Go.Ground.data }, { on := 6, ground := Go.Ground.chain }], guard := none }) (v := ?_) rfl (by kernel_rfl) (by kernel_rfl) (by kernel_rfl) (fun _ _ _ h => h) (Or.inl ⟨by rfl, ?_⟩) (by assumption) ?_
    rotate_left
    focus (intro W hSw; obtain ⟨hcW, hfW, hbW⟩ := hSw; go_simp; (try with_reducible rfl); done)
    simp only [Act.put, List.setIfInBounds_toArray, List.set_cons_zero, List.set_cons_succ]
    refine wpAnyH_take (i := 15) (oi := { dst := some 23, op := Go.Op.fieldAddr 28 (Go.Operand.tmp 1) 8, type := 0, pos := "ref.go:106", after := #[{ on := 14, ground := Go.Ground.guard }], guard := some (14, false) }) (v := undef) rfl (by kernel_rfl) (by kernel_rfl) (by kernel_rfl) (fun _ _ _ h => h) (Or.inr ⟨by rfl, rfl⟩) (by assumption) ?_
    simp only [Act.put, List.setIfInBounds_toArray, List.set_cons_zero, List.set_cons_succ]
    refine wpAnyH_take (i := 16) (oi := { dst := some 24, op := Go.Op.load 25 (Go.Operand.tmp 23), type := 25, pos := "ref.go:106", after := #[{ on := 15, ground := Go.Ground.data }, { on := 14, ground := Go.Ground.guard }], guard := some (14, false) }) (v := undef) rfl (by kernel_rfl) (by kernel_rfl) (by kernel_rfl) (fun _ _ _ h => h) (Or.inr ⟨by rfl, rfl⟩) (by assumption) ?_
    simp only [Act.put, List.setIfInBounds_toArray, List.set_cons_zero, List.set_cons_succ]
    refine wpAnyH_take (i := 17) (oi := { dst := some 25, op := Go.Op.indexAddr 25 (Go.Operand.tmp 24) (Go.Operand.const (Go.Value.int Go.IntKind.i64 0)), type := 0, pos := "ref.go:106", after := #[{ on := 16, ground := Go.Ground.data }, { on := 14, ground := Go.Ground.guard }], guard := some (14, false) }) (v := undef) rfl (by kernel_rfl) (by kernel_rfl) (by kernel_rfl) (fun _ _ _ h => h) (Or.inr ⟨by rfl, rfl⟩) (by assumption) ?_
    simp only [Act.put, List.setIfInBounds_toArray, List.set_cons_zero, List.set_cons_succ]
    refine wpAnyH_take (i := 18) (oi := { dst := some 26, op := Go.Op.load 3 (Go.Operand.tmp 25), type := 3, pos := "ref.go:106", after := #[{ on := 17, ground := Go.Ground.data }, { on := 14, ground := Go.Ground.guard }], guard := some (14, false) }) (v := undef) rfl (by kernel_rfl) (by kernel_rfl) (by kernel_rfl) (fun _ _ _ h => h) (Or.inr ⟨by rfl, rfl⟩) (by assumption) ?_
    simp only [Act.put, List.setIfInBounds_toArray, List.set_cons_zero, List.set_cons_succ]
    refine wpAnyH_take (i := 19) (oi := { dst := some 27, op := Go.Op.binOp Go.BinOp.neq 3 (Go.Operand.tmp 26) (Go.Operand.const (Go.Value.int Go.IntKind.i64 0)) 3, type := 4, pos := "ref.go:106", after := #[{ on := 18, ground := Go.Ground.data }, { on := 14, ground := Go.Ground.guard }], guard := some (14, false) }) (v := undef) rfl (by kernel_rfl) (by kernel_rfl) (by kernel_rfl) (fun _ _ _ h => h) (Or.inr ⟨by rfl, rfl⟩) (by assumption) ?_
    simp only [Act.put, List.setIfInBounds_toArray, List.set_cons_zero, List.set_cons_succ]
    refine wpAnyH_take (i := 20) (oi := { dst := some 28, op := Go.Op.pick (Go.Operand.tmp 22) (Go.Operand.const (Go.Value.bool true)) (Go.Operand.tmp 27), type := 4, pos := "ref.go:106", after := #[{ on := 14, ground := Go.Ground.data }, { on := 19, ground := Go.Ground.data }], guard := none }) (v := ?_) rfl (by kernel_rfl) (by kernel_rfl) (by kernel_rfl) (fun _ _ _ h => h) (Or.inl ⟨by rfl, ?_⟩) (by assumption) ?_
    rotate_left
    focus (intro W hSw; obtain ⟨hcW, hfW, hbW⟩ := hSw; go_simp; (try with_reducible rfl); done)
    simp only [Act.put, List.setIfInBounds_toArray, List.set_cons_zero, List.set_cons_succ]
    refine wpAnyH_take (i := 21) (oi := { dst := some 29, op := Go.Op.move (Go.Operand.tmp 28), type := 4, pos := "ref.go:106", after := #[{ on := 20, ground := Go.Ground.data }, { on := 14, ground := Go.Ground.chain }], guard := none }) (v := ?_) rfl (by kernel_rfl) (by kernel_rfl) (by kernel_rfl) (fun _ _ _ h => h) (Or.inl ⟨by rfl, ?_⟩) (by assumption) ?_
    rotate_left
    focus (intro W hSw; obtain ⟨hcW, hfW, hbW⟩ := hSw; go_simp; (try with_reducible rfl); done)
    simp only [Act.put, List.setIfInBounds_toArray, List.set_cons_zero, List.set_cons_succ]
    refine wpAnyH_take (i := 22) (oi := { dst := some 30, op := Go.Op.fieldAddr 28 (Go.Operand.tmp 1) 8, type := 0, pos := "ref.go:106", after := #[{ on := 21, ground := Go.Ground.guard }], guard := some (21, false) }) (v := undef) rfl (by kernel_rfl) (by kernel_rfl) (by kernel_rfl) (fun _ _ _ h => h) (Or.inr ⟨by rfl, rfl⟩) (by assumption) ?_
    simp only [Act.put, List.setIfInBounds_toArray, List.set_cons_zero, List.set_cons_succ]
    refine wpAnyH_take (i := 23) (oi := { dst := some 31, op := Go.Op.load 25 (Go.Operand.tmp 30), type := 25, pos := "ref.go:106", after := #[{ on := 22, ground := Go.Ground.data }, { on := 21, ground := Go.Ground.guard }], guard := some (21, false) }) (v := undef) rfl (by kernel_rfl) (by kernel_rfl) (by kernel_rfl) (fun _ _ _ h => h) (Or.inr ⟨by rfl, rfl⟩) (by assumption) ?_
    simp only [Act.put, List.setIfInBounds_toArray, List.set_cons_zero, List.set_cons_succ]
    refine wpAnyH_take (i := 24) (oi := { dst := some 32, op := Go.Op.move (Go.Operand.tmp 3), type := 3, pos := "ref.go:106", after := #[{ on := 21, ground := Go.Ground.guard }], guard := some (21, false) }) (v := undef) rfl (by kernel_rfl) (by kernel_rfl) (by kernel_rfl) (fun _ _ _ h => h) (Or.inr ⟨by rfl, rfl⟩) (by assumption) ?_
    simp only [Act.put, List.setIfInBounds_toArray, List.set_cons_zero, List.set_cons_succ]
    refine wpAnyH_take (i := 25) (oi := { dst := some 33, op := Go.Op.binOp Go.BinOp.sub 3 (Go.Operand.tmp 32) (Go.Operand.const (Go.Value.int Go.IntKind.i64 1)) 3, type := 3, pos := "ref.go:106", after := #[{ on := 24, ground := Go.Ground.data }, { on := 21, ground := Go.Ground.guard }], guard := some (21, false) }) (v := undef) rfl (by kernel_rfl) (by kernel_rfl) (by kernel_rfl) (fun _ _ _ h => h) (Or.inr ⟨by rfl, rfl⟩) (by assumption) ?_
    simp only [Act.put, List.setIfInBounds_toArray, List.set_cons_zero, List.set_cons_succ]
    refine wpAnyH_take (i := 26) (oi := { dst := some 34, op := Go.Op.indexAddr 25 (Go.Operand.tmp 31) (Go.Operand.tmp 33), type := 0, pos := "ref.go:106", after := #[{ on := 23, ground := Go.Ground.data }, { on := 25, ground := Go.Ground.data }, { on := 21, ground := Go.Ground.guard }], guard := some (21, false) }) (v := undef) rfl (by kernel_rfl) (by kernel_rfl) (by kernel_rfl) (fun _ _ _ h => h) (Or.inr ⟨by rfl, rfl⟩) (by assumption) ?_
    simp only [Act.put, List.setIfInBounds_toArray, List.set_cons_zero, List.set_cons_succ]
    refine wpAnyH_take (i := 27) (oi := { dst := some 35, op := Go.Op.load 3 (Go.Operand.tmp 34), type := 3, pos := "ref.go:106", after := #[{ on := 26, ground := Go.Ground.data }, { on := 21, ground := Go.Ground.guard }], guard := some (21, false) }) (v := undef) rfl (by kernel_rfl) (by kernel_rfl) (by kernel_rfl) (fun _ _ _ h => h) (Or.inr ⟨by rfl, rfl⟩) (by assumption) ?_
    simp only [Act.put, List.setIfInBounds_toArray, List.set_cons_zero, List.set_cons_succ]
    refine wpAnyH_take (i := 28) (oi := { dst := some 36, op := Go.Op.fieldAddr 28 (Go.Operand.tmp 1) 7, type := 0, pos := "ref.go:106", after := #[{ on := 21, ground := Go.Ground.guard }], guard := some (21, false) }) (v := undef) rfl (by kernel_rfl) (by kernel_rfl) (by kernel_rfl) (fun _ _ _ h => h) (Or.inr ⟨by rfl, rfl⟩) (by assumption) ?_
    simp only [Act.put, List.setIfInBounds_toArray, List.set_cons_zero, List.set_cons_succ]
    refine wpAnyH_take (i := 29) (oi := { dst := some 37, op := Go.Op.load 24 (Go.Operand.tmp 36), type := 24, pos := "ref.go:106", after := #[{ on := 28, ground := Go.Ground.data }, { on := 21, ground := Go.Ground.guard }], guard := some (21, false) }) (v := undef) rfl (by kernel_rfl) (by kernel_rfl) (by kernel_rfl) (fun _ _ _ h => h) (Or.inr ⟨by rfl, rfl⟩) (by assumption) ?_
    simp only [Act.put, List.setIfInBounds_toArray, List.set_cons_zero, List.set_cons_succ]
    refine wpAnyH_take (i := 30) (oi := { dst := some 38, op := Go.Op.call { callee := Go.Callee.builtin Go.Builtin.len, args := #[Go.Operand.tmp 37], argTypes := #[24] }, type := 3, pos := "ref.go:106", after := #[{ on := 29, ground := Go.Ground.data }, { on := 21, ground := Go.Ground.guard }], guard := some (21, false) }) (v := undef) rfl (by kernel_rfl) (by kernel_rfl) (by kernel_rfl) (fun _ _ _ h => h) (Or.inr ⟨by rfl, rfl⟩) (by assumption) ?_
    simp only [Act.put, List.setIfInBounds_toArray, List.set_cons_zero, List.set_cons_succ]
    refine wpAnyH_take (i := 31) (oi := { dst := some 39, op := Go.Op.binOp Go.BinOp.neq 3 (Go.Operand.tmp 35) (Go.Operand.tmp 38) 3, type := 4, pos := "ref.go:106", after := #[{ on := 27, ground := Go.Ground.data }, { on := 30, ground := Go.Ground.data }, { on := 21, ground := Go.Ground.guard }], guard := some (21, false) }) (v := undef) rfl (by kernel_rfl) (by kernel_rfl) (by kernel_rfl) (fun _ _ _ h => h) (Or.inr ⟨by rfl, rfl⟩) (by assumption) ?_
    simp only [Act.put, List.setIfInBounds_toArray, List.set_cons_zero, List.set_cons_succ]
    refine wpAnyH_take (i := 32) (oi := { dst := some 40, op := Go.Op.pick (Go.Operand.tmp 29) (Go.Operand.const (Go.Value.bool true)) (Go.Operand.tmp 39), type := 4, pos := "ref.go:106", after := #[{ on := 21, ground := Go.Ground.data }, { on := 31, ground := Go.Ground.data }], guard := none }) (v := ?_) rfl (by kernel_rfl) (by kernel_rfl) (by kernel_rfl) (fun _ _ _ h => h) (Or.inl ⟨by rfl, ?_⟩) (by assumption) ?_
    rotate_left
    focus (intro W hSw; obtain ⟨hcW, hfW, hbW⟩ := hSw; go_simp; (try with_reducible rfl); done)
    simp only [Act.put, List.setIfInBounds_toArray, List.set_cons_zero, List.set_cons_succ]
    refine wpAnyH_done (by kernel_rfl) ?_ _
    have hz := below_then HBX.out (Nat.le_of_lt hbs) (Past.bel (by assumption))
    go_wp2
    go_ret
    refine ⟨?_, hz⟩
    simp [*]
  · skip
    obtain ⟨sb, so, rfl, hlt, hcl⟩ := HL.out (by omega)
    have e0 := hcl 0 (by omega)
    have e1 := hcl (starts.length - 1) (by omega)
    rw [Nat.add_zero] at e0
    have hps : 0 < starts.length := by omega
    have en : ((starts.length : Int) - 1).toNat = starts.length - 1 := by omega
    have en2 : (1 : Int) ≤ (starts.length : Int) := by omega
    have en0 : (0 : Int) ≤ (starts.length : Int) - 1 := by omega
    have en1 : (starts.length : Int) - 1 < (starts.length : Int) := by omega
    have HCL := Lib.hid hcl
    clear hcl
    refine wpAnyH_take (i := 1) (oi := { dst := some 9, op := Go.Op.binOp Go.BinOp.lss 3 (Go.Operand.tmp 8) (Go.Operand.const (Go.Value.int Go.IntKind.i64 2)) 3, type := 4, pos := "ref.go:106", after := #[{ on := 0, ground := Go.Ground.data }], guard := none }) (v := ?_) rfl (by kernel_rfl) (by kernel_rfl) (by kernel_rfl) (fun _ _ _ h => h) (Or.inl ⟨by rfl, ?_⟩) (by assumption) ?_
    rotate_left
    focus (intro W hSw; obtain ⟨hcW, hfW, hbW⟩ := hSw; go_simp; (try with_reducible rfl); done)
    simp only [Act.put, List.setIfInBounds_toArray, List.set_cons_zero, List.set_cons_succ]
    refine wpAnyH_take (i := 2) (oi := { dst := some 10, op := Go.Op.move (Go.Operand.tmp 9), type := 4, pos := "ref.go:106", after := #[{ on := 1, ground := Go.Ground.data }], guard := none }) (v := ?_) rfl (by kernel_rfl) (by kernel_rfl) (by kernel_rfl) (fun _ _ _ h => h) (Or.inl ⟨by rfl, ?_⟩) (by assumption) ?_
    rotate_left
    focus (intro W hSw; obtain ⟨hcW, hfW, hbW⟩ := hSw; go_simp; (try with_reducible rfl); done)
    simp only [Act.put, List.setIfInBounds_toArray, List.set_cons_zero, List.set_cons_succ]
    refine wpAnyH_take (i := 3) (oi := { dst := some 11, op := Go.Op.move (Go.Operand.tmp 3), type := 3, pos := "ref.go:106", after := #[{ on := 2, ground := Go.Ground.guard }], guard := some (2, false) }) (v := ?_) rfl (by kernel_rfl) (by kernel_rfl) (by kernel_rfl) (fun _ _ _ h => h) (Or.inl ⟨by rfl, ?_⟩) (by assumption) ?_
    rotate_left
    focus (intro W hSw; obtain ⟨hcW, hfW, hbW⟩ := hSw; go_simp; (try with_reducible rfl); done)
    simp only [Act.put, List.setIfInBounds_toArray, List.set_cons_zero, List.set_cons_succ]
    by_cases s4 : 129 < (starts.length : Int)
    · skip
      refine wpAnyH_take (i := 4) (oi := { dst := some 12, op := Go.Op.binOp Go.BinOp.gtr 3 (Go.Operand.tmp 11) (Go.Operand.const (Go.Value.int Go.IntKind.i64 129)) 3, type := 4, pos := "ref.go:106", after := #[{ on := 3, ground := Go.Ground.data }, { on := 2, ground := Go.Ground.guard }], guard := some (2, false) }) (v := ?_) rfl (by kernel_rfl) (by kernel_rfl) (by kernel_rfl) (fun _ _ _ h => h) (Or.inl ⟨by rfl, ?_⟩) (by assumption) ?_
      rotate_left
      focus (intro W hSw; obtain ⟨hcW, hfW, hbW⟩ := hSw; go_simp; (try with_reducible rfl); done)
      simp only [Act.put, List.setIfInBounds_toArray, List.set_cons_zero, List.set_cons_succ]
      refine wpAnyH_take (i := 5) (oi := { dst := some 13, op := Go.Op.pick (Go.Operand.tmp 10) (Go.Operand.const (Go.Value.bool true)) (Go.Operand.tmp 12), type := 4, pos := "ref.go:106", after := #[{ on := 2, ground := Go.Ground.data }, { on := 4, ground := Go.Ground.data }], guard := none }) (v := ?_) rfl (by kernel_rfl) (by kernel_rfl) (by kernel_rfl) (fun _ _ _ h => h) (Or.inl ⟨by rfl, ?_⟩) (by assumption) ?_
      rotate_left
      focus (intro W hSw; obtain ⟨hcW, hfW, hbW⟩ := hSw; go_simp; (try with_reducible rfl); done)
      simp only [Act.put, List.setIfInBounds_toArray, List.set_cons_zero, List.set_cons_succ]
      refine wpAnyH_take (i := 6) (oi := { dst := some 14, op := Go.Op.move (Go.Operand.tmp 13), type := 4, pos := "ref.go:106", after := #[{ on := 5, ground := Go.Ground.data }, { on := 2, ground := Go.Ground.chain }], guard := none }) (v := ?_) rfl (by kernel_rfl) (by kernel_rfl) (by kernel_rfl) (fun _ _ _ h => h) (Or.inl ⟨by rfl, ?_⟩) (by assumption) ?_
      rotate_left
      focus (intro W hSw; obtain ⟨hcW, hfW, hbW⟩ := hSw; go_simp; (try with_reducible rfl); done)
      simp only [Act.put, List.setIfInBounds_toArray, List.set_cons_zero, List.set_cons_succ]
      refine wpAnyH_take (i := 7) (oi := { dst := some 15, op := Go.Op.fieldAddr 28 (Go.Operand.tmp 1) 9, type := 0, pos := "ref.go:106", after := #[{ on := 6, ground := Go.Ground.guard }], guard := some (6, false) }) (v := undef) rfl (by kernel_rfl) (by kernel_rfl) (by kernel_rfl) (fun _ _ _ h => h) (Or.inr ⟨by rfl, rfl⟩) (by assumption) ?_
      simp only [Act.put, List.setIfInBounds_toArray, List.set_cons_zero, List.set_cons_succ]
      refine wpAnyH_take (i := 8) (oi := { dst := some 16, op := Go.Op.load 26 (Go.Operand.tmp 15), type := 26, pos := "ref.go:106", after := #[{ on := 7, ground := Go.Ground.data }, { on := 6, ground := Go.Ground.guard }], guard := some (6, false) }) (v := undef) rfl (by kernel_rfl) (by kernel_rfl) (by kernel_rfl) (fun _ _ _ h => h) (Or.inr ⟨by rfl, rfl⟩) (by assumption) ?_
      simp only [Act.put, List.setIfInBounds_toArray, List.set_cons_zero, List.set_cons_succ]
      refine wpAnyH_take (i := 9) (oi := { dst := some 17, op := Go.Op.call { callee := Go.Callee.builtin Go.Builtin.len, args := #[Go.Operand.tmp 16], argTypes := #[26] }, type := 3, pos := "ref.go:106", after := #[{ on := 8, ground := Go.Ground.data }, { on := 6, ground := Go.Ground.guard }], guard := some (6, false) }) (v := undef) rfl (by kernel_rfl) (by kernel_rfl) (by kernel_rfl) (fun _ _ _ h => h) (Or.inr ⟨by rfl, rfl⟩) (by assumption) ?_
      simp only [Act.put, List.setIfInBounds_toArray, List.set_cons_zero, List.set_cons_succ]
      refine wpAnyH_take (i := 10) (oi := { dst := some 18, op := Go.Op.move (Go.Operand.tmp 3), type := 3, pos := "ref.go:106", after := #[{ on := 6, ground := Go.Ground.guard }], guard := some (6, false) }) (v := undef) rfl (by kernel_rfl) (by kernel_rfl) (by kernel_rfl) (fun _ _ _ h => h) (Or.inr ⟨by rfl, rfl⟩) (by assumption) ?_
      simp only [Act.put, List.setIfInBounds_toArray, List.set_cons_zero, List.set_cons_succ]
      refine wpAnyH_take (i := 11) (oi := { dst := some 19, op := Go.Op.binOp Go.BinOp.sub 3 (Go.Operand.tmp 18) (Go.Operand.const (Go.Value.int Go.IntKind.i64 1)) 3, type := 3, pos := "ref.go:106", after := #[{ on := 10, ground := Go.Ground.data }, { on := 6, ground := Go.Ground.guard }], guard := some (6, false) }) (v := undef) rfl (by kernel_rfl) (by kernel_rfl) (by kernel_rfl) (fun _ _ _ h => h) (Or.inr ⟨by rfl, rfl⟩) (by assumption) ?_
      simp only [Act.put, List.setIfInBounds_toArray, List.set_cons_zero, List.set_cons_succ]
      refine wpAnyH_take (i := 12) (oi := { dst := some 20, op := Go.Op.binOp Go.BinOp.neq 3 (Go.Operand.tmp 17) (Go.Operand.tmp 19) 3, type := 4, pos := "ref.go:106", after := #[{ on := 9, ground := Go.Ground.data }, { on := 11, ground := Go.Ground.data }, { on := 6, ground := Go.Ground.guard }], guard := some (6, false) }) (v := undef) rfl (by kernel_rfl) (by kernel_rfl) (by kernel_rfl) (fun _ _ _ h => h) (Or.inr ⟨by rfl, rfl⟩) (by assumption) ?_
      simp only [Act.put, List.setIfInBounds_toArray, List.set_cons_zero, List.set_cons_succ]
      refine wpAnyH_take (i := 13) (oi := { dst := some 21, op := Go.Op.pick (Go.Operand.tmp 14) (Go.Operand.const (Go.Value.bool true)) (Go.Operand.tmp 20), type := 4, pos := "ref.go:106", after := #[{ on := 6, ground := Go.Ground.data }, { on := 12, ground := Go.Ground.data }], guard := none }) (v := ?_) rfl (by kernel_rfl) (by kernel_rfl) (by kernel_rfl) (fun _ _ _ h => h) (Or.inl ⟨by rfl, ?_⟩) (by assumption) ?_
      rotate_left
      focus (intro W hSw; obtain ⟨hcW, hfW, hbW⟩ := hSw; go_simp; (try with_reducible rfl); done)
      simp only [Act.put, List.setIfInBounds_toArray, List.set_cons_zero, List.set_cons_succ]
      refine wpAnyH_take (i := 14) (oi := { dst := some 22, op := Go.Op.move (Go.Operand.tmp 21), type := 4, pos := "ref.go:106", after := #[{ on := 13, ground := Go.Ground.data }, { on := 6, ground := Go.Ground.chain }], guard := none }) (v := ?_) rfl (by kernel_rfl) (by kernel_rfl) (by kernel_rfl) (fun _ _ _ h => h) (Or.inl ⟨by rfl, ?_⟩) (by assumption) ?_
      rotate_left
      focus (intro W hSw; obtain ⟨hcW, hfW, hbW⟩ := hSw; go_simp; (try with_reducible rfl); done)
      simp only [Act.put, List.setIfInBounds_toArray, List.set_cons_zero, List.set_cons_succ]
      refine wpAnyH_take (i := 15) (oi := { dst := some 23, op := Go.Op.fieldAddr 28 (Go.Operand.tmp 1) 8, type := 0, pos := "ref.go:106", after := #[{ on := 14, ground := Go.Ground.guard }], guard := some (14, false) }) (v := undef) rfl (by kernel_rfl) (by kernel_rfl) (by kernel_rfl) (fun _ _ _ h => h) (Or.inr ⟨by rfl, rfl⟩) (by assumption) ?_
      simp only [Act.put, List.setIfInBounds_toArray, List.set_cons_zero, List.set_cons_succ]
      refine wpAnyH_take (i := 16) (oi := { dst := some 24, op := Go.Op.load 25 (Go.Operand.tmp 23), type := 25, pos := "ref.go:106", after := #[{ on := 15, ground := Go.Ground.data }, { on := 14, ground := Go.Ground.guard }], guard := some (14, false) }) (v := undef) rfl (by kernel_rfl) (by kernel_rfl) (by kernel_rfl) (fun _ _ _ h => h) (Or.inr ⟨by rfl, rfl⟩) (by assumption) ?_
      simp only [Act.put, List.setIfInBounds_toArray, List.set_cons_zero, List.set_cons_succ]
      refine wpAnyH_take (i := 17) (oi := { dst := some 25, op := Go.Op.indexAddr 25 (Go.Operand.tmp 24) (Go.Operand.const (Go.Value.int Go.IntKind.i64 0)), type := 0, pos := "ref.go:106", after := #[{ on := 16, ground := Go.Ground.data }, { on := 14, ground := Go.Ground.guard }], guard := some (14, false) }) (v := undef) rfl (by kernel_rfl) (by kernel_rfl) (by kernel_rfl) (fun _ _ _ h => h) (Or.inr ⟨by rfl, rfl⟩) (by assumption) ?_
      simp only [Act.put, List.setIfInBounds_toArray, List.set_cons_zero, List.set_cons_succ]
      refine wpAnyH_take (i := 18) (oi := { dst := some 26, op := Go.Op.load 3 (Go.Operand.tmp 25), type := 3, pos := "ref.go:106", after := #[{ on := 17, ground := Go.Ground.data }, { on := 14, ground := Go.Ground.guard }], guard := some (14, false) }) (v := undef) rfl (by kernel_rfl) (by kernel_rfl) (by kernel_rfl) (fun _ _ _ h => h) (Or.inr ⟨by rfl, rfl⟩) (by assumption) ?_
      simp only [Act.put, List.setIfInBounds_toArray, List.set_cons_zero, List.set_cons_succ]
      refine wpAnyH_take (i := 19) (oi := { dst := some 27, op := Go.Op.binOp Go.BinOp.neq 3 (Go.Operand.tmp 26) (Go.Operand.const (Go.Value.int Go.IntKind.i64 0)) 3, type := 4, pos := "ref.go:106", after := #[{ on := 18, ground := Go.Ground.data }, { on := 14, ground := Go.Ground.guard }], guard := some (14, false) }) (v := undef) rfl (by kernel_rfl) (by kernel_rfl) (by kernel_rfl) (fun _ _ _ h => h) (Or.inr ⟨by rfl, rfl⟩) (by assumption) ?_
      simp only [Act.put, List.setIfInBounds_toArray, List.set_cons_zero, List.set_cons_succ]
      refine wpAnyH_take (i := 20) (oi := { dst := some 28, op := Go.Op.pick (Go.Operand.tmp 22) (Go.Operand.const (Go.Value.bool true)) (Go.Operand.tmp 27), type := 4, pos := "ref.go:106", after := #[{ on := 14, ground := Go.Ground.data }, { on := 19, ground := Go.Ground.data }], guard := none }) (v := ?_) rfl (by kernel_rfl) (by kernel_rfl) (by kernel_rfl) (fun _ _ _ h => h) (Or.inl ⟨by rfl, ?_⟩) (by assumption) ?_
      rotate_left
      focus (intro W hSw; obtain ⟨hcW, hfW, hbW⟩ := hSw; go_simp; (try with_reducible rfl); done)
      simp only [Act.put, List.setIfInBounds_toArray, List.set_cons_zero, List.set_cons_succ]
      refine wpAnyH_take (i := 21) (oi := { dst := some 29, op := Go.Op.move (Go.Operand.tmp 28), type := 4, pos := "ref.go:106", after := #[{ on := 20, ground := Go.Ground.data }, { on := 14, ground := Go.Ground.chain }], guard := none }) (v := ?_) rfl (by kernel_rfl) (by kernel_rfl) (by kernel_rfl) (fun _ _ _ h => h) (Or.inl ⟨by rfl, ?_⟩) (by assumption) ?_
      rotate_left
      focus (intro W hSw; obtain ⟨hcW, hfW, hbW⟩ := hSw; go_simp; (try with_reducible rfl); done)
      simp only [Act.put, List.setIfInBounds_toArray, List.set_cons_zero, List.set_cons_succ]
      refine wpAnyH_take (i := 22) (oi := { dst := some 30, op := Go.Op.fieldAddr 28 (Go.Operand.tmp 1) 8, type := 0, pos := "ref.go:106", after := #[{ on := 21, ground := Go.Ground.guard }], guard := some (21, false) }) (v := undef) rfl (by kernel_rfl) (by kernel_rfl) (by kernel_rfl) (fun _ _ _ h => h) (Or.inr ⟨by rfl, rfl⟩) (by assumption) ?_
      simp only [Act.put, List.setIfInBounds_toArray, List.set_cons_zero, List.set_cons_succ]
      refine wpAnyH_take (i := 23) (oi := { dst := some 31, op := Go.Op.load 25 (Go.Operand.tmp 30), type := 25, pos := "ref.go:106", after := #[{ on := 22, ground := Go.Ground.data }, { on := 21, ground := Go.Ground.guard }], guard := some (21, false) }) (v := undef) rfl (by kernel_rfl) (by kernel_rfl) (by kernel_rfl) (fun _ _ _ h => h) (Or.inr ⟨by rfl, rfl⟩) (by assumption) ?_
      simp only [Act.put, List.setIfInBounds_toArray, List.set_cons_zero, List.set_cons_succ]
      refine wpAnyH_take (i := 24) (oi := { dst := some 32, op := Go.Op.move (Go.Operand.tmp 3), type := 3, pos := "ref.go:106", after := #[{ on := 21, ground := Go.Ground.guard }], guard := some (21, false) }) (v := undef) rfl (by kernel_rfl) (by kernel_rfl) (by kernel_rfl) (fun _ _ _ h => h) (Or.inr ⟨by rfl, rfl⟩) (by assumption) ?_
      simp only [Act.put, List.setIfInBounds_toArray, List.set_cons_zero, List.set_cons_succ]
      refine wpAnyH_take (i := 25) (oi := { dst := some 33, op := Go.Op.binOp Go.BinOp.sub 3 (Go.Operand.tmp 32) (Go.Operand.const (Go.Value.int Go.IntKind.i64 1)) 3, type := 3, pos := "ref.go:106", after := #[{ on := 24, ground := Go.Ground.data }, { on := 21, ground := Go.Ground.guard }], guard := some (21, false) }) (v := undef) rfl (by kernel_rfl) (by kernel_rfl) (by kernel_rfl) (fun _ _ _ h => h) (Or.inr ⟨by rfl, rfl⟩) (by assumption) ?_
      simp only [Act.put, List.setIfInBounds_toArray, List.set_cons_zero, List.set_cons_succ]
      refine wpAnyH_take (i := 26) (oi := { dst := some 34, op := Go.Op.indexAddr 25 (Go.Operand.tmp 31) (Go.Operand.tmp 33), type := 0, pos := "ref.go:106", after := #[{ on := 23, ground := Go.Ground.data }, { on := 25, ground := Go.Ground.data }, { on := 21, ground := Go.Ground.guard }], guard := some (21, false) }) (v := undef) rfl (by kernel_rfl) (by kernel_rfl) (by kernel_rfl) (fun _ _ _ h => h) (Or.inr ⟨by rfl, rfl⟩) (by assumption) ?_
      simp only [Act.put, List.setIfInBounds_toArray, List.set_cons_zero, List.set_cons_succ]
      refine wpAnyH_take (i := 27) (oi := { dst := some 35, op := Go.Op.load 3 (Go.Operand.tmp 34), type := 3, pos := "ref.go:106", after := #[{ on := 26, ground := Go.Ground.data }, { on := 21, ground := Go.Ground.guard }], guard := some (21, false) }) (v := undef) rfl (by kernel_rfl) (by kernel_rfl) (by kernel_rfl) (fun _ _ _ h => h) (Or.inr ⟨by rfl, rfl⟩) (by assumption) ?_
      simp only [Act.put, List.setIfInBounds_toArray, List.set_cons_zero, List.set_cons_succ]
      refine wpAnyH_take (i := 28) (oi := { dst := some 36, op := Go.Op.fieldAddr 28 (Go.Operand.tmp 1) 7, type := 0, pos := "ref.go:106", after := #[{ on := 21, ground := Go.Ground.guard }], guard := some (21, false) }) (v := undef) rfl (by kernel_rfl) (by kernel_rfl) (by kernel_rfl) (fun _ _ _ h => h) (Or.inr ⟨by rfl, rfl⟩) (by assumption) ?_
      simp only [Act.put, List.setIfInBounds_toArray, List.set_cons_zero, List.set_cons_succ]
      refine wpAnyH_take (i := 29) (oi := { dst := some 37, op := Go.Op.load 24 (Go.Operand.tmp 36), type := 24, pos := "ref.go:106", after := #[{ on := 28, ground := Go.Ground.data }, { on := 21, ground := Go.Ground.guard }], guard := some (21, false) }) (v := undef) rfl (by kernel_rfl) (by kernel_rfl) (by kernel_rfl) (fun _ _ _ h => h) (Or.inr ⟨by rfl, rfl⟩) (by assumption) ?_
      simp only [Act.put, List.setIfInBounds_toArray, List.set_cons_zero, List.set_cons_succ]
      refine wpAnyH_take (i := 30) (oi := { dst := some 38, op := Go.Op.call { callee := Go.Callee.builtin Go.Builtin.len, args := #[Go.Operand.tmp 37], argTypes := #[24] }, type := 3, pos := "ref.go:106", after := #[{ on := 29, ground := Go.Ground.data }, { on := 21, ground := Go.Ground.guard }], guard := some (21, false) }) (v := undef) rfl (by kernel_rfl) (by kernel_rfl) (by kernel_rfl) (fun _ _ _ h => h) (Or.inr ⟨by rfl, rfl⟩) (by assumption) ?_
      simp only [Act.put, List.setIfInBounds_toArray, List.set_cons_zero, List.set_cons_succ]
      refine wpAnyH_take (i := 31) (oi := { dst := some 39, op := Go.Op.binOp Go.BinOp.neq 3 (Go.Operand.tmp 35) (Go.Operand.tmp 38) 3, type := 4, pos := "ref.go:106", after := #[{ on := 27, ground := Go.Ground.data }, { on := 30, ground := Go.Ground.data }, { on := 21, ground := Go.Ground.guard }], guard := some (21, false) }) (v := undef) rfl (by kernel_rfl) (by kernel_rfl) (by kernel_rfl) (fun _ _ _ h => h) (Or.inr ⟨by rfl, rfl⟩) (by assumption) ?_
      simp only [Act.put, List.setIfInBounds_toArray, List.set_cons_zero, List.set_cons_succ]
      refine wpAnyH_take (i := 32) (oi := { dst := some 40, op := Go.Op.pick (Go.Operand.tmp 29) (Go.Operand.const (Go.Value.bool true)) (Go.Operand.tmp 39), type := 4, pos := "ref.go:106", after := #[{ on := 21, ground := Go.Ground.data }, { on := 31, ground := Go.Ground.data }], guard := none }) (v := ?_) rfl (by kernel_rfl) (by kernel_rfl) (by kernel_rfl) (fun _ _ _ h => h) (Or.inl ⟨by rfl, ?_⟩) (by assumption) ?_
      rotate_left
      focus (intro W hSw; obtain ⟨hcW, hfW, hbW⟩ := hSw; go_simp; (try with_reducible rfl); done)
      simp only [Act.put, List.setIfInBounds_toArray, List.set_cons_zero, List.set_cons_succ]
      refine wpAnyH_done (by kernel_rfl) ?_ _
      have hz := below_then HBX.out (Nat.le_of_lt hbs) (Past.bel (by assumption))
      go_wp2
      go_ret
      refine ⟨?_, hz⟩
      simp [*]
    · skip
      refine wpAnyH_take (i := 4) (oi := { dst := some 12, op := Go.Op.binOp Go.BinOp.gtr 3 (Go.Operand.tmp 11) (Go.Operand.const (Go.Value.int Go.IntKind.i64 129)) 3, type := 4, pos := "ref.go:106", after := #[{ on := 3, ground := Go.Ground.data }, { on := 2, ground := Go.Ground.guard }], guard := some (2, false) }) (v := ?_) rfl (by kernel_rfl) (by kernel_rfl) (by kernel_rfl) (fun _ _ _ h => h) (Or.inl ⟨by rfl, ?_⟩) (by assumption) ?_
      rotate_left
      focus (intro W hSw; obtain ⟨hcW, hfW, hbW⟩ := hSw; go_simp; (try with_reducible rfl); done)
      simp only [Act.put, List.setIfInBounds_toArray, List.set_cons_zero, List.set_cons_succ]
      refine wpAnyH_take (i := 5) (oi := { dst := some 13, op := Go.Op.pick (Go.Operand.tmp 10) (Go.Operand.const (Go.Value.bool true)) (Go.Operand.tmp 12), type := 4, pos := "ref.go:106", after := #[{ on := 2, ground := Go.Ground.data }, { on := 4, ground := Go.Ground.data }], guard := none }) (v := ?_) rfl (by kernel_rfl) (by kernel_rfl) (by kernel_rfl) (fun _ _ _ h => h) (Or.inl ⟨by rfl, ?_⟩) (by assumption) ?_
      rotate_left
      focus (intro W hSw; obtain ⟨hcW, hfW, hbW⟩ := hSw; go_simp; (try with_reducible rfl); done)
      simp only [Act.put, List.setIfInBounds_toArray, List.set_cons_zero, List.set_cons_succ]
      refine wpAnyH_take (i := 6) (oi := { dst := some 14, op := Go.Op.move (Go.Operand.tmp 13), type := 4, pos := "ref.go:106", after := #[{ on := 5, ground := Go.Ground.data }, { on := 2, ground := Go.Ground.chain }], guard := none }) (v := ?_) rfl (by kernel_rfl) (by kernel_rfl) (by kernel_rfl) (fun _ _ _ h => h) (Or.inl ⟨by rfl, ?_⟩) (by assumption) ?_
      rotate_left
      focus (intro W hSw; obtain ⟨hcW, hfW, hbW⟩ := hSw; go_simp; (try with_reducible rfl); done)
      simp only [Act.put, List.setIfInBounds_toArray, List.set_cons_zero, List.set_cons_succ]
      refine wpAnyH_take (i := 7) (oi := { dst := some 15, op := Go.Op.fieldAddr 28 (Go.Operand.tmp 1) 9, type := 0, pos := "ref.go:106", after := #[{ on := 6, ground := Go.Ground.guard }], guard := some (6, false) }) (v := ?_) rfl (by kernel_rfl) (by kernel_rfl) (by kernel_rfl) (fun _ _ _ h => h) (Or.inl ⟨by rfl, ?_⟩) (by assumption) ?_
      rotate_left
      focus (intro W hSw; obtain ⟨hcW, hfW, hbW⟩ := hSw; go_simp; (try with_reducible rfl); done)
      simp only [Act.put, List.setIfInBounds_toArray, List.set_cons_zero, List.set_cons_succ]
      refine wpAnyH_take (i := 8) (oi := { dst := some 16, op := Go.Op.load 26 (Go.Operand.tmp 15), type := 26, pos := "ref.go:106", after := #[{ on := 7, ground := Go.Ground.data }, { on := 6, ground := Go.Ground.guard }], guard := some (6, false) }) (v := ?_) rfl (by kernel_rfl) (by kernel_rfl) (by kernel_rfl) (fun _ _ _ h => h) (Or.inl ⟨by rfl, ?_⟩) (by assumption) ?_
      rotate_left
      focus (intro W hSw; obtain ⟨hcW, hfW, hbW⟩ := hSw; go_simp; (try with_reducible rfl); done)
      simp only [Act.put, List.setIfInBounds_toArray, List.set_cons_zero, List.set_cons_succ]
      refine wpAnyH_take (i := 9) (oi := { dst := some 17, op := Go.Op.call { callee := Go.Callee.builtin Go.Builtin.len, args := #[Go.Operand.tmp 16], argTypes := #[26] }, type := 3, pos := "ref.go:106", after := #[{ on := 8, ground := Go.Ground.data }, { on := 6, ground := Go.Ground.guard }], guard := some (6, false) }) (v := ?_) rfl (by kernel_rfl) (by kernel_rfl) (by kernel_rfl) (fun _ _ _ h => h) (Or.inl ⟨by rfl, ?_⟩) (by assumption) ?_
      rotate_left
      focus (intro W hSw; obtain ⟨hcW, hfW, hbW⟩ := hSw; go_simp; (try with_reducible rfl); done)
      simp only [Act.put, List.setIfInBounds_toArray, List.set_cons_zero, List.set_cons_succ]
      refine wpAnyH_take (i := 10) (oi := { dst := some 18, op := Go.Op.move (Go.Operand.tmp 3), type := 3, pos := "ref.go:106", after := #[{ on := 6, ground := Go.Ground.guard }], guard := some (6, false) }) (v := ?_) rfl (by kernel_rfl) (by kernel_rfl) (by kernel_rfl) (fun _ _ _ h => h) (Or.inl ⟨by rfl, ?_⟩) (by assumption) ?_
      rotate_left
      focus (intro W hSw; obtain ⟨hcW, hfW, hbW⟩ := hSw; go_simp; (try with_reducible rfl); done)
      simp only [Act.put, List.setIfInBounds_toArray, List.set_cons_zero, List.set_cons_succ]
      refine wpAnyH_take (i := 11) (oi := { dst := some 19, op := Go.Op.binOp Go.BinOp.sub 3 (Go.Operand.tmp 18) (Go.Operand.const (Go.Value.int Go.IntKind.i64 1)) 3, type := 3, pos := "ref.go:106", after := #[{ on := 10, ground := Go.Ground.data }, { on := 6, ground := Go.Ground.guard }], guard := some (6, false) }) (v := ?_) rfl (by kernel_rfl) (by kernel_rfl) (by kernel_rfl) (fun _ _ _ h => h) (Or.inl ⟨by rfl, ?_⟩) (by assumption) ?_
      rotate_left
      focus (intro W hSw; obtain ⟨hcW, hfW, hbW⟩ := hSw; go_simp; (try with_reducible rfl); done)
      simp only [Act.put, List.setIfInBounds_toArray, List.set_cons_zero, List.set_cons_succ]
      by_cases s12 : (maps.length : Int) = (starts.length : Int) - 1
      · skip
        refine wpAnyH_take (i := 12) (oi := { dst := some 20, op := Go.Op.binOp Go.BinOp.neq 3 (Go.Operand.tmp 17) (Go.Operand.tmp 19) 3, type := 4, pos := "ref.go:106", after := #[{ on := 9, ground := Go.Ground.data }, { on := 11, ground := Go.Ground.data }, { on := 6, ground := Go.Ground.guard }], guard := some (6, false) }) (v := ?_) rfl (by kernel_rfl) (by kernel_rfl) (by kernel_rfl) (fun _ _ _ h => h) (Or.inl ⟨by rfl, ?_⟩) (by assumption) ?_
        rotate_left
        focus (intro W hSw; obtain ⟨hcW, hfW, hbW⟩ := hSw; go_simp; (try with_reducible rfl); done)
        simp only [Act.put, List.setIfInBounds_toArray, List.set_cons_zero, List.set_cons_succ]
        refine wpAnyH_take (i := 13) (oi := { dst := some 21, op := Go.Op.pick (Go.Operand.tmp 14) (Go.Operand.const (Go.Value.bool true)) (Go.Operand.tmp 20), type := 4, pos := "ref.go:106", after := #[{ on := 6, ground := Go.Ground.data }, { on := 12, ground := Go.Ground.data }], guard := none }) (v := ?_) rfl (by kernel_rfl) (by kernel_rfl) (by kernel_rfl) (fun _ _ _ h => h) (Or.inl ⟨by rfl, ?_⟩) (by assumption) ?_
        rotate_left
        focus (intro W hSw; obtain ⟨hcW, hfW, hbW⟩ := hSw; go_simp; (try with_reducible rfl); done)
        simp only [Act.put, List.setIfInBounds_toArray, List.set_cons_zero, List.set_cons_succ]
        refine wpAnyH_take (i := 14) (oi := { dst := some 22, op := Go.Op.move (Go.Operand.tmp 21), type := 4, pos := "ref.go:106", after := #[{ on := 13, ground := Go.Ground.data }, { on := 6, ground := Go.Ground.chain }], guard := none }) (v := ?_) rfl (by kernel_rfl) (by kernel_rfl) (by kernel_rfl) (fun _ _ _ h => h) (Or.inl ⟨by rfl, ?_⟩) (by assumption) ?_
        rotate_left
        focus (intro W hSw; obtain ⟨hcW, hfW, hbW⟩ := hSw; go_simp; (try with_reducible rfl); done)
        simp only [Act.put, List.setIfInBounds_toArray, List.set_cons_zero, List.set_cons_succ]
        refine wpAnyH_take (i := 15) (oi := { dst := some 23, op := Go.Op.fieldAddr 28 (Go.Operand.tmp 1) 8, type := 0, pos := "ref.go:106", after := #[{ on := 14, ground := Go.Ground.guard }], guard := some (14, false) }) (v := ?_) rfl (by kernel_rfl) (by kernel_rfl) (by kernel_rfl) (fun _ _ _ h => h) (Or.inl ⟨by rfl, ?_⟩) (by assumption) ?_
        rotate_left
        focus (intro W hSw; obtain ⟨hcW, hfW, hbW⟩ := hSw; go_simp; (try with_reducible rfl); done)
        simp only [Act.put, List.setIfInBounds_toArray, List.set_cons_zero, List.set_cons_succ]
        refine wpAnyH_take (i := 16) (oi := { dst := some 24, op := Go.Op.load 25 (Go.Operand.tmp 23), type := 25, pos := "ref.go:106", after := #[{ on := 15, ground := Go.Ground.data }, { on := 14, ground := Go.Ground.guard }], guard := some (14, false) }) (v := ?_) rfl (by kernel_rfl) (by kernel_rfl) (by kernel_rfl) (fun _ _ _ h => h) (Or.inl ⟨by rfl, ?_⟩) (by assumption) ?_
        rotate_left
        focus (intro W hSw; obtain ⟨hcW, hfW, hbW⟩ := hSw; go_simp; (try with_reducible rfl); done)
        simp only [Act.put, List.setIfInBounds_toArray, List.set_cons_zero, List.set_cons_succ]
        refine wpAnyH_take (i := 17) (oi := { dst := some 25, op := Go.Op.indexAddr 25 (Go.Operand.tmp 24) (Go.Operand.const (Go.Value.int Go.IntKind.i64 0)), type := 0, pos := "ref.go:106", after := #[{ on := 16, ground := Go.Ground.data }, { on := 14, ground := Go.Ground.guard }], guard := some (14, false) }) (v := ?_) rfl (by kernel_rfl) (by kernel_rfl) (by kernel_rfl) (fun _ _ _ h => h) (Or.inl ⟨by rfl, ?_⟩) (by assumption) ?_
        rotate_left
        focus (intro W hSw; obtain ⟨hcW, hfW, hbW⟩ := hSw; go_simp; (try with_reducible rfl); done)
        simp only [Act.put, List.setIfInBounds_toArray, List.set_cons_zero, List.set_cons_succ]
        refine wpAnyH_take (i := 18) (oi := { dst := some 26, op := Go.Op.load 3 (Go.Operand.tmp 25), type := 3, pos := "ref.go:106", after := #[{ on := 17, ground := Go.Ground.data }, { on := 14, ground := Go.Ground.guard }], guard := some (14, false) }) (v := ?_) rfl (by kernel_rfl) (by kernel_rfl) (by kernel_rfl) (fun _ _ _ h => h) (Or.inl ⟨by rfl, ?_⟩) (by assumption) ?_
        rotate_left
        focus (intro W hSw; obtain ⟨hcW, hfW, hbW⟩ := hSw; go_simp; (try with_reducible rfl); done)
        simp only [Act.put, List.setIfInBounds_toArray, List.set_cons_zero, List.set_cons_succ]
        by_cases s19 : at_ starts 0 = 0
        · skip
          refine wpAnyH_take (i := 19) (oi := { dst := some 27, op := Go.Op.binOp Go.BinOp.neq 3 (Go.Operand.tmp 26) (Go.Operand.const (Go.Value.int Go.IntKind.i64 0)) 3, type := 4, pos := "ref.go:106", after := #[{ on := 18, ground := Go.Ground.data }, { on := 14, ground := Go.Ground.guard }], guard := some (14, false) }) (v := ?_) rfl (by kernel_rfl) (by kernel_rfl) (by kernel_rfl) (fun _ _ _ h => h) (Or.inl ⟨by rfl, ?_⟩) (by assumption) ?_
          rotate_left
          focus (intro W hSw; obtain ⟨hcW, hfW, hbW⟩ := hSw; go_simp; (try with_reducible rfl); done)
          simp only [Act.put, List.setIfInBounds_toArray, List.set_cons_zero, List.set_cons_succ]
          refine wpAnyH_take (i := 20) (oi := { dst := some 28, op := Go.Op.pick (Go.Operand.tmp 22) (Go.Operand.const (Go.Value.bool true)) (Go.Operand.tmp 27), type := 4, pos := "ref.go:106", after := #[{ on := 14, ground := Go.Ground.data }, { on := 19, ground := Go.Ground.data }], guard := none }) (v := ?_) rfl (by kernel_rfl) (by kernel_rfl) (by kernel_rfl) (fun _ _ _ h => h) (Or.inl ⟨by rfl, ?_⟩) (by assumption) ?_
          rotate_left
          focus (intro W hSw; obtain ⟨hcW, hfW, hbW⟩ := hSw; go_simp; (try with_reducible rfl); done)
          simp only [Act.put, List.setIfInBounds_toArray, List.set_cons_zero, List.set_cons_succ]
          refine wpAnyH_take (i := 21) (oi := { dst := some 29, op := Go.Op.move (Go.Operand.tmp 28), type := 4, pos := "ref.go:106", after := #[{ on := 20, ground := Go.Ground.data }, { on := 14, ground := Go.Ground.chain }], guard := none }) (v := ?_) rfl (by kernel_rfl) (by kernel_rfl) (by kernel_rfl) (fun _ _ _ h => h) (Or.inl ⟨by rfl, ?_⟩) (by assumption) ?_
          rotate_left
          focus (intro W hSw; obtain ⟨hcW, hfW, hbW⟩ := hSw; go_simp; (try with_reducible rfl); done)
          simp only [Act.put, List.setIfInBounds_toArray, List.set_cons_zero, List.set_cons_succ]
          refine wpAnyH_take (i := 22) (oi := { dst := some 30, op := Go.Op.fieldAddr 28 (Go.Operand.tmp 1) 8, type := 0, pos := "ref.go:106", after := #[{ on := 21, ground := Go.Ground.guard }], guard := some (21, false) }) (v := ?_) rfl (by kernel_rfl) (by kernel_rfl) (by kernel_rfl) (fun _ _ _ h => h) (Or.inl ⟨by rfl, ?_⟩) (by assumption) ?_
          rotate_left
          focus (intro W hSw; obtain ⟨hcW, hfW, hbW⟩ := hSw; go_simp; (try with_reducible rfl); done)
          simp only [Act.put, List.setIfInBounds_toArray, List.set_cons_zero, List.set_cons_succ]
          refine wpAnyH_take (i := 23) (oi := { dst := some 31, op := Go.Op.load 25 (Go.Operand.tmp 30), type := 25, pos := "ref.go:106", after := #[{ on := 22, ground := Go.Ground.data }, { on := 21, ground := Go.Ground.guard }], guard := some (21, false) }) (v := ?_) rfl (by kernel_rfl) (by kernel_rfl) (by kernel_rfl) (fun _ _ _ h => h) (Or.inl ⟨by rfl, ?_⟩) (by assumption) ?_
          rotate_left
          focus (intro W hSw; obtain ⟨hcW, hfW, hbW⟩ := hSw; go_simp; (try with_reducible rfl); done)
          simp only [Act.put, List.setIfInBounds_toArray, List.set_cons_zero, List.set_cons_succ]
          refine wpAnyH_take (i := 24) (oi := { dst := some 32, op := Go.Op.move (Go.Operand.tmp 3), type := 3, pos := "ref.go:106", after := #[{ on := 21, ground := Go.Ground.guard }], guard := some (21, false) }) (v := ?_) rfl (by kernel_rfl) (by kernel_rfl) (by kernel_rfl) (fun _ _ _ h => h) (Or.inl ⟨by rfl, ?_⟩) (by assumption) ?_
          rotate_left
          focus (intro W hSw; obtain ⟨hcW, hfW, hbW⟩ := hSw; go_simp; (try with_reducible rfl); done)
          simp only [Act.put, List.setIfInBounds_toArray, List.set_cons_zero, List.set_cons_succ]
          refine wpAnyH_take (i := 25) (oi := { dst := some 33, op := Go.Op.binOp Go.BinOp.sub 3 (Go.Operand.tmp 32) (Go.Operand.const (Go.Value.int Go.IntKind.i64 1)) 3, type := 3, pos := "ref.go:106", after := #[{ on := 24, ground := Go.Ground.data }, { on := 21, ground := Go.Ground.guard }], guard := some (21, false) }) (v := ?_) rfl (by kernel_rfl) (by kernel_rfl) (by kernel_rfl) (fun _ _ _ h => h) (Or.inl ⟨by rfl, ?_⟩) (by assumption) ?_
          rotate_left
          focus (intro W hSw; obtain ⟨hcW, hfW, hbW⟩ := hSw; go_simp; (try with_reducible rfl); done)
          simp only [Act.put, List.setIfInBounds_toArray, List.set_cons_zero, List.set_cons_succ]
          refine wpAnyH_take (i := 26) (oi := { dst := some 34, op := Go.Op.indexAddr 25 (Go.Operand.tmp 31) (Go.Operand.tmp 33), type := 0, pos := "ref.go:106", after := #[{ on := 23, ground := Go.Ground.data }, { on := 25, ground := Go.Ground.data }, { on := 21, ground := Go.Ground.guard }], guard := some (21, false) }) (v := ?_) rfl (by kernel_rfl) (by kernel_rfl) (by kernel_rfl) (fun _ _ _ h => h) (Or.inl ⟨by rfl, ?_⟩) (by assumption) ?_
          rotate_left
          focus (intro W hSw; obtain ⟨hcW, hfW, hbW⟩ := hSw; go_simp; (try with_reducible rfl); done)
          simp only [Act.put, List.setIfInBounds_toArray, List.set_cons_zero, List.set_cons_succ]
          refine wpAnyH_take (i := 27) (oi := { dst := some 35, op := Go.Op.load 3 (Go.Operand.tmp 34), type := 3, pos := "ref.go:106", after := #[{ on := 26, ground := Go.Ground.data }, { on := 21, ground := Go.Ground.guard }], guard := some (21, false) }) (v := ?_) rfl (by kernel_rfl) (by kernel_rfl) (by kernel_rfl) (fun _ _ _ h => h) (Or.inl ⟨by rfl, ?_⟩) (by assumption) ?_
          rotate_left
          focus (intro W hSw; obtain ⟨hcW, hfW, hbW⟩ := hSw; go_simp; (try with_reducible rfl); done)
          simp only [Act.put, List.setIfInBounds_toArray, List.set_cons_zero, List.set_cons_succ]
          refine wpAnyH_take (i := 28) (oi := { dst := some 36, op := Go.Op.fieldAddr 28 (Go.Operand.tmp 1) 7, type := 0, pos := "ref.go:106", after := #[{ on := 21, ground := Go.Ground.guard }], guard := some (21, false) }) (v := ?_) rfl (by kernel_rfl) (by kernel_rfl) (by kernel_rfl) (fun _ _ _ h => h) (Or.inl ⟨by rfl, ?_⟩) (by assumption) ?_
          rotate_left
          focus (intro W hSw; obtain ⟨hcW, hfW, hbW⟩ := hSw; go_simp; (try with_reducible rfl); done)
          simp only [Act.put, List.setIfInBounds_toArray, List.set_cons_zero, List.set_cons_succ]
          refine wpAnyH_take (i := 29) (oi := { dst := some 37, op := Go.Op.load 24 (Go.Operand.tmp 36), type := 24, pos := "ref.go:106", after := #[{ on := 28, ground := Go.Ground.data }, { on := 21, ground := Go.Ground.guard }], guard := some (21, false) }) (v := ?_) rfl (by kernel_rfl) (by kernel_rfl) (by kernel_rfl) (fun _ _ _ h => h) (Or.inl ⟨by rfl, ?_⟩) (by assumption) ?_
          rotate_left
          focus (intro W hSw; obtain ⟨hcW, hfW, hbW⟩ := hSw; go_simp; (try with_reducible rfl); done)
          simp only [Act.put, List.setIfInBounds_toArray, List.set_cons_zero, List.set_cons_succ]
          refine wpAnyH_take (i := 30) (oi := { dst := some 38, op := Go.Op.call { callee := Go.Callee.builtin Go.Builtin.len, args := #[Go.Operand.tmp 37], argTypes := #[24] }, type := 3, pos := "ref.go:106", after := #[{ on := 29, ground := Go.Ground.data }, { on := 21, ground := Go.Ground.guard }], guard := some (21, false) }) (v := ?_) rfl (by kernel_rfl) (by kernel_rfl) (by kernel_rfl) (fun _ _ _ h => h) (Or.inl ⟨by rfl, ?_⟩) (by assumption) ?_
          rotate_left
          focus (intro W hSw; obtain ⟨hcW, hfW, hbW⟩ := hSw; go_simp; (try with_reducible rfl); done)
          simp only [Act.put, List.setIfInBounds_toArray, List.set_cons_zero, List.set_cons_succ]
          by_cases s31 : at_ starts (starts.length - 1) = (code.length : Int)
          · skip
            refine wpAnyH_take (i := 31) (oi := { dst := some 39, op := Go.Op.binOp Go.BinOp.neq 3 (Go.Operand.tmp 35) (Go.Operand.tmp 38) 3, type := 4, pos := "ref.go:106", after := #[{ on := 27, ground := Go.Ground.data }, { on := 30, ground := Go.Ground.data }, { on := 21, ground := Go.Ground.guard }], guard := some (21, false) }) (v := ?_) rfl (by kernel_rfl) (by kernel_rfl) (by kernel_rfl) (fun _ _ _ h => h) (Or.inl ⟨by rfl, ?_⟩) (by assumption) ?_
            rotate_left
            focus (intro W hSw; obtain ⟨hcW, hfW, hbW⟩ := hSw; go_simp; (try with_reducible rfl); done)
            simp only [Act.put, List.setIfInBounds_toArray, List.set_cons_zero, List.set_cons_succ]
            refine wpAnyH_take (i := 32) (oi := { dst := some 40, op := Go.Op.pick (Go.Operand.tmp 29) (Go.Operand.const (Go.Value.bool true)) (Go.Operand.tmp 39), type := 4, pos := "ref.go:106", after := #[{ on := 21, ground := Go.Ground.data }, { on := 31, ground := Go.Ground.data }], guard := none }) (v := ?_) rfl (by kernel_rfl) (by kernel_rfl) (by kernel_rfl) (fun _ _ _ h => h) (Or.inl ⟨by rfl, ?_⟩) (by assumption) ?_
            rotate_left
            focus (intro W hSw; obtain ⟨hcW, hfW, hbW⟩ := hSw; go_simp; (try with_reducible rfl); done)
            simp only [Act.put, List.setIfInBounds_toArray, List.set_cons_zero, List.set_cons_succ]
            refine wpAnyH_done (by kernel_rfl) ?_ _
            go_wp2
            go_loopw [4] (fun i wr => ∃ k : Nat, 0 < k ∧ k ≤ starts.length ∧ i = .int .i64 k ∧ (∀ j, 0 < j → j < k → ¬ at_ starts j < at_ starts (j - 1)) ∧ Past W0 wr) (fun i _ => starts.length - (intOf i).toNat)
            case atStart => exact ⟨1, by omega, by omega, rfl, fun j h1 h2 => by omega, Past.start1 _⟩
            case round =>
              obtain ⟨k, hk0, hk, rfl, hno, hpr⟩ := hrel
              have HNN := Lib.hid hno
              clear hno
              have hz := below_then HBX.out (Nat.le_of_lt hbs) hpr.bel
              obtain ⟨hcr, hfr, hbr⟩ := hpr
              have hrl := hbr.size
              have hbs2 : w.heap.size < wr.heap.size := by omega
              have hlt2 : sb < wr.heap.size := by omega
              by_cases hlk : k < starts.length
              · obtain ⟨q, rfl⟩ : ∃ q : Nat, k = q + 1 := ⟨k - 1, by omega⟩
                have e2 := HCL.out (q + 1) hlk
                have e3 := HCL.out q (by omega)
                have hq0 : (0 : Int) ≤ (q : Int) := by omega
                have hq1 : (q : Int) < (starts.length : Int) := by omega
                have hq2 : (q : Int) + 1 < (starts.length : Int) := by omega
                have hq3 : (0 : Int) ≤ (q : Int) + 1 := by omega
                have hw5 : IntKind.i64.wrap (q : Int) = (q : Int) := IntWalk.i64_in _ (by omega)
                have hq4 : ((q : Int) + 1).toNat = q + 1 := by omega
                have hcast : ((q + 1 : Nat) : Int) = (q : Int) + 1 := by omega
                have hnoq := HNO.out (q + 1) (by omega) hlk
                rw [Nat.add_sub_cancel] at hnoq
                have HNOQ := Lib.hid hnoq
                clear hnoq
                rw [hcast]
                have HC := Lib.hid hcast
                clear hcast
                generalize hX : at_ starts (q + 1) = X at *
                generalize hZ : at_ starts q = Z at *
                have HX := Lib.hid hX
                have HZ := Lib.hid hZ
                clear hX hZ
                go_upto_region 7 with fail
                refine wp_region_held_drew (S := Past wr) (by kernel_rfl) ?_ (fun hHeld => ?_)
                focus ((try dsimp only); (first | exact Past.below (by assumption) (by assumption) | exact Past.drew1 (by assumption) | exact Past.start1 _); done)
                refine wpAnyH_take (i := 0) (oi := { dst := some 46, op := Go.Op.fieldAddr 28 (Go.Operand.tmp 1) 8, type := 0, pos := "ref.go:110", after := #[], guard := none }) (v := ?_) rfl (by kernel_rfl) (by kernel_rfl) (by kernel_rfl) (fun _ _ _ h => h) (Or.inl ⟨by rfl, ?_⟩) (by assumption) ?_
                rotate_left
                focus (intro W hSw; obtain ⟨hcW, hfW, hbW⟩ := hSw; go_simp; (try with_reducible rfl); done)
                simp only [Act.put, List.setIfInBounds_toArray, List.set_cons_zero, List.set_cons_succ]
                refine wpAnyH_take (i := 1) (oi := { dst := some 47, op := Go.Op.load 25 (Go.Operand.tmp 46), type := 25, pos := "ref.go:110", after := #[{ on := 0, ground := Go.Ground.data }], guard := none }) (v := ?_) rfl (by kernel_rfl) (by kernel_rfl) (by kernel_rfl) (fun _ _ _ h => h) (Or.inl ⟨by rfl, ?_⟩) (by assumption) ?_
                rotate_left
                focus (intro W hSw; obtain ⟨hcW, hfW, hbW⟩ := hSw; go_simp; (try with_reducible rfl); done)
                simp only [Act.put, List.setIfInBounds_toArray, List.set_cons_zero, List.set_cons_succ]
                refine wpAnyH_take (i := 2) (oi := { dst := some 48, op := Go.Op.move (Go.Operand.tmp 4), type := 3, pos := "ref.go:110", after := #[], guard := none }) (v := ?_) rfl (by kernel_rfl) (by kernel_rfl) (by kernel_rfl) (fun _ _ _ h => h) (Or.inl ⟨by rfl, ?_⟩) (by assumption) ?_
                rotate_left
                focus (intro W hSw; obtain ⟨hcW, hfW, hbW⟩ := hSw; go_simp; (try with_reducible rfl); done)
                simp only [Act.put, List.setIfInBounds_toArray, List.set_cons_zero, List.set_cons_succ]
                refine wpAnyH_take (i := 3) (oi := { dst := some 49, op := Go.Op.indexAddr 25 (Go.Operand.tmp 47) (Go.Operand.tmp 48), type := 0, pos := "ref.go:110", after := #[{ on := 1, ground := Go.Ground.data }, { on := 2, ground := Go.Ground.data }], guard := none }) (v := ?_) rfl (by kernel_rfl) (by kernel_rfl) (by kernel_rfl) (fun _ _ _ h => h) (Or.inl ⟨by rfl, ?_⟩) (by assumption) ?_
                rotate_left
                focus (intro W hSw; obtain ⟨hcW, hfW, hbW⟩ := hSw; go_simp; (try with_reducible rfl); done)
                simp only [Act.put, List.setIfInBounds_toArray, List.set_cons_zero, List.set_cons_succ]
                refine wpAnyH_take (i := 4) (oi := { dst := some 50, op := Go.Op.load 3 (Go.Operand.tmp 49), type := 3, pos := "ref.go:110", after := #[{ on := 3, ground := Go.Ground.data }], guard := none }) (v := ?_) rfl (by kernel_rfl) (by kernel_rfl) (by kernel_rfl) (fun _ _ _ h => h) (Or.inl ⟨by rfl, ?_⟩) (by assumption) ?_
                rotate_left
                focus (intro W hSw; obtain ⟨hcW, hfW, hbW⟩ := hSw; go_simp; (try with_reducible rfl); done)
                simp only [Act.put, List.setIfInBounds_toArray, List.set_cons_zero, List.set_cons_succ]
                refine wpAnyH_take (i := 5) (oi := { dst := some 51, op := Go.Op.fieldAddr 28 (Go.Operand.tmp 1) 8, type := 0, pos := "ref.go:110", after := #[], guard := none }) (v := ?_) rfl (by kernel_rfl) (by kernel_rfl) (by kernel_rfl) (fun _ _ _ h => h) (Or.inl ⟨by rfl, ?_⟩) (by assumption) ?_
                rotate_left
                focus (intro W hSw; obtain ⟨hcW, hfW, hbW⟩ := hSw; go_simp; (try with_reducible rfl); done)
                simp only [Act.put, List.setIfInBounds_toArray, List.set_cons_zero, List.set_cons_succ]
                refine wpAnyH_take (i := 6) (oi := { dst := some 52, op := Go.Op.load 25 (Go.Operand.tmp 51), type := 25, pos := "ref.go:110", after := #[{ on := 5, ground := Go.Ground.data }], guard := none }) (v := ?_) rfl (by kernel_rfl) (by kernel_rfl) (by kernel_rfl) (fun _ _ _ h => h) (Or.inl ⟨by rfl, ?_⟩) (by assumption) ?_
                rotate_left
                focus (intro W hSw; obtain ⟨hcW, hfW, hbW⟩ := hSw; go_simp; (try with_reducible rfl); done)
                simp only [Act.put, List.setIfInBounds_toArray, List.set_cons_zero, List.set_cons_succ]
                refine wpAnyH_take (i := 7) (oi := { dst := some 53, op := Go.Op.move (Go.Operand.tmp 4), type := 3, pos := "ref.go:110", after := #[], guard := none }) (v := ?_) rfl (by kernel_rfl) (by kernel_rfl) (by kernel_rfl) (fun _ _ _ h => h) (Or.inl ⟨by rfl, ?_⟩) (by assumption) ?_
                rotate_left
                focus (intro W hSw; obtain ⟨hcW, hfW, hbW⟩ := hSw; go_simp; (try with_reducible rfl); done)
                simp only [Act.put, List.setIfInBounds_toArray, List.set_cons_zero, List.set_cons_succ]
                refine wpAnyH_take (i := 8) (oi := { dst := some 54, op := Go.Op.binOp Go.BinOp.sub 3 (Go.Operand.tmp 53) (Go.Operand.const (Go.Value.int Go.IntKind.i64 1)) 3, type := 3, pos := "ref.go:110", after := #[{ on := 7, ground := Go.Ground.data }], guard := none }) (v := ?_) rfl (by kernel_rfl) (by kernel_rfl) (by kernel_rfl) (fun _ _ _ h => h) (Or.inl ⟨by rfl, ?_⟩) (by assumption) ?_
                rotate_left
                focus (intro W hSw; obtain ⟨hcW, hfW, hbW⟩ := hSw; go_simp; (try with_reducible rfl); done)
                simp only [Act.put, List.setIfInBounds_toArray, List.set_cons_zero, List.set_cons_succ]
                refine wpAnyH_take (i := 9) (oi := { dst := some 55, op := Go.Op.indexAddr 25 (Go.Operand.tmp 52) (Go.Operand.tmp 54), type := 0, pos := "ref.go:110", after := #[{ on := 6, ground := Go.Ground.data }, { on := 8, ground := Go.Ground.data }], guard := none }) (v := ?_) rfl (by kernel_rfl) (by kernel_rfl) (by kernel_rfl) (fun _ _ _ h => h) (Or.inl ⟨by rfl, ?_⟩) (by assumption) ?_
                rotate_left
                focus (intro W hSw; obtain ⟨hcW, hfW, hbW⟩ := hSw; go_simp; (try with_reducible rfl); done)
                simp only [Act.put, List.setIfInBounds_toArray, List.set_cons_zero, List.set_cons_succ]
                refine wpAnyH_take (i := 10) (oi := { dst := some 56, op := Go.Op.load 3 (Go.Operand.tmp 55), type := 3, pos := "ref.go:110", after := #[{ on := 9, ground := Go.Ground.data }], guard := none }) (v := ?_) rfl (by kernel_rfl) (by kernel_rfl) (by kernel_rfl) (fun _ _ _ h => h) (Or.inl ⟨by rfl, ?_⟩) (by assumption) ?_
                rotate_left
                focus (intro W hSw; obtain ⟨hcW, hfW, hbW⟩ := hSw; go_simp; (try with_reducible rfl); done)
                simp only [Act.put, List.setIfInBounds_toArray, List.set_cons_zero, List.set_cons_succ]
                by_cases s11 : X < Z
                · skip
                  refine wpAnyH_take (i := 11) (oi := { dst := some 57, op := Go.Op.binOp Go.BinOp.lss 3 (Go.Operand.tmp 50) (Go.Operand.tmp 56) 3, type := 4, pos := "ref.go:110", after := #[{ on := 4, ground := Go.Ground.data }, { on := 10, ground := Go.Ground.data }], guard := none }) (v := ?_) rfl (by kernel_rfl) (by kernel_rfl) (by kernel_rfl) (fun _ _ _ h => h) (Or.inl ⟨by rfl, ?_⟩) (by assumption) ?_
                  rotate_left
                  focus (intro W hSw; obtain ⟨hcW, hfW, hbW⟩ := hSw; go_simp; (try with_reducible rfl); done)
                  simp only [Act.put, List.setIfInBounds_toArray, List.set_cons_zero, List.set_cons_succ]
                  refine wpAnyH_done (by kernel_rfl) ?_ _
                  have hz2 := below_then hz hz.size (Past.bel (by assumption : Past wr _))
                  go_wp2
                  go_ret
                  refine ⟨?_, hz2⟩
                  have hv := HNOQ.out s11
                  rw [hv]
                  simp [*]
                · skip
                  refine wpAnyH_take (i := 11) (oi := { dst := some 57, op := Go.Op.binOp Go.BinOp.lss 3 (Go.Operand.tmp 50) (Go.Operand.tmp 56) 3, type := 4, pos := "ref.go:110", after := #[{ on := 4, ground := Go.Ground.data }, { on := 10, ground := Go.Ground.data }], guard := none }) (v := ?_) rfl (by kernel_rfl) (by kernel_rfl) (by kernel_rfl) (fun _ _ _ h => h) (Or.inl ⟨by rfl, ?_⟩) (by assumption) ?_
                  rotate_left
                  focus (intro W hSw; obtain ⟨hcW, hfW, hbW⟩ := hSw; go_simp; (try with_reducible rfl); done)
                  simp only [Act.put, List.setIfInBounds_toArray, List.set_cons_zero, List.set_cons_succ]
                  refine wpAnyH_done (by kernel_rfl) ?_ _
                  have hz2 := below_then hz hz.size (Past.bel (by assumption : Past wr _))
                  go_wp2
                  go_roundw
                  case rel =>
                    refine ⟨q + 2, by omega, by omega, by go_num, fun j h1 h2 => ?_, Past.below (Past.bel (by assumption : Past wr _)) (Past.of hbr)⟩
                    by_cases e : j = q + 1
                    · rw [e, Nat.add_sub_cancel, HX.out, HZ.out]; exact s11
                    · exact HNN.out j h1 (by omega)
                  case measure => simp [intOf]; omega
              · have hkk : ¬ (k : Int) < (starts.length : Int) := by omega
                have hv := HY.out fun j h1 h2 => by have := HNN.out j h1 (by omega); omega
                have HV := Lib.hid hv
                clear hv
                go_wp2
                go_ret
                refine ⟨?_, hz⟩
                rw [HV.out]
                simp [*] <;> omega
          · skip
            have s31b : (at_ starts (starts.length - 1) != (code.length : Int)) = true := by simpa using s31
            refine wpAnyH_take (i := 31) (oi := { dst := some 39, op := Go.Op.binOp Go.BinOp.neq 3 (Go.Operand.tmp 35) (Go.Operand.tmp 38) 3, type := 4, pos := "ref.go:106", after := #[{ on := 27, ground := Go.Ground.data }, { on := 30, ground := Go.Ground.data }, { on := 21, ground := Go.Ground.guard }], guard := some (21, false) }) (v := ?_) rfl (by kernel_rfl) (by kernel_rfl) (by kernel_rfl) (fun _ _ _ h => h) (Or.inl ⟨by rfl, ?_⟩) (by assumption) ?_
            rotate_left
            focus (intro W hSw; obtain ⟨hcW, hfW, hbW⟩ := hSw; go_simp; (try with_reducible rfl); done)
            simp only [Act.put, List.setIfInBounds_toArray, List.set_cons_zero, List.set_cons_succ]
            refine wpAnyH_take (i := 32) (oi := { dst := some 40, op := Go.Op.pick (Go.Operand.tmp 29) (Go.Operand.const (Go.Value.bool true)) (Go.Operand.tmp 39), type := 4, pos := "ref.go:106", after := #[{ on := 21, ground := Go.Ground.data }, { on := 31, ground := Go.Ground.data }], guard := none }) (v := ?_) rfl (by kernel_rfl) (by kernel_rfl) (by kernel_rfl) (fun _ _ _ h => h) (Or.inl ⟨by rfl, ?_⟩) (by assumption) ?_
            rotate_left
            focus (intro W hSw; obtain ⟨hcW, hfW, hbW⟩ := hSw; go_simp; (try with_reducible rfl); done)
            simp only [Act.put, List.setIfInBounds_toArray, List.set_cons_zero, List.set_cons_succ]
            refine wpAnyH_done (by kernel_rfl) ?_ _
            have hz := below_then HBX.out (Nat.le_of_lt hbs) (Past.bel (by assumption))
            go_wp2
            go_ret
            refine ⟨?_, hz⟩
            simp [*]
        · skip
          have s19b : (at_ starts 0 != 0) = true := by simpa using s19
          refine wpAnyH_take (i := 19) (oi := { dst := some 27, op := Go.Op.binOp Go.BinOp.neq 3 (Go.Operand.tmp 26) (Go.Operand.const (Go.Value.int Go.IntKind.i64 0)) 3, type := 4, pos := "ref.go:106", after := #[{ on := 18, ground := Go.Ground.data }, { on := 14, ground := Go.Ground.guard }], guard := some (14, false) }) (v := ?_) rfl (by kernel_rfl) (by kernel_rfl) (by kernel_rfl) (fun _ _ _ h => h) (Or.inl ⟨by rfl, ?_⟩) (by assumption) ?_
          rotate_left
          focus (intro W hSw; obtain ⟨hcW, hfW, hbW⟩ := hSw; go_simp; (try with_reducible rfl); done)
          simp only [Act.put, List.setIfInBounds_toArray, List.set_cons_zero, List.set_cons_succ]
          refine wpAnyH_take (i := 20) (oi := { dst := some 28, op := Go.Op.pick (Go.Operand.tmp 22) (Go.Operand.const (Go.Value.bool true)) (Go.Operand.tmp 27), type := 4, pos := "ref.go:106", after := #[{ on := 14, ground := Go.Ground.data }, { on := 19, ground := Go.Ground.data }], guard := none }) (v := ?_) rfl (by kernel_rfl) (by kernel_rfl) (by kernel_rfl) (fun _ _ _ h => h) (Or.inl ⟨by rfl, ?_⟩) (by assumption) ?_
          rotate_left
          focus (intro W hSw; obtain ⟨hcW, hfW, hbW⟩ := hSw; go_simp; (try with_reducible rfl); done)
          simp only [Act.put, List.setIfInBounds_toArray, List.set_cons_zero, List.set_cons_succ]
          refine wpAnyH_take (i := 21) (oi := { dst := some 29, op := Go.Op.move (Go.Operand.tmp 28), type := 4, pos := "ref.go:106", after := #[{ on := 20, ground := Go.Ground.data }, { on := 14, ground := Go.Ground.chain }], guard := none }) (v := ?_) rfl (by kernel_rfl) (by kernel_rfl) (by kernel_rfl) (fun _ _ _ h => h) (Or.inl ⟨by rfl, ?_⟩) (by assumption) ?_
          rotate_left
          focus (intro W hSw; obtain ⟨hcW, hfW, hbW⟩ := hSw; go_simp; (try with_reducible rfl); done)
          simp only [Act.put, List.setIfInBounds_toArray, List.set_cons_zero, List.set_cons_succ]
          refine wpAnyH_take (i := 22) (oi := { dst := some 30, op := Go.Op.fieldAddr 28 (Go.Operand.tmp 1) 8, type := 0, pos := "ref.go:106", after := #[{ on := 21, ground := Go.Ground.guard }], guard := some (21, false) }) (v := undef) rfl (by kernel_rfl) (by kernel_rfl) (by kernel_rfl) (fun _ _ _ h => h) (Or.inr ⟨by rfl, rfl⟩) (by assumption) ?_
          simp only [Act.put, List.setIfInBounds_toArray, List.set_cons_zero, List.set_cons_succ]
          refine wpAnyH_take (i := 23) (oi := { dst := some 31, op := Go.Op.load 25 (Go.Operand.tmp 30), type := 25, pos := "ref.go:106", after := #[{ on := 22, ground := Go.Ground.data }, { on := 21, ground := Go.Ground.guard }], guard := some (21, false) }) (v := undef) rfl (by kernel_rfl) (by kernel_rfl) (by kernel_rfl) (fun _ _ _ h => h) (Or.inr ⟨by rfl, rfl⟩) (by assumption) ?_
          simp only [Act.put, List.setIfInBounds_toArray, List.set_cons_zero, List.set_cons_succ]
          refine wpAnyH_take (i := 24) (oi := { dst := some 32, op := Go.Op.move (Go.Operand.tmp 3), type := 3, pos := "ref.go:106", after := #[{ on := 21, ground := Go.Ground.guard }], guard := some (21, false) }) (v := undef) rfl (by kernel_rfl) (by kernel_rfl) (by kernel_rfl) (fun _ _ _ h => h) (Or.inr ⟨by rfl, rfl⟩) (by assumption) ?_
          simp only [Act.put, List.setIfInBounds_toArray, List.set_cons_zero, List.set_cons_succ]
          refine wpAnyH_take (i := 25) (oi := { dst := some 33, op := Go.Op.binOp Go.BinOp.sub 3 (Go.Operand.tmp 32) (Go.Operand.const (Go.Value.int Go.IntKind.i64 1)) 3, type := 3, pos := "ref.go:106", after := #[{ on := 24, ground := Go.Ground.data }, { on := 21, ground := Go.Ground.guard }], guard := some (21, false) }) (v := undef) rfl (by kernel_rfl) (by kernel_rfl) (by kernel_rfl) (fun _ _ _ h => h) (Or.inr ⟨by rfl, rfl⟩) (by assumption) ?_
          simp only [Act.put, List.setIfInBounds_toArray, List.set_cons_zero, List.set_cons_succ]
          refine wpAnyH_take (i := 26) (oi := { dst := some 34, op := Go.Op.indexAddr 25 (Go.Operand.tmp 31) (Go.Operand.tmp 33), type := 0, pos := "ref.go:106", after := #[{ on := 23, ground := Go.Ground.data }, { on := 25, ground := Go.Ground.data }, { on := 21, ground := Go.Ground.guard }], guard := some (21, false) }) (v := undef) rfl (by kernel_rfl) (by kernel_rfl) (by kernel_rfl) (fun _ _ _ h => h) (Or.inr ⟨by rfl, rfl⟩) (by assumption) ?_
          simp only [Act.put, List.setIfInBounds_toArray, List.set_cons_zero, List.set_cons_succ]
          refine wpAnyH_take (i := 27) (oi := { dst := some 35, op := Go.Op.load 3 (Go.Operand.tmp 34), type := 3, pos := "ref.go:106", after := #[{ on := 26, ground := Go.Ground.data }, { on := 21, ground := Go.Ground.guard }], guard := some (21, false) }) (v := undef) rfl (by kernel_rfl) (by kernel_rfl) (by kernel_rfl) (fun _ _ _ h => h) (Or.inr ⟨by rfl, rfl⟩) (by assumption) ?_
          simp only [Act.put, List.setIfInBounds_toArray, List.set_cons_zero, List.set_cons_succ]
          refine wpAnyH_take (i := 28) (oi := { dst := some 36, op := Go.Op.fieldAddr 28 (Go.Operand.tmp 1) 7, type := 0, pos := "ref.go:106", after := #[{ on := 21, ground := Go.Ground.guard }], guard := some (21, false) }) (v := undef) rfl (by kernel_rfl) (by kernel_rfl) (by kernel_rfl) (fun _ _ _ h => h) (Or.inr ⟨by rfl, rfl⟩) (by assumption) ?_
          simp only [Act.put, List.setIfInBounds_toArray, List.set_cons_zero, List.set_cons_succ]
          refine wpAnyH_take (i := 29) (oi := { dst := some 37, op := Go.Op.load 24 (Go.Operand.tmp 36), type := 24, pos := "ref.go:106", after := #[{ on := 28, ground := Go.Ground.data }, { on := 21, ground := Go.Ground.guard }], guard := some (21, false) }) (v := undef) rfl (by kernel_rfl) (by kernel_rfl) (by kernel_rfl) (fun _ _ _ h => h) (Or.inr ⟨by rfl, rfl⟩) (by assumption) ?_
          simp only [Act.put, List.setIfInBounds_toArray, List.set_cons_zero, List.set_cons_succ]
          refine wpAnyH_take (i := 30) (oi := { dst := some 38, op := Go.Op.call { callee := Go.Callee.builtin Go.Builtin.len, args := #[Go.Operand.tmp 37], argTypes := #[24] }, type := 3, pos := "ref.go:106", after := #[{ on := 29, ground := Go.Ground.data }, { on := 21, ground := Go.Ground.guard }], guard := some (21, false) }) (v := undef) rfl (by kernel_rfl) (by kernel_rfl) (by kernel_rfl) (fun _ _ _ h => h) (Or.inr ⟨by rfl, rfl⟩) (by assumption) ?_
          simp only [Act.put, List.setIfInBounds_toArray, List.set_cons_zero, List.set_cons_succ]
          refine wpAnyH_take (i := 31) (oi := { dst := some 39, op := Go.Op.binOp Go.BinOp.neq 3 (Go.Operand.tmp 35) (Go.Operand.tmp 38) 3, type := 4, pos := "ref.go:106", after := #[{ on := 27, ground := Go.Ground.data }, { on := 30, ground := Go.Ground.data }, { on := 21, ground := Go.Ground.guard }], guard := some (21, false) }) (v := undef) rfl (by kernel_rfl) (by kernel_rfl) (by kernel_rfl) (fun _ _ _ h => h) (Or.inr ⟨by rfl, rfl⟩) (by assumption) ?_
          simp only [Act.put, List.setIfInBounds_toArray, List.set_cons_zero, List.set_cons_succ]
          refine wpAnyH_take (i := 32) (oi := { dst := some 40, op := Go.Op.pick (Go.Operand.tmp 29) (Go.Operand.const (Go.Value.bool true)) (Go.Operand.tmp 39), type := 4, pos := "ref.go:106", after := #[{ on := 21, ground := Go.Ground.data }, { on := 31, ground := Go.Ground.data }], guard := none }) (v := ?_) rfl (by kernel_rfl) (by kernel_rfl) (by kernel_rfl) (fun _ _ _ h => h) (Or.inl ⟨by rfl, ?_⟩) (by assumption) ?_
          rotate_left
          focus (intro W hSw; obtain ⟨hcW, hfW, hbW⟩ := hSw; go_simp; (try with_reducible rfl); done)
          simp only [Act.put, List.setIfInBounds_toArray, List.set_cons_zero, List.set_cons_succ]
          refine wpAnyH_done (by kernel_rfl) ?_ _
          have hz := below_then HBX.out (Nat.le_of_lt hbs) (Past.bel (by assumption))
          go_wp2
          go_ret
          refine ⟨?_, hz⟩
          simp [*]
      · skip
        have s12b : ((maps.length : Int) != (starts.length : Int) - 1) = true := by simpa using s12
        refine wpAnyH_take (i := 12) (oi := { dst := some 20, op := Go.Op.binOp Go.BinOp.neq 3 (Go.Operand.tmp 17) (Go.Operand.tmp 19) 3, type := 4, pos := "ref.go:106", after := #[{ on := 9, ground := Go.Ground.data }, { on := 11, ground := Go.Ground.data }, { on := 6, ground := Go.Ground.guard }], guard := some (6, false) }) (v := ?_) rfl (by kernel_rfl) (by kernel_rfl) (by kernel_rfl) (fun _ _ _ h => h) (Or.inl ⟨by rfl, ?_⟩) (by assumption) ?_
        rotate_left
        focus (intro W hSw; obtain ⟨hcW, hfW, hbW⟩ := hSw; go_simp; (try with_reducible rfl); done)
        simp only [Act.put, List.setIfInBounds_toArray, List.set_cons_zero, List.set_cons_succ]
        refine wpAnyH_take (i := 13) (oi := { dst := some 21, op := Go.Op.pick (Go.Operand.tmp 14) (Go.Operand.const (Go.Value.bool true)) (Go.Operand.tmp 20), type := 4, pos := "ref.go:106", after := #[{ on := 6, ground := Go.Ground.data }, { on := 12, ground := Go.Ground.data }], guard := none }) (v := ?_) rfl (by kernel_rfl) (by kernel_rfl) (by kernel_rfl) (fun _ _ _ h => h) (Or.inl ⟨by rfl, ?_⟩) (by assumption) ?_
        rotate_left
        focus (intro W hSw; obtain ⟨hcW, hfW, hbW⟩ := hSw; go_simp; (try with_reducible rfl); done)
        simp only [Act.put, List.setIfInBounds_toArray, List.set_cons_zero, List.set_cons_succ]
        refine wpAnyH_take (i := 14) (oi := { dst := some 22, op := Go.Op.move (Go.Operand.tmp 21), type := 4, pos := "ref.go:106", after := #[{ on := 13, ground := Go.Ground.data }, { on := 6, ground := Go.Ground.chain }], guard := none }) (v := ?_) rfl (by kernel_rfl) (by kernel_rfl) (by kernel_rfl) (fun _ _ _ h => h) (Or.inl ⟨by rfl, ?_⟩) (by assumption) ?_
        rotate_left
        focus (intro W hSw; obtain ⟨hcW, hfW, hbW⟩ := hSw; go_simp; (try with_reducible rfl); done)
        simp only [Act.put, List.setIfInBounds_toArray, List.set_cons_zero, List.set_cons_succ]
        refine wpAnyH_take (i := 15) (oi := { dst := some 23, op := Go.Op.fieldAddr 28 (Go.Operand.tmp 1) 8, type := 0, pos := "ref.go:106", after := #[{ on := 14, ground := Go.Ground.guard }], guard := some (14, false) }) (v := undef) rfl (by kernel_rfl) (by kernel_rfl) (by kernel_rfl) (fun _ _ _ h => h) (Or.inr ⟨by rfl, rfl⟩) (by assumption) ?_
        simp only [Act.put, List.setIfInBounds_toArray, List.set_cons_zero, List.set_cons_succ]
        refine wpAnyH_take (i := 16) (oi := { dst := some 24, op := Go.Op.load 25 (Go.Operand.tmp 23), type := 25, pos := "ref.go:106", after := #[{ on := 15, ground := Go.Ground.data }, { on := 14, ground := Go.Ground.guard }], guard := some (14, false) }) (v := undef) rfl (by kernel_rfl) (by kernel_rfl) (by kernel_rfl) (fun _ _ _ h => h) (Or.inr ⟨by rfl, rfl⟩) (by assumption) ?_
        simp only [Act.put, List.setIfInBounds_toArray, List.set_cons_zero, List.set_cons_succ]
        refine wpAnyH_take (i := 17) (oi := { dst := some 25, op := Go.Op.indexAddr 25 (Go.Operand.tmp 24) (Go.Operand.const (Go.Value.int Go.IntKind.i64 0)), type := 0, pos := "ref.go:106", after := #[{ on := 16, ground := Go.Ground.data }, { on := 14, ground := Go.Ground.guard }], guard := some (14, false) }) (v := undef) rfl (by kernel_rfl) (by kernel_rfl) (by kernel_rfl) (fun _ _ _ h => h) (Or.inr ⟨by rfl, rfl⟩) (by assumption) ?_
        simp only [Act.put, List.setIfInBounds_toArray, List.set_cons_zero, List.set_cons_succ]
        refine wpAnyH_take (i := 18) (oi := { dst := some 26, op := Go.Op.load 3 (Go.Operand.tmp 25), type := 3, pos := "ref.go:106", after := #[{ on := 17, ground := Go.Ground.data }, { on := 14, ground := Go.Ground.guard }], guard := some (14, false) }) (v := undef) rfl (by kernel_rfl) (by kernel_rfl) (by kernel_rfl) (fun _ _ _ h => h) (Or.inr ⟨by rfl, rfl⟩) (by assumption) ?_
        simp only [Act.put, List.setIfInBounds_toArray, List.set_cons_zero, List.set_cons_succ]
        refine wpAnyH_take (i := 19) (oi := { dst := some 27, op := Go.Op.binOp Go.BinOp.neq 3 (Go.Operand.tmp 26) (Go.Operand.const (Go.Value.int Go.IntKind.i64 0)) 3, type := 4, pos := "ref.go:106", after := #[{ on := 18, ground := Go.Ground.data }, { on := 14, ground := Go.Ground.guard }], guard := some (14, false) }) (v := undef) rfl (by kernel_rfl) (by kernel_rfl) (by kernel_rfl) (fun _ _ _ h => h) (Or.inr ⟨by rfl, rfl⟩) (by assumption) ?_
        simp only [Act.put, List.setIfInBounds_toArray, List.set_cons_zero, List.set_cons_succ]
        refine wpAnyH_take (i := 20) (oi := { dst := some 28, op := Go.Op.pick (Go.Operand.tmp 22) (Go.Operand.const (Go.Value.bool true)) (Go.Operand.tmp 27), type := 4, pos := "ref.go:106", after := #[{ on := 14, ground := Go.Ground.data }, { on := 19, ground := Go.Ground.data }], guard := none }) (v := ?_) rfl (by kernel_rfl) (by kernel_rfl) (by kernel_rfl) (fun _ _ _ h => h) (Or.inl ⟨by rfl, ?_⟩) (by assumption) ?_
        rotate_left
        focus (intro W hSw; obtain ⟨hcW, hfW, hbW⟩ := hSw; go_simp; (try with_reducible rfl); done)
        simp only [Act.put, List.setIfInBounds_toArray, List.set_cons_zero, List.set_cons_succ]
        refine wpAnyH_take (i := 21) (oi := { dst := some 29, op := Go.Op.move (Go.Operand.tmp 28), type := 4, pos := "ref.go:106", after := #[{ on := 20, ground := Go.Ground.data }, { on := 14, ground := Go.Ground.chain }], guard := none }) (v := ?_) rfl (by kernel_rfl) (by kernel_rfl) (by kernel_rfl) (fun _ _ _ h => h) (Or.inl ⟨by rfl, ?_⟩) (by assumption) ?_
        rotate_left
        focus (intro W hSw; obtain ⟨hcW, hfW, hbW⟩ := hSw; go_simp; (try with_reducible rfl); done)
        simp only [Act.put, List.setIfInBounds_toArray, List.set_cons_zero, List.set_cons_succ]
        refine wpAnyH_take (i := 22) (oi := { dst := some 30, op := Go.Op.fieldAddr 28 (Go.Operand.tmp 1) 8, type := 0, pos := "ref.go:106", after := #[{ on := 21, ground := Go.Ground.guard }], guard := some (21, false) }) (v := undef) rfl (by kernel_rfl) (by kernel_rfl) (by kernel_rfl) (fun _ _ _ h => h) (Or.inr ⟨by rfl, rfl⟩) (by assumption) ?_
        simp only [Act.put, List.setIfInBounds_toArray, List.set_cons_zero, List.set_cons_succ]
        refine wpAnyH_take (i := 23) (oi := { dst := some 31, op := Go.Op.load 25 (Go.Operand.tmp 30), type := 25, pos := "ref.go:106", after := #[{ on := 22, ground := Go.Ground.data }, { on := 21, ground := Go.Ground.guard }], guard := some (21, false) }) (v := undef) rfl (by kernel_rfl) (by kernel_rfl) (by kernel_rfl) (fun _ _ _ h => h) (Or.inr ⟨by rfl, rfl⟩) (by assumption) ?_
        simp only [Act.put, List.setIfInBounds_toArray, List.set_cons_zero, List.set_cons_succ]
        refine wpAnyH_take (i := 24) (oi := { dst := some 32, op := Go.Op.move (Go.Operand.tmp 3), type := 3, pos := "ref.go:106", after := #[{ on := 21, ground := Go.Ground.guard }], guard := some (21, false) }) (v := undef) rfl (by kernel_rfl) (by kernel_rfl) (by kernel_rfl) (fun _ _ _ h => h) (Or.inr ⟨by rfl, rfl⟩) (by assumption) ?_
        simp only [Act.put, List.setIfInBounds_toArray, List.set_cons_zero, List.set_cons_succ]
        refine wpAnyH_take (i := 25) (oi := { dst := some 33, op := Go.Op.binOp Go.BinOp.sub 3 (Go.Operand.tmp 32) (Go.Operand.const (Go.Value.int Go.IntKind.i64 1)) 3, type := 3, pos := "ref.go:106", after := #[{ on := 24, ground := Go.Ground.data }, { on := 21, ground := Go.Ground.guard }], guard := some (21, false) }) (v := undef) rfl (by kernel_rfl) (by kernel_rfl) (by kernel_rfl) (fun _ _ _ h => h) (Or.inr ⟨by rfl, rfl⟩) (by assumption) ?_
        simp only [Act.put, List.setIfInBounds_toArray, List.set_cons_zero, List.set_cons_succ]
        refine wpAnyH_take (i := 26) (oi := { dst := some 34, op := Go.Op.indexAddr 25 (Go.Operand.tmp 31) (Go.Operand.tmp 33), type := 0, pos := "ref.go:106", after := #[{ on := 23, ground := Go.Ground.data }, { on := 25, ground := Go.Ground.data }, { on := 21, ground := Go.Ground.guard }], guard := some (21, false) }) (v := undef) rfl (by kernel_rfl) (by kernel_rfl) (by kernel_rfl) (fun _ _ _ h => h) (Or.inr ⟨by rfl, rfl⟩) (by assumption) ?_
        simp only [Act.put, List.setIfInBounds_toArray, List.set_cons_zero, List.set_cons_succ]
        refine wpAnyH_take (i := 27) (oi := { dst := some 35, op := Go.Op.load 3 (Go.Operand.tmp 34), type := 3, pos := "ref.go:106", after := #[{ on := 26, ground := Go.Ground.data }, { on := 21, ground := Go.Ground.guard }], guard := some (21, false) }) (v := undef) rfl (by kernel_rfl) (by kernel_rfl) (by kernel_rfl) (fun _ _ _ h => h) (Or.inr ⟨by rfl, rfl⟩) (by assumption) ?_
        simp only [Act.put, List.setIfInBounds_toArray, List.set_cons_zero, List.set_cons_succ]
        refine wpAnyH_take (i := 28) (oi := { dst := some 36, op := Go.Op.fieldAddr 28 (Go.Operand.tmp 1) 7, type := 0, pos := "ref.go:106", after := #[{ on := 21, ground := Go.Ground.guard }], guard := some (21, false) }) (v := undef) rfl (by kernel_rfl) (by kernel_rfl) (by kernel_rfl) (fun _ _ _ h => h) (Or.inr ⟨by rfl, rfl⟩) (by assumption) ?_
        simp only [Act.put, List.setIfInBounds_toArray, List.set_cons_zero, List.set_cons_succ]
        refine wpAnyH_take (i := 29) (oi := { dst := some 37, op := Go.Op.load 24 (Go.Operand.tmp 36), type := 24, pos := "ref.go:106", after := #[{ on := 28, ground := Go.Ground.data }, { on := 21, ground := Go.Ground.guard }], guard := some (21, false) }) (v := undef) rfl (by kernel_rfl) (by kernel_rfl) (by kernel_rfl) (fun _ _ _ h => h) (Or.inr ⟨by rfl, rfl⟩) (by assumption) ?_
        simp only [Act.put, List.setIfInBounds_toArray, List.set_cons_zero, List.set_cons_succ]
        refine wpAnyH_take (i := 30) (oi := { dst := some 38, op := Go.Op.call { callee := Go.Callee.builtin Go.Builtin.len, args := #[Go.Operand.tmp 37], argTypes := #[24] }, type := 3, pos := "ref.go:106", after := #[{ on := 29, ground := Go.Ground.data }, { on := 21, ground := Go.Ground.guard }], guard := some (21, false) }) (v := undef) rfl (by kernel_rfl) (by kernel_rfl) (by kernel_rfl) (fun _ _ _ h => h) (Or.inr ⟨by rfl, rfl⟩) (by assumption) ?_
        simp only [Act.put, List.setIfInBounds_toArray, List.set_cons_zero, List.set_cons_succ]
        refine wpAnyH_take (i := 31) (oi := { dst := some 39, op := Go.Op.binOp Go.BinOp.neq 3 (Go.Operand.tmp 35) (Go.Operand.tmp 38) 3, type := 4, pos := "ref.go:106", after := #[{ on := 27, ground := Go.Ground.data }, { on := 30, ground := Go.Ground.data }, { on := 21, ground := Go.Ground.guard }], guard := some (21, false) }) (v := undef) rfl (by kernel_rfl) (by kernel_rfl) (by kernel_rfl) (fun _ _ _ h => h) (Or.inr ⟨by rfl, rfl⟩) (by assumption) ?_
        simp only [Act.put, List.setIfInBounds_toArray, List.set_cons_zero, List.set_cons_succ]
        refine wpAnyH_take (i := 32) (oi := { dst := some 40, op := Go.Op.pick (Go.Operand.tmp 29) (Go.Operand.const (Go.Value.bool true)) (Go.Operand.tmp 39), type := 4, pos := "ref.go:106", after := #[{ on := 21, ground := Go.Ground.data }, { on := 31, ground := Go.Ground.data }], guard := none }) (v := ?_) rfl (by kernel_rfl) (by kernel_rfl) (by kernel_rfl) (fun _ _ _ h => h) (Or.inl ⟨by rfl, ?_⟩) (by assumption) ?_
        rotate_left
        focus (intro W hSw; obtain ⟨hcW, hfW, hbW⟩ := hSw; go_simp; (try with_reducible rfl); done)
        simp only [Act.put, List.setIfInBounds_toArray, List.set_cons_zero, List.set_cons_succ]
        refine wpAnyH_done (by kernel_rfl) ?_ _
        have hz := below_then HBX.out (Nat.le_of_lt hbs) (Past.bel (by assumption))
        go_wp2
        go_ret
        refine ⟨?_, hz⟩
        simp [*]
end Go.Proofs.Ytkhgbnnhgdcmoaa.IR
