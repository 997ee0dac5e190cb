-- written by wip/xprint.py out of the translation's own print; Lean checks it
import Derived.Test.YthhfgchbpgcfmaaQWordx0
import Derived.Test.YthhfgchbpgcfmaaQWordx1
import Derived.Test.YthhfgchbpgcfmaaQWordx2
import Derived.Test.YthhfgchbpgcfmaaQWordx5
namespace Go.Proofs.Ythhfgchbpgcfmaa.QWord
open Go.RowKit Go.Proofs.YthhfgchbpgcfmaaW.PrintWords Go.Proofs.YthhfgchbpgcfmaaW.PrintLast Go.Proofs.YthhfgchbpgcfmaaW.PrintMore
attribute [local go_sem] max2_int min2_int max_two min_two max_three min_three max_four min_four   -- for this text's walks alone
set_option linter.unusedVariables false
set_option linter.unusedSimpArgs false

/-! ### tappetlaw01_WordRanks: function 12 -/
def tappetlaw01_WordRanks.j0 : Nat → Int → Int → Int → Bool → Bool → Bool → Bool → Bool → Option (Bool)
  | 0, _, _, _, _, _, _, _, _ => none
  | k + 1, x0, x1, x2, x7, x8, x10, x12, x53 => if x53 = true then (if x7 = true then ((tappetlaw01_of.f x0).bind fun t310 => (if t310 = 0 then (some true) else ((tappetlaw01_of.f x1).bind fun t311 => (if t311 = 0 then (some true) else ((tappetlaw01_of.f x2).bind fun t312 => (some (t312 == 0))))))) else (some false)) else ((tappetlaw01_of.f x0).bind fun t313 => ((tappetlaw01_of.f x1).bind fun t314 => ((word_Less.f k 2 t313 t314).bind fun bt315 => ((tappetlaw01_of.f x0).bind fun t317 => ((tappetlaw01_of.f x1).bind fun t318 => ((word_Less.f k 1 t317 t318).bind fun bt319 => (if x7 = true then (if (x8 == (decide (x0 < x1))) = true then (if (bt315.1 == (x0 == x1)) = true then (if x8 = true then (if (bt319.1 == true) = true then (if x10 = true then (some x12) else (some true)) else (some false)) else (if (bt319.1 == bt315.1) = true then (some true) else (some false))) else (some false)) else (some false)) else (some false))))))))
def tappetlaw01_WordRanks.f (k : Nat) (a0 : Int) (a1 : Int) (a2 : Int) : Option (Bool) := (tappetlaw01_awake.f k).bind fun t297 => ((tappetlaw01_of.f a0).bind fun t298 => ((tappetlaw01_of.f a1).bind fun t299 => ((word_Less.f k 0 t298 t299).bind fun bt300 => ((tappetlaw01_of.f a1).bind fun t302 => ((tappetlaw01_of.f a2).bind fun t303 => ((word_Less.f k 0 t302 t303).bind fun bt304 => ((tappetlaw01_of.f a0).bind fun t306 => ((tappetlaw01_of.f a2).bind fun t307 => ((word_Less.f k 0 t306 t307).bind fun bt308 => (if bt300.2 = true then (if bt304.2 = true then (tappetlaw01_WordRanks.j0 k a0 a1 a2 t297 bt300.1 bt304.1 bt308.1 (!bt308.2)) else (tappetlaw01_WordRanks.j0 k a0 a1 a2 t297 bt300.1 bt304.1 bt308.1 true)) else (tappetlaw01_WordRanks.j0 k a0 a1 a2 t297 bt300.1 bt304.1 bt308.1 true)))))))))))
theorem tappetlaw01_WordRanks.mono_l : ∀ k, (∀ y0 y1 y2 y3 y4 y5 y6 y7, LeO (tappetlaw01_WordRanks.j0 k y0 y1 y2 y3 y4 y5 y6 y7) (tappetlaw01_WordRanks.j0 (k + 1) y0 y1 y2 y3 y4 y5 y6 y7))
  | 0 => fun _ _ _ _ _ _ _ _ r h => by simp [tappetlaw01_WordRanks.j0] at h
  | k + 1 => by
    have ih0 := tappetlaw01_WordRanks.mono_l k
    · intro y0 y1 y2 y3 y4 y5 y6 y7
      unfold tappetlaw01_WordRanks.j0
      repeat' first
      | (with_reducible exact ih0 _ _ _ _ _ _ _ _)
      | (with_reducible exact tappetlaw01_awake.mono _)
      | (with_reducible exact word_Less.mono _ _ _ _)
      | (with_reducible exact LeO.refl _)
      | (with_reducible exact LeO.none _)
      | (with_reducible refine LeO.ite ?_ ?_)
      | (with_reducible refine LeO.bind ?_ (fun _ => ?_))
      | exact ih0 _ _ _ _ _ _ _ _
      | exact tappetlaw01_awake.mono _
      | exact word_Less.mono _ _ _ _
      | exact LeO.none _
      | refine LeO.ite ?_ ?_
      | refine LeO.bind ?_ (fun _ => ?_)
theorem tappetlaw01_WordRanks.mono : ∀ a0 a1 a2 k, LeO (tappetlaw01_WordRanks.f k a0 a1 a2) (tappetlaw01_WordRanks.f (k + 1) a0 a1 a2) := by
  intro a0 a1 a2 k
  have ih0 := tappetlaw01_WordRanks.mono_l k
  unfold tappetlaw01_WordRanks.f
  repeat' first
      | (with_reducible exact ih0 _ _ _ _ _ _ _ _)
      | (with_reducible exact tappetlaw01_awake.mono _)
      | (with_reducible exact word_Less.mono _ _ _ _)
      | (with_reducible exact LeO.refl _)
      | (with_reducible exact LeO.none _)
      | (with_reducible refine LeO.ite ?_ ?_)
      | (with_reducible refine LeO.bind ?_ (fun _ => ?_))
      | exact ih0 _ _ _ _ _ _ _ _
      | exact tappetlaw01_awake.mono _
      | exact word_Less.mono _ _ _ _
      | exact LeO.none _
      | refine LeO.ite ?_ ?_
      | refine LeO.bind ?_ (fun _ => ?_)
set_option maxHeartbeats 8000000 in
set_option maxRecDepth 100000 in
theorem tappetlaw01_WordRanks.calls (k : Nat) (a0 : Int) (a1 : Int) (a2 : Int) (r : Bool) (w : World) (h : tappetlaw01_WordRanks.f k a0 a1 a2 = some r) :
    Calls Try.prog 12 #[.int .i64 a0, .int .i64 a1, .int .i64 a2] w fun e w' => e = .returned (.bool r) ∧ Drawn0 w w' := by
  have H : ((tappetlaw01_awake.f k).bind fun t297 => ((tappetlaw01_of.f a0).bind fun t298 => ((tappetlaw01_of.f a1).bind fun t299 => ((word_Less.f k 0 t298 t299).bind fun bt300 => ((tappetlaw01_of.f a1).bind fun t302 => ((tappetlaw01_of.f a2).bind fun t303 => ((word_Less.f k 0 t302 t303).bind fun bt304 => ((tappetlaw01_of.f a0).bind fun t306 => ((tappetlaw01_of.f a2).bind fun t307 => ((word_Less.f k 0 t306 t307).bind fun bt308 => (if bt300.2 = true then (if bt304.2 = true then (tappetlaw01_WordRanks.j0 k a0 a1 a2 t297 bt300.1 bt304.1 bt308.1 (!bt308.2)) else (tappetlaw01_WordRanks.j0 k a0 a1 a2 t297 bt300.1 bt304.1 bt308.1 true)) else (tappetlaw01_WordRanks.j0 k a0 a1 a2 t297 bt300.1 bt304.1 bt308.1 true)))))))))))) = some r := h
  clear h
  replace H := Option.bind_eq_some_iff.mp H
  obtain ⟨t297, A40, H⟩ := H
  replace H : ((tappetlaw01_of.f a0).bind fun t298 => ((tappetlaw01_of.f a1).bind fun t299 => ((word_Less.f k 0 t298 t299).bind fun bt300 => ((tappetlaw01_of.f a1).bind fun t302 => ((tappetlaw01_of.f a2).bind fun t303 => ((word_Less.f k 0 t302 t303).bind fun bt304 => ((tappetlaw01_of.f a0).bind fun t306 => ((tappetlaw01_of.f a2).bind fun t307 => ((word_Less.f k 0 t306 t307).bind fun bt308 => (if bt300.2 = true then (if bt304.2 = true then (tappetlaw01_WordRanks.j0 k a0 a1 a2 t297 bt300.1 bt304.1 bt308.1 (!bt308.2)) else (tappetlaw01_WordRanks.j0 k a0 a1 a2 t297 bt300.1 bt304.1 bt308.1 true)) else (tappetlaw01_WordRanks.j0 k a0 a1 a2 t297 bt300.1 bt304.1 bt308.1 true))))))))))) = some r := H
  have A4 := Aside0.mk A40
  clear A40
  replace H := Option.bind_eq_some_iff.mp H
  obtain ⟨t298, A50, H⟩ := H
  replace H : ((tappetlaw01_of.f a1).bind fun t299 => ((word_Less.f k 0 t298 t299).bind fun bt300 => ((tappetlaw01_of.f a1).bind fun t302 => ((tappetlaw01_of.f a2).bind fun t303 => ((word_Less.f k 0 t302 t303).bind fun bt304 => ((tappetlaw01_of.f a0).bind fun t306 => ((tappetlaw01_of.f a2).bind fun t307 => ((word_Less.f k 0 t306 t307).bind fun bt308 => (if bt300.2 = true then (if bt304.2 = true then (tappetlaw01_WordRanks.j0 k a0 a1 a2 t297 bt300.1 bt304.1 bt308.1 (!bt308.2)) else (tappetlaw01_WordRanks.j0 k a0 a1 a2 t297 bt300.1 bt304.1 bt308.1 true)) else (tappetlaw01_WordRanks.j0 k a0 a1 a2 t297 bt300.1 bt304.1 bt308.1 true)))))))))) = some r := H
  have A5 := Aside0.mk A50
  clear A50
  replace H := Option.bind_eq_some_iff.mp H
  obtain ⟨t299, A60, H⟩ := H
  replace H : ((word_Less.f k 0 t298 t299).bind fun bt300 => ((tappetlaw01_of.f a1).bind fun t302 => ((tappetlaw01_of.f a2).bind fun t303 => ((word_Less.f k 0 t302 t303).bind fun bt304 => ((tappetlaw01_of.f a0).bind fun t306 => ((tappetlaw01_of.f a2).bind fun t307 => ((word_Less.f k 0 t306 t307).bind fun bt308 => (if bt300.2 = true then (if bt304.2 = true then (tappetlaw01_WordRanks.j0 k a0 a1 a2 t297 bt300.1 bt304.1 bt308.1 (!bt308.2)) else (tappetlaw01_WordRanks.j0 k a0 a1 a2 t297 bt300.1 bt304.1 bt308.1 true)) else (tappetlaw01_WordRanks.j0 k a0 a1 a2 t297 bt300.1 bt304.1 bt308.1 true))))))))) = some r := H
  have A6 := Aside0.mk A60
  clear A60
  replace H := Option.bind_eq_some_iff.mp H
  obtain ⟨⟨t300, t301⟩, A70, H⟩ := H
  replace H : ((tappetlaw01_of.f a1).bind fun t302 => ((tappetlaw01_of.f a2).bind fun t303 => ((word_Less.f k 0 t302 t303).bind fun bt304 => ((tappetlaw01_of.f a0).bind fun t306 => ((tappetlaw01_of.f a2).bind fun t307 => ((word_Less.f k 0 t306 t307).bind fun bt308 => (if t301 = true then (if bt304.2 = true then (tappetlaw01_WordRanks.j0 k a0 a1 a2 t297 t300 bt304.1 bt308.1 (!bt308.2)) else (tappetlaw01_WordRanks.j0 k a0 a1 a2 t297 t300 bt304.1 bt308.1 true)) else (tappetlaw01_WordRanks.j0 k a0 a1 a2 t297 t300 bt304.1 bt308.1 true)))))))) = some r := H
  have A7 := Aside0.mk A70
  clear A70
  replace H := Option.bind_eq_some_iff.mp H
  obtain ⟨t302, A80, H⟩ := H
  replace H : ((tappetlaw01_of.f a2).bind fun t303 => ((word_Less.f k 0 t302 t303).bind fun bt304 => ((tappetlaw01_of.f a0).bind fun t306 => ((tappetlaw01_of.f a2).bind fun t307 => ((word_Less.f k 0 t306 t307).bind fun bt308 => (if t301 = true then (if bt304.2 = true then (tappetlaw01_WordRanks.j0 k a0 a1 a2 t297 t300 bt304.1 bt308.1 (!bt308.2)) else (tappetlaw01_WordRanks.j0 k a0 a1 a2 t297 t300 bt304.1 bt308.1 true)) else (tappetlaw01_WordRanks.j0 k a0 a1 a2 t297 t300 bt304.1 bt308.1 true))))))) = some r := H
  have A8 := Aside0.mk A80
  clear A80
  obtain rfl : t299 = t302 := Option.some.inj (A6.out.symm.trans A8.out)
  replace H := Option.bind_eq_some_iff.mp H
  obtain ⟨t303, A90, H⟩ := H
  replace H : ((word_Less.f k 0 t299 t303).bind fun bt304 => ((tappetlaw01_of.f a0).bind fun t306 => ((tappetlaw01_of.f a2).bind fun t307 => ((word_Less.f k 0 t306 t307).bind fun bt308 => (if t301 = true then (if bt304.2 = true then (tappetlaw01_WordRanks.j0 k a0 a1 a2 t297 t300 bt304.1 bt308.1 (!bt308.2)) else (tappetlaw01_WordRanks.j0 k a0 a1 a2 t297 t300 bt304.1 bt308.1 true)) else (tappetlaw01_WordRanks.j0 k a0 a1 a2 t297 t300 bt304.1 bt308.1 true)))))) = some r := H
  have A9 := Aside0.mk A90
  clear A90
  replace H := Option.bind_eq_some_iff.mp H
  obtain ⟨⟨t304, t305⟩, A100, H⟩ := H
  replace H : ((tappetlaw01_of.f a0).bind fun t306 => ((tappetlaw01_of.f a2).bind fun t307 => ((word_Less.f k 0 t306 t307).bind fun bt308 => (if t301 = true then (if t305 = true then (tappetlaw01_WordRanks.j0 k a0 a1 a2 t297 t300 t304 bt308.1 (!bt308.2)) else (tappetlaw01_WordRanks.j0 k a0 a1 a2 t297 t300 t304 bt308.1 true)) else (tappetlaw01_WordRanks.j0 k a0 a1 a2 t297 t300 t304 bt308.1 true))))) = some r := H
  have A10 := Aside0.mk A100
  clear A100
  replace H := Option.bind_eq_some_iff.mp H
  obtain ⟨t306, A110, H⟩ := H
  replace H : ((tappetlaw01_of.f a2).bind fun t307 => ((word_Less.f k 0 t306 t307).bind fun bt308 => (if t301 = true then (if t305 = true then (tappetlaw01_WordRanks.j0 k a0 a1 a2 t297 t300 t304 bt308.1 (!bt308.2)) else (tappetlaw01_WordRanks.j0 k a0 a1 a2 t297 t300 t304 bt308.1 true)) else (tappetlaw01_WordRanks.j0 k a0 a1 a2 t297 t300 t304 bt308.1 true)))) = some r := H
  have A11 := Aside0.mk A110
  clear A110
  obtain rfl : t298 = t306 := Option.some.inj (A5.out.symm.trans A11.out)
  replace H := Option.bind_eq_some_iff.mp H
  obtain ⟨t307, A120, H⟩ := H
  replace H : ((word_Less.f k 0 t298 t307).bind fun bt308 => (if t301 = true then (if t305 = true then (tappetlaw01_WordRanks.j0 k a0 a1 a2 t297 t300 t304 bt308.1 (!bt308.2)) else (tappetlaw01_WordRanks.j0 k a0 a1 a2 t297 t300 t304 bt308.1 true)) else (tappetlaw01_WordRanks.j0 k a0 a1 a2 t297 t300 t304 bt308.1 true))) = some r := H
  have A12 := Aside0.mk A120
  clear A120
  obtain rfl : t303 = t307 := Option.some.inj (A9.out.symm.trans A12.out)
  replace H := Option.bind_eq_some_iff.mp H
  obtain ⟨⟨t308, t309⟩, A130, H⟩ := H
  replace H : (if t301 = true then (if t305 = true then (tappetlaw01_WordRanks.j0 k a0 a1 a2 t297 t300 t304 t308 (!t309)) else (tappetlaw01_WordRanks.j0 k a0 a1 a2 t297 t300 t304 t308 true)) else (tappetlaw01_WordRanks.j0 k a0 a1 a2 t297 t300 t304 t308 true)) = some r := H
  have A13 := Aside0.mk A130
  clear A130
  have HC14 := Aside0.mk H
  clear H
  go_enter Try.func12, Try.ntmps12
  go_upto_region 5 with (first | ((with_reducible refine gate_callee (f := 22) rfl ?_); refine goesL_ (some 19) rfl rfl Try.func22 (by kernel_rfl) rfl #[] rfl (by (try simp only [List.map_toArray, List.map_cons, List.map_nil]); first | done | rfl | (simp only [List.length_drop, List.length_take]; rfl)) ?_; (with_reducible refine (tappetlaw01_awake.calls k  t297 _ A4.out).mono ?_); rintro e w' ⟨rfl, ⟨nd, rfl⟩⟩; refine ⟨_, rfl, ?_⟩) | ((with_reducible refine gate_callee (f := 24) rfl ?_); refine goesL_ (some 22) rfl rfl Try.func24 (by kernel_rfl) rfl #[.int .i64 a0] rfl (by (try simp only [List.map_toArray, List.map_cons, List.map_nil]); first | done | rfl | (simp only [List.length_drop, List.length_take]; rfl)) ?_; (with_reducible refine (tappetlaw01_of.calls a0 t298 _ A5.out).mono ?_); rintro e w' ⟨rfl, ⟨nd, rfl⟩⟩; refine ⟨_, rfl, ?_⟩) | ((with_reducible refine gate_callee (f := 24) rfl ?_); refine goesL_ (some 24) rfl rfl Try.func24 (by kernel_rfl) rfl #[.int .i64 a1] rfl (by (try simp only [List.map_toArray, List.map_cons, List.map_nil]); first | done | rfl | (simp only [List.length_drop, List.length_take]; rfl)) ?_; (with_reducible refine (tappetlaw01_of.calls a1 t299 _ A6.out).mono ?_); rintro e w' ⟨rfl, ⟨nd, rfl⟩⟩; refine ⟨_, rfl, ?_⟩) | ((with_reducible refine gate_callee (f := 36) rfl ?_); refine goesL_ (some 25) rfl rfl Try.func36 (by kernel_rfl) rfl #[.int .i64 0, .int .u64 t298, .int .u64 t299] rfl (by (try simp only [List.map_toArray, List.map_cons, List.map_nil]); first | done | rfl | (simp only [List.length_drop, List.length_take]; rfl)) ?_; (with_reducible refine (word_Less.calls k 0 t298 t299 t300 t301 _ A7.out).mono ?_); rintro e w' ⟨rfl, ⟨nd, rfl⟩⟩; refine ⟨_, rfl, ?_⟩) | ((with_reducible refine gate_callee (f := 24) rfl ?_); refine goesL_ (some 30) rfl rfl Try.func24 (by kernel_rfl) rfl #[.int .i64 a1] rfl (by (try simp only [List.map_toArray, List.map_cons, List.map_nil]); first | done | rfl | (simp only [List.length_drop, List.length_take]; rfl)) ?_; (with_reducible refine (tappetlaw01_of.calls a1 t299 _ A8.out).mono ?_); rintro e w' ⟨rfl, ⟨nd, rfl⟩⟩; refine ⟨_, rfl, ?_⟩) | ((with_reducible refine gate_callee (f := 24) rfl ?_); refine goesL_ (some 32) rfl rfl Try.func24 (by kernel_rfl) rfl #[.int .i64 a2] rfl (by (try simp only [List.map_toArray, List.map_cons, List.map_nil]); first | done | rfl | (simp only [List.length_drop, List.length_take]; rfl)) ?_; (with_reducible refine (tappetlaw01_of.calls a2 t303 _ A9.out).mono ?_); rintro e w' ⟨rfl, ⟨nd, rfl⟩⟩; refine ⟨_, rfl, ?_⟩) | ((with_reducible refine gate_callee (f := 36) rfl ?_); refine goesL_ (some 33) rfl rfl Try.func36 (by kernel_rfl) rfl #[.int .i64 0, .int .u64 t299, .int .u64 t303] rfl (by (try simp only [List.map_toArray, List.map_cons, List.map_nil]); first | done | rfl | (simp only [List.length_drop, List.length_take]; rfl)) ?_; (with_reducible refine (word_Less.calls k 0 t299 t303 t304 t305 _ A10.out).mono ?_); rintro e w' ⟨rfl, ⟨nd, rfl⟩⟩; refine ⟨_, rfl, ?_⟩) | ((with_reducible refine gate_callee (f := 24) rfl ?_); refine goesL_ (some 38) rfl rfl Try.func24 (by kernel_rfl) rfl #[.int .i64 a0] rfl (by (try simp only [List.map_toArray, List.map_cons, List.map_nil]); first | done | rfl | (simp only [List.length_drop, List.length_take]; rfl)) ?_; (with_reducible refine (tappetlaw01_of.calls a0 t298 _ A11.out).mono ?_); rintro e w' ⟨rfl, ⟨nd, rfl⟩⟩; refine ⟨_, rfl, ?_⟩) | ((with_reducible refine gate_callee (f := 24) rfl ?_); refine goesL_ (some 40) rfl rfl Try.func24 (by kernel_rfl) rfl #[.int .i64 a2] rfl (by (try simp only [List.map_toArray, List.map_cons, List.map_nil]); first | done | rfl | (simp only [List.length_drop, List.length_take]; rfl)) ?_; (with_reducible refine (tappetlaw01_of.calls a2 t303 _ A12.out).mono ?_); rintro e w' ⟨rfl, ⟨nd, rfl⟩⟩; refine ⟨_, rfl, ?_⟩) | ((with_reducible refine gate_callee (f := 36) rfl ?_); refine goesL_ (some 41) rfl rfl Try.func36 (by kernel_rfl) rfl #[.int .i64 0, .int .u64 t298, .int .u64 t303] rfl (by (try simp only [List.map_toArray, List.map_cons, List.map_nil]); first | done | rfl | (simp only [List.length_drop, List.length_take]; rfl)) ?_; (with_reducible refine (word_Less.calls k 0 t298 t303 t308 t309 _ A13.out).mono ?_); rintro e w' ⟨rfl, ⟨nd, rfl⟩⟩; refine ⟨_, rfl, ?_⟩))
  (try simp only [Act.put, List.setIfInBounds_toArray, List.set_cons_zero, List.set_cons_succ])
  go_cut [53] (fun v53 wc => ∃ (kq : Nat) (x53_13 : Bool), v53 = .bool x53_13 ∧ Aside0 (tappetlaw01_WordRanks.j0 kq a0 a1 a2 t297 t300 t304 t308 x53_13 = some r) ∧ Aside0 (kq ≤ k) ∧ Drawn0 w wc)
  case first =>
    have H := HC14.out
    clear HC14
    by_cases c15 : t301 = true
    · subst c15
      have H1 : (if t305 = true then (tappetlaw01_WordRanks.j0 k a0 a1 a2 t297 t300 t304 t308 (!t309)) else (tappetlaw01_WordRanks.j0 k a0 a1 a2 t297 t300 t304 t308 true)) = some r := by rw [if_pos rfl] at H; exact H
      clear H
      have H := H1
      clear H1
      by_cases c16 : t305 = true
      · subst c16
        have H1 : (tappetlaw01_WordRanks.j0 k a0 a1 a2 t297 t300 t304 t308 (!t309)) = some r := by rw [if_pos rfl] at H; exact H
        clear H
        have H := H1
        clear H1
        have H' := Aside0.mk H
        clear H
        go_wp2
        go_meet
        case rel => exact ⟨_, (!t309), (by first | rfl | (simp; done) | (simp [*]; done)), H', ⟨by first | omega | exact Nat.le_refl _⟩, by repeat (first | exact Drawn0.refl _ | apply Drawn0.step)⟩
      · replace c16 := Bool.eq_false_iff.mpr c16
        subst c16
        have H1 : (tappetlaw01_WordRanks.j0 k a0 a1 a2 t297 t300 t304 t308 true) = some r := by rw [if_neg (show ¬ (false = true) by decide)] at H; exact H
        clear H
        have H := H1
        clear H1
        have H' := Aside0.mk H
        clear H
        go_wp2
        go_meet
        case rel => exact ⟨_, (true), (by first | rfl | (simp; done) | (simp [*]; done)), H', ⟨by first | omega | exact Nat.le_refl _⟩, by repeat (first | exact Drawn0.refl _ | apply Drawn0.step)⟩
    · replace c15 := Bool.eq_false_iff.mpr c15
      subst c15
      have H1 : (tappetlaw01_WordRanks.j0 k a0 a1 a2 t297 t300 t304 t308 true) = some r := by rw [if_neg (show ¬ (false = true) by decide)] at H; exact H
      clear H
      have H := H1
      clear H1
      have H' := Aside0.mk H
      clear H
      go_wp2
      go_meet
      case rel => exact ⟨_, (true), (by first | rfl | (simp; done) | (simp [*]; done)), H', ⟨by first | omega | exact Nat.le_refl _⟩, by repeat (first | exact Drawn0.refl _ | apply Drawn0.step)⟩
  case rest =>
    clear HC14
    try clear c1
    try clear c2
    try clear p2
    try clear c3
    try clear c12
    try clear c15
    try clear c16
    obtain ⟨kq, x53_13, rfl, HA, HJ13, ⟨mc13, rfl⟩⟩ := hcut
    cases kq with
    | zero => exact absurd HA.out (by simp [tappetlaw01_WordRanks.j0])
    | succ kj13 =>
      have H := HA.out
      clear HA
      simp only [tappetlaw01_WordRanks.j0] at H
      by_cases c17 : x53_13 = true
      · subst c17
        have H1 : (if t297 = true then ((tappetlaw01_of.f a0).bind fun t310 => (if t310 = 0 then (some true) else ((tappetlaw01_of.f a1).bind fun t311 => (if t311 = 0 then (some true) else ((tappetlaw01_of.f a2).bind fun t312 => (some (t312 == 0))))))) else (some false)) = some r := by rw [if_pos rfl] at H; exact H
        clear H
        have H := H1
        clear H1
        by_cases c18 : t297 = true
        · subst c18
          have H1 : ((tappetlaw01_of.f a0).bind fun t310 => (if t310 = 0 then (some true) else ((tappetlaw01_of.f a1).bind fun t311 => (if t311 = 0 then (some true) else ((tappetlaw01_of.f a2).bind fun t312 => (some (t312 == 0))))))) = some r := by rw [if_pos rfl] at H; exact H
          clear H
          have H := H1
          clear H1
          replace H := Option.bind_eq_some_iff.mp H
          obtain ⟨t310, A190, H⟩ := H
          replace H : (if t310 = 0 then (some true) else ((tappetlaw01_of.f a1).bind fun t311 => (if t311 = 0 then (some true) else ((tappetlaw01_of.f a2).bind fun t312 => (some (t312 == 0)))))) = some r := H
          have A19 := Aside0.mk A190
          clear A190
          by_cases c20 : t310 = 0
          · rw [if_pos c20] at H
            have c20b0 : (t310 == 0) = true := beq_iff_eq.mpr c20
            have c20b1 : (t310 != 0) = false := bne_eq_false_iff_eq.mpr c20
            clear c20
            obtain rfl := Option.some.inj H
            go_wp2_with (first | (go_at_call 24; (with_reducible refine (tappetlaw01_of.calls a0 t310 _ A19.out).mono ?_); rintro e w' ⟨rfl, ⟨nd, rfl⟩⟩))
            go_ret
            exact ⟨by first | rfl | (simp; done) | (simp [*]; done), by repeat (first | exact Drawn0.refl _ | apply Drawn0.step)⟩
            all_goals (exfalso; first | omega | (simp_all; done) | (simp_all; omega))
          · rw [if_neg c20] at H
            have c20b0 : (t310 == 0) = false := beq_eq_false_iff_ne.mpr c20
            have c20b1 : (t310 != 0) = true := bne_iff_ne.mpr c20
            replace H := Option.bind_eq_some_iff.mp H
            obtain ⟨t311, A210, H⟩ := H
            replace H : (if t311 = 0 then (some true) else ((tappetlaw01_of.f a2).bind fun t312 => (some (t312 == 0)))) = some r := H
            have A21 := Aside0.mk A210
            clear A210
            by_cases c22 : t311 = 0
            · rw [if_pos c22] at H
              have c22b0 : (t311 == 0) = true := beq_iff_eq.mpr c22
              have c22b1 : (t311 != 0) = false := bne_eq_false_iff_eq.mpr c22
              clear c22
              obtain rfl := Option.some.inj H
              go_wp2_with (first | (go_at_call 24; (with_reducible refine (tappetlaw01_of.calls a0 t310 _ A19.out).mono ?_); rintro e w' ⟨rfl, ⟨nd, rfl⟩⟩) | (go_at_call 24; (with_reducible refine (tappetlaw01_of.calls a1 t311 _ A21.out).mono ?_); rintro e w' ⟨rfl, ⟨nd, rfl⟩⟩))
              go_ret
              exact ⟨by first | rfl | (simp; done) | (simp [*]; done), by repeat (first | exact Drawn0.refl _ | apply Drawn0.step)⟩
              all_goals (exfalso; first | omega | (simp_all; done) | (simp_all; omega))
            · rw [if_neg c22] at H
              have c22b0 : (t311 == 0) = false := beq_eq_false_iff_ne.mpr c22
              have c22b1 : (t311 != 0) = true := bne_iff_ne.mpr c22
              replace H := Option.bind_eq_some_iff.mp H
              obtain ⟨t312, A230, H⟩ := H
              replace H : (some (t312 == 0)) = some r := H
              have A23 := Aside0.mk A230
              clear A230
              obtain rfl := Option.some.inj H
              go_wp2_with (first | (go_at_call 24; (with_reducible refine (tappetlaw01_of.calls a0 t310 _ A19.out).mono ?_); rintro e w' ⟨rfl, ⟨nd, rfl⟩⟩) | (go_at_call 24; (with_reducible refine (tappetlaw01_of.calls a1 t311 _ A21.out).mono ?_); rintro e w' ⟨rfl, ⟨nd, rfl⟩⟩) | (go_at_call 24; (with_reducible refine (tappetlaw01_of.calls a2 t312 _ A23.out).mono ?_); rintro e w' ⟨rfl, ⟨nd, rfl⟩⟩))
              go_ret
              exact ⟨by first | rfl | (simp; done) | (simp [*]; done), by repeat (first | exact Drawn0.refl _ | apply Drawn0.step)⟩
              all_goals (exfalso; first | omega | (simp_all; done) | (simp_all; omega))
        · replace c18 := Bool.eq_false_iff.mpr c18
          subst c18
          have H1 : (some false) = some r := by rw [if_neg (show ¬ (false = true) by decide)] at H; exact H
          clear H
          have H := H1
          clear H1
          obtain rfl := Option.some.inj H
          go_wp2
          go_ret
          exact ⟨by first | rfl | (simp; done) | (simp [*]; done), by repeat (first | exact Drawn0.refl _ | apply Drawn0.step)⟩
          all_goals (exfalso; first | omega | (simp_all; done) | (simp_all; omega))
      · replace c17 := Bool.eq_false_iff.mpr c17
        subst c17
        have H1 : ((tappetlaw01_of.f a0).bind fun t313 => ((tappetlaw01_of.f a1).bind fun t314 => ((word_Less.f kj13 2 t313 t314).bind fun bt315 => ((tappetlaw01_of.f a0).bind fun t317 => ((tappetlaw01_of.f a1).bind fun t318 => ((word_Less.f kj13 1 t317 t318).bind fun bt319 => (if t297 = true then (if (t300 == (decide (a0 < a1))) = true then (if (bt315.1 == (a0 == a1)) = true then (if t300 = true then (if (bt319.1 == true) = true then (if t304 = true then (some t308) else (some true)) else (some false)) else (if (bt319.1 == bt315.1) = true then (some true) else (some false))) else (some false)) else (some false)) else (some false)))))))) = some r := by rw [if_neg (show ¬ (false = true) by decide)] at H; exact H
        clear H
        have H := H1
        clear H1
        replace H := Option.bind_eq_some_iff.mp H
        obtain ⟨t313, A240, H⟩ := H
        replace H : ((tappetlaw01_of.f a1).bind fun t314 => ((word_Less.f kj13 2 t313 t314).bind fun bt315 => ((tappetlaw01_of.f a0).bind fun t317 => ((tappetlaw01_of.f a1).bind fun t318 => ((word_Less.f kj13 1 t317 t318).bind fun bt319 => (if t297 = true then (if (t300 == (decide (a0 < a1))) = true then (if (bt315.1 == (a0 == a1)) = true then (if t300 = true then (if (bt319.1 == true) = true then (if t304 = true then (some t308) else (some true)) else (some false)) else (if (bt319.1 == bt315.1) = true then (some true) else (some false))) else (some false)) else (some false)) else (some false))))))) = some r := H
        have A24 := Aside0.mk A240
        clear A240
        replace H := Option.bind_eq_some_iff.mp H
        obtain ⟨t314, A250, H⟩ := H
        replace H : ((word_Less.f kj13 2 t313 t314).bind fun bt315 => ((tappetlaw01_of.f a0).bind fun t317 => ((tappetlaw01_of.f a1).bind fun t318 => ((word_Less.f kj13 1 t317 t318).bind fun bt319 => (if t297 = true then (if (t300 == (decide (a0 < a1))) = true then (if (bt315.1 == (a0 == a1)) = true then (if t300 = true then (if (bt319.1 == true) = true then (if t304 = true then (some t308) else (some true)) else (some false)) else (if (bt319.1 == bt315.1) = true then (some true) else (some false))) else (some false)) else (some false)) else (some false)))))) = some r := H
        have A25 := Aside0.mk A250
        clear A250
        replace H := Option.bind_eq_some_iff.mp H
        obtain ⟨⟨t315, t316⟩, A260, H⟩ := H
        replace H : ((tappetlaw01_of.f a0).bind fun t317 => ((tappetlaw01_of.f a1).bind fun t318 => ((word_Less.f kj13 1 t317 t318).bind fun bt319 => (if t297 = true then (if (t300 == (decide (a0 < a1))) = true then (if (t315 == (a0 == a1)) = true then (if t300 = true then (if (bt319.1 == true) = true then (if t304 = true then (some t308) else (some true)) else (some false)) else (if (bt319.1 == t315) = true then (some true) else (some false))) else (some false)) else (some false)) else (some false))))) = some r := H
        have A26 := Aside0.mk A260
        clear A260
        replace H := Option.bind_eq_some_iff.mp H
        obtain ⟨t317, A270, H⟩ := H
        replace H : ((tappetlaw01_of.f a1).bind fun t318 => ((word_Less.f kj13 1 t317 t318).bind fun bt319 => (if t297 = true then (if (t300 == (decide (a0 < a1))) = true then (if (t315 == (a0 == a1)) = true then (if t300 = true then (if (bt319.1 == true) = true then (if t304 = true then (some t308) else (some true)) else (some false)) else (if (bt319.1 == t315) = true then (some true) else (some false))) else (some false)) else (some false)) else (some false)))) = some r := H
        have A27 := Aside0.mk A270
        clear A270
        obtain rfl : t313 = t317 := Option.some.inj (A24.out.symm.trans A27.out)
        replace H := Option.bind_eq_some_iff.mp H
        obtain ⟨t318, A280, H⟩ := H
        replace H : ((word_Less.f kj13 1 t313 t318).bind fun bt319 => (if t297 = true then (if (t300 == (decide (a0 < a1))) = true then (if (t315 == (a0 == a1)) = true then (if t300 = true then (if (bt319.1 == true) = true then (if t304 = true then (some t308) else (some true)) else (some false)) else (if (bt319.1 == t315) = true then (some true) else (some false))) else (some false)) else (some false)) else (some false))) = some r := H
        have A28 := Aside0.mk A280
        clear A280
        obtain rfl : t314 = t318 := Option.some.inj (A25.out.symm.trans A28.out)
        replace H := Option.bind_eq_some_iff.mp H
        obtain ⟨⟨t319, t320⟩, A290, H⟩ := H
        replace H : (if t297 = true then (if (t300 == (decide (a0 < a1))) = true then (if (t315 == (a0 == a1)) = true then (if t300 = true then (if (t319 == true) = true then (if t304 = true then (some t308) else (some true)) else (some false)) else (if (t319 == t315) = true then (some true) else (some false))) else (some false)) else (some false)) else (some false)) = some r := H
        have A29 := Aside0.mk A290
        clear A290
        by_cases c30 : t297 = true
        · subst c30
          have H1 : (if (t300 == (decide (a0 < a1))) = true then (if (t315 == (a0 == a1)) = true then (if t300 = true then (if (t319 == true) = true then (if t304 = true then (some t308) else (some true)) else (some false)) else (if (t319 == t315) = true then (some true) else (some false))) else (some false)) else (some false)) = some r := by rw [if_pos rfl] at H; exact H
          clear H
          have H := H1
          clear H1
          by_cases c31 : (t300 == (decide (a0 < a1))) = true
          · rw [if_pos c31] at H
            have c31b0 : (t300 == (decide (a0 < a1))) = true := c31
            (try (have c31b1 : decide (t300 = (decide (a0 < a1))) = true := by simpa using c31))
            (try (have c31b2 : (t300 == (decide (a0 < a1))) = true := by simpa using c31))
            clear c31
            by_cases c32 : (t315 == (a0 == a1)) = true
            · rw [if_pos c32] at H
              have c32b0 : (t315 == (a0 == a1)) = true := c32
              (try (have c32b1 : decide (t315 = (a0 == a1)) = true := by simpa using c32))
              (try (have c32b2 : (t315 == (a0 == a1)) = true := by simpa using c32))
              clear c32
              by_cases c33 : t300 = true
              · subst c33
                have H1 : (if (t319 == true) = true then (if t304 = true then (some t308) else (some true)) else (some false)) = some r := by rw [if_pos rfl] at H; exact H
                clear H
                have H := H1
                clear H1
                by_cases c34 : (t319 == true) = true
                · rw [if_pos c34] at H
                  have c34b0 : (t319 == true) = true := c34
                  (try (have c34b1 : decide (t319 = true) = true := by simpa using c34))
                  (try (have c34b2 : (t319 == true) = true := by simpa using c34))
                  clear c34
                  by_cases c35 : t304 = true
                  · subst c35
                    have H1 : (some t308) = some r := by rw [if_pos rfl] at H; exact H
                    clear H
                    have H := H1
                    clear H1
                    obtain rfl := Option.some.inj H
                    go_wp2_with (first | ((with_reducible refine gate_callee (f := 24) rfl ?_); refine goesL_ (some 75) rfl rfl Try.func24 (by kernel_rfl) rfl #[.int .i64 a0] rfl (by (try simp only [List.map_toArray, List.map_cons, List.map_nil]); first | done | rfl | (simp only [List.length_drop, List.length_take]; rfl)) ?_; (with_reducible refine (tappetlaw01_of.calls a0 t313 _ A24.out).mono ?_); rintro e w' ⟨rfl, ⟨nd, rfl⟩⟩; refine ⟨_, rfl, ?_⟩) | ((with_reducible refine gate_callee (f := 24) rfl ?_); refine goesL_ (some 77) rfl rfl Try.func24 (by kernel_rfl) rfl #[.int .i64 a1] rfl (by (try simp only [List.map_toArray, List.map_cons, List.map_nil]); first | done | rfl | (simp only [List.length_drop, List.length_take]; rfl)) ?_; (with_reducible refine (tappetlaw01_of.calls a1 t314 _ A25.out).mono ?_); rintro e w' ⟨rfl, ⟨nd, rfl⟩⟩; refine ⟨_, rfl, ?_⟩) | ((with_reducible refine gate_callee (f := 36) rfl ?_); refine goesL_ (some 78) rfl rfl Try.func36 (by kernel_rfl) rfl #[.int .i64 2, .int .u64 t313, .int .u64 t314] rfl (by (try simp only [List.map_toArray, List.map_cons, List.map_nil]); first | done | rfl | (simp only [List.length_drop, List.length_take]; rfl)) ?_; (with_reducible refine (word_Less.calls kj13 2 t313 t314 t315 t316 _ A26.out).mono ?_); rintro e w' ⟨rfl, ⟨nd, rfl⟩⟩; refine ⟨_, rfl, ?_⟩) | ((with_reducible refine gate_callee (f := 24) rfl ?_); refine goesL_ (some 83) rfl rfl Try.func24 (by kernel_rfl) rfl #[.int .i64 a0] rfl (by (try simp only [List.map_toArray, List.map_cons, List.map_nil]); first | done | rfl | (simp only [List.length_drop, List.length_take]; rfl)) ?_; (with_reducible refine (tappetlaw01_of.calls a0 t313 _ A27.out).mono ?_); rintro e w' ⟨rfl, ⟨nd, rfl⟩⟩; refine ⟨_, rfl, ?_⟩) | ((with_reducible refine gate_callee (f := 24) rfl ?_); refine goesL_ (some 85) rfl rfl Try.func24 (by kernel_rfl) rfl #[.int .i64 a1] rfl (by (try simp only [List.map_toArray, List.map_cons, List.map_nil]); first | done | rfl | (simp only [List.length_drop, List.length_take]; rfl)) ?_; (with_reducible refine (tappetlaw01_of.calls a1 t314 _ A28.out).mono ?_); rintro e w' ⟨rfl, ⟨nd, rfl⟩⟩; refine ⟨_, rfl, ?_⟩) | ((with_reducible refine gate_callee (f := 36) rfl ?_); refine goesL_ (some 86) rfl rfl Try.func36 (by kernel_rfl) rfl #[.int .i64 1, .int .u64 t313, .int .u64 t314] rfl (by (try simp only [List.map_toArray, List.map_cons, List.map_nil]); first | done | rfl | (simp only [List.length_drop, List.length_take]; rfl)) ?_; (with_reducible refine (word_Less.calls kj13 1 t313 t314 t319 t320 _ A29.out).mono ?_); rintro e w' ⟨rfl, ⟨nd, rfl⟩⟩; refine ⟨_, rfl, ?_⟩))
                    go_ret
                    exact ⟨by first | rfl | (simp; done) | (simp [*]; done), by repeat (first | exact Drawn0.refl _ | apply Drawn0.step)⟩
                    all_goals (exfalso; first | omega | (simp_all; done) | (simp_all; omega))
                  · replace c35 := Bool.eq_false_iff.mpr c35
                    subst c35
                    have H1 : (some true) = some r := by rw [if_neg (show ¬ (false = true) by decide)] at H; exact H
                    clear H
                    have H := H1
                    clear H1
                    obtain rfl := Option.some.inj H
                    go_wp2_with (first | ((with_reducible refine gate_callee (f := 24) rfl ?_); refine goesL_ (some 75) rfl rfl Try.func24 (by kernel_rfl) rfl #[.int .i64 a0] rfl (by (try simp only [List.map_toArray, List.map_cons, List.map_nil]); first | done | rfl | (simp only [List.length_drop, List.length_take]; rfl)) ?_; (with_reducible refine (tappetlaw01_of.calls a0 t313 _ A24.out).mono ?_); rintro e w' ⟨rfl, ⟨nd, rfl⟩⟩; refine ⟨_, rfl, ?_⟩) | ((with_reducible refine gate_callee (f := 24) rfl ?_); refine goesL_ (some 77) rfl rfl Try.func24 (by kernel_rfl) rfl #[.int .i64 a1] rfl (by (try simp only [List.map_toArray, List.map_cons, List.map_nil]); first | done | rfl | (simp only [List.length_drop, List.length_take]; rfl)) ?_; (with_reducible refine (tappetlaw01_of.calls a1 t314 _ A25.out).mono ?_); rintro e w' ⟨rfl, ⟨nd, rfl⟩⟩; refine ⟨_, rfl, ?_⟩) | ((with_reducible refine gate_callee (f := 36) rfl ?_); refine goesL_ (some 78) rfl rfl Try.func36 (by kernel_rfl) rfl #[.int .i64 2, .int .u64 t313, .int .u64 t314] rfl (by (try simp only [List.map_toArray, List.map_cons, List.map_nil]); first | done | rfl | (simp only [List.length_drop, List.length_take]; rfl)) ?_; (with_reducible refine (word_Less.calls kj13 2 t313 t314 t315 t316 _ A26.out).mono ?_); rintro e w' ⟨rfl, ⟨nd, rfl⟩⟩; refine ⟨_, rfl, ?_⟩) | ((with_reducible refine gate_callee (f := 24) rfl ?_); refine goesL_ (some 83) rfl rfl Try.func24 (by kernel_rfl) rfl #[.int .i64 a0] rfl (by (try simp only [List.map_toArray, List.map_cons, List.map_nil]); first | done | rfl | (simp only [List.length_drop, List.length_take]; rfl)) ?_; (with_reducible refine (tappetlaw01_of.calls a0 t313 _ A27.out).mono ?_); rintro e w' ⟨rfl, ⟨nd, rfl⟩⟩; refine ⟨_, rfl, ?_⟩) | ((with_reducible refine gate_callee (f := 24) rfl ?_); refine goesL_ (some 85) rfl rfl Try.func24 (by kernel_rfl) rfl #[.int .i64 a1] rfl (by (try simp only [List.map_toArray, List.map_cons, List.map_nil]); first | done | rfl | (simp only [List.length_drop, List.length_take]; rfl)) ?_; (with_reducible refine (tappetlaw01_of.calls a1 t314 _ A28.out).mono ?_); rintro e w' ⟨rfl, ⟨nd, rfl⟩⟩; refine ⟨_, rfl, ?_⟩) | ((with_reducible refine gate_callee (f := 36) rfl ?_); refine goesL_ (some 86) rfl rfl Try.func36 (by kernel_rfl) rfl #[.int .i64 1, .int .u64 t313, .int .u64 t314] rfl (by (try simp only [List.map_toArray, List.map_cons, List.map_nil]); first | done | rfl | (simp only [List.length_drop, List.length_take]; rfl)) ?_; (with_reducible refine (word_Less.calls kj13 1 t313 t314 t319 t320 _ A29.out).mono ?_); rintro e w' ⟨rfl, ⟨nd, rfl⟩⟩; refine ⟨_, rfl, ?_⟩))
                    go_ret
                    exact ⟨by first | rfl | (simp; done) | (simp [*]; done), by repeat (first | exact Drawn0.refl _ | apply Drawn0.step)⟩
                    all_goals (exfalso; first | omega | (simp_all; done) | (simp_all; omega))
                · rw [if_neg c34] at H
                  have c34b0 : (t319 == true) = false := by simpa using c34
                  (try (have c34b1 : decide (t319 = true) = false := by simpa using c34))
                  (try (have c34b2 : (t319 == true) = false := by simpa using c34))
                  (try (have c34b3 : ¬ (t319 = true) := by simpa using c34))
                  clear c34
                  obtain rfl := Option.some.inj H
                  go_wp2_with (first | ((with_reducible refine gate_callee (f := 24) rfl ?_); refine goesL_ (some 75) rfl rfl Try.func24 (by kernel_rfl) rfl #[.int .i64 a0] rfl (by (try simp only [List.map_toArray, List.map_cons, List.map_nil]); first | done | rfl | (simp only [List.length_drop, List.length_take]; rfl)) ?_; (with_reducible refine (tappetlaw01_of.calls a0 t313 _ A24.out).mono ?_); rintro e w' ⟨rfl, ⟨nd, rfl⟩⟩; refine ⟨_, rfl, ?_⟩) | ((with_reducible refine gate_callee (f := 24) rfl ?_); refine goesL_ (some 77) rfl rfl Try.func24 (by kernel_rfl) rfl #[.int .i64 a1] rfl (by (try simp only [List.map_toArray, List.map_cons, List.map_nil]); first | done | rfl | (simp only [List.length_drop, List.length_take]; rfl)) ?_; (with_reducible refine (tappetlaw01_of.calls a1 t314 _ A25.out).mono ?_); rintro e w' ⟨rfl, ⟨nd, rfl⟩⟩; refine ⟨_, rfl, ?_⟩) | ((with_reducible refine gate_callee (f := 36) rfl ?_); refine goesL_ (some 78) rfl rfl Try.func36 (by kernel_rfl) rfl #[.int .i64 2, .int .u64 t313, .int .u64 t314] rfl (by (try simp only [List.map_toArray, List.map_cons, List.map_nil]); first | done | rfl | (simp only [List.length_drop, List.length_take]; rfl)) ?_; (with_reducible refine (word_Less.calls kj13 2 t313 t314 t315 t316 _ A26.out).mono ?_); rintro e w' ⟨rfl, ⟨nd, rfl⟩⟩; refine ⟨_, rfl, ?_⟩) | ((with_reducible refine gate_callee (f := 24) rfl ?_); refine goesL_ (some 83) rfl rfl Try.func24 (by kernel_rfl) rfl #[.int .i64 a0] rfl (by (try simp only [List.map_toArray, List.map_cons, List.map_nil]); first | done | rfl | (simp only [List.length_drop, List.length_take]; rfl)) ?_; (with_reducible refine (tappetlaw01_of.calls a0 t313 _ A27.out).mono ?_); rintro e w' ⟨rfl, ⟨nd, rfl⟩⟩; refine ⟨_, rfl, ?_⟩) | ((with_reducible refine gate_callee (f := 24) rfl ?_); refine goesL_ (some 85) rfl rfl Try.func24 (by kernel_rfl) rfl #[.int .i64 a1] rfl (by (try simp only [List.map_toArray, List.map_cons, List.map_nil]); first | done | rfl | (simp only [List.length_drop, List.length_take]; rfl)) ?_; (with_reducible refine (tappetlaw01_of.calls a1 t314 _ A28.out).mono ?_); rintro e w' ⟨rfl, ⟨nd, rfl⟩⟩; refine ⟨_, rfl, ?_⟩) | ((with_reducible refine gate_callee (f := 36) rfl ?_); refine goesL_ (some 86) rfl rfl Try.func36 (by kernel_rfl) rfl #[.int .i64 1, .int .u64 t313, .int .u64 t314] rfl (by (try simp only [List.map_toArray, List.map_cons, List.map_nil]); first | done | rfl | (simp only [List.length_drop, List.length_take]; rfl)) ?_; (with_reducible refine (word_Less.calls kj13 1 t313 t314 t319 t320 _ A29.out).mono ?_); rintro e w' ⟨rfl, ⟨nd, rfl⟩⟩; refine ⟨_, rfl, ?_⟩))
                  go_ret
                  exact ⟨by first | rfl | (simp; done) | (simp [*]; done), by repeat (first | exact Drawn0.refl _ | apply Drawn0.step)⟩
                  all_goals (exfalso; first | omega | (simp_all; done) | (simp_all; omega))
              · replace c33 := Bool.eq_false_iff.mpr c33
                subst c33
                have H1 : (if (t319 == t315) = true then (some true) else (some false)) = some r := by rw [if_neg (show ¬ (false = true) by decide)] at H; exact H
                clear H
                have H := H1
                clear H1
                by_cases c36 : (t319 == t315) = true
                · rw [if_pos c36] at H
                  have c36b0 : (t319 == t315) = true := c36
                  (try (have c36b1 : decide (t319 = t315) = true := by simpa using c36))
                  (try (have c36b2 : (t319 == t315) = true := by simpa using c36))
                  clear c36
                  obtain rfl := Option.some.inj H
                  go_wp2_with (first | ((with_reducible refine gate_callee (f := 24) rfl ?_); refine goesL_ (some 75) rfl rfl Try.func24 (by kernel_rfl) rfl #[.int .i64 a0] rfl (by (try simp only [List.map_toArray, List.map_cons, List.map_nil]); first | done | rfl | (simp only [List.length_drop, List.length_take]; rfl)) ?_; (with_reducible refine (tappetlaw01_of.calls a0 t313 _ A24.out).mono ?_); rintro e w' ⟨rfl, ⟨nd, rfl⟩⟩; refine ⟨_, rfl, ?_⟩) | ((with_reducible refine gate_callee (f := 24) rfl ?_); refine goesL_ (some 77) rfl rfl Try.func24 (by kernel_rfl) rfl #[.int .i64 a1] rfl (by (try simp only [List.map_toArray, List.map_cons, List.map_nil]); first | done | rfl | (simp only [List.length_drop, List.length_take]; rfl)) ?_; (with_reducible refine (tappetlaw01_of.calls a1 t314 _ A25.out).mono ?_); rintro e w' ⟨rfl, ⟨nd, rfl⟩⟩; refine ⟨_, rfl, ?_⟩) | ((with_reducible refine gate_callee (f := 36) rfl ?_); refine goesL_ (some 78) rfl rfl Try.func36 (by kernel_rfl) rfl #[.int .i64 2, .int .u64 t313, .int .u64 t314] rfl (by (try simp only [List.map_toArray, List.map_cons, List.map_nil]); first | done | rfl | (simp only [List.length_drop, List.length_take]; rfl)) ?_; (with_reducible refine (word_Less.calls kj13 2 t313 t314 t315 t316 _ A26.out).mono ?_); rintro e w' ⟨rfl, ⟨nd, rfl⟩⟩; refine ⟨_, rfl, ?_⟩) | ((with_reducible refine gate_callee (f := 24) rfl ?_); refine goesL_ (some 83) rfl rfl Try.func24 (by kernel_rfl) rfl #[.int .i64 a0] rfl (by (try simp only [List.map_toArray, List.map_cons, List.map_nil]); first | done | rfl | (simp only [List.length_drop, List.length_take]; rfl)) ?_; (with_reducible refine (tappetlaw01_of.calls a0 t313 _ A27.out).mono ?_); rintro e w' ⟨rfl, ⟨nd, rfl⟩⟩; refine ⟨_, rfl, ?_⟩) | ((with_reducible refine gate_callee (f := 24) rfl ?_); refine goesL_ (some 85) rfl rfl Try.func24 (by kernel_rfl) rfl #[.int .i64 a1] rfl (by (try simp only [List.map_toArray, List.map_cons, List.map_nil]); first | done | rfl | (simp only [List.length_drop, List.length_take]; rfl)) ?_; (with_reducible refine (tappetlaw01_of.calls a1 t314 _ A28.out).mono ?_); rintro e w' ⟨rfl, ⟨nd, rfl⟩⟩; refine ⟨_, rfl, ?_⟩) | ((with_reducible refine gate_callee (f := 36) rfl ?_); refine goesL_ (some 86) rfl rfl Try.func36 (by kernel_rfl) rfl #[.int .i64 1, .int .u64 t313, .int .u64 t314] rfl (by (try simp only [List.map_toArray, List.map_cons, List.map_nil]); first | done | rfl | (simp only [List.length_drop, List.length_take]; rfl)) ?_; (with_reducible refine (word_Less.calls kj13 1 t313 t314 t319 t320 _ A29.out).mono ?_); rintro e w' ⟨rfl, ⟨nd, rfl⟩⟩; refine ⟨_, rfl, ?_⟩))
                  go_ret
                  exact ⟨by first | rfl | (simp; done) | (simp [*]; done), by repeat (first | exact Drawn0.refl _ | apply Drawn0.step)⟩
                  all_goals (exfalso; first | omega | (simp_all; done) | (simp_all; omega))
                · rw [if_neg c36] at H
                  have c36b0 : (t319 == t315) = false := by simpa using c36
                  (try (have c36b1 : decide (t319 = t315) = false := by simpa using c36))
                  (try (have c36b2 : (t319 == t315) = false := by simpa using c36))
                  (try (have c36b3 : ¬ (t319 = t315) := by simpa using c36))
                  clear c36
                  obtain rfl := Option.some.inj H
                  go_wp2_with (first | ((with_reducible refine gate_callee (f := 24) rfl ?_); refine goesL_ (some 75) rfl rfl Try.func24 (by kernel_rfl) rfl #[.int .i64 a0] rfl (by (try simp only [List.map_toArray, List.map_cons, List.map_nil]); first | done | rfl | (simp only [List.length_drop, List.length_take]; rfl)) ?_; (with_reducible refine (tappetlaw01_of.calls a0 t313 _ A24.out).mono ?_); rintro e w' ⟨rfl, ⟨nd, rfl⟩⟩; refine ⟨_, rfl, ?_⟩) | ((with_reducible refine gate_callee (f := 24) rfl ?_); refine goesL_ (some 77) rfl rfl Try.func24 (by kernel_rfl) rfl #[.int .i64 a1] rfl (by (try simp only [List.map_toArray, List.map_cons, List.map_nil]); first | done | rfl | (simp only [List.length_drop, List.length_take]; rfl)) ?_; (with_reducible refine (tappetlaw01_of.calls a1 t314 _ A25.out).mono ?_); rintro e w' ⟨rfl, ⟨nd, rfl⟩⟩; refine ⟨_, rfl, ?_⟩) | ((with_reducible refine gate_callee (f := 36) rfl ?_); refine goesL_ (some 78) rfl rfl Try.func36 (by kernel_rfl) rfl #[.int .i64 2, .int .u64 t313, .int .u64 t314] rfl (by (try simp only [List.map_toArray, List.map_cons, List.map_nil]); first | done | rfl | (simp only [List.length_drop, List.length_take]; rfl)) ?_; (with_reducible refine (word_Less.calls kj13 2 t313 t314 t315 t316 _ A26.out).mono ?_); rintro e w' ⟨rfl, ⟨nd, rfl⟩⟩; refine ⟨_, rfl, ?_⟩) | ((with_reducible refine gate_callee (f := 24) rfl ?_); refine goesL_ (some 83) rfl rfl Try.func24 (by kernel_rfl) rfl #[.int .i64 a0] rfl (by (try simp only [List.map_toArray, List.map_cons, List.map_nil]); first | done | rfl | (simp only [List.length_drop, List.length_take]; rfl)) ?_; (with_reducible refine (tappetlaw01_of.calls a0 t313 _ A27.out).mono ?_); rintro e w' ⟨rfl, ⟨nd, rfl⟩⟩; refine ⟨_, rfl, ?_⟩) | ((with_reducible refine gate_callee (f := 24) rfl ?_); refine goesL_ (some 85) rfl rfl Try.func24 (by kernel_rfl) rfl #[.int .i64 a1] rfl (by (try simp only [List.map_toArray, List.map_cons, List.map_nil]); first | done | rfl | (simp only [List.length_drop, List.length_take]; rfl)) ?_; (with_reducible refine (tappetlaw01_of.calls a1 t314 _ A28.out).mono ?_); rintro e w' ⟨rfl, ⟨nd, rfl⟩⟩; refine ⟨_, rfl, ?_⟩) | ((with_reducible refine gate_callee (f := 36) rfl ?_); refine goesL_ (some 86) rfl rfl Try.func36 (by kernel_rfl) rfl #[.int .i64 1, .int .u64 t313, .int .u64 t314] rfl (by (try simp only [List.map_toArray, List.map_cons, List.map_nil]); first | done | rfl | (simp only [List.length_drop, List.length_take]; rfl)) ?_; (with_reducible refine (word_Less.calls kj13 1 t313 t314 t319 t320 _ A29.out).mono ?_); rintro e w' ⟨rfl, ⟨nd, rfl⟩⟩; refine ⟨_, rfl, ?_⟩))
                  go_ret
                  exact ⟨by first | rfl | (simp; done) | (simp [*]; done), by repeat (first | exact Drawn0.refl _ | apply Drawn0.step)⟩
                  all_goals (exfalso; first | omega | (simp_all; done) | (simp_all; omega))
            · rw [if_neg c32] at H
              have c32b0 : (t315 == (a0 == a1)) = false := by simpa using c32
              (try (have c32b1 : decide (t315 = (a0 == a1)) = false := by simpa using c32))
              (try (have c32b2 : (t315 == (a0 == a1)) = false := by simpa using c32))
              (try (have c32b3 : ¬ (t315 = (a0 == a1)) := by simpa using c32))
              clear c32
              obtain rfl := Option.some.inj H
              go_wp2_with (first | ((with_reducible refine gate_callee (f := 24) rfl ?_); refine goesL_ (some 75) rfl rfl Try.func24 (by kernel_rfl) rfl #[.int .i64 a0] rfl (by (try simp only [List.map_toArray, List.map_cons, List.map_nil]); first | done | rfl | (simp only [List.length_drop, List.length_take]; rfl)) ?_; (with_reducible refine (tappetlaw01_of.calls a0 t313 _ A24.out).mono ?_); rintro e w' ⟨rfl, ⟨nd, rfl⟩⟩; refine ⟨_, rfl, ?_⟩) | ((with_reducible refine gate_callee (f := 24) rfl ?_); refine goesL_ (some 77) rfl rfl Try.func24 (by kernel_rfl) rfl #[.int .i64 a1] rfl (by (try simp only [List.map_toArray, List.map_cons, List.map_nil]); first | done | rfl | (simp only [List.length_drop, List.length_take]; rfl)) ?_; (with_reducible refine (tappetlaw01_of.calls a1 t314 _ A25.out).mono ?_); rintro e w' ⟨rfl, ⟨nd, rfl⟩⟩; refine ⟨_, rfl, ?_⟩) | ((with_reducible refine gate_callee (f := 36) rfl ?_); refine goesL_ (some 78) rfl rfl Try.func36 (by kernel_rfl) rfl #[.int .i64 2, .int .u64 t313, .int .u64 t314] rfl (by (try simp only [List.map_toArray, List.map_cons, List.map_nil]); first | done | rfl | (simp only [List.length_drop, List.length_take]; rfl)) ?_; (with_reducible refine (word_Less.calls kj13 2 t313 t314 t315 t316 _ A26.out).mono ?_); rintro e w' ⟨rfl, ⟨nd, rfl⟩⟩; refine ⟨_, rfl, ?_⟩) | ((with_reducible refine gate_callee (f := 24) rfl ?_); refine goesL_ (some 83) rfl rfl Try.func24 (by kernel_rfl) rfl #[.int .i64 a0] rfl (by (try simp only [List.map_toArray, List.map_cons, List.map_nil]); first | done | rfl | (simp only [List.length_drop, List.length_take]; rfl)) ?_; (with_reducible refine (tappetlaw01_of.calls a0 t313 _ A27.out).mono ?_); rintro e w' ⟨rfl, ⟨nd, rfl⟩⟩; refine ⟨_, rfl, ?_⟩) | ((with_reducible refine gate_callee (f := 24) rfl ?_); refine goesL_ (some 85) rfl rfl Try.func24 (by kernel_rfl) rfl #[.int .i64 a1] rfl (by (try simp only [List.map_toArray, List.map_cons, List.map_nil]); first | done | rfl | (simp only [List.length_drop, List.length_take]; rfl)) ?_; (with_reducible refine (tappetlaw01_of.calls a1 t314 _ A28.out).mono ?_); rintro e w' ⟨rfl, ⟨nd, rfl⟩⟩; refine ⟨_, rfl, ?_⟩) | ((with_reducible refine gate_callee (f := 36) rfl ?_); refine goesL_ (some 86) rfl rfl Try.func36 (by kernel_rfl) rfl #[.int .i64 1, .int .u64 t313, .int .u64 t314] rfl (by (try simp only [List.map_toArray, List.map_cons, List.map_nil]); first | done | rfl | (simp only [List.length_drop, List.length_take]; rfl)) ?_; (with_reducible refine (word_Less.calls kj13 1 t313 t314 t319 t320 _ A29.out).mono ?_); rintro e w' ⟨rfl, ⟨nd, rfl⟩⟩; refine ⟨_, rfl, ?_⟩))
              go_ret
              exact ⟨by first | rfl | (simp; done) | (simp [*]; done), by repeat (first | exact Drawn0.refl _ | apply Drawn0.step)⟩
              all_goals (exfalso; first | omega | (simp_all; done) | (simp_all; omega))
          · rw [if_neg c31] at H
            have c31b0 : (t300 == (decide (a0 < a1))) = false := by simpa using c31
            (try (have c31b1 : decide (t300 = (decide (a0 < a1))) = false := by simpa using c31))
            (try (have c31b2 : (t300 == (decide (a0 < a1))) = false := by simpa using c31))
            (try (have c31b3 : ¬ (t300 = (decide (a0 < a1))) := by simpa using c31))
            clear c31
            obtain rfl := Option.some.inj H
            go_wp2_with (first | ((with_reducible refine gate_callee (f := 24) rfl ?_); refine goesL_ (some 75) rfl rfl Try.func24 (by kernel_rfl) rfl #[.int .i64 a0] rfl (by (try simp only [List.map_toArray, List.map_cons, List.map_nil]); first | done | rfl | (simp only [List.length_drop, List.length_take]; rfl)) ?_; (with_reducible refine (tappetlaw01_of.calls a0 t313 _ A24.out).mono ?_); rintro e w' ⟨rfl, ⟨nd, rfl⟩⟩; refine ⟨_, rfl, ?_⟩) | ((with_reducible refine gate_callee (f := 24) rfl ?_); refine goesL_ (some 77) rfl rfl Try.func24 (by kernel_rfl) rfl #[.int .i64 a1] rfl (by (try simp only [List.map_toArray, List.map_cons, List.map_nil]); first | done | rfl | (simp only [List.length_drop, List.length_take]; rfl)) ?_; (with_reducible refine (tappetlaw01_of.calls a1 t314 _ A25.out).mono ?_); rintro e w' ⟨rfl, ⟨nd, rfl⟩⟩; refine ⟨_, rfl, ?_⟩) | ((with_reducible refine gate_callee (f := 36) rfl ?_); refine goesL_ (some 78) rfl rfl Try.func36 (by kernel_rfl) rfl #[.int .i64 2, .int .u64 t313, .int .u64 t314] rfl (by (try simp only [List.map_toArray, List.map_cons, List.map_nil]); first | done | rfl | (simp only [List.length_drop, List.length_take]; rfl)) ?_; (with_reducible refine (word_Less.calls kj13 2 t313 t314 t315 t316 _ A26.out).mono ?_); rintro e w' ⟨rfl, ⟨nd, rfl⟩⟩; refine ⟨_, rfl, ?_⟩) | ((with_reducible refine gate_callee (f := 24) rfl ?_); refine goesL_ (some 83) rfl rfl Try.func24 (by kernel_rfl) rfl #[.int .i64 a0] rfl (by (try simp only [List.map_toArray, List.map_cons, List.map_nil]); first | done | rfl | (simp only [List.length_drop, List.length_take]; rfl)) ?_; (with_reducible refine (tappetlaw01_of.calls a0 t313 _ A27.out).mono ?_); rintro e w' ⟨rfl, ⟨nd, rfl⟩⟩; refine ⟨_, rfl, ?_⟩) | ((with_reducible refine gate_callee (f := 24) rfl ?_); refine goesL_ (some 85) rfl rfl Try.func24 (by kernel_rfl) rfl #[.int .i64 a1] rfl (by (try simp only [List.map_toArray, List.map_cons, List.map_nil]); first | done | rfl | (simp only [List.length_drop, List.length_take]; rfl)) ?_; (with_reducible refine (tappetlaw01_of.calls a1 t314 _ A28.out).mono ?_); rintro e w' ⟨rfl, ⟨nd, rfl⟩⟩; refine ⟨_, rfl, ?_⟩) | ((with_reducible refine gate_callee (f := 36) rfl ?_); refine goesL_ (some 86) rfl rfl Try.func36 (by kernel_rfl) rfl #[.int .i64 1, .int .u64 t313, .int .u64 t314] rfl (by (try simp only [List.map_toArray, List.map_cons, List.map_nil]); first | done | rfl | (simp only [List.length_drop, List.length_take]; rfl)) ?_; (with_reducible refine (word_Less.calls kj13 1 t313 t314 t319 t320 _ A29.out).mono ?_); rintro e w' ⟨rfl, ⟨nd, rfl⟩⟩; refine ⟨_, rfl, ?_⟩))
            go_ret
            exact ⟨by first | rfl | (simp; done) | (simp [*]; done), by repeat (first | exact Drawn0.refl _ | apply Drawn0.step)⟩
            all_goals (exfalso; first | omega | (simp_all; done) | (simp_all; omega))
        · replace c30 := Bool.eq_false_iff.mpr c30
          subst c30
          have H1 : (some false) = some r := by rw [if_neg (show ¬ (false = true) by decide)] at H; exact H
          clear H
          have H := H1
          clear H1
          obtain rfl := Option.some.inj H
          go_wp2_with (first | ((with_reducible refine gate_callee (f := 24) rfl ?_); refine goesL_ (some 75) rfl rfl Try.func24 (by kernel_rfl) rfl #[.int .i64 a0] rfl (by (try simp only [List.map_toArray, List.map_cons, List.map_nil]); first | done | rfl | (simp only [List.length_drop, List.length_take]; rfl)) ?_; (with_reducible refine (tappetlaw01_of.calls a0 t313 _ A24.out).mono ?_); rintro e w' ⟨rfl, ⟨nd, rfl⟩⟩; refine ⟨_, rfl, ?_⟩) | ((with_reducible refine gate_callee (f := 24) rfl ?_); refine goesL_ (some 77) rfl rfl Try.func24 (by kernel_rfl) rfl #[.int .i64 a1] rfl (by (try simp only [List.map_toArray, List.map_cons, List.map_nil]); first | done | rfl | (simp only [List.length_drop, List.length_take]; rfl)) ?_; (with_reducible refine (tappetlaw01_of.calls a1 t314 _ A25.out).mono ?_); rintro e w' ⟨rfl, ⟨nd, rfl⟩⟩; refine ⟨_, rfl, ?_⟩) | ((with_reducible refine gate_callee (f := 36) rfl ?_); refine goesL_ (some 78) rfl rfl Try.func36 (by kernel_rfl) rfl #[.int .i64 2, .int .u64 t313, .int .u64 t314] rfl (by (try simp only [List.map_toArray, List.map_cons, List.map_nil]); first | done | rfl | (simp only [List.length_drop, List.length_take]; rfl)) ?_; (with_reducible refine (word_Less.calls kj13 2 t313 t314 t315 t316 _ A26.out).mono ?_); rintro e w' ⟨rfl, ⟨nd, rfl⟩⟩; refine ⟨_, rfl, ?_⟩) | ((with_reducible refine gate_callee (f := 24) rfl ?_); refine goesL_ (some 83) rfl rfl Try.func24 (by kernel_rfl) rfl #[.int .i64 a0] rfl (by (try simp only [List.map_toArray, List.map_cons, List.map_nil]); first | done | rfl | (simp only [List.length_drop, List.length_take]; rfl)) ?_; (with_reducible refine (tappetlaw01_of.calls a0 t313 _ A27.out).mono ?_); rintro e w' ⟨rfl, ⟨nd, rfl⟩⟩; refine ⟨_, rfl, ?_⟩) | ((with_reducible refine gate_callee (f := 24) rfl ?_); refine goesL_ (some 85) rfl rfl Try.func24 (by kernel_rfl) rfl #[.int .i64 a1] rfl (by (try simp only [List.map_toArray, List.map_cons, List.map_nil]); first | done | rfl | (simp only [List.length_drop, List.length_take]; rfl)) ?_; (with_reducible refine (tappetlaw01_of.calls a1 t314 _ A28.out).mono ?_); rintro e w' ⟨rfl, ⟨nd, rfl⟩⟩; refine ⟨_, rfl, ?_⟩) | ((with_reducible refine gate_callee (f := 36) rfl ?_); refine goesL_ (some 86) rfl rfl Try.func36 (by kernel_rfl) rfl #[.int .i64 1, .int .u64 t313, .int .u64 t314] rfl (by (try simp only [List.map_toArray, List.map_cons, List.map_nil]); first | done | rfl | (simp only [List.length_drop, List.length_take]; rfl)) ?_; (with_reducible refine (word_Less.calls kj13 1 t313 t314 t319 t320 _ A29.out).mono ?_); rintro e w' ⟨rfl, ⟨nd, rfl⟩⟩; refine ⟨_, rfl, ?_⟩))
          go_ret
          exact ⟨by first | rfl | (simp; done) | (simp [*]; done), by repeat (first | exact Drawn0.refl _ | apply Drawn0.step)⟩
          all_goals (exfalso; first | omega | (simp_all; done) | (simp_all; omega))

/-- THE ONE PURE STATEMENT of tappetlaw01_WordRanks: yours. -/
def tappetlaw01_WordRanks.Pure : Prop := ∀ (a0 : Int) (a1 : Int) (a2 : Int), (Lit.int .i64 a0).wf = true → (Lit.int .i64 a1).wf = true → (Lit.int .i64 a2).wf = true → ∃ k, tappetlaw01_WordRanks.f k a0 a1 a2 = some true
theorem tappetlaw01_WordRanks.walk (P : tappetlaw01_WordRanks.Pure) (a0 : Int) (a1 : Int) (a2 : Int) (w : World) (w0 : (Lit.int .i64 a0).wf = true) (w1 : (Lit.int .i64 a1).wf = true) (w2 : (Lit.int .i64 a2).wf = true) :
    Calls Try.prog 12 #[.int .i64 a0, .int .i64 a1, .int .i64 a2] w fun e w' => e = .returned (.bool true) ∧ Below w.heap.size w w' := by
  obtain ⟨k, h⟩ := P a0 a1 a2 w0 w1 w2
  refine (tappetlaw01_WordRanks.calls k a0 a1 a2 true w h).mono ?_
  rintro e w' ⟨rfl, hd⟩
  exact ⟨rfl, hd.below⟩

end Go.Proofs.Ythhfgchbpgcfmaa.QWord
