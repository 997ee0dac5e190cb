-- written by wip/xprint.py out of the translation's own print; Lean checks it
import Derived.Test.YthhfgchbpgcfmaaQWordx0
import Derived.Test.YthhfgchbpgcfmaaQWordx1
import Derived.Test.YthhfgchbpgcfmaaQWordx2
import Derived.Test.YthhfgchbpgcfmaaQWordx5
namespace Go.Proofs.Ythhfgchbpgcfmaa.QWord
open Go.RowKit Go.Proofs.YthhfgchbpgcfmaaW.PrintWords Go.Proofs.YthhfgchbpgcfmaaW.PrintLast Go.Proofs.YthhfgchbpgcfmaaW.PrintMore
attribute [local go_sem] max2_int min2_int max_two min_two max_three min_three max_four min_four   -- for this text's walks alone
set_option linter.unusedVariables false
set_option linter.unusedSimpArgs false

/-! ### tappetlaw01_WordReckons: function 10 -/
def tappetlaw01_WordReckons.f (k : Nat) (a0 : Int) (a1 : Int) (a2 : Int) : Option (Bool) := (tappetlaw01_awake.f k).bind fun t273 => ((word_Arith.f k a0 a1 a2).bind fun bt274 => ((tappetref01_Arith.f k a0 a1 a2).bind fun bt276 => ((word_Less.f k a0 a1 a2).bind fun bt278 => ((tappetref01_Less.f a0 a1 a2).bind fun bt280 => (if t273 = true then (if bt274.1 = bt276.1 then (if (bt274.2 == bt276.2) = true then (if (bt278.1 == bt280.1) = true then (some (bt278.2 == bt280.2)) else (some false)) else (some false)) else (some false)) else (some false))))))
theorem tappetlaw01_WordReckons.mono : ∀ a0 a1 a2 k, LeO (tappetlaw01_WordReckons.f k a0 a1 a2) (tappetlaw01_WordReckons.f (k + 1) a0 a1 a2) := by
  intro a0 a1 a2 k
  unfold tappetlaw01_WordReckons.f
  repeat' first
      | (with_reducible exact tappetlaw01_awake.mono _)
      | (with_reducible exact tappetref01_Arith.mono _ _ _ _)
      | (with_reducible exact word_Arith.mono _ _ _ _)
      | (with_reducible exact word_Less.mono _ _ _ _)
      | (with_reducible exact LeO.refl _)
      | (with_reducible exact LeO.none _)
      | (with_reducible refine LeO.ite ?_ ?_)
      | (with_reducible refine LeO.bind ?_ (fun _ => ?_))
      | exact tappetlaw01_awake.mono _
      | exact tappetref01_Arith.mono _ _ _ _
      | exact word_Arith.mono _ _ _ _
      | exact word_Less.mono _ _ _ _
      | exact LeO.none _
      | refine LeO.ite ?_ ?_
      | refine LeO.bind ?_ (fun _ => ?_)
set_option maxHeartbeats 8000000 in
set_option maxRecDepth 100000 in
theorem tappetlaw01_WordReckons.calls (k : Nat) (a0 : Int) (a1 : Int) (a2 : Int) (r : Bool) (w : World) (h : tappetlaw01_WordReckons.f k a0 a1 a2 = some r) :
    Calls Try.prog 10 #[.int .i64 a0, .int .u64 a1, .int .u64 a2] w fun e w' => e = .returned (.bool r) ∧ Drawn0 w w' := by
  have H : ((tappetlaw01_awake.f k).bind fun t273 => ((word_Arith.f k a0 a1 a2).bind fun bt274 => ((tappetref01_Arith.f k a0 a1 a2).bind fun bt276 => ((word_Less.f k a0 a1 a2).bind fun bt278 => ((tappetref01_Less.f a0 a1 a2).bind fun bt280 => (if t273 = true then (if bt274.1 = bt276.1 then (if (bt274.2 == bt276.2) = true then (if (bt278.1 == bt280.1) = true then (some (bt278.2 == bt280.2)) else (some false)) else (some false)) else (some false)) else (some false))))))) = some r := h
  clear h
  replace H := Option.bind_eq_some_iff.mp H
  obtain ⟨t273, A40, H⟩ := H
  replace H : ((word_Arith.f k a0 a1 a2).bind fun bt274 => ((tappetref01_Arith.f k a0 a1 a2).bind fun bt276 => ((word_Less.f k a0 a1 a2).bind fun bt278 => ((tappetref01_Less.f a0 a1 a2).bind fun bt280 => (if t273 = true then (if bt274.1 = bt276.1 then (if (bt274.2 == bt276.2) = true then (if (bt278.1 == bt280.1) = true then (some (bt278.2 == bt280.2)) else (some false)) else (some false)) else (some false)) else (some false)))))) = some r := H
  have A4 := Aside0.mk A40
  clear A40
  replace H := Option.bind_eq_some_iff.mp H
  obtain ⟨⟨t274, t275⟩, A50, H⟩ := H
  replace H : ((tappetref01_Arith.f k a0 a1 a2).bind fun bt276 => ((word_Less.f k a0 a1 a2).bind fun bt278 => ((tappetref01_Less.f a0 a1 a2).bind fun bt280 => (if t273 = true then (if t274 = bt276.1 then (if (t275 == bt276.2) = true then (if (bt278.1 == bt280.1) = true then (some (bt278.2 == bt280.2)) else (some false)) else (some false)) else (some false)) else (some false))))) = some r := H
  have A5 := Aside0.mk A50
  clear A50
  replace H := Option.bind_eq_some_iff.mp H
  obtain ⟨⟨t276, t277⟩, A60, H⟩ := H
  replace H : ((word_Less.f k a0 a1 a2).bind fun bt278 => ((tappetref01_Less.f a0 a1 a2).bind fun bt280 => (if t273 = true then (if t274 = t276 then (if (t275 == t277) = true then (if (bt278.1 == bt280.1) = true then (some (bt278.2 == bt280.2)) else (some false)) else (some false)) else (some false)) else (some false)))) = some r := H
  have A6 := Aside0.mk A60
  clear A60
  replace H := Option.bind_eq_some_iff.mp H
  obtain ⟨⟨t278, t279⟩, A70, H⟩ := H
  replace H : ((tappetref01_Less.f a0 a1 a2).bind fun bt280 => (if t273 = true then (if t274 = t276 then (if (t275 == t277) = true then (if (t278 == bt280.1) = true then (some (t279 == bt280.2)) else (some false)) else (some false)) else (some false)) else (some false))) = some r := H
  have A7 := Aside0.mk A70
  clear A70
  replace H := Option.bind_eq_some_iff.mp H
  obtain ⟨⟨t280, t281⟩, A80, H⟩ := H
  replace H : (if t273 = true then (if t274 = t276 then (if (t275 == t277) = true then (if (t278 == t280) = true then (some (t279 == t281)) else (some false)) else (some false)) else (some false)) else (some false)) = some r := H
  have A8 := Aside0.mk A80
  clear A80
  by_cases c9 : t273 = true
  · subst c9
    have H1 : (if t274 = t276 then (if (t275 == t277) = true then (if (t278 == t280) = true then (some (t279 == t281)) else (some false)) else (some false)) else (some false)) = some r := by rw [if_pos rfl] at H; exact H
    clear H
    have H := H1
    clear H1
    by_cases c10 : t274 = t276
    · rw [if_pos c10] at H
      have c10b0 : (t274 == t276) = true := beq_iff_eq.mpr c10
      have c10b1 : (t274 != t276) = false := bne_eq_false_iff_eq.mpr c10
      clear c10
      by_cases c11 : (t275 == t277) = true
      · rw [if_pos c11] at H
        have c11b0 : (t275 == t277) = true := c11
        (try (have c11b1 : decide (t275 = t277) = true := by simpa using c11))
        (try (have c11b2 : (t275 == t277) = true := by simpa using c11))
        clear c11
        by_cases c12 : (t278 == t280) = true
        · rw [if_pos c12] at H
          have c12b0 : (t278 == t280) = true := c12
          (try (have c12b1 : decide (t278 = t280) = true := by simpa using c12))
          (try (have c12b2 : (t278 == t280) = true := by simpa using c12))
          clear c12
          obtain rfl := Option.some.inj H
          go_enter Try.func10, Try.ntmps10
          go_wp2_with (first | ((with_reducible refine gate_callee (f := 22) rfl ?_); refine goesL_ (some 16) rfl rfl Try.func22 (by kernel_rfl) rfl #[] rfl (by (try simp only [List.map_toArray, List.map_cons, List.map_nil]); first | done | rfl | (simp only [List.length_drop, List.length_take]; rfl)) ?_; (with_reducible refine (tappetlaw01_awake.calls k  true _ A4.out).mono ?_); rintro e w' ⟨rfl, ⟨nd, rfl⟩⟩; refine ⟨_, rfl, ?_⟩) | ((with_reducible refine gate_callee (f := 23) rfl ?_); refine goesL_ (some 21) rfl rfl Try.func23 (by kernel_rfl) rfl #[.int .i64 a0, .int .u64 a1, .int .u64 a2] rfl (by (try simp only [List.map_toArray, List.map_cons, List.map_nil]); first | done | rfl | (simp only [List.length_drop, List.length_take]; rfl)) ?_; (with_reducible refine (word_Arith.calls k a0 a1 a2 t274 t275 _ A5.out).mono ?_); rintro e w' ⟨rfl, ⟨nd, rfl⟩⟩; refine ⟨_, rfl, ?_⟩) | ((with_reducible refine gate_callee (f := 35) rfl ?_); refine goesL_ (some 28) rfl rfl Try.func35 (by kernel_rfl) rfl #[.int .i64 a0, .int .u64 a1, .int .u64 a2] rfl (by (try simp only [List.map_toArray, List.map_cons, List.map_nil]); first | done | rfl | (simp only [List.length_drop, List.length_take]; rfl)) ?_; (with_reducible refine (tappetref01_Arith.calls k a0 a1 a2 t276 t277 _ A6.out).mono ?_); rintro e w' ⟨rfl, ⟨nd, rfl⟩⟩; refine ⟨_, rfl, ?_⟩) | ((with_reducible refine gate_callee (f := 36) rfl ?_); refine goesL_ (some 35) rfl rfl Try.func36 (by kernel_rfl) rfl #[.int .i64 a0, .int .u64 a1, .int .u64 a2] rfl (by (try simp only [List.map_toArray, List.map_cons, List.map_nil]); first | done | rfl | (simp only [List.length_drop, List.length_take]; rfl)) ?_; (with_reducible refine (word_Less.calls k a0 a1 a2 t278 t279 _ A7.out).mono ?_); rintro e w' ⟨rfl, ⟨nd, rfl⟩⟩; refine ⟨_, rfl, ?_⟩) | ((with_reducible refine gate_callee (f := 37) rfl ?_); refine goesL_ (some 42) rfl rfl Try.func37 (by kernel_rfl) rfl #[.int .i64 a0, .int .u64 a1, .int .u64 a2] rfl (by (try simp only [List.map_toArray, List.map_cons, List.map_nil]); first | done | rfl | (simp only [List.length_drop, List.length_take]; rfl)) ?_; (with_reducible refine (tappetref01_Less.calls a0 a1 a2 t280 t281 _ A8.out).mono ?_); rintro e w' ⟨rfl, ⟨nd, rfl⟩⟩; refine ⟨_, rfl, ?_⟩))
          go_ret
          exact ⟨by first | rfl | (simp; done) | (simp [*]; done), by repeat (first | exact Drawn0.refl _ | apply Drawn0.step)⟩
          all_goals (exfalso; first | omega | (simp_all; done) | (simp_all; omega))
        · rw [if_neg c12] at H
          have c12b0 : (t278 == t280) = false := by simpa using c12
          (try (have c12b1 : decide (t278 = t280) = false := by simpa using c12))
          (try (have c12b2 : (t278 == t280) = false := by simpa using c12))
          (try (have c12b3 : ¬ (t278 = t280) := by simpa using c12))
          clear c12
          obtain rfl := Option.some.inj H
          go_enter Try.func10, Try.ntmps10
          go_wp2_with (first | ((with_reducible refine gate_callee (f := 22) rfl ?_); refine goesL_ (some 16) rfl rfl Try.func22 (by kernel_rfl) rfl #[] rfl (by (try simp only [List.map_toArray, List.map_cons, List.map_nil]); first | done | rfl | (simp only [List.length_drop, List.length_take]; rfl)) ?_; (with_reducible refine (tappetlaw01_awake.calls k  true _ A4.out).mono ?_); rintro e w' ⟨rfl, ⟨nd, rfl⟩⟩; refine ⟨_, rfl, ?_⟩) | ((with_reducible refine gate_callee (f := 23) rfl ?_); refine goesL_ (some 21) rfl rfl Try.func23 (by kernel_rfl) rfl #[.int .i64 a0, .int .u64 a1, .int .u64 a2] rfl (by (try simp only [List.map_toArray, List.map_cons, List.map_nil]); first | done | rfl | (simp only [List.length_drop, List.length_take]; rfl)) ?_; (with_reducible refine (word_Arith.calls k a0 a1 a2 t274 t275 _ A5.out).mono ?_); rintro e w' ⟨rfl, ⟨nd, rfl⟩⟩; refine ⟨_, rfl, ?_⟩) | ((with_reducible refine gate_callee (f := 35) rfl ?_); refine goesL_ (some 28) rfl rfl Try.func35 (by kernel_rfl) rfl #[.int .i64 a0, .int .u64 a1, .int .u64 a2] rfl (by (try simp only [List.map_toArray, List.map_cons, List.map_nil]); first | done | rfl | (simp only [List.length_drop, List.length_take]; rfl)) ?_; (with_reducible refine (tappetref01_Arith.calls k a0 a1 a2 t276 t277 _ A6.out).mono ?_); rintro e w' ⟨rfl, ⟨nd, rfl⟩⟩; refine ⟨_, rfl, ?_⟩) | ((with_reducible refine gate_callee (f := 36) rfl ?_); refine goesL_ (some 35) rfl rfl Try.func36 (by kernel_rfl) rfl #[.int .i64 a0, .int .u64 a1, .int .u64 a2] rfl (by (try simp only [List.map_toArray, List.map_cons, List.map_nil]); first | done | rfl | (simp only [List.length_drop, List.length_take]; rfl)) ?_; (with_reducible refine (word_Less.calls k a0 a1 a2 t278 t279 _ A7.out).mono ?_); rintro e w' ⟨rfl, ⟨nd, rfl⟩⟩; refine ⟨_, rfl, ?_⟩) | ((with_reducible refine gate_callee (f := 37) rfl ?_); refine goesL_ (some 42) rfl rfl Try.func37 (by kernel_rfl) rfl #[.int .i64 a0, .int .u64 a1, .int .u64 a2] rfl (by (try simp only [List.map_toArray, List.map_cons, List.map_nil]); first | done | rfl | (simp only [List.length_drop, List.length_take]; rfl)) ?_; (with_reducible refine (tappetref01_Less.calls a0 a1 a2 t280 t281 _ A8.out).mono ?_); rintro e w' ⟨rfl, ⟨nd, rfl⟩⟩; refine ⟨_, rfl, ?_⟩))
          go_ret
          exact ⟨by first | rfl | (simp; done) | (simp [*]; done), by repeat (first | exact Drawn0.refl _ | apply Drawn0.step)⟩
          all_goals (exfalso; first | omega | (simp_all; done) | (simp_all; omega))
      · rw [if_neg c11] at H
        have c11b0 : (t275 == t277) = false := by simpa using c11
        (try (have c11b1 : decide (t275 = t277) = false := by simpa using c11))
        (try (have c11b2 : (t275 == t277) = false := by simpa using c11))
        (try (have c11b3 : ¬ (t275 = t277) := by simpa using c11))
        clear c11
        obtain rfl := Option.some.inj H
        go_enter Try.func10, Try.ntmps10
        go_wp2_with (first | ((with_reducible refine gate_callee (f := 22) rfl ?_); refine goesL_ (some 16) rfl rfl Try.func22 (by kernel_rfl) rfl #[] rfl (by (try simp only [List.map_toArray, List.map_cons, List.map_nil]); first | done | rfl | (simp only [List.length_drop, List.length_take]; rfl)) ?_; (with_reducible refine (tappetlaw01_awake.calls k  true _ A4.out).mono ?_); rintro e w' ⟨rfl, ⟨nd, rfl⟩⟩; refine ⟨_, rfl, ?_⟩) | ((with_reducible refine gate_callee (f := 23) rfl ?_); refine goesL_ (some 21) rfl rfl Try.func23 (by kernel_rfl) rfl #[.int .i64 a0, .int .u64 a1, .int .u64 a2] rfl (by (try simp only [List.map_toArray, List.map_cons, List.map_nil]); first | done | rfl | (simp only [List.length_drop, List.length_take]; rfl)) ?_; (with_reducible refine (word_Arith.calls k a0 a1 a2 t274 t275 _ A5.out).mono ?_); rintro e w' ⟨rfl, ⟨nd, rfl⟩⟩; refine ⟨_, rfl, ?_⟩) | ((with_reducible refine gate_callee (f := 35) rfl ?_); refine goesL_ (some 28) rfl rfl Try.func35 (by kernel_rfl) rfl #[.int .i64 a0, .int .u64 a1, .int .u64 a2] rfl (by (try simp only [List.map_toArray, List.map_cons, List.map_nil]); first | done | rfl | (simp only [List.length_drop, List.length_take]; rfl)) ?_; (with_reducible refine (tappetref01_Arith.calls k a0 a1 a2 t276 t277 _ A6.out).mono ?_); rintro e w' ⟨rfl, ⟨nd, rfl⟩⟩; refine ⟨_, rfl, ?_⟩) | ((with_reducible refine gate_callee (f := 36) rfl ?_); refine goesL_ (some 35) rfl rfl Try.func36 (by kernel_rfl) rfl #[.int .i64 a0, .int .u64 a1, .int .u64 a2] rfl (by (try simp only [List.map_toArray, List.map_cons, List.map_nil]); first | done | rfl | (simp only [List.length_drop, List.length_take]; rfl)) ?_; (with_reducible refine (word_Less.calls k a0 a1 a2 t278 t279 _ A7.out).mono ?_); rintro e w' ⟨rfl, ⟨nd, rfl⟩⟩; refine ⟨_, rfl, ?_⟩) | ((with_reducible refine gate_callee (f := 37) rfl ?_); refine goesL_ (some 42) rfl rfl Try.func37 (by kernel_rfl) rfl #[.int .i64 a0, .int .u64 a1, .int .u64 a2] rfl (by (try simp only [List.map_toArray, List.map_cons, List.map_nil]); first | done | rfl | (simp only [List.length_drop, List.length_take]; rfl)) ?_; (with_reducible refine (tappetref01_Less.calls a0 a1 a2 t280 t281 _ A8.out).mono ?_); rintro e w' ⟨rfl, ⟨nd, rfl⟩⟩; refine ⟨_, rfl, ?_⟩))
        go_ret
        exact ⟨by first | rfl | (simp; done) | (simp [*]; done), by repeat (first | exact Drawn0.refl _ | apply Drawn0.step)⟩
        all_goals (exfalso; first | omega | (simp_all; done) | (simp_all; omega))
    · rw [if_neg c10] at H
      have c10b0 : (t274 == t276) = false := beq_eq_false_iff_ne.mpr c10
      have c10b1 : (t274 != t276) = true := bne_iff_ne.mpr c10
      obtain rfl := Option.some.inj H
      go_enter Try.func10, Try.ntmps10
      go_wp2_with (first | ((with_reducible refine gate_callee (f := 22) rfl ?_); refine goesL_ (some 16) rfl rfl Try.func22 (by kernel_rfl) rfl #[] rfl (by (try simp only [List.map_toArray, List.map_cons, List.map_nil]); first | done | rfl | (simp only [List.length_drop, List.length_take]; rfl)) ?_; (with_reducible refine (tappetlaw01_awake.calls k  true _ A4.out).mono ?_); rintro e w' ⟨rfl, ⟨nd, rfl⟩⟩; refine ⟨_, rfl, ?_⟩) | ((with_reducible refine gate_callee (f := 23) rfl ?_); refine goesL_ (some 21) rfl rfl Try.func23 (by kernel_rfl) rfl #[.int .i64 a0, .int .u64 a1, .int .u64 a2] rfl (by (try simp only [List.map_toArray, List.map_cons, List.map_nil]); first | done | rfl | (simp only [List.length_drop, List.length_take]; rfl)) ?_; (with_reducible refine (word_Arith.calls k a0 a1 a2 t274 t275 _ A5.out).mono ?_); rintro e w' ⟨rfl, ⟨nd, rfl⟩⟩; refine ⟨_, rfl, ?_⟩) | ((with_reducible refine gate_callee (f := 35) rfl ?_); refine goesL_ (some 28) rfl rfl Try.func35 (by kernel_rfl) rfl #[.int .i64 a0, .int .u64 a1, .int .u64 a2] rfl (by (try simp only [List.map_toArray, List.map_cons, List.map_nil]); first | done | rfl | (simp only [List.length_drop, List.length_take]; rfl)) ?_; (with_reducible refine (tappetref01_Arith.calls k a0 a1 a2 t276 t277 _ A6.out).mono ?_); rintro e w' ⟨rfl, ⟨nd, rfl⟩⟩; refine ⟨_, rfl, ?_⟩) | ((with_reducible refine gate_callee (f := 36) rfl ?_); refine goesL_ (some 35) rfl rfl Try.func36 (by kernel_rfl) rfl #[.int .i64 a0, .int .u64 a1, .int .u64 a2] rfl (by (try simp only [List.map_toArray, List.map_cons, List.map_nil]); first | done | rfl | (simp only [List.length_drop, List.length_take]; rfl)) ?_; (with_reducible refine (word_Less.calls k a0 a1 a2 t278 t279 _ A7.out).mono ?_); rintro e w' ⟨rfl, ⟨nd, rfl⟩⟩; refine ⟨_, rfl, ?_⟩) | ((with_reducible refine gate_callee (f := 37) rfl ?_); refine goesL_ (some 42) rfl rfl Try.func37 (by kernel_rfl) rfl #[.int .i64 a0, .int .u64 a1, .int .u64 a2] rfl (by (try simp only [List.map_toArray, List.map_cons, List.map_nil]); first | done | rfl | (simp only [List.length_drop, List.length_take]; rfl)) ?_; (with_reducible refine (tappetref01_Less.calls a0 a1 a2 t280 t281 _ A8.out).mono ?_); rintro e w' ⟨rfl, ⟨nd, rfl⟩⟩; refine ⟨_, rfl, ?_⟩))
      go_ret
      exact ⟨by first | rfl | (simp; done) | (simp [*]; done), by repeat (first | exact Drawn0.refl _ | apply Drawn0.step)⟩
      all_goals (exfalso; first | omega | (simp_all; done) | (simp_all; omega))
  · replace c9 := Bool.eq_false_iff.mpr c9
    subst c9
    have H1 : (some false) = some r := by rw [if_neg (show ¬ (false = true) by decide)] at H; exact H
    clear H
    have H := H1
    clear H1
    obtain rfl := Option.some.inj H
    go_enter Try.func10, Try.ntmps10
    go_wp2_with (first | ((with_reducible refine gate_callee (f := 22) rfl ?_); refine goesL_ (some 16) rfl rfl Try.func22 (by kernel_rfl) rfl #[] rfl (by (try simp only [List.map_toArray, List.map_cons, List.map_nil]); first | done | rfl | (simp only [List.length_drop, List.length_take]; rfl)) ?_; (with_reducible refine (tappetlaw01_awake.calls k  false _ A4.out).mono ?_); rintro e w' ⟨rfl, ⟨nd, rfl⟩⟩; refine ⟨_, rfl, ?_⟩) | ((with_reducible refine gate_callee (f := 23) rfl ?_); refine goesL_ (some 21) rfl rfl Try.func23 (by kernel_rfl) rfl #[.int .i64 a0, .int .u64 a1, .int .u64 a2] rfl (by (try simp only [List.map_toArray, List.map_cons, List.map_nil]); first | done | rfl | (simp only [List.length_drop, List.length_take]; rfl)) ?_; (with_reducible refine (word_Arith.calls k a0 a1 a2 t274 t275 _ A5.out).mono ?_); rintro e w' ⟨rfl, ⟨nd, rfl⟩⟩; refine ⟨_, rfl, ?_⟩) | ((with_reducible refine gate_callee (f := 35) rfl ?_); refine goesL_ (some 28) rfl rfl Try.func35 (by kernel_rfl) rfl #[.int .i64 a0, .int .u64 a1, .int .u64 a2] rfl (by (try simp only [List.map_toArray, List.map_cons, List.map_nil]); first | done | rfl | (simp only [List.length_drop, List.length_take]; rfl)) ?_; (with_reducible refine (tappetref01_Arith.calls k a0 a1 a2 t276 t277 _ A6.out).mono ?_); rintro e w' ⟨rfl, ⟨nd, rfl⟩⟩; refine ⟨_, rfl, ?_⟩) | ((with_reducible refine gate_callee (f := 36) rfl ?_); refine goesL_ (some 35) rfl rfl Try.func36 (by kernel_rfl) rfl #[.int .i64 a0, .int .u64 a1, .int .u64 a2] rfl (by (try simp only [List.map_toArray, List.map_cons, List.map_nil]); first | done | rfl | (simp only [List.length_drop, List.length_take]; rfl)) ?_; (with_reducible refine (word_Less.calls k a0 a1 a2 t278 t279 _ A7.out).mono ?_); rintro e w' ⟨rfl, ⟨nd, rfl⟩⟩; refine ⟨_, rfl, ?_⟩) | ((with_reducible refine gate_callee (f := 37) rfl ?_); refine goesL_ (some 42) rfl rfl Try.func37 (by kernel_rfl) rfl #[.int .i64 a0, .int .u64 a1, .int .u64 a2] rfl (by (try simp only [List.map_toArray, List.map_cons, List.map_nil]); first | done | rfl | (simp only [List.length_drop, List.length_take]; rfl)) ?_; (with_reducible refine (tappetref01_Less.calls a0 a1 a2 t280 t281 _ A8.out).mono ?_); rintro e w' ⟨rfl, ⟨nd, rfl⟩⟩; refine ⟨_, rfl, ?_⟩))
    go_ret
    exact ⟨by first | rfl | (simp; done) | (simp [*]; done), by repeat (first | exact Drawn0.refl _ | apply Drawn0.step)⟩
    all_goals (exfalso; first | omega | (simp_all; done) | (simp_all; omega))

/-- THE ONE PURE STATEMENT of tappetlaw01_WordReckons: yours. -/
def tappetlaw01_WordReckons.Pure : Prop := ∀ (a0 : Int) (a1 : Int) (a2 : Int), (Lit.int .i64 a0).wf = true → (Lit.int .u64 a1).wf = true → (Lit.int .u64 a2).wf = true → ∃ k, tappetlaw01_WordReckons.f k a0 a1 a2 = some true
theorem tappetlaw01_WordReckons.walk (P : tappetlaw01_WordReckons.Pure) (a0 : Int) (a1 : Int) (a2 : Int) (w : World) (w0 : (Lit.int .i64 a0).wf = true) (w1 : (Lit.int .u64 a1).wf = true) (w2 : (Lit.int .u64 a2).wf = true) :
    Calls Try.prog 10 #[.int .i64 a0, .int .u64 a1, .int .u64 a2] w fun e w' => e = .returned (.bool true) ∧ Below w.heap.size w w' := by
  obtain ⟨k, h⟩ := P a0 a1 a2 w0 w1 w2
  refine (tappetlaw01_WordReckons.calls k a0 a1 a2 true w h).mono ?_
  rintro e w' ⟨rfl, hd⟩
  exact ⟨rfl, hd.below⟩

/-! ### tappetlaw01_WordTurns: function 11 -/
mutual
def tappetlaw01_WordTurns.j0 : Nat → Int → Int → Bool → Int → Bool → Int → Bool → Int → Bool → Option (Bool)
  | 0, _, _, _, _, _, _, _, _, _ => none
  | k + 1, x1, x2, x7, x8, x9, x10, x11, x37, x38 => if x38 = true then (if x7 = true then (if x8 = x10 then (some (x9 == x11)) else (some false)) else (some false)) else (if x37 = 1 then (if x9 = true then (tappetlaw01_WordTurns.j1 k x7 x8 x10 (!x11)) else (tappetlaw01_WordTurns.j1 k x7 x8 x10 true)) else ((word_Less.f k 0 x1 x2).bind fun bt291 => ((word_Less.f k 2 x1 x2).bind fun bt293 => ((word_Less.f k 0 x2 x1).bind fun bt295 => (if x7 = true then (if bt291.2 = true then (if bt291.1 = true then (if bt293.1 = true then (some false) else (if bt295.1 = true then (some false) else (some true))) else (if bt293.1 = true then (if bt295.1 = true then (some false) else (some true)) else (some bt295.1))) else (some true)) else (some false))))))
def tappetlaw01_WordTurns.j1 : Nat → Bool → Int → Int → Bool → Option (Bool)
  | 0, _, _, _, _ => none
  | k + 1, x7, x8, x10, x62 => if x62 = true then (some x7) else ((word_Int.f x8).bind fun bt287 => ((word_Int.f x10).bind fun bt289 => (if x7 = true then (some (bt287.1 == (wrap64 (-bt289.1)))) else (some false))))
end
def tappetlaw01_WordTurns.f (k : Nat) (a0 : Int) (a1 : Int) (a2 : Int) : Option (Bool) := (tappetlaw01_awake.f k).bind fun t282 => ((word_Arith.f k a0 a1 a2).bind fun bt283 => ((word_Arith.f k a0 a2 a1).bind fun bt285 => (if a0 = 0 then (tappetlaw01_WordTurns.j0 k a1 a2 t282 bt283.1 bt283.2 bt285.1 bt285.2 a0 (a0 == 0)) else (if a0 = 2 then (tappetlaw01_WordTurns.j0 k a1 a2 t282 bt283.1 bt283.2 bt285.1 bt285.2 a0 (a0 == 2)) else (if a0 = 5 then (tappetlaw01_WordTurns.j0 k a1 a2 t282 bt283.1 bt283.2 bt285.1 bt285.2 a0 (a0 == 5)) else (if a0 = 6 then (tappetlaw01_WordTurns.j0 k a1 a2 t282 bt283.1 bt283.2 bt285.1 bt285.2 a0 (a0 == 6)) else (tappetlaw01_WordTurns.j0 k a1 a2 t282 bt283.1 bt283.2 bt285.1 bt285.2 a0 (a0 == 7))))))))
theorem tappetlaw01_WordTurns.mono_l : ∀ k, (∀ y0 y1 y2 y3 y4 y5 y6 y7 y8, LeO (tappetlaw01_WordTurns.j0 k y0 y1 y2 y3 y4 y5 y6 y7 y8) (tappetlaw01_WordTurns.j0 (k + 1) y0 y1 y2 y3 y4 y5 y6 y7 y8)) ∧ (∀ y0 y1 y2 y3, LeO (tappetlaw01_WordTurns.j1 k y0 y1 y2 y3) (tappetlaw01_WordTurns.j1 (k + 1) y0 y1 y2 y3))
  | 0 => ⟨fun _ _ _ _ _ _ _ _ _ r h => by simp [tappetlaw01_WordTurns.j0] at h, fun _ _ _ _ r h => by simp [tappetlaw01_WordTurns.j1] at h⟩
  | k + 1 => by
    obtain ⟨ih0, ih1⟩ := tappetlaw01_WordTurns.mono_l k
    refine ⟨?_, ?_⟩
    · intro y0 y1 y2 y3 y4 y5 y6 y7 y8
      unfold tappetlaw01_WordTurns.j0
      repeat' first
      | (with_reducible exact ih0 _ _ _ _ _ _ _ _ _)
      | (with_reducible exact ih1 _ _ _ _)
      | (with_reducible exact tappetlaw01_awake.mono _)
      | (with_reducible exact word_Arith.mono _ _ _ _)
      | (with_reducible exact word_Less.mono _ _ _ _)
      | (with_reducible exact LeO.refl _)
      | (with_reducible exact LeO.none _)
      | (with_reducible refine LeO.ite ?_ ?_)
      | (with_reducible refine LeO.bind ?_ (fun _ => ?_))
      | exact ih0 _ _ _ _ _ _ _ _ _
      | exact ih1 _ _ _ _
      | exact tappetlaw01_awake.mono _
      | exact word_Arith.mono _ _ _ _
      | exact word_Less.mono _ _ _ _
      | exact LeO.none _
      | refine LeO.ite ?_ ?_
      | refine LeO.bind ?_ (fun _ => ?_)
    · intro y0 y1 y2 y3
      unfold tappetlaw01_WordTurns.j1
      repeat' first
      | (with_reducible exact ih0 _ _ _ _ _ _ _ _ _)
      | (with_reducible exact ih1 _ _ _ _)
      | (with_reducible exact tappetlaw01_awake.mono _)
      | (with_reducible exact word_Arith.mono _ _ _ _)
      | (with_reducible exact word_Less.mono _ _ _ _)
      | (with_reducible exact LeO.refl _)
      | (with_reducible exact LeO.none _)
      | (with_reducible refine LeO.ite ?_ ?_)
      | (with_reducible refine LeO.bind ?_ (fun _ => ?_))
      | exact ih0 _ _ _ _ _ _ _ _ _
      | exact ih1 _ _ _ _
      | exact tappetlaw01_awake.mono _
      | exact word_Arith.mono _ _ _ _
      | exact word_Less.mono _ _ _ _
      | exact LeO.none _
      | refine LeO.ite ?_ ?_
      | refine LeO.bind ?_ (fun _ => ?_)
theorem tappetlaw01_WordTurns.mono : ∀ a0 a1 a2 k, LeO (tappetlaw01_WordTurns.f k a0 a1 a2) (tappetlaw01_WordTurns.f (k + 1) a0 a1 a2) := by
  intro a0 a1 a2 k
  obtain ⟨ih0, ih1⟩ := tappetlaw01_WordTurns.mono_l k
  unfold tappetlaw01_WordTurns.f
  repeat' first
      | (with_reducible exact ih0 _ _ _ _ _ _ _ _ _)
      | (with_reducible exact ih1 _ _ _ _)
      | (with_reducible exact tappetlaw01_awake.mono _)
      | (with_reducible exact word_Arith.mono _ _ _ _)
      | (with_reducible exact word_Less.mono _ _ _ _)
      | (with_reducible exact LeO.refl _)
      | (with_reducible exact LeO.none _)
      | (with_reducible refine LeO.ite ?_ ?_)
      | (with_reducible refine LeO.bind ?_ (fun _ => ?_))
      | exact ih0 _ _ _ _ _ _ _ _ _
      | exact ih1 _ _ _ _
      | exact tappetlaw01_awake.mono _
      | exact word_Arith.mono _ _ _ _
      | exact word_Less.mono _ _ _ _
      | exact LeO.none _
      | refine LeO.ite ?_ ?_
      | refine LeO.bind ?_ (fun _ => ?_)
set_option maxHeartbeats 8000000 in
set_option maxRecDepth 100000 in
theorem tappetlaw01_WordTurns.calls (k : Nat) (a0 : Int) (a1 : Int) (a2 : Int) (r : Bool) (w : World) (h : tappetlaw01_WordTurns.f k a0 a1 a2 = some r) :
    Calls Try.prog 11 #[.int .i64 a0, .int .u64 a1, .int .u64 a2] w fun e w' => e = .returned (.bool r) ∧ Drawn0 w w' := by
  have H : ((tappetlaw01_awake.f k).bind fun t282 => ((word_Arith.f k a0 a1 a2).bind fun bt283 => ((word_Arith.f k a0 a2 a1).bind fun bt285 => (if a0 = 0 then (tappetlaw01_WordTurns.j0 k a1 a2 t282 bt283.1 bt283.2 bt285.1 bt285.2 a0 (a0 == 0)) else (if a0 = 2 then (tappetlaw01_WordTurns.j0 k a1 a2 t282 bt283.1 bt283.2 bt285.1 bt285.2 a0 (a0 == 2)) else (if a0 = 5 then (tappetlaw01_WordTurns.j0 k a1 a2 t282 bt283.1 bt283.2 bt285.1 bt285.2 a0 (a0 == 5)) else (if a0 = 6 then (tappetlaw01_WordTurns.j0 k a1 a2 t282 bt283.1 bt283.2 bt285.1 bt285.2 a0 (a0 == 6)) else (tappetlaw01_WordTurns.j0 k a1 a2 t282 bt283.1 bt283.2 bt285.1 bt285.2 a0 (a0 == 7))))))))) = some r := h
  clear h
  replace H := Option.bind_eq_some_iff.mp H
  obtain ⟨t282, A40, H⟩ := H
  replace H : ((word_Arith.f k a0 a1 a2).bind fun bt283 => ((word_Arith.f k a0 a2 a1).bind fun bt285 => (if a0 = 0 then (tappetlaw01_WordTurns.j0 k a1 a2 t282 bt283.1 bt283.2 bt285.1 bt285.2 a0 (a0 == 0)) else (if a0 = 2 then (tappetlaw01_WordTurns.j0 k a1 a2 t282 bt283.1 bt283.2 bt285.1 bt285.2 a0 (a0 == 2)) else (if a0 = 5 then (tappetlaw01_WordTurns.j0 k a1 a2 t282 bt283.1 bt283.2 bt285.1 bt285.2 a0 (a0 == 5)) else (if a0 = 6 then (tappetlaw01_WordTurns.j0 k a1 a2 t282 bt283.1 bt283.2 bt285.1 bt285.2 a0 (a0 == 6)) else (tappetlaw01_WordTurns.j0 k a1 a2 t282 bt283.1 bt283.2 bt285.1 bt285.2 a0 (a0 == 7)))))))) = some r := H
  have A4 := Aside0.mk A40
  clear A40
  replace H := Option.bind_eq_some_iff.mp H
  obtain ⟨⟨t283, t284⟩, A50, H⟩ := H
  replace H : ((word_Arith.f k a0 a2 a1).bind fun bt285 => (if a0 = 0 then (tappetlaw01_WordTurns.j0 k a1 a2 t282 t283 t284 bt285.1 bt285.2 a0 (a0 == 0)) else (if a0 = 2 then (tappetlaw01_WordTurns.j0 k a1 a2 t282 t283 t284 bt285.1 bt285.2 a0 (a0 == 2)) else (if a0 = 5 then (tappetlaw01_WordTurns.j0 k a1 a2 t282 t283 t284 bt285.1 bt285.2 a0 (a0 == 5)) else (if a0 = 6 then (tappetlaw01_WordTurns.j0 k a1 a2 t282 t283 t284 bt285.1 bt285.2 a0 (a0 == 6)) else (tappetlaw01_WordTurns.j0 k a1 a2 t282 t283 t284 bt285.1 bt285.2 a0 (a0 == 7))))))) = some r := H
  have A5 := Aside0.mk A50
  clear A50
  replace H := Option.bind_eq_some_iff.mp H
  obtain ⟨⟨t285, t286⟩, A60, H⟩ := H
  replace H : (if a0 = 0 then (tappetlaw01_WordTurns.j0 k a1 a2 t282 t283 t284 t285 t286 a0 (a0 == 0)) else (if a0 = 2 then (tappetlaw01_WordTurns.j0 k a1 a2 t282 t283 t284 t285 t286 a0 (a0 == 2)) else (if a0 = 5 then (tappetlaw01_WordTurns.j0 k a1 a2 t282 t283 t284 t285 t286 a0 (a0 == 5)) else (if a0 = 6 then (tappetlaw01_WordTurns.j0 k a1 a2 t282 t283 t284 t285 t286 a0 (a0 == 6)) else (tappetlaw01_WordTurns.j0 k a1 a2 t282 t283 t284 t285 t286 a0 (a0 == 7)))))) = some r := H
  have A6 := Aside0.mk A60
  clear A60
  have HC7 := Aside0.mk H
  clear H
  go_enter Try.func11, Try.ntmps11
  go_upto_if 38 with (first | ((with_reducible refine gate_callee (f := 22) rfl ?_); refine goesL_ (some 22) rfl rfl Try.func22 (by kernel_rfl) rfl #[] rfl (by (try simp only [List.map_toArray, List.map_cons, List.map_nil]); first | done | rfl | (simp only [List.length_drop, List.length_take]; rfl)) ?_; (with_reducible refine (tappetlaw01_awake.calls k  t282 _ A4.out).mono ?_); rintro e w' ⟨rfl, ⟨nd, rfl⟩⟩; refine ⟨_, rfl, ?_⟩) | ((with_reducible refine gate_callee (f := 23) rfl ?_); refine goesL_ (some 27) rfl rfl Try.func23 (by kernel_rfl) rfl #[.int .i64 a0, .int .u64 a1, .int .u64 a2] rfl (by (try simp only [List.map_toArray, List.map_cons, List.map_nil]); first | done | rfl | (simp only [List.length_drop, List.length_take]; rfl)) ?_; (with_reducible refine (word_Arith.calls k a0 a1 a2 t283 t284 _ A5.out).mono ?_); rintro e w' ⟨rfl, ⟨nd, rfl⟩⟩; refine ⟨_, rfl, ?_⟩) | ((with_reducible refine gate_callee (f := 23) rfl ?_); refine goesL_ (some 34) rfl rfl Try.func23 (by kernel_rfl) rfl #[.int .i64 a0, .int .u64 a2, .int .u64 a1] rfl (by (try simp only [List.map_toArray, List.map_cons, List.map_nil]); first | done | rfl | (simp only [List.length_drop, List.length_take]; rfl)) ?_; (with_reducible refine (word_Arith.calls k a0 a2 a1 t285 t286 _ A6.out).mono ?_); rintro e w' ⟨rfl, ⟨nd, rfl⟩⟩; refine ⟨_, rfl, ?_⟩))
  (try simp only [Act.put, List.setIfInBounds_toArray, List.set_cons_zero, List.set_cons_succ])
  go_cut [38] (fun v38 wc => ∃ (kq : Nat) (x38_6 : Bool), v38 = .bool x38_6 ∧ Aside0 (tappetlaw01_WordTurns.j0 kq a1 a2 t282 t283 t284 t285 t286 a0 x38_6 = some r) ∧ Aside0 (kq ≤ k) ∧ Drawn0 w wc)
  case first =>
    have H := HC7.out
    clear HC7
    by_cases c8 : a0 = 0
    · rw [if_pos c8] at H
      have c8b0 : (a0 == 0) = true := beq_iff_eq.mpr c8
      have c8b1 : (a0 != 0) = false := bne_eq_false_iff_eq.mpr c8
      clear c8
      (first | rw [c8b0] | (simp only [i64_w, i32_w]; rw [c8b0]) | skip)
      have H' := Aside0.mk H
      clear H
      go_wp2
      go_meet
      case rel => exact ⟨_, ((a0 == 0)), (by first | rfl | (simp; done) | (simp [*]; done)), H', ⟨by first | omega | exact Nat.le_refl _⟩, by repeat (first | exact Drawn0.refl _ | apply Drawn0.step)⟩
    · rw [if_neg c8] at H
      have c8b0 : (a0 == 0) = false := beq_eq_false_iff_ne.mpr c8
      have c8b1 : (a0 != 0) = true := bne_iff_ne.mpr c8
      (first | rw [c8b0] | (simp only [i64_w, i32_w]; rw [c8b0]) | skip)
      by_cases c9 : a0 = 2
      · rw [if_pos c9] at H
        have c9b0 : (a0 == 2) = true := beq_iff_eq.mpr c9
        have c9b1 : (a0 != 2) = false := bne_eq_false_iff_eq.mpr c9
        clear c9
        have H' := Aside0.mk H
        clear H
        go_wp2
        go_meet
        case rel => exact ⟨_, ((a0 == 2)), (by first | rfl | (simp; done) | (simp [*]; done)), H', ⟨by first | omega | exact Nat.le_refl _⟩, by repeat (first | exact Drawn0.refl _ | apply Drawn0.step)⟩
      · rw [if_neg c9] at H
        have c9b0 : (a0 == 2) = false := beq_eq_false_iff_ne.mpr c9
        have c9b1 : (a0 != 2) = true := bne_iff_ne.mpr c9
        by_cases c10 : a0 = 5
        · rw [if_pos c10] at H
          have c10b0 : (a0 == 5) = true := beq_iff_eq.mpr c10
          have c10b1 : (a0 != 5) = false := bne_eq_false_iff_eq.mpr c10
          clear c10
          have H' := Aside0.mk H
          clear H
          go_wp2
          go_meet
          case rel => exact ⟨_, ((a0 == 5)), (by first | rfl | (simp; done) | (simp [*]; done)), H', ⟨by first | omega | exact Nat.le_refl _⟩, by repeat (first | exact Drawn0.refl _ | apply Drawn0.step)⟩
        · rw [if_neg c10] at H
          have c10b0 : (a0 == 5) = false := beq_eq_false_iff_ne.mpr c10
          have c10b1 : (a0 != 5) = true := bne_iff_ne.mpr c10
          by_cases c11 : a0 = 6
          · rw [if_pos c11] at H
            have c11b0 : (a0 == 6) = true := beq_iff_eq.mpr c11
            have c11b1 : (a0 != 6) = false := bne_eq_false_iff_eq.mpr c11
            clear c11
            have H' := Aside0.mk H
            clear H
            go_wp2
            go_meet
            case rel => exact ⟨_, ((a0 == 6)), (by first | rfl | (simp; done) | (simp [*]; done)), H', ⟨by first | omega | exact Nat.le_refl _⟩, by repeat (first | exact Drawn0.refl _ | apply Drawn0.step)⟩
          · rw [if_neg c11] at H
            have c11b0 : (a0 == 6) = false := beq_eq_false_iff_ne.mpr c11
            have c11b1 : (a0 != 6) = true := bne_iff_ne.mpr c11
            have H' := Aside0.mk H
            clear H
            go_wp2
            go_meet
            case rel => exact ⟨_, ((a0 == 7)), (by first | rfl | (simp; done) | (simp [*]; done)), H', ⟨by first | omega | exact Nat.le_refl _⟩, by repeat (first | exact Drawn0.refl _ | apply Drawn0.step)⟩
  case rest =>
    clear HC7
    try clear c1
    try clear c2
    try clear p2
    try clear c8
    try clear c8b0
    try clear c8b1
    try clear c9
    try clear c9b0
    try clear c9b1
    try clear c10
    try clear c10b0
    try clear c10b1
    try clear c11
    try clear c11b0
    try clear c11b1
    obtain ⟨kq, x38_6, rfl, HA, HJ6, ⟨mc6, rfl⟩⟩ := hcut
    cases kq with
    | zero => exact absurd HA.out (by simp [tappetlaw01_WordTurns.j0])
    | succ kj6 =>
      have H := HA.out
      clear HA
      simp only [tappetlaw01_WordTurns.j0] at H
      by_cases c12 : x38_6 = true
      · subst c12
        have H1 : (if t282 = true then (if t283 = t285 then (some (t284 == t286)) else (some false)) else (some false)) = some r := by rw [if_pos rfl] at H; exact H
        clear H
        have H := H1
        clear H1
        by_cases c13 : t282 = true
        · subst c13
          have H1 : (if t283 = t285 then (some (t284 == t286)) else (some false)) = some r := by rw [if_pos rfl] at H; exact H
          clear H
          have H := H1
          clear H1
          by_cases c14 : t283 = t285
          · rw [if_pos c14] at H
            have c14b0 : (t283 == t285) = true := beq_iff_eq.mpr c14
            have c14b1 : (t283 != t285) = false := bne_eq_false_iff_eq.mpr c14
            clear c14
            obtain rfl := Option.some.inj H
            go_wp2
            go_ret
            exact ⟨by first | rfl | (simp; done) | (simp [*]; done), by repeat (first | exact Drawn0.refl _ | apply Drawn0.step)⟩
            all_goals (exfalso; first | omega | (simp_all; done) | (simp_all; omega))
          · rw [if_neg c14] at H
            have c14b0 : (t283 == t285) = false := beq_eq_false_iff_ne.mpr c14
            have c14b1 : (t283 != t285) = true := bne_iff_ne.mpr c14
            obtain rfl := Option.some.inj H
            go_wp2
            go_ret
            exact ⟨by first | rfl | (simp; done) | (simp [*]; done), by repeat (first | exact Drawn0.refl _ | apply Drawn0.step)⟩
            all_goals (exfalso; first | omega | (simp_all; done) | (simp_all; omega))
        · replace c13 := Bool.eq_false_iff.mpr c13
          subst c13
          have H1 : (some false) = some r := by rw [if_neg (show ¬ (false = true) by decide)] at H; exact H
          clear H
          have H := H1
          clear H1
          obtain rfl := Option.some.inj H
          go_wp2
          go_ret
          exact ⟨by first | rfl | (simp; done) | (simp [*]; done), by repeat (first | exact Drawn0.refl _ | apply Drawn0.step)⟩
          all_goals (exfalso; first | omega | (simp_all; done) | (simp_all; omega))
      · replace c12 := Bool.eq_false_iff.mpr c12
        subst c12
        have H1 : (if a0 = 1 then (if t284 = true then (tappetlaw01_WordTurns.j1 kj6 t282 t283 t285 (!t286)) else (tappetlaw01_WordTurns.j1 kj6 t282 t283 t285 true)) else ((word_Less.f kj6 0 a1 a2).bind fun bt291 => ((word_Less.f kj6 2 a1 a2).bind fun bt293 => ((word_Less.f kj6 0 a2 a1).bind fun bt295 => (if t282 = true then (if bt291.2 = true then (if bt291.1 = true then (if bt293.1 = true then (some false) else (if bt295.1 = true then (some false) else (some true))) else (if bt293.1 = true then (if bt295.1 = true then (some false) else (some true)) else (some bt295.1))) else (some true)) else (some false)))))) = some r := by rw [if_neg (show ¬ (false = true) by decide)] at H; exact H
        clear H
        have H := H1
        clear H1
        by_cases c15 : a0 = 1
        · rw [if_pos c15] at H
          have c15b0 : (a0 == 1) = true := beq_iff_eq.mpr c15
          have c15b1 : (a0 != 1) = false := bne_eq_false_iff_eq.mpr c15
          clear c15
          have HC16 := Aside0.mk H
          clear H
          go_upto_region 12 with (fail)
          go_cut [62] (fun v62 wc => ∃ (kq : Nat) (x62_15 : Bool), v62 = .bool x62_15 ∧ Aside0 (tappetlaw01_WordTurns.j1 kq t282 t283 t285 x62_15 = some r) ∧ Aside0 (kq ≤ kj6) ∧ Drawn0 w wc)
          case first =>
            have H := HC16.out
            clear HC16
            by_cases c17 : t284 = true
            · subst c17
              have H1 : (tappetlaw01_WordTurns.j1 kj6 t282 t283 t285 (!t286)) = some r := by rw [if_pos rfl] at H; exact H
              clear H
              have H := H1
              clear H1
              have H' := Aside0.mk H
              clear H
              go_wp2
              go_meet
              case rel => exact ⟨_, (!t286), (by first | rfl | (simp; done) | (simp [*]; done)), H', ⟨by have := HJ6.out; first | omega | exact Nat.le_refl _⟩, by repeat (first | exact Drawn0.refl _ | apply Drawn0.step)⟩
            · replace c17 := Bool.eq_false_iff.mpr c17
              subst c17
              have H1 : (tappetlaw01_WordTurns.j1 kj6 t282 t283 t285 true) = some r := by rw [if_neg (show ¬ (false = true) by decide)] at H; exact H
              clear H
              have H := H1
              clear H1
              have H' := Aside0.mk H
              clear H
              go_wp2
              go_meet
              case rel => exact ⟨_, (true), (by first | rfl | (simp; done) | (simp [*]; done)), H', ⟨by have := HJ6.out; first | omega | exact Nat.le_refl _⟩, by repeat (first | exact Drawn0.refl _ | apply Drawn0.step)⟩
          case rest =>
            clear HC16
            try clear c1
            try clear c2
            try clear p2
            try clear c6
            try clear c8
            try clear c8b0
            try clear c8b1
            try clear c9
            try clear c9b0
            try clear c9b1
            try clear c10
            try clear c10b0
            try clear c10b1
            try clear c11
            try clear c11b0
            try clear c11b1
            try clear c12
            try clear c13
            try clear c14
            try clear c14b0
            try clear c14b1
            try clear c15
            try clear c15b0
            try clear c15b1
            try clear c17
            try clear p2
            obtain ⟨kq, x62_15, rfl, HA, HJ15, ⟨mc15, rfl⟩⟩ := hcut
            cases kq with
            | zero => exact absurd HA.out (by simp [tappetlaw01_WordTurns.j1])
            | succ kj15 =>
              have H := HA.out
              clear HA
              simp only [tappetlaw01_WordTurns.j1] at H
              by_cases c18 : x62_15 = true
              · subst c18
                have H1 : (some t282) = some r := by rw [if_pos rfl] at H; exact H
                clear H
                have H := H1
                clear H1
                obtain rfl := Option.some.inj H
                go_wp2
                go_ret
                exact ⟨by first | rfl | (simp; done) | (simp [*]; done), by repeat (first | exact Drawn0.refl _ | apply Drawn0.step)⟩
                all_goals (exfalso; first | omega | (simp_all; done) | (simp_all; omega))
              · replace c18 := Bool.eq_false_iff.mpr c18
                subst c18
                have H1 : ((word_Int.f t283).bind fun bt287 => ((word_Int.f t285).bind fun bt289 => (if t282 = true then (some (bt287.1 == (wrap64 (-bt289.1)))) else (some false)))) = some r := by rw [if_neg (show ¬ (false = true) by decide)] at H; exact H
                clear H
                have H := H1
                clear H1
                replace H := Option.bind_eq_some_iff.mp H
                obtain ⟨⟨t287, t288⟩, A190, H⟩ := H
                replace H : ((word_Int.f t285).bind fun bt289 => (if t282 = true then (some (t287 == (wrap64 (-bt289.1)))) else (some false))) = some r := H
                have A19 := Aside0.mk A190
                clear A190
                replace H := Option.bind_eq_some_iff.mp H
                obtain ⟨⟨t289, t290⟩, A200, H⟩ := H
                replace H : (if t282 = true then (some (t287 == (wrap64 (-t289)))) else (some false)) = some r := H
                have A20 := Aside0.mk A200
                clear A200
                by_cases c21 : t282 = true
                · subst c21
                  have H1 : (some (t287 == (wrap64 (-t289)))) = some r := by rw [if_pos rfl] at H; exact H
                  clear H
                  have H := H1
                  clear H1
                  obtain rfl := Option.some.inj H
                  go_wp2_with (first | ((with_reducible refine gate_callee (f := 25) rfl ?_); refine goesL_ (some 66) rfl rfl Try.func25 (by kernel_rfl) rfl #[.int .u64 t283] rfl (by (try simp only [List.map_toArray, List.map_cons, List.map_nil]); first | done | rfl | (simp only [List.length_drop, List.length_take]; rfl)) ?_; (with_reducible refine (word_Int.calls t283 t287 t288 _ A19.out).mono ?_); rintro e w' ⟨rfl, ⟨nd, rfl⟩⟩; refine ⟨_, rfl, ?_⟩) | ((with_reducible refine gate_callee (f := 25) rfl ?_); refine goesL_ (some 71) rfl rfl Try.func25 (by kernel_rfl) rfl #[.int .u64 t285] rfl (by (try simp only [List.map_toArray, List.map_cons, List.map_nil]); first | done | rfl | (simp only [List.length_drop, List.length_take]; rfl)) ?_; (with_reducible refine (word_Int.calls t285 t289 t290 _ A20.out).mono ?_); rintro e w' ⟨rfl, ⟨nd, rfl⟩⟩; refine ⟨_, rfl, ?_⟩))
                  go_ret
                  exact ⟨by first | rfl | (simp; done) | (simp [*]; done), by repeat (first | exact Drawn0.refl _ | apply Drawn0.step)⟩
                  all_goals (exfalso; first | omega | (simp_all; done) | (simp_all; omega))
                · replace c21 := Bool.eq_false_iff.mpr c21
                  subst c21
                  have H1 : (some false) = some r := by rw [if_neg (show ¬ (false = true) by decide)] at H; exact H
                  clear H
                  have H := H1
                  clear H1
                  obtain rfl := Option.some.inj H
                  go_wp2_with (first | ((with_reducible refine gate_callee (f := 25) rfl ?_); refine goesL_ (some 66) rfl rfl Try.func25 (by kernel_rfl) rfl #[.int .u64 t283] rfl (by (try simp only [List.map_toArray, List.map_cons, List.map_nil]); first | done | rfl | (simp only [List.length_drop, List.length_take]; rfl)) ?_; (with_reducible refine (word_Int.calls t283 t287 t288 _ A19.out).mono ?_); rintro e w' ⟨rfl, ⟨nd, rfl⟩⟩; refine ⟨_, rfl, ?_⟩) | ((with_reducible refine gate_callee (f := 25) rfl ?_); refine goesL_ (some 71) rfl rfl Try.func25 (by kernel_rfl) rfl #[.int .u64 t285] rfl (by (try simp only [List.map_toArray, List.map_cons, List.map_nil]); first | done | rfl | (simp only [List.length_drop, List.length_take]; rfl)) ?_; (with_reducible refine (word_Int.calls t285 t289 t290 _ A20.out).mono ?_); rintro e w' ⟨rfl, ⟨nd, rfl⟩⟩; refine ⟨_, rfl, ?_⟩))
                  go_ret
                  exact ⟨by first | rfl | (simp; done) | (simp [*]; done), by repeat (first | exact Drawn0.refl _ | apply Drawn0.step)⟩
                  all_goals (exfalso; first | omega | (simp_all; done) | (simp_all; omega))
        · rw [if_neg c15] at H
          have c15b0 : (a0 == 1) = false := beq_eq_false_iff_ne.mpr c15
          have c15b1 : (a0 != 1) = true := bne_iff_ne.mpr c15
          replace H := Option.bind_eq_some_iff.mp H
          obtain ⟨⟨t291, t292⟩, A220, H⟩ := H
          replace H : ((word_Less.f kj6 2 a1 a2).bind fun bt293 => ((word_Less.f kj6 0 a2 a1).bind fun bt295 => (if t282 = true then (if t292 = true then (if t291 = true then (if bt293.1 = true then (some false) else (if bt295.1 = true then (some false) else (some true))) else (if bt293.1 = true then (if bt295.1 = true then (some false) else (some true)) else (some bt295.1))) else (some true)) else (some false)))) = some r := H
          have A22 := Aside0.mk A220
          clear A220
          replace H := Option.bind_eq_some_iff.mp H
          obtain ⟨⟨t293, t294⟩, A230, H⟩ := H
          replace H : ((word_Less.f kj6 0 a2 a1).bind fun bt295 => (if t282 = true then (if t292 = true then (if t291 = true then (if t293 = true then (some false) else (if bt295.1 = true then (some false) else (some true))) else (if t293 = true then (if bt295.1 = true then (some false) else (some true)) else (some bt295.1))) else (some true)) else (some false))) = some r := H
          have A23 := Aside0.mk A230
          clear A230
          replace H := Option.bind_eq_some_iff.mp H
          obtain ⟨⟨t295, t296⟩, A240, H⟩ := H
          replace H : (if t282 = true then (if t292 = true then (if t291 = true then (if t293 = true then (some false) else (if t295 = true then (some false) else (some true))) else (if t293 = true then (if t295 = true then (some false) else (some true)) else (some t295))) else (some true)) else (some false)) = some r := H
          have A24 := Aside0.mk A240
          clear A240
          by_cases c25 : t282 = true
          · subst c25
            have H1 : (if t292 = true then (if t291 = true then (if t293 = true then (some false) else (if t295 = true then (some false) else (some true))) else (if t293 = true then (if t295 = true then (some false) else (some true)) else (some t295))) else (some true)) = some r := by rw [if_pos rfl] at H; exact H
            clear H
            have H := H1
            clear H1
            by_cases c26 : t292 = true
            · subst c26
              have H1 : (if t291 = true then (if t293 = true then (some false) else (if t295 = true then (some false) else (some true))) else (if t293 = true then (if t295 = true then (some false) else (some true)) else (some t295))) = some r := by rw [if_pos rfl] at H; exact H
              clear H
              have H := H1
              clear H1
              by_cases c27 : t291 = true
              · subst c27
                have H1 : (if t293 = true then (some false) else (if t295 = true then (some false) else (some true))) = some r := by rw [if_pos rfl] at H; exact H
                clear H
                have H := H1
                clear H1
                by_cases c28 : t293 = true
                · subst c28
                  have H1 : (some false) = some r := by rw [if_pos rfl] at H; exact H
                  clear H
                  have H := H1
                  clear H1
                  obtain rfl := Option.some.inj H
                  go_wp2_with (first | ((with_reducible refine gate_callee (f := 36) rfl ?_); refine goesL_ (some 84) rfl rfl Try.func36 (by kernel_rfl) rfl #[.int .i64 0, .int .u64 a1, .int .u64 a2] rfl (by (try simp only [List.map_toArray, List.map_cons, List.map_nil]); first | done | rfl | (simp only [List.length_drop, List.length_take]; rfl)) ?_; (with_reducible refine (word_Less.calls kj6 0 a1 a2 true true _ A22.out).mono ?_); rintro e w' ⟨rfl, ⟨nd, rfl⟩⟩; refine ⟨_, rfl, ?_⟩) | ((with_reducible refine gate_callee (f := 36) rfl ?_); refine goesL_ (some 90) rfl rfl Try.func36 (by kernel_rfl) rfl #[.int .i64 2, .int .u64 a1, .int .u64 a2] rfl (by (try simp only [List.map_toArray, List.map_cons, List.map_nil]); first | done | rfl | (simp only [List.length_drop, List.length_take]; rfl)) ?_; (with_reducible refine (word_Less.calls kj6 2 a1 a2 true t294 _ A23.out).mono ?_); rintro e w' ⟨rfl, ⟨nd, rfl⟩⟩; refine ⟨_, rfl, ?_⟩) | ((with_reducible refine gate_callee (f := 36) rfl ?_); refine goesL_ (some 96) rfl rfl Try.func36 (by kernel_rfl) rfl #[.int .i64 0, .int .u64 a2, .int .u64 a1] rfl (by (try simp only [List.map_toArray, List.map_cons, List.map_nil]); first | done | rfl | (simp only [List.length_drop, List.length_take]; rfl)) ?_; (with_reducible refine (word_Less.calls kj6 0 a2 a1 t295 t296 _ A24.out).mono ?_); rintro e w' ⟨rfl, ⟨nd, rfl⟩⟩; refine ⟨_, rfl, ?_⟩))
                  go_ret
                  exact ⟨by first | rfl | (simp; done) | (simp [*]; done), by repeat (first | exact Drawn0.refl _ | apply Drawn0.step)⟩
                  all_goals (exfalso; first | omega | (simp_all; done) | (simp_all; omega))
                · replace c28 := Bool.eq_false_iff.mpr c28
                  subst c28
                  have H1 : (if t295 = true then (some false) else (some true)) = some r := by rw [if_neg (show ¬ (false = true) by decide)] at H; exact H
                  clear H
                  have H := H1
                  clear H1
                  by_cases c29 : t295 = true
                  · subst c29
                    have H1 : (some false) = some r := by rw [if_pos rfl] at H; exact H
                    clear H
                    have H := H1
                    clear H1
                    obtain rfl := Option.some.inj H
                    go_wp2_with (first | ((with_reducible refine gate_callee (f := 36) rfl ?_); refine goesL_ (some 84) rfl rfl Try.func36 (by kernel_rfl) rfl #[.int .i64 0, .int .u64 a1, .int .u64 a2] rfl (by (try simp only [List.map_toArray, List.map_cons, List.map_nil]); first | done | rfl | (simp only [List.length_drop, List.length_take]; rfl)) ?_; (with_reducible refine (word_Less.calls kj6 0 a1 a2 true true _ A22.out).mono ?_); rintro e w' ⟨rfl, ⟨nd, rfl⟩⟩; refine ⟨_, rfl, ?_⟩) | ((with_reducible refine gate_callee (f := 36) rfl ?_); refine goesL_ (some 90) rfl rfl Try.func36 (by kernel_rfl) rfl #[.int .i64 2, .int .u64 a1, .int .u64 a2] rfl (by (try simp only [List.map_toArray, List.map_cons, List.map_nil]); first | done | rfl | (simp only [List.length_drop, List.length_take]; rfl)) ?_; (with_reducible refine (word_Less.calls kj6 2 a1 a2 false t294 _ A23.out).mono ?_); rintro e w' ⟨rfl, ⟨nd, rfl⟩⟩; refine ⟨_, rfl, ?_⟩) | ((with_reducible refine gate_callee (f := 36) rfl ?_); refine goesL_ (some 96) rfl rfl Try.func36 (by kernel_rfl) rfl #[.int .i64 0, .int .u64 a2, .int .u64 a1] rfl (by (try simp only [List.map_toArray, List.map_cons, List.map_nil]); first | done | rfl | (simp only [List.length_drop, List.length_take]; rfl)) ?_; (with_reducible refine (word_Less.calls kj6 0 a2 a1 true t296 _ A24.out).mono ?_); rintro e w' ⟨rfl, ⟨nd, rfl⟩⟩; refine ⟨_, rfl, ?_⟩))
                    go_ret
                    exact ⟨by first | rfl | (simp; done) | (simp [*]; done), by repeat (first | exact Drawn0.refl _ | apply Drawn0.step)⟩
                    all_goals (exfalso; first | omega | (simp_all; done) | (simp_all; omega))
                  · replace c29 := Bool.eq_false_iff.mpr c29
                    subst c29
                    have H1 : (some true) = some r := by rw [if_neg (show ¬ (false = true) by decide)] at H; exact H
                    clear H
                    have H := H1
                    clear H1
                    obtain rfl := Option.some.inj H
                    go_wp2_with (first | ((with_reducible refine gate_callee (f := 36) rfl ?_); refine goesL_ (some 84) rfl rfl Try.func36 (by kernel_rfl) rfl #[.int .i64 0, .int .u64 a1, .int .u64 a2] rfl (by (try simp only [List.map_toArray, List.map_cons, List.map_nil]); first | done | rfl | (simp only [List.length_drop, List.length_take]; rfl)) ?_; (with_reducible refine (word_Less.calls kj6 0 a1 a2 true true _ A22.out).mono ?_); rintro e w' ⟨rfl, ⟨nd, rfl⟩⟩; refine ⟨_, rfl, ?_⟩) | ((with_reducible refine gate_callee (f := 36) rfl ?_); refine goesL_ (some 90) rfl rfl Try.func36 (by kernel_rfl) rfl #[.int .i64 2, .int .u64 a1, .int .u64 a2] rfl (by (try simp only [List.map_toArray, List.map_cons, List.map_nil]); first | done | rfl | (simp only [List.length_drop, List.length_take]; rfl)) ?_; (with_reducible refine (word_Less.calls kj6 2 a1 a2 false t294 _ A23.out).mono ?_); rintro e w' ⟨rfl, ⟨nd, rfl⟩⟩; refine ⟨_, rfl, ?_⟩) | ((with_reducible refine gate_callee (f := 36) rfl ?_); refine goesL_ (some 96) rfl rfl Try.func36 (by kernel_rfl) rfl #[.int .i64 0, .int .u64 a2, .int .u64 a1] rfl (by (try simp only [List.map_toArray, List.map_cons, List.map_nil]); first | done | rfl | (simp only [List.length_drop, List.length_take]; rfl)) ?_; (with_reducible refine (word_Less.calls kj6 0 a2 a1 false t296 _ A24.out).mono ?_); rintro e w' ⟨rfl, ⟨nd, rfl⟩⟩; refine ⟨_, rfl, ?_⟩))
                    go_ret
                    exact ⟨by first | rfl | (simp; done) | (simp [*]; done), by repeat (first | exact Drawn0.refl _ | apply Drawn0.step)⟩
                    all_goals (exfalso; first | omega | (simp_all; done) | (simp_all; omega))
              · replace c27 := Bool.eq_false_iff.mpr c27
                subst c27
                have H1 : (if t293 = true then (if t295 = true then (some false) else (some true)) else (some t295)) = some r := by rw [if_neg (show ¬ (false = true) by decide)] at H; exact H
                clear H
                have H := H1
                clear H1
                by_cases c30 : t293 = true
                · subst c30
                  have H1 : (if t295 = true then (some false) else (some true)) = some r := by rw [if_pos rfl] at H; exact H
                  clear H
                  have H := H1
                  clear H1
                  by_cases c31 : t295 = true
                  · subst c31
                    have H1 : (some false) = some r := by rw [if_pos rfl] at H; exact H
                    clear H
                    have H := H1
                    clear H1
                    obtain rfl := Option.some.inj H
                    go_wp2_with (first | ((with_reducible refine gate_callee (f := 36) rfl ?_); refine goesL_ (some 84) rfl rfl Try.func36 (by kernel_rfl) rfl #[.int .i64 0, .int .u64 a1, .int .u64 a2] rfl (by (try simp only [List.map_toArray, List.map_cons, List.map_nil]); first | done | rfl | (simp only [List.length_drop, List.length_take]; rfl)) ?_; (with_reducible refine (word_Less.calls kj6 0 a1 a2 false true _ A22.out).mono ?_); rintro e w' ⟨rfl, ⟨nd, rfl⟩⟩; refine ⟨_, rfl, ?_⟩) | ((with_reducible refine gate_callee (f := 36) rfl ?_); refine goesL_ (some 90) rfl rfl Try.func36 (by kernel_rfl) rfl #[.int .i64 2, .int .u64 a1, .int .u64 a2] rfl (by (try simp only [List.map_toArray, List.map_cons, List.map_nil]); first | done | rfl | (simp only [List.length_drop, List.length_take]; rfl)) ?_; (with_reducible refine (word_Less.calls kj6 2 a1 a2 true t294 _ A23.out).mono ?_); rintro e w' ⟨rfl, ⟨nd, rfl⟩⟩; refine ⟨_, rfl, ?_⟩) | ((with_reducible refine gate_callee (f := 36) rfl ?_); refine goesL_ (some 96) rfl rfl Try.func36 (by kernel_rfl) rfl #[.int .i64 0, .int .u64 a2, .int .u64 a1] rfl (by (try simp only [List.map_toArray, List.map_cons, List.map_nil]); first | done | rfl | (simp only [List.length_drop, List.length_take]; rfl)) ?_; (with_reducible refine (word_Less.calls kj6 0 a2 a1 true t296 _ A24.out).mono ?_); rintro e w' ⟨rfl, ⟨nd, rfl⟩⟩; refine ⟨_, rfl, ?_⟩))
                    go_ret
                    exact ⟨by first | rfl | (simp; done) | (simp [*]; done), by repeat (first | exact Drawn0.refl _ | apply Drawn0.step)⟩
                    all_goals (exfalso; first | omega | (simp_all; done) | (simp_all; omega))
                  · replace c31 := Bool.eq_false_iff.mpr c31
                    subst c31
                    have H1 : (some true) = some r := by rw [if_neg (show ¬ (false = true) by decide)] at H; exact H
                    clear H
                    have H := H1
                    clear H1
                    obtain rfl := Option.some.inj H
                    go_wp2_with (first | ((with_reducible refine gate_callee (f := 36) rfl ?_); refine goesL_ (some 84) rfl rfl Try.func36 (by kernel_rfl) rfl #[.int .i64 0, .int .u64 a1, .int .u64 a2] rfl (by (try simp only [List.map_toArray, List.map_cons, List.map_nil]); first | done | rfl | (simp only [List.length_drop, List.length_take]; rfl)) ?_; (with_reducible refine (word_Less.calls kj6 0 a1 a2 false true _ A22.out).mono ?_); rintro e w' ⟨rfl, ⟨nd, rfl⟩⟩; refine ⟨_, rfl, ?_⟩) | ((with_reducible refine gate_callee (f := 36) rfl ?_); refine goesL_ (some 90) rfl rfl Try.func36 (by kernel_rfl) rfl #[.int .i64 2, .int .u64 a1, .int .u64 a2] rfl (by (try simp only [List.map_toArray, List.map_cons, List.map_nil]); first | done | rfl | (simp only [List.length_drop, List.length_take]; rfl)) ?_; (with_reducible refine (word_Less.calls kj6 2 a1 a2 true t294 _ A23.out).mono ?_); rintro e w' ⟨rfl, ⟨nd, rfl⟩⟩; refine ⟨_, rfl, ?_⟩) | ((with_reducible refine gate_callee (f := 36) rfl ?_); refine goesL_ (some 96) rfl rfl Try.func36 (by kernel_rfl) rfl #[.int .i64 0, .int .u64 a2, .int .u64 a1] rfl (by (try simp only [List.map_toArray, List.map_cons, List.map_nil]); first | done | rfl | (simp only [List.length_drop, List.length_take]; rfl)) ?_; (with_reducible refine (word_Less.calls kj6 0 a2 a1 false t296 _ A24.out).mono ?_); rintro e w' ⟨rfl, ⟨nd, rfl⟩⟩; refine ⟨_, rfl, ?_⟩))
                    go_ret
                    exact ⟨by first | rfl | (simp; done) | (simp [*]; done), by repeat (first | exact Drawn0.refl _ | apply Drawn0.step)⟩
                    all_goals (exfalso; first | omega | (simp_all; done) | (simp_all; omega))
                · replace c30 := Bool.eq_false_iff.mpr c30
                  subst c30
                  have H1 : (some t295) = some r := by rw [if_neg (show ¬ (false = true) by decide)] at H; exact H
                  clear H
                  have H := H1
                  clear H1
                  obtain rfl := Option.some.inj H
                  go_wp2_with (first | ((with_reducible refine gate_callee (f := 36) rfl ?_); refine goesL_ (some 84) rfl rfl Try.func36 (by kernel_rfl) rfl #[.int .i64 0, .int .u64 a1, .int .u64 a2] rfl (by (try simp only [List.map_toArray, List.map_cons, List.map_nil]); first | done | rfl | (simp only [List.length_drop, List.length_take]; rfl)) ?_; (with_reducible refine (word_Less.calls kj6 0 a1 a2 false true _ A22.out).mono ?_); rintro e w' ⟨rfl, ⟨nd, rfl⟩⟩; refine ⟨_, rfl, ?_⟩) | ((with_reducible refine gate_callee (f := 36) rfl ?_); refine goesL_ (some 90) rfl rfl Try.func36 (by kernel_rfl) rfl #[.int .i64 2, .int .u64 a1, .int .u64 a2] rfl (by (try simp only [List.map_toArray, List.map_cons, List.map_nil]); first | done | rfl | (simp only [List.length_drop, List.length_take]; rfl)) ?_; (with_reducible refine (word_Less.calls kj6 2 a1 a2 false t294 _ A23.out).mono ?_); rintro e w' ⟨rfl, ⟨nd, rfl⟩⟩; refine ⟨_, rfl, ?_⟩) | ((with_reducible refine gate_callee (f := 36) rfl ?_); refine goesL_ (some 96) rfl rfl Try.func36 (by kernel_rfl) rfl #[.int .i64 0, .int .u64 a2, .int .u64 a1] rfl (by (try simp only [List.map_toArray, List.map_cons, List.map_nil]); first | done | rfl | (simp only [List.length_drop, List.length_take]; rfl)) ?_; (with_reducible refine (word_Less.calls kj6 0 a2 a1 t295 t296 _ A24.out).mono ?_); rintro e w' ⟨rfl, ⟨nd, rfl⟩⟩; refine ⟨_, rfl, ?_⟩))
                  go_ret
                  exact ⟨by first | rfl | (simp; done) | (simp [*]; done), by repeat (first | exact Drawn0.refl _ | apply Drawn0.step)⟩
                  all_goals (exfalso; first | omega | (simp_all; done) | (simp_all; omega))
            · replace c26 := Bool.eq_false_iff.mpr c26
              subst c26
              have H1 : (some true) = some r := by rw [if_neg (show ¬ (false = true) by decide)] at H; exact H
              clear H
              have H := H1
              clear H1
              obtain rfl := Option.some.inj H
              go_wp2_with (first | ((with_reducible refine gate_callee (f := 36) rfl ?_); refine goesL_ (some 84) rfl rfl Try.func36 (by kernel_rfl) rfl #[.int .i64 0, .int .u64 a1, .int .u64 a2] rfl (by (try simp only [List.map_toArray, List.map_cons, List.map_nil]); first | done | rfl | (simp only [List.length_drop, List.length_take]; rfl)) ?_; (with_reducible refine (word_Less.calls kj6 0 a1 a2 t291 false _ A22.out).mono ?_); rintro e w' ⟨rfl, ⟨nd, rfl⟩⟩; refine ⟨_, rfl, ?_⟩) | ((with_reducible refine gate_callee (f := 36) rfl ?_); refine goesL_ (some 90) rfl rfl Try.func36 (by kernel_rfl) rfl #[.int .i64 2, .int .u64 a1, .int .u64 a2] rfl (by (try simp only [List.map_toArray, List.map_cons, List.map_nil]); first | done | rfl | (simp only [List.length_drop, List.length_take]; rfl)) ?_; (with_reducible refine (word_Less.calls kj6 2 a1 a2 t293 t294 _ A23.out).mono ?_); rintro e w' ⟨rfl, ⟨nd, rfl⟩⟩; refine ⟨_, rfl, ?_⟩) | ((with_reducible refine gate_callee (f := 36) rfl ?_); refine goesL_ (some 96) rfl rfl Try.func36 (by kernel_rfl) rfl #[.int .i64 0, .int .u64 a2, .int .u64 a1] rfl (by (try simp only [List.map_toArray, List.map_cons, List.map_nil]); first | done | rfl | (simp only [List.length_drop, List.length_take]; rfl)) ?_; (with_reducible refine (word_Less.calls kj6 0 a2 a1 t295 t296 _ A24.out).mono ?_); rintro e w' ⟨rfl, ⟨nd, rfl⟩⟩; refine ⟨_, rfl, ?_⟩))
              go_ret
              exact ⟨by first | rfl | (simp; done) | (simp [*]; done), by repeat (first | exact Drawn0.refl _ | apply Drawn0.step)⟩
              all_goals (exfalso; first | omega | (simp_all; done) | (simp_all; omega))
          · replace c25 := Bool.eq_false_iff.mpr c25
            subst c25
            have H1 : (some false) = some r := by rw [if_neg (show ¬ (false = true) by decide)] at H; exact H
            clear H
            have H := H1
            clear H1
            obtain rfl := Option.some.inj H
            go_wp2_with (first | ((with_reducible refine gate_callee (f := 36) rfl ?_); refine goesL_ (some 84) rfl rfl Try.func36 (by kernel_rfl) rfl #[.int .i64 0, .int .u64 a1, .int .u64 a2] rfl (by (try simp only [List.map_toArray, List.map_cons, List.map_nil]); first | done | rfl | (simp only [List.length_drop, List.length_take]; rfl)) ?_; (with_reducible refine (word_Less.calls kj6 0 a1 a2 t291 t292 _ A22.out).mono ?_); rintro e w' ⟨rfl, ⟨nd, rfl⟩⟩; refine ⟨_, rfl, ?_⟩) | ((with_reducible refine gate_callee (f := 36) rfl ?_); refine goesL_ (some 90) rfl rfl Try.func36 (by kernel_rfl) rfl #[.int .i64 2, .int .u64 a1, .int .u64 a2] rfl (by (try simp only [List.map_toArray, List.map_cons, List.map_nil]); first | done | rfl | (simp only [List.length_drop, List.length_take]; rfl)) ?_; (with_reducible refine (word_Less.calls kj6 2 a1 a2 t293 t294 _ A23.out).mono ?_); rintro e w' ⟨rfl, ⟨nd, rfl⟩⟩; refine ⟨_, rfl, ?_⟩) | ((with_reducible refine gate_callee (f := 36) rfl ?_); refine goesL_ (some 96) rfl rfl Try.func36 (by kernel_rfl) rfl #[.int .i64 0, .int .u64 a2, .int .u64 a1] rfl (by (try simp only [List.map_toArray, List.map_cons, List.map_nil]); first | done | rfl | (simp only [List.length_drop, List.length_take]; rfl)) ?_; (with_reducible refine (word_Less.calls kj6 0 a2 a1 t295 t296 _ A24.out).mono ?_); rintro e w' ⟨rfl, ⟨nd, rfl⟩⟩; refine ⟨_, rfl, ?_⟩))
            go_ret
            exact ⟨by first | rfl | (simp; done) | (simp [*]; done), by repeat (first | exact Drawn0.refl _ | apply Drawn0.step)⟩
            all_goals (exfalso; first | omega | (simp_all; done) | (simp_all; omega))

/-- THE ONE PURE STATEMENT of tappetlaw01_WordTurns: yours. -/
def tappetlaw01_WordTurns.Pure : Prop := ∀ (a0 : Int) (a1 : Int) (a2 : Int), (Lit.int .i64 a0).wf = true → (Lit.int .u64 a1).wf = true → (Lit.int .u64 a2).wf = true → ∃ k, tappetlaw01_WordTurns.f k a0 a1 a2 = some true
theorem tappetlaw01_WordTurns.walk (P : tappetlaw01_WordTurns.Pure) (a0 : Int) (a1 : Int) (a2 : Int) (w : World) (w0 : (Lit.int .i64 a0).wf = true) (w1 : (Lit.int .u64 a1).wf = true) (w2 : (Lit.int .u64 a2).wf = true) :
    Calls Try.prog 11 #[.int .i64 a0, .int .u64 a1, .int .u64 a2] w fun e w' => e = .returned (.bool true) ∧ Below w.heap.size w w' := by
  obtain ⟨k, h⟩ := P a0 a1 a2 w0 w1 w2
  refine (tappetlaw01_WordTurns.calls k a0 a1 a2 true w h).mono ?_
  rintro e w' ⟨rfl, hd⟩
  exact ⟨rfl, hd.below⟩

end Go.Proofs.Ythhfgchbpgcfmaa.QWord
