-- written by wip/xprint.py out of the translation's own print; Lean checks it
import Derived.Test.YthhfgchbpgcfmaaQWordx0
import Derived.Test.YthhfgchbpgcfmaaQWordx1
import Derived.Test.YthhfgchbpgcfmaaQWordx2
import Derived.Test.YthhfgchbpgcfmaaQWordx3
namespace Go.Proofs.Ythhfgchbpgcfmaa.QWord
open Go.RowKit Go.Proofs.YthhfgchbpgcfmaaW.PrintWords Go.Proofs.YthhfgchbpgcfmaaW.PrintLast Go.Proofs.YthhfgchbpgcfmaaW.PrintMore
attribute [local go_sem] max2_int min2_int max_two min_two max_three min_three max_four min_four   -- for this text's walks alone
set_option linter.unusedVariables false
set_option linter.unusedSimpArgs false

/-! ### tappetref01_Ref: function 32 -/
def tappetref01_Ref.f (a0 : Int) : Option (Int × Int) := (tappetref01_IsInt.f a0).bind fun t215 => (if t215 = true then (some (0, 1)) else (if (IntKind.u64.wrap (Int.tdiv a0 2)) < 1 then (some (0, 1)) else (if (IntKind.u64.wrap (Int.tdiv a0 2)) > 2147483647 then (some (0, 1)) else (some (wrap64 (IntKind.u64.wrap (Int.tdiv a0 2)), 0)))))
set_option maxHeartbeats 8000000 in
set_option maxRecDepth 100000 in
theorem tappetref01_Ref.calls (a0 : Int) (r1 : Int) (r2 : Int) (w : World) (h : tappetref01_Ref.f a0 = some (r1, r2)) :
    Calls Try.prog 32 #[.int .u64 a0] w fun e w' => e = .returned (.tuple #[.int .i64 r1, .int .i64 r2]) ∧ Drawn0 w w' := by
  have H : ((tappetref01_IsInt.f a0).bind fun t215 => (if t215 = true then (some (0, 1)) else (if (IntKind.u64.wrap (Int.tdiv a0 2)) < 1 then (some (0, 1)) else (if (IntKind.u64.wrap (Int.tdiv a0 2)) > 2147483647 then (some (0, 1)) else (some (wrap64 (IntKind.u64.wrap (Int.tdiv a0 2)), 0)))))) = some (r1, r2) := h
  clear h
  replace H := Option.bind_eq_some_iff.mp H
  obtain ⟨t215, A20, H⟩ := H
  replace H : (if t215 = true then (some (0, 1)) else (if (IntKind.u64.wrap (Int.tdiv a0 2)) < 1 then (some (0, 1)) else (if (IntKind.u64.wrap (Int.tdiv a0 2)) > 2147483647 then (some (0, 1)) else (some (wrap64 (IntKind.u64.wrap (Int.tdiv a0 2)), 0))))) = some (r1, r2) := H
  have A2 := Aside0.mk A20
  clear A20
  by_cases c3 : t215 = true
  · subst c3
    have H1 : (some (0, 1)) = some (r1, r2) := by rw [if_pos rfl] at H; exact H
    clear H
    have H := H1
    clear H1
    simp only [Option.some.injEq, Prod.mk.injEq] at H
    obtain ⟨rfl, rfl⟩ := H
    go_enter Try.func32, Try.ntmps32
    go_wp2_with (first | ((with_reducible refine gate_callee (f := 34) rfl ?_); refine goesL_ (some 5) rfl rfl Try.func34 (by kernel_rfl) rfl #[.int .u64 a0] rfl (by (try simp only [List.map_toArray, List.map_cons, List.map_nil]); first | done | rfl | (simp only [List.length_drop, List.length_take]; rfl)) ?_; (with_reducible refine (tappetref01_IsInt.calls a0 true _ A2.out).mono ?_); rintro e w' ⟨rfl, ⟨nd, rfl⟩⟩; refine ⟨_, rfl, ?_⟩))
    go_ret2
    exact ⟨by first | rfl | (simp; done) | (simp [*]; done), by repeat (first | exact Drawn0.refl _ | apply Drawn0.step)⟩
  · replace c3 := Bool.eq_false_iff.mpr c3
    subst c3
    have H1 : (if (IntKind.u64.wrap (Int.tdiv a0 2)) < 1 then (some (0, 1)) else (if (IntKind.u64.wrap (Int.tdiv a0 2)) > 2147483647 then (some (0, 1)) else (some (wrap64 (IntKind.u64.wrap (Int.tdiv a0 2)), 0)))) = some (r1, r2) := by rw [if_neg (show ¬ (false = true) by decide)] at H; exact H
    clear H
    have H := H1
    clear H1
    by_cases c4 : (IntKind.u64.wrap (Int.tdiv a0 2)) < 1
    · rw [if_pos c4] at H
      have c4b0 : decide ((IntKind.u64.wrap (Int.tdiv a0 2)) < 1) = true := decide_eq_true c4
      clear c4
      simp only [Option.some.injEq, Prod.mk.injEq] at H
      obtain ⟨rfl, rfl⟩ := H
      go_enter Try.func32, Try.ntmps32
      go_wp2_with (first | ((with_reducible refine gate_callee (f := 34) rfl ?_); refine goesL_ (some 5) rfl rfl Try.func34 (by kernel_rfl) rfl #[.int .u64 a0] rfl (by (try simp only [List.map_toArray, List.map_cons, List.map_nil]); first | done | rfl | (simp only [List.length_drop, List.length_take]; rfl)) ?_; (with_reducible refine (tappetref01_IsInt.calls a0 false _ A2.out).mono ?_); rintro e w' ⟨rfl, ⟨nd, rfl⟩⟩; refine ⟨_, rfl, ?_⟩))
      go_ret2
      exact ⟨by first | rfl | (simp; done) | (simp [*]; done), by repeat (first | exact Drawn0.refl _ | apply Drawn0.step)⟩
    · rw [if_neg c4] at H
      have c4b0 : decide ((IntKind.u64.wrap (Int.tdiv a0 2)) < 1) = false := decide_eq_false c4
      clear c4
      by_cases c5 : (IntKind.u64.wrap (Int.tdiv a0 2)) > 2147483647
      · rw [if_pos c5] at H
        have c5b0 : decide (2147483647 < (IntKind.u64.wrap (Int.tdiv a0 2))) = true := decide_eq_true c5
        clear c5
        simp only [Option.some.injEq, Prod.mk.injEq] at H
        obtain ⟨rfl, rfl⟩ := H
        go_enter Try.func32, Try.ntmps32
        go_wp2_with (first | ((with_reducible refine gate_callee (f := 34) rfl ?_); refine goesL_ (some 5) rfl rfl Try.func34 (by kernel_rfl) rfl #[.int .u64 a0] rfl (by (try simp only [List.map_toArray, List.map_cons, List.map_nil]); first | done | rfl | (simp only [List.length_drop, List.length_take]; rfl)) ?_; (with_reducible refine (tappetref01_IsInt.calls a0 false _ A2.out).mono ?_); rintro e w' ⟨rfl, ⟨nd, rfl⟩⟩; refine ⟨_, rfl, ?_⟩))
        go_ret2
        exact ⟨by first | rfl | (simp; done) | (simp [*]; done), by repeat (first | exact Drawn0.refl _ | apply Drawn0.step)⟩
      · rw [if_neg c5] at H
        have c5b0 : decide (2147483647 < (IntKind.u64.wrap (Int.tdiv a0 2))) = false := decide_eq_false c5
        clear c5
        simp only [Option.some.injEq, Prod.mk.injEq] at H
        obtain ⟨rfl, rfl⟩ := H
        go_enter Try.func32, Try.ntmps32
        go_wp2_with (first | ((with_reducible refine gate_callee (f := 34) rfl ?_); refine goesL_ (some 5) rfl rfl Try.func34 (by kernel_rfl) rfl #[.int .u64 a0] rfl (by (try simp only [List.map_toArray, List.map_cons, List.map_nil]); first | done | rfl | (simp only [List.length_drop, List.length_take]; rfl)) ?_; (with_reducible refine (tappetref01_IsInt.calls a0 false _ A2.out).mono ?_); rintro e w' ⟨rfl, ⟨nd, rfl⟩⟩; refine ⟨_, rfl, ?_⟩))
        go_ret2
        exact ⟨by first | rfl | (simp; done) | (simp [*]; done), by repeat (first | exact Drawn0.refl _ | apply Drawn0.step)⟩

/-! ### tappetlaw01_WordForms: function 8 -/
def tappetlaw01_WordForms.f (k : Nat) (a0 : Int) (a1 : Int) : Option (Bool) := (tappetlaw01_awake.f k).bind fun t216 => ((word_FromInt.f a0).bind fun bt217 => ((tappetref01_FromInt.f a0).bind fun bt219 => ((word_FromRef.f a0).bind fun bt221 => ((tappetref01_FromRef.f a0).bind fun bt223 => ((word_Int.f a1).bind fun bt225 => ((tappetref01_Int.f a1).bind fun bt227 => ((word_Ref.f a1).bind fun bt229 => ((tappetref01_Ref.f a1).bind fun bt231 => (if t216 = true then (if bt217.1 = bt219.1 then (if bt217.2 = bt219.2 then (if bt221.1 = bt223.1 then (if bt221.2 = bt223.2 then (if bt225.1 = bt227.1 then (if bt225.2 = bt227.2 then (if bt229.1 = bt231.1 then (if bt229.2 = bt231.2 then ((word_IsInt.f a1).bind fun t233 => ((tappetref01_IsInt.f a1).bind fun t234 => (some (t233 == t234)))) else (some false)) else (some false)) else (some false)) else (some false)) else (some false)) else (some false)) else (some false)) else (some false)) else (some false))))))))))
theorem tappetlaw01_WordForms.mono : ∀ a0 a1 k, LeO (tappetlaw01_WordForms.f k a0 a1) (tappetlaw01_WordForms.f (k + 1) a0 a1) := by
  intro a0 a1 k
  unfold tappetlaw01_WordForms.f
  repeat' first
      | (with_reducible exact tappetlaw01_awake.mono _)
      | (with_reducible exact LeO.refl _)
      | (with_reducible exact LeO.none _)
      | (with_reducible refine LeO.ite ?_ ?_)
      | (with_reducible refine LeO.bind ?_ (fun _ => ?_))
      | exact tappetlaw01_awake.mono _
      | exact LeO.none _
      | refine LeO.ite ?_ ?_
      | refine LeO.bind ?_ (fun _ => ?_)
set_option maxHeartbeats 8000000 in
set_option maxRecDepth 100000 in
theorem tappetlaw01_WordForms.calls (k : Nat) (a0 : Int) (a1 : Int) (r : Bool) (w : World) (h : tappetlaw01_WordForms.f k a0 a1 = some r) :
    Calls Try.prog 8 #[.int .i64 a0, .int .u64 a1] w fun e w' => e = .returned (.bool r) ∧ Drawn0 w w' := by
  have H : ((tappetlaw01_awake.f k).bind fun t216 => ((word_FromInt.f a0).bind fun bt217 => ((tappetref01_FromInt.f a0).bind fun bt219 => ((word_FromRef.f a0).bind fun bt221 => ((tappetref01_FromRef.f a0).bind fun bt223 => ((word_Int.f a1).bind fun bt225 => ((tappetref01_Int.f a1).bind fun bt227 => ((word_Ref.f a1).bind fun bt229 => ((tappetref01_Ref.f a1).bind fun bt231 => (if t216 = true then (if bt217.1 = bt219.1 then (if bt217.2 = bt219.2 then (if bt221.1 = bt223.1 then (if bt221.2 = bt223.2 then (if bt225.1 = bt227.1 then (if bt225.2 = bt227.2 then (if bt229.1 = bt231.1 then (if bt229.2 = bt231.2 then ((word_IsInt.f a1).bind fun t233 => ((tappetref01_IsInt.f a1).bind fun t234 => (some (t233 == t234)))) else (some false)) else (some false)) else (some false)) else (some false)) else (some false)) else (some false)) else (some false)) else (some false)) else (some false))))))))))) = some r := h
  clear h
  replace H := Option.bind_eq_some_iff.mp H
  obtain ⟨t216, A30, H⟩ := H
  replace H : ((word_FromInt.f a0).bind fun bt217 => ((tappetref01_FromInt.f a0).bind fun bt219 => ((word_FromRef.f a0).bind fun bt221 => ((tappetref01_FromRef.f a0).bind fun bt223 => ((word_Int.f a1).bind fun bt225 => ((tappetref01_Int.f a1).bind fun bt227 => ((word_Ref.f a1).bind fun bt229 => ((tappetref01_Ref.f a1).bind fun bt231 => (if t216 = true then (if bt217.1 = bt219.1 then (if bt217.2 = bt219.2 then (if bt221.1 = bt223.1 then (if bt221.2 = bt223.2 then (if bt225.1 = bt227.1 then (if bt225.2 = bt227.2 then (if bt229.1 = bt231.1 then (if bt229.2 = bt231.2 then ((word_IsInt.f a1).bind fun t233 => ((tappetref01_IsInt.f a1).bind fun t234 => (some (t233 == t234)))) else (some false)) else (some false)) else (some false)) else (some false)) else (some false)) else (some false)) else (some false)) else (some false)) else (some false)))))))))) = some r := H
  have A3 := Aside0.mk A30
  clear A30
  replace H := Option.bind_eq_some_iff.mp H
  obtain ⟨⟨t217, t218⟩, A40, H⟩ := H
  replace H : ((tappetref01_FromInt.f a0).bind fun bt219 => ((word_FromRef.f a0).bind fun bt221 => ((tappetref01_FromRef.f a0).bind fun bt223 => ((word_Int.f a1).bind fun bt225 => ((tappetref01_Int.f a1).bind fun bt227 => ((word_Ref.f a1).bind fun bt229 => ((tappetref01_Ref.f a1).bind fun bt231 => (if t216 = true then (if t217 = bt219.1 then (if t218 = bt219.2 then (if bt221.1 = bt223.1 then (if bt221.2 = bt223.2 then (if bt225.1 = bt227.1 then (if bt225.2 = bt227.2 then (if bt229.1 = bt231.1 then (if bt229.2 = bt231.2 then ((word_IsInt.f a1).bind fun t233 => ((tappetref01_IsInt.f a1).bind fun t234 => (some (t233 == t234)))) else (some false)) else (some false)) else (some false)) else (some false)) else (some false)) else (some false)) else (some false)) else (some false)) else (some false))))))))) = some r := H
  have A4 := Aside0.mk A40
  clear A40
  replace H := Option.bind_eq_some_iff.mp H
  obtain ⟨⟨t219, t220⟩, A50, H⟩ := H
  replace H : ((word_FromRef.f a0).bind fun bt221 => ((tappetref01_FromRef.f a0).bind fun bt223 => ((word_Int.f a1).bind fun bt225 => ((tappetref01_Int.f a1).bind fun bt227 => ((word_Ref.f a1).bind fun bt229 => ((tappetref01_Ref.f a1).bind fun bt231 => (if t216 = true then (if t217 = t219 then (if t218 = t220 then (if bt221.1 = bt223.1 then (if bt221.2 = bt223.2 then (if bt225.1 = bt227.1 then (if bt225.2 = bt227.2 then (if bt229.1 = bt231.1 then (if bt229.2 = bt231.2 then ((word_IsInt.f a1).bind fun t233 => ((tappetref01_IsInt.f a1).bind fun t234 => (some (t233 == t234)))) else (some false)) else (some false)) else (some false)) else (some false)) else (some false)) else (some false)) else (some false)) else (some false)) else (some false)))))))) = some r := H
  have A5 := Aside0.mk A50
  clear A50
  replace H := Option.bind_eq_some_iff.mp H
  obtain ⟨⟨t221, t222⟩, A60, H⟩ := H
  replace H : ((tappetref01_FromRef.f a0).bind fun bt223 => ((word_Int.f a1).bind fun bt225 => ((tappetref01_Int.f a1).bind fun bt227 => ((word_Ref.f a1).bind fun bt229 => ((tappetref01_Ref.f a1).bind fun bt231 => (if t216 = true then (if t217 = t219 then (if t218 = t220 then (if t221 = bt223.1 then (if t222 = bt223.2 then (if bt225.1 = bt227.1 then (if bt225.2 = bt227.2 then (if bt229.1 = bt231.1 then (if bt229.2 = bt231.2 then ((word_IsInt.f a1).bind fun t233 => ((tappetref01_IsInt.f a1).bind fun t234 => (some (t233 == t234)))) else (some false)) else (some false)) else (some false)) else (some false)) else (some false)) else (some false)) else (some false)) else (some false)) else (some false))))))) = some r := H
  have A6 := Aside0.mk A60
  clear A60
  replace H := Option.bind_eq_some_iff.mp H
  obtain ⟨⟨t223, t224⟩, A70, H⟩ := H
  replace H : ((word_Int.f a1).bind fun bt225 => ((tappetref01_Int.f a1).bind fun bt227 => ((word_Ref.f a1).bind fun bt229 => ((tappetref01_Ref.f a1).bind fun bt231 => (if t216 = true then (if t217 = t219 then (if t218 = t220 then (if t221 = t223 then (if t222 = t224 then (if bt225.1 = bt227.1 then (if bt225.2 = bt227.2 then (if bt229.1 = bt231.1 then (if bt229.2 = bt231.2 then ((word_IsInt.f a1).bind fun t233 => ((tappetref01_IsInt.f a1).bind fun t234 => (some (t233 == t234)))) else (some false)) else (some false)) else (some false)) else (some false)) else (some false)) else (some false)) else (some false)) else (some false)) else (some false)))))) = some r := H
  have A7 := Aside0.mk A70
  clear A70
  replace H := Option.bind_eq_some_iff.mp H
  obtain ⟨⟨t225, t226⟩, A80, H⟩ := H
  replace H : ((tappetref01_Int.f a1).bind fun bt227 => ((word_Ref.f a1).bind fun bt229 => ((tappetref01_Ref.f a1).bind fun bt231 => (if t216 = true then (if t217 = t219 then (if t218 = t220 then (if t221 = t223 then (if t222 = t224 then (if t225 = bt227.1 then (if t226 = bt227.2 then (if bt229.1 = bt231.1 then (if bt229.2 = bt231.2 then ((word_IsInt.f a1).bind fun t233 => ((tappetref01_IsInt.f a1).bind fun t234 => (some (t233 == t234)))) else (some false)) else (some false)) else (some false)) else (some false)) else (some false)) else (some false)) else (some false)) else (some false)) else (some false))))) = some r := H
  have A8 := Aside0.mk A80
  clear A80
  replace H := Option.bind_eq_some_iff.mp H
  obtain ⟨⟨t227, t228⟩, A90, H⟩ := H
  replace H : ((word_Ref.f a1).bind fun bt229 => ((tappetref01_Ref.f a1).bind fun bt231 => (if t216 = true then (if t217 = t219 then (if t218 = t220 then (if t221 = t223 then (if t222 = t224 then (if t225 = t227 then (if t226 = t228 then (if bt229.1 = bt231.1 then (if bt229.2 = bt231.2 then ((word_IsInt.f a1).bind fun t233 => ((tappetref01_IsInt.f a1).bind fun t234 => (some (t233 == t234)))) else (some false)) else (some false)) else (some false)) else (some false)) else (some false)) else (some false)) else (some false)) else (some false)) else (some false)))) = some r := H
  have A9 := Aside0.mk A90
  clear A90
  replace H := Option.bind_eq_some_iff.mp H
  obtain ⟨⟨t229, t230⟩, A100, H⟩ := H
  replace H : ((tappetref01_Ref.f a1).bind fun bt231 => (if t216 = true then (if t217 = t219 then (if t218 = t220 then (if t221 = t223 then (if t222 = t224 then (if t225 = t227 then (if t226 = t228 then (if t229 = bt231.1 then (if t230 = bt231.2 then ((word_IsInt.f a1).bind fun t233 => ((tappetref01_IsInt.f a1).bind fun t234 => (some (t233 == t234)))) else (some false)) else (some false)) else (some false)) else (some false)) else (some false)) else (some false)) else (some false)) else (some false)) else (some false))) = some r := H
  have A10 := Aside0.mk A100
  clear A100
  replace H := Option.bind_eq_some_iff.mp H
  obtain ⟨⟨t231, t232⟩, A110, H⟩ := H
  replace H : (if t216 = true then (if t217 = t219 then (if t218 = t220 then (if t221 = t223 then (if t222 = t224 then (if t225 = t227 then (if t226 = t228 then (if t229 = t231 then (if t230 = t232 then ((word_IsInt.f a1).bind fun t233 => ((tappetref01_IsInt.f a1).bind fun t234 => (some (t233 == t234)))) else (some false)) else (some false)) else (some false)) else (some false)) else (some false)) else (some false)) else (some false)) else (some false)) else (some false)) = some r := H
  have A11 := Aside0.mk A110
  clear A110
  by_cases c12 : t216 = true
  · subst c12
    have H1 : (if t217 = t219 then (if t218 = t220 then (if t221 = t223 then (if t222 = t224 then (if t225 = t227 then (if t226 = t228 then (if t229 = t231 then (if t230 = t232 then ((word_IsInt.f a1).bind fun t233 => ((tappetref01_IsInt.f a1).bind fun t234 => (some (t233 == t234)))) else (some false)) else (some false)) else (some false)) else (some false)) else (some false)) else (some false)) else (some false)) else (some false)) = some r := by rw [if_pos rfl] at H; exact H
    clear H
    have H := H1
    clear H1
    by_cases c13 : t217 = t219
    · rw [if_pos c13] at H
      have c13b0 : (t217 == t219) = true := beq_iff_eq.mpr c13
      have c13b1 : (t217 != t219) = false := bne_eq_false_iff_eq.mpr c13
      clear c13
      by_cases c14 : t218 = t220
      · rw [if_pos c14] at H
        have c14b0 : (t218 == t220) = true := beq_iff_eq.mpr c14
        have c14b1 : (t218 != t220) = false := bne_eq_false_iff_eq.mpr c14
        clear c14
        by_cases c15 : t221 = t223
        · rw [if_pos c15] at H
          have c15b0 : (t221 == t223) = true := beq_iff_eq.mpr c15
          have c15b1 : (t221 != t223) = false := bne_eq_false_iff_eq.mpr c15
          clear c15
          by_cases c16 : t222 = t224
          · rw [if_pos c16] at H
            have c16b0 : (t222 == t224) = true := beq_iff_eq.mpr c16
            have c16b1 : (t222 != t224) = false := bne_eq_false_iff_eq.mpr c16
            clear c16
            by_cases c17 : t225 = t227
            · rw [if_pos c17] at H
              have c17b0 : (t225 == t227) = true := beq_iff_eq.mpr c17
              have c17b1 : (t225 != t227) = false := bne_eq_false_iff_eq.mpr c17
              clear c17
              by_cases c18 : t226 = t228
              · rw [if_pos c18] at H
                have c18b0 : (t226 == t228) = true := beq_iff_eq.mpr c18
                have c18b1 : (t226 != t228) = false := bne_eq_false_iff_eq.mpr c18
                clear c18
                by_cases c19 : t229 = t231
                · rw [if_pos c19] at H
                  have c19b0 : (t229 == t231) = true := beq_iff_eq.mpr c19
                  have c19b1 : (t229 != t231) = false := bne_eq_false_iff_eq.mpr c19
                  clear c19
                  by_cases c20 : t230 = t232
                  · rw [if_pos c20] at H
                    have c20b0 : (t230 == t232) = true := beq_iff_eq.mpr c20
                    have c20b1 : (t230 != t232) = false := bne_eq_false_iff_eq.mpr c20
                    clear c20
                    replace H := Option.bind_eq_some_iff.mp H
                    obtain ⟨t233, A210, H⟩ := H
                    replace H : ((tappetref01_IsInt.f a1).bind fun t234 => (some (t233 == t234))) = some r := H
                    have A21 := Aside0.mk A210
                    clear A210
                    replace H := Option.bind_eq_some_iff.mp H
                    obtain ⟨t234, A220, H⟩ := H
                    replace H : (some (t233 == t234)) = some r := H
                    have A22 := Aside0.mk A220
                    clear A220
                    obtain rfl := Option.some.inj H
                    go_enter Try.func8, Try.ntmps8
                    go_wp2_with (first | ((with_reducible refine gate_callee (f := 22) rfl ?_); refine goesL_ (some 22) rfl rfl Try.func22 (by kernel_rfl) rfl #[] rfl (by (try simp only [List.map_toArray, List.map_cons, List.map_nil]); first | done | rfl | (simp only [List.length_drop, List.length_take]; rfl)) ?_; (with_reducible refine (tappetlaw01_awake.calls k  true _ A3.out).mono ?_); rintro e w' ⟨rfl, ⟨nd, rfl⟩⟩; refine ⟨_, rfl, ?_⟩) | ((with_reducible refine gate_callee (f := 26) rfl ?_); refine goesL_ (some 25) rfl rfl Try.func26 (by kernel_rfl) rfl #[.int .i64 a0] rfl (by (try simp only [List.map_toArray, List.map_cons, List.map_nil]); first | done | rfl | (simp only [List.length_drop, List.length_take]; rfl)) ?_; (with_reducible refine (word_FromInt.calls a0 t217 t218 _ A4.out).mono ?_); rintro e w' ⟨rfl, ⟨nd, rfl⟩⟩; refine ⟨_, rfl, ?_⟩) | ((with_reducible refine gate_callee (f := 27) rfl ?_); refine goesL_ (some 30) rfl rfl Try.func27 (by kernel_rfl) rfl #[.int .i64 a0] rfl (by (try simp only [List.map_toArray, List.map_cons, List.map_nil]); first | done | rfl | (simp only [List.length_drop, List.length_take]; rfl)) ?_; (with_reducible refine (tappetref01_FromInt.calls a0 t219 t220 _ A5.out).mono ?_); rintro e w' ⟨rfl, ⟨nd, rfl⟩⟩; refine ⟨_, rfl, ?_⟩) | ((with_reducible refine gate_callee (f := 28) rfl ?_); refine goesL_ (some 35) rfl rfl Try.func28 (by kernel_rfl) rfl #[.int .i64 a0] rfl (by (try simp only [List.map_toArray, List.map_cons, List.map_nil]); first | done | rfl | (simp only [List.length_drop, List.length_take]; rfl)) ?_; (with_reducible refine (word_FromRef.calls a0 t221 t222 _ A6.out).mono ?_); rintro e w' ⟨rfl, ⟨nd, rfl⟩⟩; refine ⟨_, rfl, ?_⟩) | ((with_reducible refine gate_callee (f := 29) rfl ?_); refine goesL_ (some 40) rfl rfl Try.func29 (by kernel_rfl) rfl #[.int .i64 a0] rfl (by (try simp only [List.map_toArray, List.map_cons, List.map_nil]); first | done | rfl | (simp only [List.length_drop, List.length_take]; rfl)) ?_; (with_reducible refine (tappetref01_FromRef.calls a0 t223 t224 _ A7.out).mono ?_); rintro e w' ⟨rfl, ⟨nd, rfl⟩⟩; refine ⟨_, rfl, ?_⟩) | ((with_reducible refine gate_callee (f := 25) rfl ?_); refine goesL_ (some 45) rfl rfl Try.func25 (by kernel_rfl) rfl #[.int .u64 a1] rfl (by (try simp only [List.map_toArray, List.map_cons, List.map_nil]); first | done | rfl | (simp only [List.length_drop, List.length_take]; rfl)) ?_; (with_reducible refine (word_Int.calls a1 t225 t226 _ A8.out).mono ?_); rintro e w' ⟨rfl, ⟨nd, rfl⟩⟩; refine ⟨_, rfl, ?_⟩) | ((with_reducible refine gate_callee (f := 30) rfl ?_); refine goesL_ (some 50) rfl rfl Try.func30 (by kernel_rfl) rfl #[.int .u64 a1] rfl (by (try simp only [List.map_toArray, List.map_cons, List.map_nil]); first | done | rfl | (simp only [List.length_drop, List.length_take]; rfl)) ?_; (with_reducible refine (tappetref01_Int.calls a1 t227 t228 _ A9.out).mono ?_); rintro e w' ⟨rfl, ⟨nd, rfl⟩⟩; refine ⟨_, rfl, ?_⟩) | ((with_reducible refine gate_callee (f := 31) rfl ?_); refine goesL_ (some 55) rfl rfl Try.func31 (by kernel_rfl) rfl #[.int .u64 a1] rfl (by (try simp only [List.map_toArray, List.map_cons, List.map_nil]); first | done | rfl | (simp only [List.length_drop, List.length_take]; rfl)) ?_; (with_reducible refine (word_Ref.calls a1 t229 t230 _ A10.out).mono ?_); rintro e w' ⟨rfl, ⟨nd, rfl⟩⟩; refine ⟨_, rfl, ?_⟩) | ((with_reducible refine gate_callee (f := 32) rfl ?_); refine goesL_ (some 60) rfl rfl Try.func32 (by kernel_rfl) rfl #[.int .u64 a1] rfl (by (try simp only [List.map_toArray, List.map_cons, List.map_nil]); first | done | rfl | (simp only [List.length_drop, List.length_take]; rfl)) ?_; (with_reducible refine (tappetref01_Ref.calls a1 t231 t232 _ A11.out).mono ?_); rintro e w' ⟨rfl, ⟨nd, rfl⟩⟩; refine ⟨_, rfl, ?_⟩) | (go_at_call 33; (with_reducible refine (word_IsInt.calls a1 t233 _ A21.out).mono ?_); rintro e w' ⟨rfl, ⟨nd, rfl⟩⟩) | (go_at_call 34; (with_reducible refine (tappetref01_IsInt.calls a1 t234 _ A22.out).mono ?_); rintro e w' ⟨rfl, ⟨nd, rfl⟩⟩))
                    go_ret
                    exact ⟨by first | rfl | (simp; done) | (simp [*]; done), by repeat (first | exact Drawn0.refl _ | apply Drawn0.step)⟩
                    all_goals (exfalso; first | omega | (simp_all; done) | (simp_all; omega))
                  · rw [if_neg c20] at H
                    have c20b0 : (t230 == t232) = false := beq_eq_false_iff_ne.mpr c20
                    have c20b1 : (t230 != t232) = true := bne_iff_ne.mpr c20
                    obtain rfl := Option.some.inj H
                    go_enter Try.func8, Try.ntmps8
                    go_wp2_with (first | ((with_reducible refine gate_callee (f := 22) rfl ?_); refine goesL_ (some 22) rfl rfl Try.func22 (by kernel_rfl) rfl #[] rfl (by (try simp only [List.map_toArray, List.map_cons, List.map_nil]); first | done | rfl | (simp only [List.length_drop, List.length_take]; rfl)) ?_; (with_reducible refine (tappetlaw01_awake.calls k  true _ A3.out).mono ?_); rintro e w' ⟨rfl, ⟨nd, rfl⟩⟩; refine ⟨_, rfl, ?_⟩) | ((with_reducible refine gate_callee (f := 26) rfl ?_); refine goesL_ (some 25) rfl rfl Try.func26 (by kernel_rfl) rfl #[.int .i64 a0] rfl (by (try simp only [List.map_toArray, List.map_cons, List.map_nil]); first | done | rfl | (simp only [List.length_drop, List.length_take]; rfl)) ?_; (with_reducible refine (word_FromInt.calls a0 t217 t218 _ A4.out).mono ?_); rintro e w' ⟨rfl, ⟨nd, rfl⟩⟩; refine ⟨_, rfl, ?_⟩) | ((with_reducible refine gate_callee (f := 27) rfl ?_); refine goesL_ (some 30) rfl rfl Try.func27 (by kernel_rfl) rfl #[.int .i64 a0] rfl (by (try simp only [List.map_toArray, List.map_cons, List.map_nil]); first | done | rfl | (simp only [List.length_drop, List.length_take]; rfl)) ?_; (with_reducible refine (tappetref01_FromInt.calls a0 t219 t220 _ A5.out).mono ?_); rintro e w' ⟨rfl, ⟨nd, rfl⟩⟩; refine ⟨_, rfl, ?_⟩) | ((with_reducible refine gate_callee (f := 28) rfl ?_); refine goesL_ (some 35) rfl rfl Try.func28 (by kernel_rfl) rfl #[.int .i64 a0] rfl (by (try simp only [List.map_toArray, List.map_cons, List.map_nil]); first | done | rfl | (simp only [List.length_drop, List.length_take]; rfl)) ?_; (with_reducible refine (word_FromRef.calls a0 t221 t222 _ A6.out).mono ?_); rintro e w' ⟨rfl, ⟨nd, rfl⟩⟩; refine ⟨_, rfl, ?_⟩) | ((with_reducible refine gate_callee (f := 29) rfl ?_); refine goesL_ (some 40) rfl rfl Try.func29 (by kernel_rfl) rfl #[.int .i64 a0] rfl (by (try simp only [List.map_toArray, List.map_cons, List.map_nil]); first | done | rfl | (simp only [List.length_drop, List.length_take]; rfl)) ?_; (with_reducible refine (tappetref01_FromRef.calls a0 t223 t224 _ A7.out).mono ?_); rintro e w' ⟨rfl, ⟨nd, rfl⟩⟩; refine ⟨_, rfl, ?_⟩) | ((with_reducible refine gate_callee (f := 25) rfl ?_); refine goesL_ (some 45) rfl rfl Try.func25 (by kernel_rfl) rfl #[.int .u64 a1] rfl (by (try simp only [List.map_toArray, List.map_cons, List.map_nil]); first | done | rfl | (simp only [List.length_drop, List.length_take]; rfl)) ?_; (with_reducible refine (word_Int.calls a1 t225 t226 _ A8.out).mono ?_); rintro e w' ⟨rfl, ⟨nd, rfl⟩⟩; refine ⟨_, rfl, ?_⟩) | ((with_reducible refine gate_callee (f := 30) rfl ?_); refine goesL_ (some 50) rfl rfl Try.func30 (by kernel_rfl) rfl #[.int .u64 a1] rfl (by (try simp only [List.map_toArray, List.map_cons, List.map_nil]); first | done | rfl | (simp only [List.length_drop, List.length_take]; rfl)) ?_; (with_reducible refine (tappetref01_Int.calls a1 t227 t228 _ A9.out).mono ?_); rintro e w' ⟨rfl, ⟨nd, rfl⟩⟩; refine ⟨_, rfl, ?_⟩) | ((with_reducible refine gate_callee (f := 31) rfl ?_); refine goesL_ (some 55) rfl rfl Try.func31 (by kernel_rfl) rfl #[.int .u64 a1] rfl (by (try simp only [List.map_toArray, List.map_cons, List.map_nil]); first | done | rfl | (simp only [List.length_drop, List.length_take]; rfl)) ?_; (with_reducible refine (word_Ref.calls a1 t229 t230 _ A10.out).mono ?_); rintro e w' ⟨rfl, ⟨nd, rfl⟩⟩; refine ⟨_, rfl, ?_⟩) | ((with_reducible refine gate_callee (f := 32) rfl ?_); refine goesL_ (some 60) rfl rfl Try.func32 (by kernel_rfl) rfl #[.int .u64 a1] rfl (by (try simp only [List.map_toArray, List.map_cons, List.map_nil]); first | done | rfl | (simp only [List.length_drop, List.length_take]; rfl)) ?_; (with_reducible refine (tappetref01_Ref.calls a1 t231 t232 _ A11.out).mono ?_); rintro e w' ⟨rfl, ⟨nd, rfl⟩⟩; refine ⟨_, rfl, ?_⟩))
                    go_ret
                    exact ⟨by first | rfl | (simp; done) | (simp [*]; done), by repeat (first | exact Drawn0.refl _ | apply Drawn0.step)⟩
                    all_goals (exfalso; first | omega | (simp_all; done) | (simp_all; omega))
                · rw [if_neg c19] at H
                  have c19b0 : (t229 == t231) = false := beq_eq_false_iff_ne.mpr c19
                  have c19b1 : (t229 != t231) = true := bne_iff_ne.mpr c19
                  obtain rfl := Option.some.inj H
                  go_enter Try.func8, Try.ntmps8
                  go_wp2_with (first | ((with_reducible refine gate_callee (f := 22) rfl ?_); refine goesL_ (some 22) rfl rfl Try.func22 (by kernel_rfl) rfl #[] rfl (by (try simp only [List.map_toArray, List.map_cons, List.map_nil]); first | done | rfl | (simp only [List.length_drop, List.length_take]; rfl)) ?_; (with_reducible refine (tappetlaw01_awake.calls k  true _ A3.out).mono ?_); rintro e w' ⟨rfl, ⟨nd, rfl⟩⟩; refine ⟨_, rfl, ?_⟩) | ((with_reducible refine gate_callee (f := 26) rfl ?_); refine goesL_ (some 25) rfl rfl Try.func26 (by kernel_rfl) rfl #[.int .i64 a0] rfl (by (try simp only [List.map_toArray, List.map_cons, List.map_nil]); first | done | rfl | (simp only [List.length_drop, List.length_take]; rfl)) ?_; (with_reducible refine (word_FromInt.calls a0 t217 t218 _ A4.out).mono ?_); rintro e w' ⟨rfl, ⟨nd, rfl⟩⟩; refine ⟨_, rfl, ?_⟩) | ((with_reducible refine gate_callee (f := 27) rfl ?_); refine goesL_ (some 30) rfl rfl Try.func27 (by kernel_rfl) rfl #[.int .i64 a0] rfl (by (try simp only [List.map_toArray, List.map_cons, List.map_nil]); first | done | rfl | (simp only [List.length_drop, List.length_take]; rfl)) ?_; (with_reducible refine (tappetref01_FromInt.calls a0 t219 t220 _ A5.out).mono ?_); rintro e w' ⟨rfl, ⟨nd, rfl⟩⟩; refine ⟨_, rfl, ?_⟩) | ((with_reducible refine gate_callee (f := 28) rfl ?_); refine goesL_ (some 35) rfl rfl Try.func28 (by kernel_rfl) rfl #[.int .i64 a0] rfl (by (try simp only [List.map_toArray, List.map_cons, List.map_nil]); first | done | rfl | (simp only [List.length_drop, List.length_take]; rfl)) ?_; (with_reducible refine (word_FromRef.calls a0 t221 t222 _ A6.out).mono ?_); rintro e w' ⟨rfl, ⟨nd, rfl⟩⟩; refine ⟨_, rfl, ?_⟩) | ((with_reducible refine gate_callee (f := 29) rfl ?_); refine goesL_ (some 40) rfl rfl Try.func29 (by kernel_rfl) rfl #[.int .i64 a0] rfl (by (try simp only [List.map_toArray, List.map_cons, List.map_nil]); first | done | rfl | (simp only [List.length_drop, List.length_take]; rfl)) ?_; (with_reducible refine (tappetref01_FromRef.calls a0 t223 t224 _ A7.out).mono ?_); rintro e w' ⟨rfl, ⟨nd, rfl⟩⟩; refine ⟨_, rfl, ?_⟩) | ((with_reducible refine gate_callee (f := 25) rfl ?_); refine goesL_ (some 45) rfl rfl Try.func25 (by kernel_rfl) rfl #[.int .u64 a1] rfl (by (try simp only [List.map_toArray, List.map_cons, List.map_nil]); first | done | rfl | (simp only [List.length_drop, List.length_take]; rfl)) ?_; (with_reducible refine (word_Int.calls a1 t225 t226 _ A8.out).mono ?_); rintro e w' ⟨rfl, ⟨nd, rfl⟩⟩; refine ⟨_, rfl, ?_⟩) | ((with_reducible refine gate_callee (f := 30) rfl ?_); refine goesL_ (some 50) rfl rfl Try.func30 (by kernel_rfl) rfl #[.int .u64 a1] rfl (by (try simp only [List.map_toArray, List.map_cons, List.map_nil]); first | done | rfl | (simp only [List.length_drop, List.length_take]; rfl)) ?_; (with_reducible refine (tappetref01_Int.calls a1 t227 t228 _ A9.out).mono ?_); rintro e w' ⟨rfl, ⟨nd, rfl⟩⟩; refine ⟨_, rfl, ?_⟩) | ((with_reducible refine gate_callee (f := 31) rfl ?_); refine goesL_ (some 55) rfl rfl Try.func31 (by kernel_rfl) rfl #[.int .u64 a1] rfl (by (try simp only [List.map_toArray, List.map_cons, List.map_nil]); first | done | rfl | (simp only [List.length_drop, List.length_take]; rfl)) ?_; (with_reducible refine (word_Ref.calls a1 t229 t230 _ A10.out).mono ?_); rintro e w' ⟨rfl, ⟨nd, rfl⟩⟩; refine ⟨_, rfl, ?_⟩) | ((with_reducible refine gate_callee (f := 32) rfl ?_); refine goesL_ (some 60) rfl rfl Try.func32 (by kernel_rfl) rfl #[.int .u64 a1] rfl (by (try simp only [List.map_toArray, List.map_cons, List.map_nil]); first | done | rfl | (simp only [List.length_drop, List.length_take]; rfl)) ?_; (with_reducible refine (tappetref01_Ref.calls a1 t231 t232 _ A11.out).mono ?_); rintro e w' ⟨rfl, ⟨nd, rfl⟩⟩; refine ⟨_, rfl, ?_⟩))
                  go_ret
                  exact ⟨by first | rfl | (simp; done) | (simp [*]; done), by repeat (first | exact Drawn0.refl _ | apply Drawn0.step)⟩
                  all_goals (exfalso; first | omega | (simp_all; done) | (simp_all; omega))
              · rw [if_neg c18] at H
                have c18b0 : (t226 == t228) = false := beq_eq_false_iff_ne.mpr c18
                have c18b1 : (t226 != t228) = true := bne_iff_ne.mpr c18
                obtain rfl := Option.some.inj H
                go_enter Try.func8, Try.ntmps8
                go_wp2_with (first | ((with_reducible refine gate_callee (f := 22) rfl ?_); refine goesL_ (some 22) rfl rfl Try.func22 (by kernel_rfl) rfl #[] rfl (by (try simp only [List.map_toArray, List.map_cons, List.map_nil]); first | done | rfl | (simp only [List.length_drop, List.length_take]; rfl)) ?_; (with_reducible refine (tappetlaw01_awake.calls k  true _ A3.out).mono ?_); rintro e w' ⟨rfl, ⟨nd, rfl⟩⟩; refine ⟨_, rfl, ?_⟩) | ((with_reducible refine gate_callee (f := 26) rfl ?_); refine goesL_ (some 25) rfl rfl Try.func26 (by kernel_rfl) rfl #[.int .i64 a0] rfl (by (try simp only [List.map_toArray, List.map_cons, List.map_nil]); first | done | rfl | (simp only [List.length_drop, List.length_take]; rfl)) ?_; (with_reducible refine (word_FromInt.calls a0 t217 t218 _ A4.out).mono ?_); rintro e w' ⟨rfl, ⟨nd, rfl⟩⟩; refine ⟨_, rfl, ?_⟩) | ((with_reducible refine gate_callee (f := 27) rfl ?_); refine goesL_ (some 30) rfl rfl Try.func27 (by kernel_rfl) rfl #[.int .i64 a0] rfl (by (try simp only [List.map_toArray, List.map_cons, List.map_nil]); first | done | rfl | (simp only [List.length_drop, List.length_take]; rfl)) ?_; (with_reducible refine (tappetref01_FromInt.calls a0 t219 t220 _ A5.out).mono ?_); rintro e w' ⟨rfl, ⟨nd, rfl⟩⟩; refine ⟨_, rfl, ?_⟩) | ((with_reducible refine gate_callee (f := 28) rfl ?_); refine goesL_ (some 35) rfl rfl Try.func28 (by kernel_rfl) rfl #[.int .i64 a0] rfl (by (try simp only [List.map_toArray, List.map_cons, List.map_nil]); first | done | rfl | (simp only [List.length_drop, List.length_take]; rfl)) ?_; (with_reducible refine (word_FromRef.calls a0 t221 t222 _ A6.out).mono ?_); rintro e w' ⟨rfl, ⟨nd, rfl⟩⟩; refine ⟨_, rfl, ?_⟩) | ((with_reducible refine gate_callee (f := 29) rfl ?_); refine goesL_ (some 40) rfl rfl Try.func29 (by kernel_rfl) rfl #[.int .i64 a0] rfl (by (try simp only [List.map_toArray, List.map_cons, List.map_nil]); first | done | rfl | (simp only [List.length_drop, List.length_take]; rfl)) ?_; (with_reducible refine (tappetref01_FromRef.calls a0 t223 t224 _ A7.out).mono ?_); rintro e w' ⟨rfl, ⟨nd, rfl⟩⟩; refine ⟨_, rfl, ?_⟩) | ((with_reducible refine gate_callee (f := 25) rfl ?_); refine goesL_ (some 45) rfl rfl Try.func25 (by kernel_rfl) rfl #[.int .u64 a1] rfl (by (try simp only [List.map_toArray, List.map_cons, List.map_nil]); first | done | rfl | (simp only [List.length_drop, List.length_take]; rfl)) ?_; (with_reducible refine (word_Int.calls a1 t225 t226 _ A8.out).mono ?_); rintro e w' ⟨rfl, ⟨nd, rfl⟩⟩; refine ⟨_, rfl, ?_⟩) | ((with_reducible refine gate_callee (f := 30) rfl ?_); refine goesL_ (some 50) rfl rfl Try.func30 (by kernel_rfl) rfl #[.int .u64 a1] rfl (by (try simp only [List.map_toArray, List.map_cons, List.map_nil]); first | done | rfl | (simp only [List.length_drop, List.length_take]; rfl)) ?_; (with_reducible refine (tappetref01_Int.calls a1 t227 t228 _ A9.out).mono ?_); rintro e w' ⟨rfl, ⟨nd, rfl⟩⟩; refine ⟨_, rfl, ?_⟩) | ((with_reducible refine gate_callee (f := 31) rfl ?_); refine goesL_ (some 55) rfl rfl Try.func31 (by kernel_rfl) rfl #[.int .u64 a1] rfl (by (try simp only [List.map_toArray, List.map_cons, List.map_nil]); first | done | rfl | (simp only [List.length_drop, List.length_take]; rfl)) ?_; (with_reducible refine (word_Ref.calls a1 t229 t230 _ A10.out).mono ?_); rintro e w' ⟨rfl, ⟨nd, rfl⟩⟩; refine ⟨_, rfl, ?_⟩) | ((with_reducible refine gate_callee (f := 32) rfl ?_); refine goesL_ (some 60) rfl rfl Try.func32 (by kernel_rfl) rfl #[.int .u64 a1] rfl (by (try simp only [List.map_toArray, List.map_cons, List.map_nil]); first | done | rfl | (simp only [List.length_drop, List.length_take]; rfl)) ?_; (with_reducible refine (tappetref01_Ref.calls a1 t231 t232 _ A11.out).mono ?_); rintro e w' ⟨rfl, ⟨nd, rfl⟩⟩; refine ⟨_, rfl, ?_⟩))
                go_ret
                exact ⟨by first | rfl | (simp; done) | (simp [*]; done), by repeat (first | exact Drawn0.refl _ | apply Drawn0.step)⟩
                all_goals (exfalso; first | omega | (simp_all; done) | (simp_all; omega))
            · rw [if_neg c17] at H
              have c17b0 : (t225 == t227) = false := beq_eq_false_iff_ne.mpr c17
              have c17b1 : (t225 != t227) = true := bne_iff_ne.mpr c17
              obtain rfl := Option.some.inj H
              go_enter Try.func8, Try.ntmps8
              go_wp2_with (first | ((with_reducible refine gate_callee (f := 22) rfl ?_); refine goesL_ (some 22) rfl rfl Try.func22 (by kernel_rfl) rfl #[] rfl (by (try simp only [List.map_toArray, List.map_cons, List.map_nil]); first | done | rfl | (simp only [List.length_drop, List.length_take]; rfl)) ?_; (with_reducible refine (tappetlaw01_awake.calls k  true _ A3.out).mono ?_); rintro e w' ⟨rfl, ⟨nd, rfl⟩⟩; refine ⟨_, rfl, ?_⟩) | ((with_reducible refine gate_callee (f := 26) rfl ?_); refine goesL_ (some 25) rfl rfl Try.func26 (by kernel_rfl) rfl #[.int .i64 a0] rfl (by (try simp only [List.map_toArray, List.map_cons, List.map_nil]); first | done | rfl | (simp only [List.length_drop, List.length_take]; rfl)) ?_; (with_reducible refine (word_FromInt.calls a0 t217 t218 _ A4.out).mono ?_); rintro e w' ⟨rfl, ⟨nd, rfl⟩⟩; refine ⟨_, rfl, ?_⟩) | ((with_reducible refine gate_callee (f := 27) rfl ?_); refine goesL_ (some 30) rfl rfl Try.func27 (by kernel_rfl) rfl #[.int .i64 a0] rfl (by (try simp only [List.map_toArray, List.map_cons, List.map_nil]); first | done | rfl | (simp only [List.length_drop, List.length_take]; rfl)) ?_; (with_reducible refine (tappetref01_FromInt.calls a0 t219 t220 _ A5.out).mono ?_); rintro e w' ⟨rfl, ⟨nd, rfl⟩⟩; refine ⟨_, rfl, ?_⟩) | ((with_reducible refine gate_callee (f := 28) rfl ?_); refine goesL_ (some 35) rfl rfl Try.func28 (by kernel_rfl) rfl #[.int .i64 a0] rfl (by (try simp only [List.map_toArray, List.map_cons, List.map_nil]); first | done | rfl | (simp only [List.length_drop, List.length_take]; rfl)) ?_; (with_reducible refine (word_FromRef.calls a0 t221 t222 _ A6.out).mono ?_); rintro e w' ⟨rfl, ⟨nd, rfl⟩⟩; refine ⟨_, rfl, ?_⟩) | ((with_reducible refine gate_callee (f := 29) rfl ?_); refine goesL_ (some 40) rfl rfl Try.func29 (by kernel_rfl) rfl #[.int .i64 a0] rfl (by (try simp only [List.map_toArray, List.map_cons, List.map_nil]); first | done | rfl | (simp only [List.length_drop, List.length_take]; rfl)) ?_; (with_reducible refine (tappetref01_FromRef.calls a0 t223 t224 _ A7.out).mono ?_); rintro e w' ⟨rfl, ⟨nd, rfl⟩⟩; refine ⟨_, rfl, ?_⟩) | ((with_reducible refine gate_callee (f := 25) rfl ?_); refine goesL_ (some 45) rfl rfl Try.func25 (by kernel_rfl) rfl #[.int .u64 a1] rfl (by (try simp only [List.map_toArray, List.map_cons, List.map_nil]); first | done | rfl | (simp only [List.length_drop, List.length_take]; rfl)) ?_; (with_reducible refine (word_Int.calls a1 t225 t226 _ A8.out).mono ?_); rintro e w' ⟨rfl, ⟨nd, rfl⟩⟩; refine ⟨_, rfl, ?_⟩) | ((with_reducible refine gate_callee (f := 30) rfl ?_); refine goesL_ (some 50) rfl rfl Try.func30 (by kernel_rfl) rfl #[.int .u64 a1] rfl (by (try simp only [List.map_toArray, List.map_cons, List.map_nil]); first | done | rfl | (simp only [List.length_drop, List.length_take]; rfl)) ?_; (with_reducible refine (tappetref01_Int.calls a1 t227 t228 _ A9.out).mono ?_); rintro e w' ⟨rfl, ⟨nd, rfl⟩⟩; refine ⟨_, rfl, ?_⟩) | ((with_reducible refine gate_callee (f := 31) rfl ?_); refine goesL_ (some 55) rfl rfl Try.func31 (by kernel_rfl) rfl #[.int .u64 a1] rfl (by (try simp only [List.map_toArray, List.map_cons, List.map_nil]); first | done | rfl | (simp only [List.length_drop, List.length_take]; rfl)) ?_; (with_reducible refine (word_Ref.calls a1 t229 t230 _ A10.out).mono ?_); rintro e w' ⟨rfl, ⟨nd, rfl⟩⟩; refine ⟨_, rfl, ?_⟩) | ((with_reducible refine gate_callee (f := 32) rfl ?_); refine goesL_ (some 60) rfl rfl Try.func32 (by kernel_rfl) rfl #[.int .u64 a1] rfl (by (try simp only [List.map_toArray, List.map_cons, List.map_nil]); first | done | rfl | (simp only [List.length_drop, List.length_take]; rfl)) ?_; (with_reducible refine (tappetref01_Ref.calls a1 t231 t232 _ A11.out).mono ?_); rintro e w' ⟨rfl, ⟨nd, rfl⟩⟩; refine ⟨_, rfl, ?_⟩))
              go_ret
              exact ⟨by first | rfl | (simp; done) | (simp [*]; done), by repeat (first | exact Drawn0.refl _ | apply Drawn0.step)⟩
              all_goals (exfalso; first | omega | (simp_all; done) | (simp_all; omega))
          · rw [if_neg c16] at H
            have c16b0 : (t222 == t224) = false := beq_eq_false_iff_ne.mpr c16
            have c16b1 : (t222 != t224) = true := bne_iff_ne.mpr c16
            obtain rfl := Option.some.inj H
            go_enter Try.func8, Try.ntmps8
            go_wp2_with (first | ((with_reducible refine gate_callee (f := 22) rfl ?_); refine goesL_ (some 22) rfl rfl Try.func22 (by kernel_rfl) rfl #[] rfl (by (try simp only [List.map_toArray, List.map_cons, List.map_nil]); first | done | rfl | (simp only [List.length_drop, List.length_take]; rfl)) ?_; (with_reducible refine (tappetlaw01_awake.calls k  true _ A3.out).mono ?_); rintro e w' ⟨rfl, ⟨nd, rfl⟩⟩; refine ⟨_, rfl, ?_⟩) | ((with_reducible refine gate_callee (f := 26) rfl ?_); refine goesL_ (some 25) rfl rfl Try.func26 (by kernel_rfl) rfl #[.int .i64 a0] rfl (by (try simp only [List.map_toArray, List.map_cons, List.map_nil]); first | done | rfl | (simp only [List.length_drop, List.length_take]; rfl)) ?_; (with_reducible refine (word_FromInt.calls a0 t217 t218 _ A4.out).mono ?_); rintro e w' ⟨rfl, ⟨nd, rfl⟩⟩; refine ⟨_, rfl, ?_⟩) | ((with_reducible refine gate_callee (f := 27) rfl ?_); refine goesL_ (some 30) rfl rfl Try.func27 (by kernel_rfl) rfl #[.int .i64 a0] rfl (by (try simp only [List.map_toArray, List.map_cons, List.map_nil]); first | done | rfl | (simp only [List.length_drop, List.length_take]; rfl)) ?_; (with_reducible refine (tappetref01_FromInt.calls a0 t219 t220 _ A5.out).mono ?_); rintro e w' ⟨rfl, ⟨nd, rfl⟩⟩; refine ⟨_, rfl, ?_⟩) | ((with_reducible refine gate_callee (f := 28) rfl ?_); refine goesL_ (some 35) rfl rfl Try.func28 (by kernel_rfl) rfl #[.int .i64 a0] rfl (by (try simp only [List.map_toArray, List.map_cons, List.map_nil]); first | done | rfl | (simp only [List.length_drop, List.length_take]; rfl)) ?_; (with_reducible refine (word_FromRef.calls a0 t221 t222 _ A6.out).mono ?_); rintro e w' ⟨rfl, ⟨nd, rfl⟩⟩; refine ⟨_, rfl, ?_⟩) | ((with_reducible refine gate_callee (f := 29) rfl ?_); refine goesL_ (some 40) rfl rfl Try.func29 (by kernel_rfl) rfl #[.int .i64 a0] rfl (by (try simp only [List.map_toArray, List.map_cons, List.map_nil]); first | done | rfl | (simp only [List.length_drop, List.length_take]; rfl)) ?_; (with_reducible refine (tappetref01_FromRef.calls a0 t223 t224 _ A7.out).mono ?_); rintro e w' ⟨rfl, ⟨nd, rfl⟩⟩; refine ⟨_, rfl, ?_⟩) | ((with_reducible refine gate_callee (f := 25) rfl ?_); refine goesL_ (some 45) rfl rfl Try.func25 (by kernel_rfl) rfl #[.int .u64 a1] rfl (by (try simp only [List.map_toArray, List.map_cons, List.map_nil]); first | done | rfl | (simp only [List.length_drop, List.length_take]; rfl)) ?_; (with_reducible refine (word_Int.calls a1 t225 t226 _ A8.out).mono ?_); rintro e w' ⟨rfl, ⟨nd, rfl⟩⟩; refine ⟨_, rfl, ?_⟩) | ((with_reducible refine gate_callee (f := 30) rfl ?_); refine goesL_ (some 50) rfl rfl Try.func30 (by kernel_rfl) rfl #[.int .u64 a1] rfl (by (try simp only [List.map_toArray, List.map_cons, List.map_nil]); first | done | rfl | (simp only [List.length_drop, List.length_take]; rfl)) ?_; (with_reducible refine (tappetref01_Int.calls a1 t227 t228 _ A9.out).mono ?_); rintro e w' ⟨rfl, ⟨nd, rfl⟩⟩; refine ⟨_, rfl, ?_⟩) | ((with_reducible refine gate_callee (f := 31) rfl ?_); refine goesL_ (some 55) rfl rfl Try.func31 (by kernel_rfl) rfl #[.int .u64 a1] rfl (by (try simp only [List.map_toArray, List.map_cons, List.map_nil]); first | done | rfl | (simp only [List.length_drop, List.length_take]; rfl)) ?_; (with_reducible refine (word_Ref.calls a1 t229 t230 _ A10.out).mono ?_); rintro e w' ⟨rfl, ⟨nd, rfl⟩⟩; refine ⟨_, rfl, ?_⟩) | ((with_reducible refine gate_callee (f := 32) rfl ?_); refine goesL_ (some 60) rfl rfl Try.func32 (by kernel_rfl) rfl #[.int .u64 a1] rfl (by (try simp only [List.map_toArray, List.map_cons, List.map_nil]); first | done | rfl | (simp only [List.length_drop, List.length_take]; rfl)) ?_; (with_reducible refine (tappetref01_Ref.calls a1 t231 t232 _ A11.out).mono ?_); rintro e w' ⟨rfl, ⟨nd, rfl⟩⟩; refine ⟨_, rfl, ?_⟩))
            go_ret
            exact ⟨by first | rfl | (simp; done) | (simp [*]; done), by repeat (first | exact Drawn0.refl _ | apply Drawn0.step)⟩
            all_goals (exfalso; first | omega | (simp_all; done) | (simp_all; omega))
        · rw [if_neg c15] at H
          have c15b0 : (t221 == t223) = false := beq_eq_false_iff_ne.mpr c15
          have c15b1 : (t221 != t223) = true := bne_iff_ne.mpr c15
          obtain rfl := Option.some.inj H
          go_enter Try.func8, Try.ntmps8
          go_wp2_with (first | ((with_reducible refine gate_callee (f := 22) rfl ?_); refine goesL_ (some 22) rfl rfl Try.func22 (by kernel_rfl) rfl #[] rfl (by (try simp only [List.map_toArray, List.map_cons, List.map_nil]); first | done | rfl | (simp only [List.length_drop, List.length_take]; rfl)) ?_; (with_reducible refine (tappetlaw01_awake.calls k  true _ A3.out).mono ?_); rintro e w' ⟨rfl, ⟨nd, rfl⟩⟩; refine ⟨_, rfl, ?_⟩) | ((with_reducible refine gate_callee (f := 26) rfl ?_); refine goesL_ (some 25) rfl rfl Try.func26 (by kernel_rfl) rfl #[.int .i64 a0] rfl (by (try simp only [List.map_toArray, List.map_cons, List.map_nil]); first | done | rfl | (simp only [List.length_drop, List.length_take]; rfl)) ?_; (with_reducible refine (word_FromInt.calls a0 t217 t218 _ A4.out).mono ?_); rintro e w' ⟨rfl, ⟨nd, rfl⟩⟩; refine ⟨_, rfl, ?_⟩) | ((with_reducible refine gate_callee (f := 27) rfl ?_); refine goesL_ (some 30) rfl rfl Try.func27 (by kernel_rfl) rfl #[.int .i64 a0] rfl (by (try simp only [List.map_toArray, List.map_cons, List.map_nil]); first | done | rfl | (simp only [List.length_drop, List.length_take]; rfl)) ?_; (with_reducible refine (tappetref01_FromInt.calls a0 t219 t220 _ A5.out).mono ?_); rintro e w' ⟨rfl, ⟨nd, rfl⟩⟩; refine ⟨_, rfl, ?_⟩) | ((with_reducible refine gate_callee (f := 28) rfl ?_); refine goesL_ (some 35) rfl rfl Try.func28 (by kernel_rfl) rfl #[.int .i64 a0] rfl (by (try simp only [List.map_toArray, List.map_cons, List.map_nil]); first | done | rfl | (simp only [List.length_drop, List.length_take]; rfl)) ?_; (with_reducible refine (word_FromRef.calls a0 t221 t222 _ A6.out).mono ?_); rintro e w' ⟨rfl, ⟨nd, rfl⟩⟩; refine ⟨_, rfl, ?_⟩) | ((with_reducible refine gate_callee (f := 29) rfl ?_); refine goesL_ (some 40) rfl rfl Try.func29 (by kernel_rfl) rfl #[.int .i64 a0] rfl (by (try simp only [List.map_toArray, List.map_cons, List.map_nil]); first | done | rfl | (simp only [List.length_drop, List.length_take]; rfl)) ?_; (with_reducible refine (tappetref01_FromRef.calls a0 t223 t224 _ A7.out).mono ?_); rintro e w' ⟨rfl, ⟨nd, rfl⟩⟩; refine ⟨_, rfl, ?_⟩) | ((with_reducible refine gate_callee (f := 25) rfl ?_); refine goesL_ (some 45) rfl rfl Try.func25 (by kernel_rfl) rfl #[.int .u64 a1] rfl (by (try simp only [List.map_toArray, List.map_cons, List.map_nil]); first | done | rfl | (simp only [List.length_drop, List.length_take]; rfl)) ?_; (with_reducible refine (word_Int.calls a1 t225 t226 _ A8.out).mono ?_); rintro e w' ⟨rfl, ⟨nd, rfl⟩⟩; refine ⟨_, rfl, ?_⟩) | ((with_reducible refine gate_callee (f := 30) rfl ?_); refine goesL_ (some 50) rfl rfl Try.func30 (by kernel_rfl) rfl #[.int .u64 a1] rfl (by (try simp only [List.map_toArray, List.map_cons, List.map_nil]); first | done | rfl | (simp only [List.length_drop, List.length_take]; rfl)) ?_; (with_reducible refine (tappetref01_Int.calls a1 t227 t228 _ A9.out).mono ?_); rintro e w' ⟨rfl, ⟨nd, rfl⟩⟩; refine ⟨_, rfl, ?_⟩) | ((with_reducible refine gate_callee (f := 31) rfl ?_); refine goesL_ (some 55) rfl rfl Try.func31 (by kernel_rfl) rfl #[.int .u64 a1] rfl (by (try simp only [List.map_toArray, List.map_cons, List.map_nil]); first | done | rfl | (simp only [List.length_drop, List.length_take]; rfl)) ?_; (with_reducible refine (word_Ref.calls a1 t229 t230 _ A10.out).mono ?_); rintro e w' ⟨rfl, ⟨nd, rfl⟩⟩; refine ⟨_, rfl, ?_⟩) | ((with_reducible refine gate_callee (f := 32) rfl ?_); refine goesL_ (some 60) rfl rfl Try.func32 (by kernel_rfl) rfl #[.int .u64 a1] rfl (by (try simp only [List.map_toArray, List.map_cons, List.map_nil]); first | done | rfl | (simp only [List.length_drop, List.length_take]; rfl)) ?_; (with_reducible refine (tappetref01_Ref.calls a1 t231 t232 _ A11.out).mono ?_); rintro e w' ⟨rfl, ⟨nd, rfl⟩⟩; refine ⟨_, rfl, ?_⟩))
          go_ret
          exact ⟨by first | rfl | (simp; done) | (simp [*]; done), by repeat (first | exact Drawn0.refl _ | apply Drawn0.step)⟩
          all_goals (exfalso; first | omega | (simp_all; done) | (simp_all; omega))
      · rw [if_neg c14] at H
        have c14b0 : (t218 == t220) = false := beq_eq_false_iff_ne.mpr c14
        have c14b1 : (t218 != t220) = true := bne_iff_ne.mpr c14
        obtain rfl := Option.some.inj H
        go_enter Try.func8, Try.ntmps8
        go_wp2_with (first | ((with_reducible refine gate_callee (f := 22) rfl ?_); refine goesL_ (some 22) rfl rfl Try.func22 (by kernel_rfl) rfl #[] rfl (by (try simp only [List.map_toArray, List.map_cons, List.map_nil]); first | done | rfl | (simp only [List.length_drop, List.length_take]; rfl)) ?_; (with_reducible refine (tappetlaw01_awake.calls k  true _ A3.out).mono ?_); rintro e w' ⟨rfl, ⟨nd, rfl⟩⟩; refine ⟨_, rfl, ?_⟩) | ((with_reducible refine gate_callee (f := 26) rfl ?_); refine goesL_ (some 25) rfl rfl Try.func26 (by kernel_rfl) rfl #[.int .i64 a0] rfl (by (try simp only [List.map_toArray, List.map_cons, List.map_nil]); first | done | rfl | (simp only [List.length_drop, List.length_take]; rfl)) ?_; (with_reducible refine (word_FromInt.calls a0 t217 t218 _ A4.out).mono ?_); rintro e w' ⟨rfl, ⟨nd, rfl⟩⟩; refine ⟨_, rfl, ?_⟩) | ((with_reducible refine gate_callee (f := 27) rfl ?_); refine goesL_ (some 30) rfl rfl Try.func27 (by kernel_rfl) rfl #[.int .i64 a0] rfl (by (try simp only [List.map_toArray, List.map_cons, List.map_nil]); first | done | rfl | (simp only [List.length_drop, List.length_take]; rfl)) ?_; (with_reducible refine (tappetref01_FromInt.calls a0 t219 t220 _ A5.out).mono ?_); rintro e w' ⟨rfl, ⟨nd, rfl⟩⟩; refine ⟨_, rfl, ?_⟩) | ((with_reducible refine gate_callee (f := 28) rfl ?_); refine goesL_ (some 35) rfl rfl Try.func28 (by kernel_rfl) rfl #[.int .i64 a0] rfl (by (try simp only [List.map_toArray, List.map_cons, List.map_nil]); first | done | rfl | (simp only [List.length_drop, List.length_take]; rfl)) ?_; (with_reducible refine (word_FromRef.calls a0 t221 t222 _ A6.out).mono ?_); rintro e w' ⟨rfl, ⟨nd, rfl⟩⟩; refine ⟨_, rfl, ?_⟩) | ((with_reducible refine gate_callee (f := 29) rfl ?_); refine goesL_ (some 40) rfl rfl Try.func29 (by kernel_rfl) rfl #[.int .i64 a0] rfl (by (try simp only [List.map_toArray, List.map_cons, List.map_nil]); first | done | rfl | (simp only [List.length_drop, List.length_take]; rfl)) ?_; (with_reducible refine (tappetref01_FromRef.calls a0 t223 t224 _ A7.out).mono ?_); rintro e w' ⟨rfl, ⟨nd, rfl⟩⟩; refine ⟨_, rfl, ?_⟩) | ((with_reducible refine gate_callee (f := 25) rfl ?_); refine goesL_ (some 45) rfl rfl Try.func25 (by kernel_rfl) rfl #[.int .u64 a1] rfl (by (try simp only [List.map_toArray, List.map_cons, List.map_nil]); first | done | rfl | (simp only [List.length_drop, List.length_take]; rfl)) ?_; (with_reducible refine (word_Int.calls a1 t225 t226 _ A8.out).mono ?_); rintro e w' ⟨rfl, ⟨nd, rfl⟩⟩; refine ⟨_, rfl, ?_⟩) | ((with_reducible refine gate_callee (f := 30) rfl ?_); refine goesL_ (some 50) rfl rfl Try.func30 (by kernel_rfl) rfl #[.int .u64 a1] rfl (by (try simp only [List.map_toArray, List.map_cons, List.map_nil]); first | done | rfl | (simp only [List.length_drop, List.length_take]; rfl)) ?_; (with_reducible refine (tappetref01_Int.calls a1 t227 t228 _ A9.out).mono ?_); rintro e w' ⟨rfl, ⟨nd, rfl⟩⟩; refine ⟨_, rfl, ?_⟩) | ((with_reducible refine gate_callee (f := 31) rfl ?_); refine goesL_ (some 55) rfl rfl Try.func31 (by kernel_rfl) rfl #[.int .u64 a1] rfl (by (try simp only [List.map_toArray, List.map_cons, List.map_nil]); first | done | rfl | (simp only [List.length_drop, List.length_take]; rfl)) ?_; (with_reducible refine (word_Ref.calls a1 t229 t230 _ A10.out).mono ?_); rintro e w' ⟨rfl, ⟨nd, rfl⟩⟩; refine ⟨_, rfl, ?_⟩) | ((with_reducible refine gate_callee (f := 32) rfl ?_); refine goesL_ (some 60) rfl rfl Try.func32 (by kernel_rfl) rfl #[.int .u64 a1] rfl (by (try simp only [List.map_toArray, List.map_cons, List.map_nil]); first | done | rfl | (simp only [List.length_drop, List.length_take]; rfl)) ?_; (with_reducible refine (tappetref01_Ref.calls a1 t231 t232 _ A11.out).mono ?_); rintro e w' ⟨rfl, ⟨nd, rfl⟩⟩; refine ⟨_, rfl, ?_⟩))
        go_ret
        exact ⟨by first | rfl | (simp; done) | (simp [*]; done), by repeat (first | exact Drawn0.refl _ | apply Drawn0.step)⟩
        all_goals (exfalso; first | omega | (simp_all; done) | (simp_all; omega))
    · rw [if_neg c13] at H
      have c13b0 : (t217 == t219) = false := beq_eq_false_iff_ne.mpr c13
      have c13b1 : (t217 != t219) = true := bne_iff_ne.mpr c13
      obtain rfl := Option.some.inj H
      go_enter Try.func8, Try.ntmps8
      go_wp2_with (first | ((with_reducible refine gate_callee (f := 22) rfl ?_); refine goesL_ (some 22) rfl rfl Try.func22 (by kernel_rfl) rfl #[] rfl (by (try simp only [List.map_toArray, List.map_cons, List.map_nil]); first | done | rfl | (simp only [List.length_drop, List.length_take]; rfl)) ?_; (with_reducible refine (tappetlaw01_awake.calls k  true _ A3.out).mono ?_); rintro e w' ⟨rfl, ⟨nd, rfl⟩⟩; refine ⟨_, rfl, ?_⟩) | ((with_reducible refine gate_callee (f := 26) rfl ?_); refine goesL_ (some 25) rfl rfl Try.func26 (by kernel_rfl) rfl #[.int .i64 a0] rfl (by (try simp only [List.map_toArray, List.map_cons, List.map_nil]); first | done | rfl | (simp only [List.length_drop, List.length_take]; rfl)) ?_; (with_reducible refine (word_FromInt.calls a0 t217 t218 _ A4.out).mono ?_); rintro e w' ⟨rfl, ⟨nd, rfl⟩⟩; refine ⟨_, rfl, ?_⟩) | ((with_reducible refine gate_callee (f := 27) rfl ?_); refine goesL_ (some 30) rfl rfl Try.func27 (by kernel_rfl) rfl #[.int .i64 a0] rfl (by (try simp only [List.map_toArray, List.map_cons, List.map_nil]); first | done | rfl | (simp only [List.length_drop, List.length_take]; rfl)) ?_; (with_reducible refine (tappetref01_FromInt.calls a0 t219 t220 _ A5.out).mono ?_); rintro e w' ⟨rfl, ⟨nd, rfl⟩⟩; refine ⟨_, rfl, ?_⟩) | ((with_reducible refine gate_callee (f := 28) rfl ?_); refine goesL_ (some 35) rfl rfl Try.func28 (by kernel_rfl) rfl #[.int .i64 a0] rfl (by (try simp only [List.map_toArray, List.map_cons, List.map_nil]); first | done | rfl | (simp only [List.length_drop, List.length_take]; rfl)) ?_; (with_reducible refine (word_FromRef.calls a0 t221 t222 _ A6.out).mono ?_); rintro e w' ⟨rfl, ⟨nd, rfl⟩⟩; refine ⟨_, rfl, ?_⟩) | ((with_reducible refine gate_callee (f := 29) rfl ?_); refine goesL_ (some 40) rfl rfl Try.func29 (by kernel_rfl) rfl #[.int .i64 a0] rfl (by (try simp only [List.map_toArray, List.map_cons, List.map_nil]); first | done | rfl | (simp only [List.length_drop, List.length_take]; rfl)) ?_; (with_reducible refine (tappetref01_FromRef.calls a0 t223 t224 _ A7.out).mono ?_); rintro e w' ⟨rfl, ⟨nd, rfl⟩⟩; refine ⟨_, rfl, ?_⟩) | ((with_reducible refine gate_callee (f := 25) rfl ?_); refine goesL_ (some 45) rfl rfl Try.func25 (by kernel_rfl) rfl #[.int .u64 a1] rfl (by (try simp only [List.map_toArray, List.map_cons, List.map_nil]); first | done | rfl | (simp only [List.length_drop, List.length_take]; rfl)) ?_; (with_reducible refine (word_Int.calls a1 t225 t226 _ A8.out).mono ?_); rintro e w' ⟨rfl, ⟨nd, rfl⟩⟩; refine ⟨_, rfl, ?_⟩) | ((with_reducible refine gate_callee (f := 30) rfl ?_); refine goesL_ (some 50) rfl rfl Try.func30 (by kernel_rfl) rfl #[.int .u64 a1] rfl (by (try simp only [List.map_toArray, List.map_cons, List.map_nil]); first | done | rfl | (simp only [List.length_drop, List.length_take]; rfl)) ?_; (with_reducible refine (tappetref01_Int.calls a1 t227 t228 _ A9.out).mono ?_); rintro e w' ⟨rfl, ⟨nd, rfl⟩⟩; refine ⟨_, rfl, ?_⟩) | ((with_reducible refine gate_callee (f := 31) rfl ?_); refine goesL_ (some 55) rfl rfl Try.func31 (by kernel_rfl) rfl #[.int .u64 a1] rfl (by (try simp only [List.map_toArray, List.map_cons, List.map_nil]); first | done | rfl | (simp only [List.length_drop, List.length_take]; rfl)) ?_; (with_reducible refine (word_Ref.calls a1 t229 t230 _ A10.out).mono ?_); rintro e w' ⟨rfl, ⟨nd, rfl⟩⟩; refine ⟨_, rfl, ?_⟩) | ((with_reducible refine gate_callee (f := 32) rfl ?_); refine goesL_ (some 60) rfl rfl Try.func32 (by kernel_rfl) rfl #[.int .u64 a1] rfl (by (try simp only [List.map_toArray, List.map_cons, List.map_nil]); first | done | rfl | (simp only [List.length_drop, List.length_take]; rfl)) ?_; (with_reducible refine (tappetref01_Ref.calls a1 t231 t232 _ A11.out).mono ?_); rintro e w' ⟨rfl, ⟨nd, rfl⟩⟩; refine ⟨_, rfl, ?_⟩))
      go_ret
      exact ⟨by first | rfl | (simp; done) | (simp [*]; done), by repeat (first | exact Drawn0.refl _ | apply Drawn0.step)⟩
      all_goals (exfalso; first | omega | (simp_all; done) | (simp_all; omega))
  · replace c12 := Bool.eq_false_iff.mpr c12
    subst c12
    have H1 : (some false) = some r := by rw [if_neg (show ¬ (false = true) by decide)] at H; exact H
    clear H
    have H := H1
    clear H1
    obtain rfl := Option.some.inj H
    go_enter Try.func8, Try.ntmps8
    go_wp2_with (first | ((with_reducible refine gate_callee (f := 22) rfl ?_); refine goesL_ (some 22) rfl rfl Try.func22 (by kernel_rfl) rfl #[] rfl (by (try simp only [List.map_toArray, List.map_cons, List.map_nil]); first | done | rfl | (simp only [List.length_drop, List.length_take]; rfl)) ?_; (with_reducible refine (tappetlaw01_awake.calls k  false _ A3.out).mono ?_); rintro e w' ⟨rfl, ⟨nd, rfl⟩⟩; refine ⟨_, rfl, ?_⟩) | ((with_reducible refine gate_callee (f := 26) rfl ?_); refine goesL_ (some 25) rfl rfl Try.func26 (by kernel_rfl) rfl #[.int .i64 a0] rfl (by (try simp only [List.map_toArray, List.map_cons, List.map_nil]); first | done | rfl | (simp only [List.length_drop, List.length_take]; rfl)) ?_; (with_reducible refine (word_FromInt.calls a0 t217 t218 _ A4.out).mono ?_); rintro e w' ⟨rfl, ⟨nd, rfl⟩⟩; refine ⟨_, rfl, ?_⟩) | ((with_reducible refine gate_callee (f := 27) rfl ?_); refine goesL_ (some 30) rfl rfl Try.func27 (by kernel_rfl) rfl #[.int .i64 a0] rfl (by (try simp only [List.map_toArray, List.map_cons, List.map_nil]); first | done | rfl | (simp only [List.length_drop, List.length_take]; rfl)) ?_; (with_reducible refine (tappetref01_FromInt.calls a0 t219 t220 _ A5.out).mono ?_); rintro e w' ⟨rfl, ⟨nd, rfl⟩⟩; refine ⟨_, rfl, ?_⟩) | ((with_reducible refine gate_callee (f := 28) rfl ?_); refine goesL_ (some 35) rfl rfl Try.func28 (by kernel_rfl) rfl #[.int .i64 a0] rfl (by (try simp only [List.map_toArray, List.map_cons, List.map_nil]); first | done | rfl | (simp only [List.length_drop, List.length_take]; rfl)) ?_; (with_reducible refine (word_FromRef.calls a0 t221 t222 _ A6.out).mono ?_); rintro e w' ⟨rfl, ⟨nd, rfl⟩⟩; refine ⟨_, rfl, ?_⟩) | ((with_reducible refine gate_callee (f := 29) rfl ?_); refine goesL_ (some 40) rfl rfl Try.func29 (by kernel_rfl) rfl #[.int .i64 a0] rfl (by (try simp only [List.map_toArray, List.map_cons, List.map_nil]); first | done | rfl | (simp only [List.length_drop, List.length_take]; rfl)) ?_; (with_reducible refine (tappetref01_FromRef.calls a0 t223 t224 _ A7.out).mono ?_); rintro e w' ⟨rfl, ⟨nd, rfl⟩⟩; refine ⟨_, rfl, ?_⟩) | ((with_reducible refine gate_callee (f := 25) rfl ?_); refine goesL_ (some 45) rfl rfl Try.func25 (by kernel_rfl) rfl #[.int .u64 a1] rfl (by (try simp only [List.map_toArray, List.map_cons, List.map_nil]); first | done | rfl | (simp only [List.length_drop, List.length_take]; rfl)) ?_; (with_reducible refine (word_Int.calls a1 t225 t226 _ A8.out).mono ?_); rintro e w' ⟨rfl, ⟨nd, rfl⟩⟩; refine ⟨_, rfl, ?_⟩) | ((with_reducible refine gate_callee (f := 30) rfl ?_); refine goesL_ (some 50) rfl rfl Try.func30 (by kernel_rfl) rfl #[.int .u64 a1] rfl (by (try simp only [List.map_toArray, List.map_cons, List.map_nil]); first | done | rfl | (simp only [List.length_drop, List.length_take]; rfl)) ?_; (with_reducible refine (tappetref01_Int.calls a1 t227 t228 _ A9.out).mono ?_); rintro e w' ⟨rfl, ⟨nd, rfl⟩⟩; refine ⟨_, rfl, ?_⟩) | ((with_reducible refine gate_callee (f := 31) rfl ?_); refine goesL_ (some 55) rfl rfl Try.func31 (by kernel_rfl) rfl #[.int .u64 a1] rfl (by (try simp only [List.map_toArray, List.map_cons, List.map_nil]); first | done | rfl | (simp only [List.length_drop, List.length_take]; rfl)) ?_; (with_reducible refine (word_Ref.calls a1 t229 t230 _ A10.out).mono ?_); rintro e w' ⟨rfl, ⟨nd, rfl⟩⟩; refine ⟨_, rfl, ?_⟩) | ((with_reducible refine gate_callee (f := 32) rfl ?_); refine goesL_ (some 60) rfl rfl Try.func32 (by kernel_rfl) rfl #[.int .u64 a1] rfl (by (try simp only [List.map_toArray, List.map_cons, List.map_nil]); first | done | rfl | (simp only [List.length_drop, List.length_take]; rfl)) ?_; (with_reducible refine (tappetref01_Ref.calls a1 t231 t232 _ A11.out).mono ?_); rintro e w' ⟨rfl, ⟨nd, rfl⟩⟩; refine ⟨_, rfl, ?_⟩))
    go_ret
    exact ⟨by first | rfl | (simp; done) | (simp [*]; done), by repeat (first | exact Drawn0.refl _ | apply Drawn0.step)⟩
    all_goals (exfalso; first | omega | (simp_all; done) | (simp_all; omega))

/-- THE ONE PURE STATEMENT of tappetlaw01_WordForms: yours. -/
def tappetlaw01_WordForms.Pure : Prop := ∀ (a0 : Int) (a1 : Int), (Lit.int .i64 a0).wf = true → (Lit.int .u64 a1).wf = true → ∃ k, tappetlaw01_WordForms.f k a0 a1 = some true
theorem tappetlaw01_WordForms.walk (P : tappetlaw01_WordForms.Pure) (a0 : Int) (a1 : Int) (w : World) (w0 : (Lit.int .i64 a0).wf = true) (w1 : (Lit.int .u64 a1).wf = true) :
    Calls Try.prog 8 #[.int .i64 a0, .int .u64 a1] w fun e w' => e = .returned (.bool true) ∧ Below w.heap.size w w' := by
  obtain ⟨k, h⟩ := P a0 a1 w0 w1
  refine (tappetlaw01_WordForms.calls k a0 a1 true w h).mono ?_
  rintro e w' ⟨rfl, hd⟩
  exact ⟨rfl, hd.below⟩

/-! ### tappetlaw01_WordBack: function 9 -/
mutual
def tappetlaw01_WordBack.j0 : Nat → Int → Bool → Bool → Option (Bool)
  | 0, _, _, _ => none
  | k + 1, x1, x5, x44 => if x44 = true then (some false) else ((word_Int.f x1).bind fun bt241 => ((word_Ref.f x1).bind fun bt243 => (if bt241.2 = 0 then (tappetlaw01_WordBack.j1 k x1 x5 bt241.1 bt241.2 bt243.1 bt243.2 (bt243.2 == 0)) else (tappetlaw01_WordBack.j1 k x1 x5 bt241.1 bt241.2 bt243.1 bt243.2 false))))
def tappetlaw01_WordBack.j1 : Nat → Int → Bool → Int → Int → Int → Int → Bool → Option (Bool)
  | 0, _, _, _, _, _, _, _ => none
  | k + 1, x1, x5, x10, x11, x12, x13, x60 => if x60 = true then (some false) else ((word_FromInt.f x10).bind fun bt245 => ((word_FromRef.f x12).bind fun bt247 => (if x5 = true then (if x11 = 0 then (if bt245.2 = 0 then (if bt245.1 = x1 then (if x13 = 0 then (if bt247.2 = 0 then (if bt247.1 = x1 then ((word_IsInt.f x1).bind fun t249 => (some ((x11 == 0) == t249))) else (some false)) else (some false)) else ((word_IsInt.f x1).bind fun t250 => (some ((x11 == 0) == t250)))) else (some false)) else (some false)) else (if x13 = 0 then (if bt247.2 = 0 then (if bt247.1 = x1 then ((word_IsInt.f x1).bind fun t251 => (some ((x11 == 0) == t251))) else (some false)) else (some false)) else ((word_IsInt.f x1).bind fun t252 => (some ((x11 == 0) == t252))))) else (some false))))
end
def tappetlaw01_WordBack.f (k : Nat) (a0 : Int) (a1 : Int) : Option (Bool) := (tappetlaw01_awake.f k).bind fun t235 => ((word_FromInt.f a0).bind fun bt236 => ((word_Int.f bt236.1).bind fun bt238 => (if bt236.2 = 0 then (if bt238.2 = 0 then (if bt238.1 = a0 then ((word_IsInt.f bt236.1).bind fun t240 => (tappetlaw01_WordBack.j0 k a1 t235 (!t240))) else (tappetlaw01_WordBack.j0 k a1 t235 true)) else (tappetlaw01_WordBack.j0 k a1 t235 true)) else (tappetlaw01_WordBack.j0 k a1 t235 false))))
theorem tappetlaw01_WordBack.mono_l : ∀ k, (∀ y0 y1 y2, LeO (tappetlaw01_WordBack.j0 k y0 y1 y2) (tappetlaw01_WordBack.j0 (k + 1) y0 y1 y2)) ∧ (∀ y0 y1 y2 y3 y4 y5 y6, LeO (tappetlaw01_WordBack.j1 k y0 y1 y2 y3 y4 y5 y6) (tappetlaw01_WordBack.j1 (k + 1) y0 y1 y2 y3 y4 y5 y6))
  | 0 => ⟨fun _ _ _ r h => by simp [tappetlaw01_WordBack.j0] at h, fun _ _ _ _ _ _ _ r h => by simp [tappetlaw01_WordBack.j1] at h⟩
  | k + 1 => by
    obtain ⟨ih0, ih1⟩ := tappetlaw01_WordBack.mono_l k
    refine ⟨?_, ?_⟩
    · intro y0 y1 y2
      unfold tappetlaw01_WordBack.j0
      repeat' first
      | (with_reducible exact ih0 _ _ _)
      | (with_reducible exact ih1 _ _ _ _ _ _ _)
      | (with_reducible exact tappetlaw01_awake.mono _)
      | (with_reducible exact LeO.refl _)
      | (with_reducible exact LeO.none _)
      | (with_reducible refine LeO.ite ?_ ?_)
      | (with_reducible refine LeO.bind ?_ (fun _ => ?_))
      | exact ih0 _ _ _
      | exact ih1 _ _ _ _ _ _ _
      | exact tappetlaw01_awake.mono _
      | exact LeO.none _
      | refine LeO.ite ?_ ?_
      | refine LeO.bind ?_ (fun _ => ?_)
    · intro y0 y1 y2 y3 y4 y5 y6
      unfold tappetlaw01_WordBack.j1
      repeat' first
      | (with_reducible exact ih0 _ _ _)
      | (with_reducible exact ih1 _ _ _ _ _ _ _)
      | (with_reducible exact tappetlaw01_awake.mono _)
      | (with_reducible exact LeO.refl _)
      | (with_reducible exact LeO.none _)
      | (with_reducible refine LeO.ite ?_ ?_)
      | (with_reducible refine LeO.bind ?_ (fun _ => ?_))
      | exact ih0 _ _ _
      | exact ih1 _ _ _ _ _ _ _
      | exact tappetlaw01_awake.mono _
      | exact LeO.none _
      | refine LeO.ite ?_ ?_
      | refine LeO.bind ?_ (fun _ => ?_)
theorem tappetlaw01_WordBack.mono : ∀ a0 a1 k, LeO (tappetlaw01_WordBack.f k a0 a1) (tappetlaw01_WordBack.f (k + 1) a0 a1) := by
  intro a0 a1 k
  obtain ⟨ih0, ih1⟩ := tappetlaw01_WordBack.mono_l k
  unfold tappetlaw01_WordBack.f
  repeat' first
      | (with_reducible exact ih0 _ _ _)
      | (with_reducible exact ih1 _ _ _ _ _ _ _)
      | (with_reducible exact tappetlaw01_awake.mono _)
      | (with_reducible exact LeO.refl _)
      | (with_reducible exact LeO.none _)
      | (with_reducible refine LeO.ite ?_ ?_)
      | (with_reducible refine LeO.bind ?_ (fun _ => ?_))
      | exact ih0 _ _ _
      | exact ih1 _ _ _ _ _ _ _
      | exact tappetlaw01_awake.mono _
      | exact LeO.none _
      | refine LeO.ite ?_ ?_
      | refine LeO.bind ?_ (fun _ => ?_)
set_option maxHeartbeats 8000000 in
set_option maxRecDepth 100000 in
theorem tappetlaw01_WordBack.calls (k : Nat) (a0 : Int) (a1 : Int) (r : Bool) (w : World) (h : tappetlaw01_WordBack.f k a0 a1 = some r) :
    Calls Try.prog 9 #[.int .i64 a0, .int .u64 a1] w fun e w' => e = .returned (.bool r) ∧ Drawn0 w w' := by
  have H : ((tappetlaw01_awake.f k).bind fun t235 => ((word_FromInt.f a0).bind fun bt236 => ((word_Int.f bt236.1).bind fun bt238 => (if bt236.2 = 0 then (if bt238.2 = 0 then (if bt238.1 = a0 then ((word_IsInt.f bt236.1).bind fun t240 => (tappetlaw01_WordBack.j0 k a1 t235 (!t240))) else (tappetlaw01_WordBack.j0 k a1 t235 true)) else (tappetlaw01_WordBack.j0 k a1 t235 true)) else (tappetlaw01_WordBack.j0 k a1 t235 false))))) = some r := h
  clear h
  replace H := Option.bind_eq_some_iff.mp H
  obtain ⟨t235, A30, H⟩ := H
  replace H : ((word_FromInt.f a0).bind fun bt236 => ((word_Int.f bt236.1).bind fun bt238 => (if bt236.2 = 0 then (if bt238.2 = 0 then (if bt238.1 = a0 then ((word_IsInt.f bt236.1).bind fun t240 => (tappetlaw01_WordBack.j0 k a1 t235 (!t240))) else (tappetlaw01_WordBack.j0 k a1 t235 true)) else (tappetlaw01_WordBack.j0 k a1 t235 true)) else (tappetlaw01_WordBack.j0 k a1 t235 false)))) = some r := H
  have A3 := Aside0.mk A30
  clear A30
  replace H := Option.bind_eq_some_iff.mp H
  obtain ⟨⟨t236, t237⟩, A40, H⟩ := H
  replace H : ((word_Int.f t236).bind fun bt238 => (if t237 = 0 then (if bt238.2 = 0 then (if bt238.1 = a0 then ((word_IsInt.f t236).bind fun t240 => (tappetlaw01_WordBack.j0 k a1 t235 (!t240))) else (tappetlaw01_WordBack.j0 k a1 t235 true)) else (tappetlaw01_WordBack.j0 k a1 t235 true)) else (tappetlaw01_WordBack.j0 k a1 t235 false))) = some r := H
  have A4 := Aside0.mk A40
  clear A40
  replace H := Option.bind_eq_some_iff.mp H
  obtain ⟨⟨t238, t239⟩, A50, H⟩ := H
  replace H : (if t237 = 0 then (if t239 = 0 then (if t238 = a0 then ((word_IsInt.f t236).bind fun t240 => (tappetlaw01_WordBack.j0 k a1 t235 (!t240))) else (tappetlaw01_WordBack.j0 k a1 t235 true)) else (tappetlaw01_WordBack.j0 k a1 t235 true)) else (tappetlaw01_WordBack.j0 k a1 t235 false)) = some r := H
  have A5 := Aside0.mk A50
  clear A50
  have HC6 := Aside0.mk H
  clear H
  go_enter Try.func9, Try.ntmps9
  go_upto_region 4 with (first | ((with_reducible refine gate_callee (f := 22) rfl ?_); refine goesL_ (some 18) rfl rfl Try.func22 (by kernel_rfl) rfl #[] rfl (by (try simp only [List.map_toArray, List.map_cons, List.map_nil]); first | done | rfl | (simp only [List.length_drop, List.length_take]; rfl)) ?_; (with_reducible refine (tappetlaw01_awake.calls k  t235 _ A3.out).mono ?_); rintro e w' ⟨rfl, ⟨nd, rfl⟩⟩; refine ⟨_, rfl, ?_⟩) | ((with_reducible refine gate_callee (f := 26) rfl ?_); refine goesL_ (some 21) rfl rfl Try.func26 (by kernel_rfl) rfl #[.int .i64 a0] rfl (by (try simp only [List.map_toArray, List.map_cons, List.map_nil]); first | done | rfl | (simp only [List.length_drop, List.length_take]; rfl)) ?_; (with_reducible refine (word_FromInt.calls a0 t236 t237 _ A4.out).mono ?_); rintro e w' ⟨rfl, ⟨nd, rfl⟩⟩; refine ⟨_, rfl, ?_⟩) | ((with_reducible refine gate_callee (f := 25) rfl ?_); refine goesL_ (some 26) rfl rfl Try.func25 (by kernel_rfl) rfl #[.int .u64 t236] rfl (by (try simp only [List.map_toArray, List.map_cons, List.map_nil]); first | done | rfl | (simp only [List.length_drop, List.length_take]; rfl)) ?_; (with_reducible refine (word_Int.calls t236 t238 t239 _ A5.out).mono ?_); rintro e w' ⟨rfl, ⟨nd, rfl⟩⟩; refine ⟨_, rfl, ?_⟩))
  (try simp only [Act.put, List.setIfInBounds_toArray, List.set_cons_zero, List.set_cons_succ])
  go_cut [44] (fun v44 wc => ∃ (kq : Nat) (x44_5 : Bool), v44 = .bool x44_5 ∧ Aside0 (tappetlaw01_WordBack.j0 kq a1 t235 x44_5 = some r) ∧ Aside0 (kq ≤ k) ∧ Drawn0 w wc)
  case first =>
    have H := HC6.out
    clear HC6
    by_cases c7 : t237 = 0
    · rw [if_pos c7] at H
      have c7b0 : (t237 == 0) = true := beq_iff_eq.mpr c7
      have c7b1 : (t237 != 0) = false := bne_eq_false_iff_eq.mpr c7
      clear c7
      (first | rw [c7b0] | (simp only [i64_w, i32_w]; rw [c7b0]) | skip)
      by_cases c8 : t239 = 0
      · rw [if_pos c8] at H
        have c8b0 : (t239 == 0) = true := beq_iff_eq.mpr c8
        have c8b1 : (t239 != 0) = false := bne_eq_false_iff_eq.mpr c8
        clear c8
        by_cases c9 : t238 = a0
        · rw [if_pos c9] at H
          have c9b0 : (t238 == a0) = true := beq_iff_eq.mpr c9
          have c9b1 : (t238 != a0) = false := bne_eq_false_iff_eq.mpr c9
          clear c9
          replace H := Option.bind_eq_some_iff.mp H
          obtain ⟨t240, A100, H⟩ := H
          replace H : (tappetlaw01_WordBack.j0 k a1 t235 (!t240)) = some r := H
          have A10 := Aside0.mk A100
          clear A100
          have H' := Aside0.mk H
          clear H
          go_wp2_with (first | (go_at_call 33; (with_reducible refine (word_IsInt.calls t236 t240 _ A10.out).mono ?_); rintro e w' ⟨rfl, ⟨nd, rfl⟩⟩))
          go_meet
          case rel => exact ⟨_, (!t240), (by first | rfl | (simp; done) | (simp [*]; done)), H', ⟨by first | omega | exact Nat.le_refl _⟩, by repeat (first | exact Drawn0.refl _ | apply Drawn0.step)⟩
        · rw [if_neg c9] at H
          have c9b0 : (t238 == a0) = false := beq_eq_false_iff_ne.mpr c9
          have c9b1 : (t238 != a0) = true := bne_iff_ne.mpr c9
          have H' := Aside0.mk H
          clear H
          go_wp2
          go_meet
          case rel => exact ⟨_, (true), (by first | rfl | (simp; done) | (simp [*]; done)), H', ⟨by first | omega | exact Nat.le_refl _⟩, by repeat (first | exact Drawn0.refl _ | apply Drawn0.step)⟩
      · rw [if_neg c8] at H
        have c8b0 : (t239 == 0) = false := beq_eq_false_iff_ne.mpr c8
        have c8b1 : (t239 != 0) = true := bne_iff_ne.mpr c8
        have H' := Aside0.mk H
        clear H
        go_wp2
        go_meet
        case rel => exact ⟨_, (true), (by first | rfl | (simp; done) | (simp [*]; done)), H', ⟨by first | omega | exact Nat.le_refl _⟩, by repeat (first | exact Drawn0.refl _ | apply Drawn0.step)⟩
    · rw [if_neg c7] at H
      have c7b0 : (t237 == 0) = false := beq_eq_false_iff_ne.mpr c7
      have c7b1 : (t237 != 0) = true := bne_iff_ne.mpr c7
      (first | rw [c7b0] | (simp only [i64_w, i32_w]; rw [c7b0]) | skip)
      have H' := Aside0.mk H
      clear H
      go_wp2
      go_meet
      case rel => exact ⟨_, (false), (by first | rfl | (simp; done) | (simp [*]; done)), H', ⟨by first | omega | exact Nat.le_refl _⟩, by repeat (first | exact Drawn0.refl _ | apply Drawn0.step)⟩
  case rest =>
    clear HC6
    try clear c2
    try clear p2
    try clear c7
    try clear c7b0
    try clear c7b1
    try clear c8
    try clear c8b0
    try clear c8b1
    try clear c9
    try clear c9b0
    try clear c9b1
    obtain ⟨kq, x44_5, rfl, HA, HJ5, ⟨mc5, rfl⟩⟩ := hcut
    cases kq with
    | zero => exact absurd HA.out (by simp [tappetlaw01_WordBack.j0])
    | succ kj5 =>
      have H := HA.out
      clear HA
      simp only [tappetlaw01_WordBack.j0] at H
      by_cases c11 : x44_5 = true
      · subst c11
        have H1 : (some false) = some r := by rw [if_pos rfl] at H; exact H
        clear H
        have H := H1
        clear H1
        obtain rfl := Option.some.inj H
        go_wp2
        go_ret
        exact ⟨by first | rfl | (simp; done) | (simp [*]; done), by repeat (first | exact Drawn0.refl _ | apply Drawn0.step)⟩
        all_goals (exfalso; first | omega | (simp_all; done) | (simp_all; omega))
      · replace c11 := Bool.eq_false_iff.mpr c11
        subst c11
        have H1 : ((word_Int.f a1).bind fun bt241 => ((word_Ref.f a1).bind fun bt243 => (if bt241.2 = 0 then (tappetlaw01_WordBack.j1 kj5 a1 t235 bt241.1 bt241.2 bt243.1 bt243.2 (bt243.2 == 0)) else (tappetlaw01_WordBack.j1 kj5 a1 t235 bt241.1 bt241.2 bt243.1 bt243.2 false)))) = some r := by rw [if_neg (show ¬ (false = true) by decide)] at H; exact H
        clear H
        have H := H1
        clear H1
        replace H := Option.bind_eq_some_iff.mp H
        obtain ⟨⟨t241, t242⟩, A120, H⟩ := H
        replace H : ((word_Ref.f a1).bind fun bt243 => (if t242 = 0 then (tappetlaw01_WordBack.j1 kj5 a1 t235 t241 t242 bt243.1 bt243.2 (bt243.2 == 0)) else (tappetlaw01_WordBack.j1 kj5 a1 t235 t241 t242 bt243.1 bt243.2 false))) = some r := H
        have A12 := Aside0.mk A120
        clear A120
        replace H := Option.bind_eq_some_iff.mp H
        obtain ⟨⟨t243, t244⟩, A130, H⟩ := H
        replace H : (if t242 = 0 then (tappetlaw01_WordBack.j1 kj5 a1 t235 t241 t242 t243 t244 (t244 == 0)) else (tappetlaw01_WordBack.j1 kj5 a1 t235 t241 t242 t243 t244 false)) = some r := H
        have A13 := Aside0.mk A130
        clear A130
        have HC14 := Aside0.mk H
        clear H
        go_upto_region 8 with (first | ((with_reducible refine gate_callee (f := 25) rfl ?_); refine goesL_ (some 47) rfl rfl Try.func25 (by kernel_rfl) rfl #[.int .u64 a1] rfl (by (try simp only [List.map_toArray, List.map_cons, List.map_nil]); first | done | rfl | (simp only [List.length_drop, List.length_take]; rfl)) ?_; (with_reducible refine (word_Int.calls a1 t241 t242 _ A12.out).mono ?_); rintro e w' ⟨rfl, ⟨nd, rfl⟩⟩; refine ⟨_, rfl, ?_⟩) | ((with_reducible refine gate_callee (f := 31) rfl ?_); refine goesL_ (some 52) rfl rfl Try.func31 (by kernel_rfl) rfl #[.int .u64 a1] rfl (by (try simp only [List.map_toArray, List.map_cons, List.map_nil]); first | done | rfl | (simp only [List.length_drop, List.length_take]; rfl)) ?_; (with_reducible refine (word_Ref.calls a1 t243 t244 _ A13.out).mono ?_); rintro e w' ⟨rfl, ⟨nd, rfl⟩⟩; refine ⟨_, rfl, ?_⟩))
        (try simp only [Act.put, List.setIfInBounds_toArray, List.set_cons_zero, List.set_cons_succ])
        go_cut [60] (fun v60 wc => ∃ (kq : Nat) (x60_13 : Bool), v60 = .bool x60_13 ∧ Aside0 (tappetlaw01_WordBack.j1 kq a1 t235 t241 t242 t243 t244 x60_13 = some r) ∧ Aside0 (kq ≤ kj5) ∧ Drawn0 w wc)
        case first =>
          have H := HC14.out
          clear HC14
          by_cases c15 : t242 = 0
          · rw [if_pos c15] at H
            have c15b0 : (t242 == 0) = true := beq_iff_eq.mpr c15
            have c15b1 : (t242 != 0) = false := bne_eq_false_iff_eq.mpr c15
            clear c15
            (first | rw [c15b0] | (simp only [i64_w, i32_w]; rw [c15b0]) | skip)
            have H' := Aside0.mk H
            clear H
            go_wp2
            go_meet
            case rel => exact ⟨_, ((t244 == 0)), (by first | rfl | (simp; done) | (simp [*]; done)), H', ⟨by have := HJ5.out; first | omega | exact Nat.le_refl _⟩, by repeat (first | exact Drawn0.refl _ | apply Drawn0.step)⟩
          · rw [if_neg c15] at H
            have c15b0 : (t242 == 0) = false := beq_eq_false_iff_ne.mpr c15
            have c15b1 : (t242 != 0) = true := bne_iff_ne.mpr c15
            (first | rw [c15b0] | (simp only [i64_w, i32_w]; rw [c15b0]) | skip)
            have H' := Aside0.mk H
            clear H
            go_wp2
            go_meet
            case rel => exact ⟨_, (false), (by first | rfl | (simp; done) | (simp [*]; done)), H', ⟨by have := HJ5.out; first | omega | exact Nat.le_refl _⟩, by repeat (first | exact Drawn0.refl _ | apply Drawn0.step)⟩
        case rest =>
          clear HC14
          try clear c1
          try clear c2
          try clear p2
          try clear c3
          try clear c5
          try clear c7
          try clear c7b0
          try clear c7b1
          try clear c8
          try clear c8b0
          try clear c8b1
          try clear c9
          try clear c9b0
          try clear c9b1
          try clear c11
          try clear c15
          try clear c15b0
          try clear c15b1
          try clear p2
          obtain ⟨kq, x60_13, rfl, HA, HJ13, ⟨mc13, rfl⟩⟩ := hcut
          cases kq with
          | zero => exact absurd HA.out (by simp [tappetlaw01_WordBack.j1])
          | succ kj13 =>
            have H := HA.out
            clear HA
            simp only [tappetlaw01_WordBack.j1] at H
            by_cases c16 : x60_13 = true
            · subst c16
              have H1 : (some false) = some r := by rw [if_pos rfl] at H; exact H
              clear H
              have H := H1
              clear H1
              obtain rfl := Option.some.inj H
              go_wp2
              go_ret
              exact ⟨by first | rfl | (simp; done) | (simp [*]; done), by repeat (first | exact Drawn0.refl _ | apply Drawn0.step)⟩
              all_goals (exfalso; first | omega | (simp_all; done) | (simp_all; omega))
            · replace c16 := Bool.eq_false_iff.mpr c16
              subst c16
              have H1 : ((word_FromInt.f t241).bind fun bt245 => ((word_FromRef.f t243).bind fun bt247 => (if t235 = true then (if t242 = 0 then (if bt245.2 = 0 then (if bt245.1 = a1 then (if t244 = 0 then (if bt247.2 = 0 then (if bt247.1 = a1 then ((word_IsInt.f a1).bind fun t249 => (some ((t242 == 0) == t249))) else (some false)) else (some false)) else ((word_IsInt.f a1).bind fun t250 => (some ((t242 == 0) == t250)))) else (some false)) else (some false)) else (if t244 = 0 then (if bt247.2 = 0 then (if bt247.1 = a1 then ((word_IsInt.f a1).bind fun t251 => (some ((t242 == 0) == t251))) else (some false)) else (some false)) else ((word_IsInt.f a1).bind fun t252 => (some ((t242 == 0) == t252))))) else (some false)))) = some r := by rw [if_neg (show ¬ (false = true) by decide)] at H; exact H
              clear H
              have H := H1
              clear H1
              replace H := Option.bind_eq_some_iff.mp H
              obtain ⟨⟨t245, t246⟩, A170, H⟩ := H
              replace H : ((word_FromRef.f t243).bind fun bt247 => (if t235 = true then (if t242 = 0 then (if t246 = 0 then (if t245 = a1 then (if t244 = 0 then (if bt247.2 = 0 then (if bt247.1 = a1 then ((word_IsInt.f a1).bind fun t249 => (some ((t242 == 0) == t249))) else (some false)) else (some false)) else ((word_IsInt.f a1).bind fun t250 => (some ((t242 == 0) == t250)))) else (some false)) else (some false)) else (if t244 = 0 then (if bt247.2 = 0 then (if bt247.1 = a1 then ((word_IsInt.f a1).bind fun t251 => (some ((t242 == 0) == t251))) else (some false)) else (some false)) else ((word_IsInt.f a1).bind fun t252 => (some ((t242 == 0) == t252))))) else (some false))) = some r := H
              have A17 := Aside0.mk A170
              clear A170
              replace H := Option.bind_eq_some_iff.mp H
              obtain ⟨⟨t247, t248⟩, A180, H⟩ := H
              replace H : (if t235 = true then (if t242 = 0 then (if t246 = 0 then (if t245 = a1 then (if t244 = 0 then (if t248 = 0 then (if t247 = a1 then ((word_IsInt.f a1).bind fun t249 => (some ((t242 == 0) == t249))) else (some false)) else (some false)) else ((word_IsInt.f a1).bind fun t250 => (some ((t242 == 0) == t250)))) else (some false)) else (some false)) else (if t244 = 0 then (if t248 = 0 then (if t247 = a1 then ((word_IsInt.f a1).bind fun t251 => (some ((t242 == 0) == t251))) else (some false)) else (some false)) else ((word_IsInt.f a1).bind fun t252 => (some ((t242 == 0) == t252))))) else (some false)) = some r := H
              have A18 := Aside0.mk A180
              clear A180
              by_cases c19 : t235 = true
              · subst c19
                have H1 : (if t242 = 0 then (if t246 = 0 then (if t245 = a1 then (if t244 = 0 then (if t248 = 0 then (if t247 = a1 then ((word_IsInt.f a1).bind fun t249 => (some ((t242 == 0) == t249))) else (some false)) else (some false)) else ((word_IsInt.f a1).bind fun t250 => (some ((t242 == 0) == t250)))) else (some false)) else (some false)) else (if t244 = 0 then (if t248 = 0 then (if t247 = a1 then ((word_IsInt.f a1).bind fun t251 => (some ((t242 == 0) == t251))) else (some false)) else (some false)) else ((word_IsInt.f a1).bind fun t252 => (some ((t242 == 0) == t252))))) = some r := by rw [if_pos rfl] at H; exact H
                clear H
                have H := H1
                clear H1
                by_cases c20 : t242 = 0
                · rw [if_pos c20] at H
                  have c20b0 : (t242 == 0) = true := beq_iff_eq.mpr c20
                  have c20b1 : (t242 != 0) = false := bne_eq_false_iff_eq.mpr c20
                  clear c20
                  by_cases c21 : t246 = 0
                  · rw [if_pos c21] at H
                    have c21b0 : (t246 == 0) = true := beq_iff_eq.mpr c21
                    have c21b1 : (t246 != 0) = false := bne_eq_false_iff_eq.mpr c21
                    clear c21
                    by_cases c22 : t245 = a1
                    · rw [if_pos c22] at H
                      have c22b0 : (t245 == a1) = true := beq_iff_eq.mpr c22
                      have c22b1 : (t245 != a1) = false := bne_eq_false_iff_eq.mpr c22
                      clear c22
                      by_cases c23 : t244 = 0
                      · rw [if_pos c23] at H
                        have c23b0 : (t244 == 0) = true := beq_iff_eq.mpr c23
                        have c23b1 : (t244 != 0) = false := bne_eq_false_iff_eq.mpr c23
                        clear c23
                        by_cases c24 : t248 = 0
                        · rw [if_pos c24] at H
                          have c24b0 : (t248 == 0) = true := beq_iff_eq.mpr c24
                          have c24b1 : (t248 != 0) = false := bne_eq_false_iff_eq.mpr c24
                          clear c24
                          by_cases c25 : t247 = a1
                          · rw [if_pos c25] at H
                            have c25b0 : (t247 == a1) = true := beq_iff_eq.mpr c25
                            have c25b1 : (t247 != a1) = false := bne_eq_false_iff_eq.mpr c25
                            clear c25
                            replace H := Option.bind_eq_some_iff.mp H
                            obtain ⟨t249, A260, H⟩ := H
                            replace H : (some ((t242 == 0) == t249)) = some r := H
                            have A26 := Aside0.mk A260
                            clear A260
                            obtain rfl := Option.some.inj H
                            go_wp2_with (first | ((with_reducible refine gate_callee (f := 26) rfl ?_); refine goesL_ (some 63) rfl rfl Try.func26 (by kernel_rfl) rfl #[.int .i64 t241] rfl (by (try simp only [List.map_toArray, List.map_cons, List.map_nil]); first | done | rfl | (simp only [List.length_drop, List.length_take]; rfl)) ?_; (with_reducible refine (word_FromInt.calls t241 t245 t246 _ A17.out).mono ?_); rintro e w' ⟨rfl, ⟨nd, rfl⟩⟩; refine ⟨_, rfl, ?_⟩) | ((with_reducible refine gate_callee (f := 28) rfl ?_); refine goesL_ (some 68) rfl rfl Try.func28 (by kernel_rfl) rfl #[.int .i64 t243] rfl (by (try simp only [List.map_toArray, List.map_cons, List.map_nil]); first | done | rfl | (simp only [List.length_drop, List.length_take]; rfl)) ?_; (with_reducible refine (word_FromRef.calls t243 t247 t248 _ A18.out).mono ?_); rintro e w' ⟨rfl, ⟨nd, rfl⟩⟩; refine ⟨_, rfl, ?_⟩) | (go_at_call 33; (with_reducible refine (word_IsInt.calls a1 t249 _ A26.out).mono ?_); rintro e w' ⟨rfl, ⟨nd, rfl⟩⟩))
                            go_ret
                            exact ⟨by first | rfl | (simp; done) | (simp [*]; done), by repeat (first | exact Drawn0.refl _ | apply Drawn0.step)⟩
                            all_goals (exfalso; first | omega | (simp_all; done) | (simp_all; omega))
                          · rw [if_neg c25] at H
                            have c25b0 : (t247 == a1) = false := beq_eq_false_iff_ne.mpr c25
                            have c25b1 : (t247 != a1) = true := bne_iff_ne.mpr c25
                            obtain rfl := Option.some.inj H
                            go_wp2_with (first | ((with_reducible refine gate_callee (f := 26) rfl ?_); refine goesL_ (some 63) rfl rfl Try.func26 (by kernel_rfl) rfl #[.int .i64 t241] rfl (by (try simp only [List.map_toArray, List.map_cons, List.map_nil]); first | done | rfl | (simp only [List.length_drop, List.length_take]; rfl)) ?_; (with_reducible refine (word_FromInt.calls t241 t245 t246 _ A17.out).mono ?_); rintro e w' ⟨rfl, ⟨nd, rfl⟩⟩; refine ⟨_, rfl, ?_⟩) | ((with_reducible refine gate_callee (f := 28) rfl ?_); refine goesL_ (some 68) rfl rfl Try.func28 (by kernel_rfl) rfl #[.int .i64 t243] rfl (by (try simp only [List.map_toArray, List.map_cons, List.map_nil]); first | done | rfl | (simp only [List.length_drop, List.length_take]; rfl)) ?_; (with_reducible refine (word_FromRef.calls t243 t247 t248 _ A18.out).mono ?_); rintro e w' ⟨rfl, ⟨nd, rfl⟩⟩; refine ⟨_, rfl, ?_⟩))
                            go_ret
                            exact ⟨by first | rfl | (simp; done) | (simp [*]; done), by repeat (first | exact Drawn0.refl _ | apply Drawn0.step)⟩
                            all_goals (exfalso; first | omega | (simp_all; done) | (simp_all; omega))
                        · rw [if_neg c24] at H
                          have c24b0 : (t248 == 0) = false := beq_eq_false_iff_ne.mpr c24
                          have c24b1 : (t248 != 0) = true := bne_iff_ne.mpr c24
                          obtain rfl := Option.some.inj H
                          go_wp2_with (first | ((with_reducible refine gate_callee (f := 26) rfl ?_); refine goesL_ (some 63) rfl rfl Try.func26 (by kernel_rfl) rfl #[.int .i64 t241] rfl (by (try simp only [List.map_toArray, List.map_cons, List.map_nil]); first | done | rfl | (simp only [List.length_drop, List.length_take]; rfl)) ?_; (with_reducible refine (word_FromInt.calls t241 t245 t246 _ A17.out).mono ?_); rintro e w' ⟨rfl, ⟨nd, rfl⟩⟩; refine ⟨_, rfl, ?_⟩) | ((with_reducible refine gate_callee (f := 28) rfl ?_); refine goesL_ (some 68) rfl rfl Try.func28 (by kernel_rfl) rfl #[.int .i64 t243] rfl (by (try simp only [List.map_toArray, List.map_cons, List.map_nil]); first | done | rfl | (simp only [List.length_drop, List.length_take]; rfl)) ?_; (with_reducible refine (word_FromRef.calls t243 t247 t248 _ A18.out).mono ?_); rintro e w' ⟨rfl, ⟨nd, rfl⟩⟩; refine ⟨_, rfl, ?_⟩))
                          go_ret
                          exact ⟨by first | rfl | (simp; done) | (simp [*]; done), by repeat (first | exact Drawn0.refl _ | apply Drawn0.step)⟩
                          all_goals (exfalso; first | omega | (simp_all; done) | (simp_all; omega))
                      · rw [if_neg c23] at H
                        have c23b0 : (t244 == 0) = false := beq_eq_false_iff_ne.mpr c23
                        have c23b1 : (t244 != 0) = true := bne_iff_ne.mpr c23
                        replace H := Option.bind_eq_some_iff.mp H
                        obtain ⟨t250, A270, H⟩ := H
                        replace H : (some ((t242 == 0) == t250)) = some r := H
                        have A27 := Aside0.mk A270
                        clear A270
                        obtain rfl := Option.some.inj H
                        go_wp2_with (first | ((with_reducible refine gate_callee (f := 26) rfl ?_); refine goesL_ (some 63) rfl rfl Try.func26 (by kernel_rfl) rfl #[.int .i64 t241] rfl (by (try simp only [List.map_toArray, List.map_cons, List.map_nil]); first | done | rfl | (simp only [List.length_drop, List.length_take]; rfl)) ?_; (with_reducible refine (word_FromInt.calls t241 t245 t246 _ A17.out).mono ?_); rintro e w' ⟨rfl, ⟨nd, rfl⟩⟩; refine ⟨_, rfl, ?_⟩) | ((with_reducible refine gate_callee (f := 28) rfl ?_); refine goesL_ (some 68) rfl rfl Try.func28 (by kernel_rfl) rfl #[.int .i64 t243] rfl (by (try simp only [List.map_toArray, List.map_cons, List.map_nil]); first | done | rfl | (simp only [List.length_drop, List.length_take]; rfl)) ?_; (with_reducible refine (word_FromRef.calls t243 t247 t248 _ A18.out).mono ?_); rintro e w' ⟨rfl, ⟨nd, rfl⟩⟩; refine ⟨_, rfl, ?_⟩) | (go_at_call 33; (with_reducible refine (word_IsInt.calls a1 t250 _ A27.out).mono ?_); rintro e w' ⟨rfl, ⟨nd, rfl⟩⟩))
                        go_ret
                        exact ⟨by first | rfl | (simp; done) | (simp [*]; done), by repeat (first | exact Drawn0.refl _ | apply Drawn0.step)⟩
                        all_goals (exfalso; first | omega | (simp_all; done) | (simp_all; omega))
                    · rw [if_neg c22] at H
                      have c22b0 : (t245 == a1) = false := beq_eq_false_iff_ne.mpr c22
                      have c22b1 : (t245 != a1) = true := bne_iff_ne.mpr c22
                      obtain rfl := Option.some.inj H
                      go_wp2_with (first | ((with_reducible refine gate_callee (f := 26) rfl ?_); refine goesL_ (some 63) rfl rfl Try.func26 (by kernel_rfl) rfl #[.int .i64 t241] rfl (by (try simp only [List.map_toArray, List.map_cons, List.map_nil]); first | done | rfl | (simp only [List.length_drop, List.length_take]; rfl)) ?_; (with_reducible refine (word_FromInt.calls t241 t245 t246 _ A17.out).mono ?_); rintro e w' ⟨rfl, ⟨nd, rfl⟩⟩; refine ⟨_, rfl, ?_⟩) | ((with_reducible refine gate_callee (f := 28) rfl ?_); refine goesL_ (some 68) rfl rfl Try.func28 (by kernel_rfl) rfl #[.int .i64 t243] rfl (by (try simp only [List.map_toArray, List.map_cons, List.map_nil]); first | done | rfl | (simp only [List.length_drop, List.length_take]; rfl)) ?_; (with_reducible refine (word_FromRef.calls t243 t247 t248 _ A18.out).mono ?_); rintro e w' ⟨rfl, ⟨nd, rfl⟩⟩; refine ⟨_, rfl, ?_⟩))
                      go_ret
                      exact ⟨by first | rfl | (simp; done) | (simp [*]; done), by repeat (first | exact Drawn0.refl _ | apply Drawn0.step)⟩
                      all_goals (exfalso; first | omega | (simp_all; done) | (simp_all; omega))
                  · rw [if_neg c21] at H
                    have c21b0 : (t246 == 0) = false := beq_eq_false_iff_ne.mpr c21
                    have c21b1 : (t246 != 0) = true := bne_iff_ne.mpr c21
                    obtain rfl := Option.some.inj H
                    go_wp2_with (first | ((with_reducible refine gate_callee (f := 26) rfl ?_); refine goesL_ (some 63) rfl rfl Try.func26 (by kernel_rfl) rfl #[.int .i64 t241] rfl (by (try simp only [List.map_toArray, List.map_cons, List.map_nil]); first | done | rfl | (simp only [List.length_drop, List.length_take]; rfl)) ?_; (with_reducible refine (word_FromInt.calls t241 t245 t246 _ A17.out).mono ?_); rintro e w' ⟨rfl, ⟨nd, rfl⟩⟩; refine ⟨_, rfl, ?_⟩) | ((with_reducible refine gate_callee (f := 28) rfl ?_); refine goesL_ (some 68) rfl rfl Try.func28 (by kernel_rfl) rfl #[.int .i64 t243] rfl (by (try simp only [List.map_toArray, List.map_cons, List.map_nil]); first | done | rfl | (simp only [List.length_drop, List.length_take]; rfl)) ?_; (with_reducible refine (word_FromRef.calls t243 t247 t248 _ A18.out).mono ?_); rintro e w' ⟨rfl, ⟨nd, rfl⟩⟩; refine ⟨_, rfl, ?_⟩))
                    go_ret
                    exact ⟨by first | rfl | (simp; done) | (simp [*]; done), by repeat (first | exact Drawn0.refl _ | apply Drawn0.step)⟩
                    all_goals (exfalso; first | omega | (simp_all; done) | (simp_all; omega))
                · rw [if_neg c20] at H
                  have c20b0 : (t242 == 0) = false := beq_eq_false_iff_ne.mpr c20
                  have c20b1 : (t242 != 0) = true := bne_iff_ne.mpr c20
                  by_cases c28 : t244 = 0
                  · rw [if_pos c28] at H
                    have c28b0 : (t244 == 0) = true := beq_iff_eq.mpr c28
                    have c28b1 : (t244 != 0) = false := bne_eq_false_iff_eq.mpr c28
                    clear c28
                    by_cases c29 : t248 = 0
                    · rw [if_pos c29] at H
                      have c29b0 : (t248 == 0) = true := beq_iff_eq.mpr c29
                      have c29b1 : (t248 != 0) = false := bne_eq_false_iff_eq.mpr c29
                      clear c29
                      by_cases c30 : t247 = a1
                      · rw [if_pos c30] at H
                        have c30b0 : (t247 == a1) = true := beq_iff_eq.mpr c30
                        have c30b1 : (t247 != a1) = false := bne_eq_false_iff_eq.mpr c30
                        clear c30
                        replace H := Option.bind_eq_some_iff.mp H
                        obtain ⟨t251, A310, H⟩ := H
                        replace H : (some ((t242 == 0) == t251)) = some r := H
                        have A31 := Aside0.mk A310
                        clear A310
                        obtain rfl := Option.some.inj H
                        go_wp2_with (first | ((with_reducible refine gate_callee (f := 26) rfl ?_); refine goesL_ (some 63) rfl rfl Try.func26 (by kernel_rfl) rfl #[.int .i64 t241] rfl (by (try simp only [List.map_toArray, List.map_cons, List.map_nil]); first | done | rfl | (simp only [List.length_drop, List.length_take]; rfl)) ?_; (with_reducible refine (word_FromInt.calls t241 t245 t246 _ A17.out).mono ?_); rintro e w' ⟨rfl, ⟨nd, rfl⟩⟩; refine ⟨_, rfl, ?_⟩) | ((with_reducible refine gate_callee (f := 28) rfl ?_); refine goesL_ (some 68) rfl rfl Try.func28 (by kernel_rfl) rfl #[.int .i64 t243] rfl (by (try simp only [List.map_toArray, List.map_cons, List.map_nil]); first | done | rfl | (simp only [List.length_drop, List.length_take]; rfl)) ?_; (with_reducible refine (word_FromRef.calls t243 t247 t248 _ A18.out).mono ?_); rintro e w' ⟨rfl, ⟨nd, rfl⟩⟩; refine ⟨_, rfl, ?_⟩) | (go_at_call 33; (with_reducible refine (word_IsInt.calls a1 t251 _ A31.out).mono ?_); rintro e w' ⟨rfl, ⟨nd, rfl⟩⟩))
                        go_ret
                        exact ⟨by first | rfl | (simp; done) | (simp [*]; done), by repeat (first | exact Drawn0.refl _ | apply Drawn0.step)⟩
                        all_goals (exfalso; first | omega | (simp_all; done) | (simp_all; omega))
                      · rw [if_neg c30] at H
                        have c30b0 : (t247 == a1) = false := beq_eq_false_iff_ne.mpr c30
                        have c30b1 : (t247 != a1) = true := bne_iff_ne.mpr c30
                        obtain rfl := Option.some.inj H
                        go_wp2_with (first | ((with_reducible refine gate_callee (f := 26) rfl ?_); refine goesL_ (some 63) rfl rfl Try.func26 (by kernel_rfl) rfl #[.int .i64 t241] rfl (by (try simp only [List.map_toArray, List.map_cons, List.map_nil]); first | done | rfl | (simp only [List.length_drop, List.length_take]; rfl)) ?_; (with_reducible refine (word_FromInt.calls t241 t245 t246 _ A17.out).mono ?_); rintro e w' ⟨rfl, ⟨nd, rfl⟩⟩; refine ⟨_, rfl, ?_⟩) | ((with_reducible refine gate_callee (f := 28) rfl ?_); refine goesL_ (some 68) rfl rfl Try.func28 (by kernel_rfl) rfl #[.int .i64 t243] rfl (by (try simp only [List.map_toArray, List.map_cons, List.map_nil]); first | done | rfl | (simp only [List.length_drop, List.length_take]; rfl)) ?_; (with_reducible refine (word_FromRef.calls t243 t247 t248 _ A18.out).mono ?_); rintro e w' ⟨rfl, ⟨nd, rfl⟩⟩; refine ⟨_, rfl, ?_⟩))
                        go_ret
                        exact ⟨by first | rfl | (simp; done) | (simp [*]; done), by repeat (first | exact Drawn0.refl _ | apply Drawn0.step)⟩
                        all_goals (exfalso; first | omega | (simp_all; done) | (simp_all; omega))
                    · rw [if_neg c29] at H
                      have c29b0 : (t248 == 0) = false := beq_eq_false_iff_ne.mpr c29
                      have c29b1 : (t248 != 0) = true := bne_iff_ne.mpr c29
                      obtain rfl := Option.some.inj H
                      go_wp2_with (first | ((with_reducible refine gate_callee (f := 26) rfl ?_); refine goesL_ (some 63) rfl rfl Try.func26 (by kernel_rfl) rfl #[.int .i64 t241] rfl (by (try simp only [List.map_toArray, List.map_cons, List.map_nil]); first | done | rfl | (simp only [List.length_drop, List.length_take]; rfl)) ?_; (with_reducible refine (word_FromInt.calls t241 t245 t246 _ A17.out).mono ?_); rintro e w' ⟨rfl, ⟨nd, rfl⟩⟩; refine ⟨_, rfl, ?_⟩) | ((with_reducible refine gate_callee (f := 28) rfl ?_); refine goesL_ (some 68) rfl rfl Try.func28 (by kernel_rfl) rfl #[.int .i64 t243] rfl (by (try simp only [List.map_toArray, List.map_cons, List.map_nil]); first | done | rfl | (simp only [List.length_drop, List.length_take]; rfl)) ?_; (with_reducible refine (word_FromRef.calls t243 t247 t248 _ A18.out).mono ?_); rintro e w' ⟨rfl, ⟨nd, rfl⟩⟩; refine ⟨_, rfl, ?_⟩))
                      go_ret
                      exact ⟨by first | rfl | (simp; done) | (simp [*]; done), by repeat (first | exact Drawn0.refl _ | apply Drawn0.step)⟩
                      all_goals (exfalso; first | omega | (simp_all; done) | (simp_all; omega))
                  · rw [if_neg c28] at H
                    have c28b0 : (t244 == 0) = false := beq_eq_false_iff_ne.mpr c28
                    have c28b1 : (t244 != 0) = true := bne_iff_ne.mpr c28
                    replace H := Option.bind_eq_some_iff.mp H
                    obtain ⟨t252, A320, H⟩ := H
                    replace H : (some ((t242 == 0) == t252)) = some r := H
                    have A32 := Aside0.mk A320
                    clear A320
                    obtain rfl := Option.some.inj H
                    go_wp2_with (first | ((with_reducible refine gate_callee (f := 26) rfl ?_); refine goesL_ (some 63) rfl rfl Try.func26 (by kernel_rfl) rfl #[.int .i64 t241] rfl (by (try simp only [List.map_toArray, List.map_cons, List.map_nil]); first | done | rfl | (simp only [List.length_drop, List.length_take]; rfl)) ?_; (with_reducible refine (word_FromInt.calls t241 t245 t246 _ A17.out).mono ?_); rintro e w' ⟨rfl, ⟨nd, rfl⟩⟩; refine ⟨_, rfl, ?_⟩) | ((with_reducible refine gate_callee (f := 28) rfl ?_); refine goesL_ (some 68) rfl rfl Try.func28 (by kernel_rfl) rfl #[.int .i64 t243] rfl (by (try simp only [List.map_toArray, List.map_cons, List.map_nil]); first | done | rfl | (simp only [List.length_drop, List.length_take]; rfl)) ?_; (with_reducible refine (word_FromRef.calls t243 t247 t248 _ A18.out).mono ?_); rintro e w' ⟨rfl, ⟨nd, rfl⟩⟩; refine ⟨_, rfl, ?_⟩) | (go_at_call 33; (with_reducible refine (word_IsInt.calls a1 t252 _ A32.out).mono ?_); rintro e w' ⟨rfl, ⟨nd, rfl⟩⟩))
                    go_ret
                    exact ⟨by first | rfl | (simp; done) | (simp [*]; done), by repeat (first | exact Drawn0.refl _ | apply Drawn0.step)⟩
                    all_goals (exfalso; first | omega | (simp_all; done) | (simp_all; omega))
              · replace c19 := Bool.eq_false_iff.mpr c19
                subst c19
                have H1 : (some false) = some r := by rw [if_neg (show ¬ (false = true) by decide)] at H; exact H
                clear H
                have H := H1
                clear H1
                obtain rfl := Option.some.inj H
                go_wp2_with (first | ((with_reducible refine gate_callee (f := 26) rfl ?_); refine goesL_ (some 63) rfl rfl Try.func26 (by kernel_rfl) rfl #[.int .i64 t241] rfl (by (try simp only [List.map_toArray, List.map_cons, List.map_nil]); first | done | rfl | (simp only [List.length_drop, List.length_take]; rfl)) ?_; (with_reducible refine (word_FromInt.calls t241 t245 t246 _ A17.out).mono ?_); rintro e w' ⟨rfl, ⟨nd, rfl⟩⟩; refine ⟨_, rfl, ?_⟩) | ((with_reducible refine gate_callee (f := 28) rfl ?_); refine goesL_ (some 68) rfl rfl Try.func28 (by kernel_rfl) rfl #[.int .i64 t243] rfl (by (try simp only [List.map_toArray, List.map_cons, List.map_nil]); first | done | rfl | (simp only [List.length_drop, List.length_take]; rfl)) ?_; (with_reducible refine (word_FromRef.calls t243 t247 t248 _ A18.out).mono ?_); rintro e w' ⟨rfl, ⟨nd, rfl⟩⟩; refine ⟨_, rfl, ?_⟩))
                go_ret
                exact ⟨by first | rfl | (simp; done) | (simp [*]; done), by repeat (first | exact Drawn0.refl _ | apply Drawn0.step)⟩
                all_goals (exfalso; first | omega | (simp_all; done) | (simp_all; omega))

/-- THE ONE PURE STATEMENT of tappetlaw01_WordBack: yours. -/
def tappetlaw01_WordBack.Pure : Prop := ∀ (a0 : Int) (a1 : Int), (Lit.int .i64 a0).wf = true → (Lit.int .u64 a1).wf = true → ∃ k, tappetlaw01_WordBack.f k a0 a1 = some true
theorem tappetlaw01_WordBack.walk (P : tappetlaw01_WordBack.Pure) (a0 : Int) (a1 : Int) (w : World) (w0 : (Lit.int .i64 a0).wf = true) (w1 : (Lit.int .u64 a1).wf = true) :
    Calls Try.prog 9 #[.int .i64 a0, .int .u64 a1] w fun e w' => e = .returned (.bool true) ∧ Below w.heap.size w w' := by
  obtain ⟨k, h⟩ := P a0 a1 w0 w1
  refine (tappetlaw01_WordBack.calls k a0 a1 true w h).mono ?_
  rintro e w' ⟨rfl, hd⟩
  exact ⟨rfl, hd.below⟩

/-! ### tappetref01_times: function 47 -/
def tappetref01_times.f (a0 : Int) (a1 : Int) : Option (Int × Bool) := if a0 = 0 then (some (0, true)) else (if a1 = 0 then (some (0, true)) else (if (wrap64 (Int.tdiv (wrap64 (a0 * a1)) a1)) = a0 then ((tappetref01_fits.f (wrap64 (a0 * a1))).bind fun t253 => (some (wrap64 (a0 * a1), t253))) else (some (wrap64 (a0 * a1), false))))
set_option maxHeartbeats 8000000 in
set_option maxRecDepth 100000 in
theorem tappetref01_times.calls (a0 : Int) (a1 : Int) (r1 : Int) (r2 : Bool) (w : World) (h : tappetref01_times.f a0 a1 = some (r1, r2)) :
    Calls Try.prog 47 #[.int .i64 a0, .int .i64 a1] w fun e w' => e = .returned (.tuple #[.int .i64 r1, .bool r2]) ∧ Drawn0 w w' := by
  have H : (if a0 = 0 then (some (0, true)) else (if a1 = 0 then (some (0, true)) else (if (wrap64 (Int.tdiv (wrap64 (a0 * a1)) a1)) = a0 then ((tappetref01_fits.f (wrap64 (a0 * a1))).bind fun t253 => (some (wrap64 (a0 * a1), t253))) else (some (wrap64 (a0 * a1), false))))) = some (r1, r2) := h
  clear h
  by_cases c3 : a0 = 0
  · rw [if_pos c3] at H
    have c3b0 : (a0 == 0) = true := beq_iff_eq.mpr c3
    have c3b1 : (a0 != 0) = false := bne_eq_false_iff_eq.mpr c3
    clear c3
    simp only [Option.some.injEq, Prod.mk.injEq] at H
    obtain ⟨rfl, rfl⟩ := H
    go_enter Try.func47, Try.ntmps47
    go_wp2
    go_ret2
    exact ⟨by first | rfl | (simp; done) | (simp [*]; done), by repeat (first | exact Drawn0.refl _ | apply Drawn0.step)⟩
  · rw [if_neg c3] at H
    have c3b0 : (a0 == 0) = false := beq_eq_false_iff_ne.mpr c3
    have c3b1 : (a0 != 0) = true := bne_iff_ne.mpr c3
    by_cases c4 : a1 = 0
    · rw [if_pos c4] at H
      have c4b0 : (a1 == 0) = true := beq_iff_eq.mpr c4
      have c4b1 : (a1 != 0) = false := bne_eq_false_iff_eq.mpr c4
      clear c4
      simp only [Option.some.injEq, Prod.mk.injEq] at H
      obtain ⟨rfl, rfl⟩ := H
      go_enter Try.func47, Try.ntmps47
      go_wp2
      go_ret2
      exact ⟨by first | rfl | (simp; done) | (simp [*]; done), by repeat (first | exact Drawn0.refl _ | apply Drawn0.step)⟩
    · rw [if_neg c4] at H
      have c4b0 : (a1 == 0) = false := beq_eq_false_iff_ne.mpr c4
      have c4b1 : (a1 != 0) = true := bne_iff_ne.mpr c4
      by_cases c5 : (wrap64 (Int.tdiv (wrap64 (a0 * a1)) a1)) = a0
      · rw [if_pos c5] at H
        have c5b0 : ((wrap64 (Int.tdiv (wrap64 (a0 * a1)) a1)) == a0) = true := beq_iff_eq.mpr c5
        have c5b1 : ((wrap64 (Int.tdiv (wrap64 (a0 * a1)) a1)) != a0) = false := bne_eq_false_iff_eq.mpr c5
        clear c5
        replace H := Option.bind_eq_some_iff.mp H
        obtain ⟨t253, A60, H⟩ := H
        replace H : (some (wrap64 (a0 * a1), t253)) = some (r1, r2) := H
        have A6 := Aside0.mk A60
        clear A60
        simp only [Option.some.injEq, Prod.mk.injEq] at H
        obtain ⟨rfl, rfl⟩ := H
        go_enter Try.func47, Try.ntmps47
        go_wp2_with (first | (go_at_call 46; (with_reducible refine (tappetref01_fits.calls (wrap64 (a0 * a1)) t253 _ A6.out).mono ?_); rintro e w' ⟨rfl, ⟨nd, rfl⟩⟩))
        go_ret2
        exact ⟨by first | rfl | (simp; done) | (simp [*]; done), by repeat (first | exact Drawn0.refl _ | apply Drawn0.step)⟩
      · rw [if_neg c5] at H
        have c5b0 : ((wrap64 (Int.tdiv (wrap64 (a0 * a1)) a1)) == a0) = false := beq_eq_false_iff_ne.mpr c5
        have c5b1 : ((wrap64 (Int.tdiv (wrap64 (a0 * a1)) a1)) != a0) = true := bne_iff_ne.mpr c5
        simp only [Option.some.injEq, Prod.mk.injEq] at H
        obtain ⟨rfl, rfl⟩ := H
        go_enter Try.func47, Try.ntmps47
        go_wp2
        go_ret2
        exact ⟨by first | rfl | (simp; done) | (simp [*]; done), by repeat (first | exact Drawn0.refl _ | apply Drawn0.step)⟩

/-! ### tappetref01_by: function 48 -/
def tappetref01_by.f (a0 : Int) (a1 : Int) : Option (Int) := if a1 = 0 then (none) else (if (Int.tmod a0 a1) = 0 then (some (wrap64 (Int.tdiv a0 a1))) else (if ((decide (a0 < 0)) != (decide (a1 < 0))) = true then (some (wrap64 ((wrap64 (Int.tdiv a0 a1)) - 1))) else (some (wrap64 (Int.tdiv a0 a1)))))
set_option maxHeartbeats 8000000 in
set_option maxRecDepth 100000 in
theorem tappetref01_by.calls (a0 : Int) (a1 : Int) (r : Int) (w : World) (h : tappetref01_by.f a0 a1 = some r) :
    Calls Try.prog 48 #[.int .i64 a0, .int .i64 a1] w fun e w' => e = .returned (.int .i64 r) ∧ Drawn0 w w' := by
  have H : (if a1 = 0 then (none) else (if (Int.tmod a0 a1) = 0 then (some (wrap64 (Int.tdiv a0 a1))) else (if ((decide (a0 < 0)) != (decide (a1 < 0))) = true then (some (wrap64 ((wrap64 (Int.tdiv a0 a1)) - 1))) else (some (wrap64 (Int.tdiv a0 a1)))))) = some r := h
  clear h
  by_cases c3 : a1 = 0
  · rw [if_pos c3] at H
    exact absurd H (by simp)
  · rw [if_neg c3] at H
    have c3b0 : (a1 == 0) = false := beq_eq_false_iff_ne.mpr c3
    have c3b1 : (a1 != 0) = true := bne_iff_ne.mpr c3
    by_cases c4 : (Int.tmod a0 a1) = 0
    · rw [if_pos c4] at H
      have c4b0 : ((Int.tmod a0 a1) == 0) = true := beq_iff_eq.mpr c4
      have c4b1 : ((Int.tmod a0 a1) != 0) = false := bne_eq_false_iff_eq.mpr c4
      clear c4
      obtain rfl := Option.some.inj H
      go_enter Try.func48, Try.ntmps48
      go_wp2
      go_ret
      exact ⟨by first | rfl | (simp; done) | (simp [*]; done), by repeat (first | exact Drawn0.refl _ | apply Drawn0.step)⟩
    · rw [if_neg c4] at H
      have c4b0 : ((Int.tmod a0 a1) == 0) = false := beq_eq_false_iff_ne.mpr c4
      have c4b1 : ((Int.tmod a0 a1) != 0) = true := bne_iff_ne.mpr c4
      by_cases c5 : ((decide (a0 < 0)) != (decide (a1 < 0))) = true
      · rw [if_pos c5] at H
        have c5b0 : ((decide (a0 < 0)) != (decide (a1 < 0))) = true := c5
        (try (have c5b1 : decide ((decide (a0 < 0)) = (decide (a1 < 0))) = false := by simpa using c5))
        (try (have c5b2 : ((decide (a0 < 0)) == (decide (a1 < 0))) = false := by simpa using c5))
        (try (have c5b3 : ¬ ((decide (a0 < 0)) = (decide (a1 < 0))) := by simpa using c5))
        clear c5
        obtain rfl := Option.some.inj H
        go_enter Try.func48, Try.ntmps48
        go_wp2
        go_ret
        exact ⟨by first | rfl | (simp; done) | (simp [*]; done), by repeat (first | exact Drawn0.refl _ | apply Drawn0.step)⟩
      · rw [if_neg c5] at H
        have c5b0 : ((decide (a0 < 0)) != (decide (a1 < 0))) = false := by simpa using c5
        (try (have c5b1 : decide ((decide (a0 < 0)) = (decide (a1 < 0))) = true := by simpa using c5))
        (try (have c5b2 : ((decide (a0 < 0)) == (decide (a1 < 0))) = true := by simpa using c5))
        clear c5
        obtain rfl := Option.some.inj H
        go_enter Try.func48, Try.ntmps48
        go_wp2
        go_ret
        exact ⟨by first | rfl | (simp; done) | (simp [*]; done), by repeat (first | exact Drawn0.refl _ | apply Drawn0.step)⟩

end Go.Proofs.Ythhfgchbpgcfmaa.QWord
