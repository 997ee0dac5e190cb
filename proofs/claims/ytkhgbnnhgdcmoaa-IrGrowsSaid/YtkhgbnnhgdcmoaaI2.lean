/-
  Walks of layer 11 (ir), part I2: what these functions of the program answer and what becomes of memory, for any values. No conditions beyond those that each theorem names.
-/
import Derived.Test.YtkhgbnnhgdcmoaaI1
import Derived.Deep.QuietTactic
import Derived.BigQuiet
import Derived.WalkSmall
namespace Go.Proofs.Ytkhgbnnhgdcmoaa.IR
open Go.RowKit Go.Proofs.YtkhgbnnhgdcmoaaW.PrintWords Go.Proofs.YtkhgbnnhgdcmoaaW.PrintLast Go.Proofs.YtkhgbnnhgdcmoaaW.PrintMore Go.Proofs.Ytkhgbnnhgdcmoaa.QIr

theorem Calls.same {P : Program} {f : FuncId} {args : Array Value} {w : World} {R : Ending → World → Prop} (h : Calls P f args w R) : Calls P f args w R := h

set_option maxHeartbeats 1000000 in
set_option maxRecDepth 100000 in
theorem takes_any (op : Int) (w : World) : Calls Try.prog 12 #[.int .i64 op] w (Ans (.tuple #[.int .i64 (leastB op), .int .i64 (mostB op)]) w) := by
  have hof := fun W => of_any op W
  generalize leastB op = L at *
  generalize mostB op = M at *
  generalize leavesB op = V at *
  have HO := Lib.hid hof
  clear hof
  go_enter Try.func12, Try.ntmps12
  go_wp2_with fail
  refine (HO.out _).mono ?_
  rintro e w1 ⟨rfl, hb⟩
  go_wp2_with fail
  go_quiet (fail)
  go_wp2
  go_ret2
  refine ⟨rfl, pw_below_drewN (hb.alloc hb.size _) _⟩

set_option maxHeartbeats 1000000 in
set_option maxRecDepth 100000 in
theorem leaves_any (op : Int) (w : World) : Calls Try.prog 13 #[.int .i64 op] w (Ans (.bool (decide (0 < leavesB op))) w) := by
  have hof := fun W => of_any op W
  generalize leastB op = L at *
  generalize mostB op = M at *
  generalize leavesB op = V at *
  have HO := Lib.hid hof
  clear hof
  go_enter Try.func13, Try.ntmps13
  go_wp2_with fail
  refine (HO.out _).mono ?_
  rintro e w1 ⟨rfl, hb⟩
  have hfld : ∀ W : World, (Instr.field 54 (.agg #[.int .i64 L, .int .i64 M, .int .i64 V]) 2).run Try.prog W = .ok (.int .i64 V) W := fun W => by kernel_rfl
  go_wp2
  go_ret
  refine ⟨rfl, ?_⟩
  first | exact hb | exact hb.alloc hb.size _

set_option maxHeartbeats 1000000 in
set_option maxRecDepth 100000 in
theorem within_any (a b c : Int) (w : World) : Calls Try.prog 27 #[.int .i64 a, .int .i64 b, .int .i64 c] w (Ans (.bool (decide (b ≤ a) && decide (a ≤ c))) w) := by
  go_enter Try.func27, Try.ntmps27
  go_wp2
  all_goals
    go_ret
    refine ⟨?_, Below.refl _ _⟩
    first | (simp_all; done) | (simp_all; omega)

set_option maxHeartbeats 4000000 in
set_option maxRecDepth 100000 in
theorem rtakes_any (op : Int) (w : World) : Calls Try.prog 16 #[.int .i64 op] w (Ans (.tuple #[.int .i64 (leastB op), .int .i64 (mostB op)]) w) := by
  go_enter Try.func16, Try.ntmps16
  go_wp2
  all_goals
    go_ret2
    refine ⟨?_, Below.refl _ _⟩
    simp_all [leastB, mostB]

set_option maxHeartbeats 1000000 in
set_option maxRecDepth 100000 in
theorem rleaves_any (op : Int) (w : World) : Calls Try.prog 19 #[.int .i64 op] w (Ans (.bool (decide (0 < leavesB op))) w) := by
  go_enter Try.func19, Try.ntmps19
  go_wp2
  all_goals
    go_ret
    refine ⟨?_, Below.refl _ _⟩
    by_cases h7 : op = 7 <;> simp_all [leavesB]

/-! ### words that are numbers -/
def oddB (w : Int) : Bool := w % 2 != 0
def decW (w : Int) : Int := wrap64 w / 2
theorem isInt_any (a : Int) (h0 : 0 ≤ a) (h1 : a ≤ 18446744073709551615) (w : World) : Calls Try.prog 57 #[.int .u64 a] w (Ans (.bool (oddB a)) w) := by
  have hb : Go.bits .and .u64 a 1 = a % 2 := and_one_u64 a h0 h1
  have HB := Lib.hid hb
  clear hb h0 h1
  go_enter Try.func57, Try.ntmps57
  go_wp2
  go_ret
  refine ⟨?_, Below.refl _ _⟩
  rw [HB.out]; rfl
theorem rIsInt_any (a : Int) (h0 : 0 ≤ a) (w : World) : Calls Try.prog 55 #[.int .u64 a] w (Ans (.bool (oddB a)) w) := by
  have hb : a.tmod 2 = a % 2 := Int.tmod_eq_emod_of_nonneg h0
  have hc : (a % 2 == 1) = oddB a := by
    unfold oddB
    rcases Int.emod_two_eq a with e | e <;> rw [e] <;> rfl
  have HB := Lib.hid hb
  have HC := Lib.hid hc
  clear hb hc h0
  go_enter Try.func55, Try.ntmps55
  go_wp2
  go_ret
  refine ⟨?_, Below.refl _ _⟩
  first | (rw [HC.out]; rfl) | (rw [HB.out, HC.out]; rfl)

def IntW (a : Int) : Value := .tuple #[.int .i64 (if oddB a = true then decW a else 0), .int .i64 (if oddB a = true then 0 else 1)]
theorem int_any (a : Int) (h0 : 0 ≤ a) (h1 : a ≤ 18446744073709551615) (w : World) : Calls Try.prog 54 #[.int .u64 a] w (Ans (IntW a) w) := by
  have hi := fun W => isInt_any a h0 h1 W
  unfold IntW decW
  generalize oddB a = b at *
  have HI := Lib.hid hi
  clear hi h0 h1
  cases b
  all_goals
    go_enter Try.func54, Try.ntmps54
    go_wp2_with fail
    refine (HI.out _).mono ?_
    rintro e w1 ⟨rfl, hb⟩
    go_wp2
    go_ret2
    exact ⟨rfl, hb⟩
theorem half_odd (a : Int) (h : oddB a = true) : wrap64 (Int.tdiv (wrap64 (wrap64 a - Go.bits .and .i64 (wrap64 a) 1)) 2) = decW a := by
  have ho : a % 2 = 1 := by unfold oddB at h; rw [bne_iff_ne] at h; omega
  have hn : wrap64 a % 2 = 1 := by unfold wrap64; omega
  have hbd : -9223372036854775808 ≤ wrap64 a ∧ wrap64 a < 9223372036854775808 := by unfold wrap64; omega
  have h1 : Go.bits .and .i64 (wrap64 a) 1 = 1 := by
    unfold Go.bits
    rw [IntKind.wrap_i64]
    show ((BitVec.ofInt 64 (wrap64 a) &&& BitVec.ofInt 64 1).toNat + 9223372036854775808 : Int) % 18446744073709551616 - 9223372036854775808 = 1
    rw [BitVec.toNat_and]
    have e1 : (BitVec.ofInt 64 1).toNat = 1 := by decide
    rw [e1, Nat.and_one_is_mod]
    have e2 : ((BitVec.ofInt 64 (wrap64 a)).toNat : Int) = wrap64 a % 18446744073709551616 := by
      rw [BitVec.toNat_ofInt]; simp; omega
    omega
  rw [h1]
  unfold decW
  generalize wrap64 a = n at *
  have e : wrap64 (n - 1) = n - 1 := by unfold wrap64; omega
  rw [e]
  obtain ⟨q, hq⟩ : ∃ q, n - 1 = q * 2 := ⟨n / 2, by omega⟩
  rw [hq, Int.mul_tdiv_cancel _ (by decide)]
  unfold wrap64; omega
theorem rInt_any (a : Int) (h0 : 0 ≤ a) (w : World) : Calls Try.prog 46 #[.int .u64 a] w (Ans (IntW a) w) := by
  have hi := fun W => rIsInt_any a h0 W
  have hh := half_odd a
  unfold IntW
  generalize oddB a = b at *
  have HI := Lib.hid hi
  have HH := Lib.hid hh
  clear hi hh h0
  cases b
  · go_enter Try.func46, Try.ntmps46
    go_wp2_with fail
    refine (HI.out _).mono ?_
    rintro e w1 ⟨rfl, hb⟩
    go_wp2
    go_ret2
    exact ⟨rfl, hb⟩
  · go_enter Try.func46, Try.ntmps46
    go_wp2_with fail
    refine (HI.out _).mono ?_
    rintro e w1 ⟨rfl, hb⟩
    go_wp2
    go_ret2
    refine ⟨?_, hb⟩
    have h := HH.out (by trivial)
    first | (rw [← h]; rfl) | (rw [if_pos trivial, if_pos trivial, ← h]; rfl) | (simp only [if_true, ← h]; rfl)

/-! ### an instruction by value -/
def iv (i : S39) (A : Option Addr) (c : Nat) : Value := .agg #[.int .i64 i.f0, .int .i64 i.f1, .int .i64 i.f2.f0, .int .i64 i.f2.f1, .int .u64 i.f2.f2, .slice A i.f3.length c, .int .u64 i.f4]
def wordedB (i : S39) : Bool := if i.f0 = 6 then oddB i.f4 && (decW i.f4 == 0 || decW i.f4 == 1) else if i.f0 = 7 then i.f4 != 0 else i.f4 == 0
def mostN (u : U) (op : Int) : Int := if op = 2 then 7 else if op = 3 then 4095 else if op = 4 then 4095 else if op = 5 then wrap64 ((u.maps.length : Int) - 1) else if op = 6 then wrap64 ((u.maps.length : Int) - 1) else if op = 7 then wrap64 (u.n - 1) else 0

set_option maxHeartbeats 2000000 in
set_option maxRecDepth 100000 in
theorem most_any (u : U) (x : UA) (op : Int) (w : World) : Calls Try.prog 44 #[uv u x, .int .i64 op] w (Ans (.int .i64 (mostN u op)) w) := by
  obtain ⟨m, a, t, r, p, n, enter, code, starts, maps⟩ := u
  unfold uv
  go_enter Try.func44, Try.ntmps44
  go_wp2
  all_goals
    go_ret
    refine ⟨?_, below_box _ _⟩
    simp_all [mostN]

set_option maxHeartbeats 2000000 in
set_option maxRecDepth 100000 in
theorem worded_any (i : S39) (A : Option Addr) (c : Nat) (w : World) (h0 : 0 ≤ i.f4) (h1 : i.f4 ≤ 18446744073709551615) : Calls Try.prog 45 #[iv i A c] w (Ans (.bool (wordedB i)) w) := by
  have hi := fun W => int_any i.f4 h0 h1 W
  obtain ⟨op, n, d, l, q⟩ := i
  have HI := Lib.hid hi
  clear hi h0 h1
  by_cases h6 : op = 6
  · subst h6
    unfold IntW at HI
    have hw : wordedB ⟨6, n, d, l, q⟩ = (oddB q && (decW q == 0 || decW q == 1)) := rfl
    rw [hw]
    clear hw
    change Hid (∀ W, Calls Try.prog 54 #[.int .u64 q] W (Ans (.tuple #[.int .i64 (if oddB q = true then decW q else 0), .int .i64 (if oddB q = true then 0 else 1)]) W)) at HI
    generalize oddB q = o at *
    generalize decW q = z at *
    cases o
    · unfold iv
      go_enter Try.func45, Try.ntmps45
      go_wp2_with fail
      refine (HI.out _).mono ?_
      rintro e w1 ⟨rfl, hb⟩
      go_wp2
      go_ret
      exact ⟨rfl, below_then (below_box _ _) (by simp) hb⟩
    · unfold iv
      go_enter Try.func45, Try.ntmps45
      go_wp2_with fail
      refine (HI.out _).mono ?_
      rintro e w1 ⟨rfl, hb⟩
      go_wp2
      all_goals
        go_ret
        refine ⟨?_, below_then (below_box _ _) (by simp) hb⟩
        simp_all
  · unfold iv
    have h6' : (op == 6) = false := beq_eq_false_iff_ne.2 h6
    go_enter Try.func45, Try.ntmps45
    go_wp2
    all_goals
      go_ret
      refine ⟨?_, below_box _ _⟩
      simp_all [wordedB]
end Go.Proofs.Ytkhgbnnhgdcmoaa.IR
