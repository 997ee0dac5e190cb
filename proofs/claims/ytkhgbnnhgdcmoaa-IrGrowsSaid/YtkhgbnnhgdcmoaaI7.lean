/-
  Walks of layer 11 (ir), part I7: what these functions of the program answer and what becomes of memory, for any values. No conditions beyond those that each theorem names.
-/
import Derived.Test.YtkhgbnnhgdcmoaaI6
import Derived.Deep.QuietTactic
import Derived.BigQuiet
namespace Go.Proofs.Ytkhgbnnhgdcmoaa.IR
open Go.RowKit Go.Proofs.YtkhgbnnhgdcmoaaW.PrintWords Go.Proofs.YtkhgbnnhgdcmoaaW.PrintLast Go.Proofs.YtkhgbnnhgdcmoaaW.PrintMore Go.Proofs.Ytkhgbnnhgdcmoaa.QIr

theorem nan_any (x : Int) (w : World) : Calls Try.prog 56 #[.int .i64 x] w (fun e w' => e = .returned (.bool false) ∧ w' = w) := by
  go_enter Try.func56, Try.ntmps56
  go_wp2
  go_ret
  simp

theorem less_any (x y : Int) (w : World) : Calls Try.prog 50 #[.int .i64 x, .int .i64 y] w (fun e w' => e = .returned (.bool (decide (x < y))) ∧ w' = w) := by
  have hn := fun v W => nan_any v W
  have HN := Lib.hid hn
  clear hn
  go_enter Try.func50, Try.ntmps50
  by_cases h : x < y
  · go_wp2_with (go_at_call 56; refine (HN.out _ _).mono ?_; rintro e w1 ⟨rfl, rfl⟩)
    go_ret
    exact ⟨by simp [*], rfl⟩
  · go_wp2_with (go_at_call 56; refine (HN.out _ _).mono ?_; rintro e w1 ⟨rfl, rfl⟩)
    go_ret
    exact ⟨by simp [*], rfl⟩

def at_ (l : List Int) (k : Nat) : Int := l.getD k 0
def sortedB (l : List Int) : Bool := (List.range (l.length - 1)).all fun k => decide (at_ l k ≤ at_ l (k + 1))
theorem sorted_yes {l : List Int} (h : ∀ j, 0 < j → j < l.length → ¬ at_ l j < at_ l (j - 1)) : sortedB l = true := by
  unfold sortedB
  rw [List.all_eq_true]
  intro k hk
  have := h (k + 1) (by omega) (by have := List.mem_range.1 hk; omega)
  rw [Nat.add_sub_cancel] at this
  simp; omega
theorem sorted_no {l : List Int} (k : Nat) (h0 : 0 < k) (h1 : k < l.length) (h : at_ l k < at_ l (k - 1)) : sortedB l = false := by
  cases hb : sortedB l with
  | false => rfl
  | true =>
    unfold sortedB at hb
    rw [List.all_eq_true] at hb
    have := hb (k - 1) (by rw [List.mem_range]; omega)
    rw [show k - 1 + 1 = k by omega] at this
    simp at this
    omega

set_option maxHeartbeats 2000000 in
set_option maxRecDepth 100000 in
theorem isSorted_any (l : List Int) (A : Option Addr) (c : Nat) (w : World) (hl : (Kd.int .i64).C w A l.length l) : Calls Try.prog 39 #[.slice A l.length c] w (Ans (.bool (sortedB l)) w) := by
  have hmax := Kd.C_max hl
  have hlt := fun x y W => less_any x y W
  have hyes := @sorted_yes l
  have hno := @sorted_no l
  have HL := Lib.hid hl
  have HT := Lib.hid hlt
  have HY := Lib.hid hyes
  have HO := Lib.hid hno
  clear hl hlt hyes hno
  obtain ⟨n, hn⟩ : ∃ n, n = l.length := ⟨_, rfl⟩
  rw [← hn] at hmax ⊢
  have HN := Lib.hid hn
  clear hn
  have hn0 : (0 : Int) ≤ (n : Int) := by omega
  go_enter Try.func39, Try.ntmps39
  go_wp2
  go_loopw [3] (fun i wr => (∃ k : Int, i = .int .i64 k ∧ k < n ∧ -1 ≤ k ∧ ∀ j : Nat, k < j → j < n → ¬ at_ l j < at_ l (j - 1)) ∧ Below w.heap.size w wr) (fun i _ => (intOf i + 1).toNat)
  case atStart =>
    refine ⟨⟨(n : Int) - 1, by go_num, by omega, by omega, fun j h1 h2 => by omega⟩, Below.refl _ _⟩
  case round =>
    obtain ⟨⟨k, rfl, hk1, hk0, hno⟩, hbw⟩ := hrel
    have HNO := Lib.hid hno
    clear hno
    by_cases hp : 0 < k
    · obtain ⟨m, rfl⟩ : ∃ m : Nat, k = (m : Int) + 1 := ⟨(k - 1).toNat, by omega⟩
      obtain ⟨ad, c1, hA, _, hK, hc1⟩ := Kd.C_get (Kd.C_below HL.out hbw) (0 : Int) ((m : Int) + 1) (by omega) (by rw [← HN.out]; exact hk1)
      obtain ⟨ad2, c2, hA2, _, hK2, hc2⟩ := Kd.C_get (Kd.C_below HL.out hbw) (0 : Int) (m : Int) (by omega) (by rw [← HN.out]; omega)
      obtain rfl : ad = ad2 := by rw [hA] at hA2; exact Option.some.inj hA2
      clear hA2
      have e1 : wr.cell? (ad.add ((m : Int) + 1).toNat) = some (.int .i64 (at_ l (m + 1))) := by
        have := hc1 0 _ (by rw [show c1 = _ from hK]; rfl)
        rwa [show ((m : Int) + 1).toNat * (Kd.int .i64).sz + 0 = ((m : Int) + 1).toNat from Nat.mul_one _] at this
      have e2 : wr.cell? (ad.add m) = some (.int .i64 (at_ l m)) := by
        have := hc2 0 _ (by rw [show c2 = _ from hK2]; rfl)
        rwa [show (m : Int).toNat * (Kd.int .i64).sz + 0 = m from Nat.mul_one _] at this
      have e1' : wr.cell? ⟨ad.block, ad.off + (m + 1), none⟩ = some (.int .i64 (at_ l (m + 1))) := e1
      clear hK hK2 hc1 hc2
      subst hA
      have hk3 : (0 : Int) ≤ (m : Int) := by omega
      have hk4 : (m : Int) < n := by omega
      have hk5 : (0 : Int) ≤ (m : Int) + 1 := by omega
      have hc := fun q => HT.out (at_ l (m + 1)) (at_ l m) (wr.drewN q)
      have hk6 : IntKind.i64.wrap ((m : Int) + 1 - 1) = m := by rw [IntWalk.i64_in _ (by omega)]; omega
      have hy := HO.out (m + 1) (by omega) (by rw [← HN.out]; omega)
      rw [Nat.add_sub_cancel] at hy
      generalize hx : at_ l (m + 1) = X at *
      generalize hz : at_ l m = Z at *
      have HC := Lib.hid hc
      have HX := Lib.hid hx
      have HZ := Lib.hid hz
      have HYY := Lib.hid hy
      clear hc hx hz hy
      go_upto_region 4 with fail
      go_quiet ((go_at_call 50; exact Calls.quiet_of_same (HC.out _)))
      by_cases hxz : X < Z
      · go_wp2
        go_ret
        refine ⟨?_, pw_below_drewN hbw _⟩
        rw [HYY.out hxz]; rfl
      · go_wp2
        go_roundw
        case rel =>
          refine ⟨⟨(m : Int), by go_num, by omega, by omega, fun j h1 h2 => ?_⟩, pw_below_drewN hbw _⟩
          by_cases e : j = m + 1
          · rw [e, Nat.add_sub_cancel, HX.out, HZ.out]; exact hxz
          · exact HNO.out j (by omega) h2
        case measure => simp [intOf]; omega
    · go_wp2
      go_ret
      refine ⟨?_, hbw⟩
      rw [HY.out fun j h1 h2 => HNO.out j (by omega) (by rw [HN.out]; exact h2)]; rfl
end Go.Proofs.Ytkhgbnnhgdcmoaa.IR
