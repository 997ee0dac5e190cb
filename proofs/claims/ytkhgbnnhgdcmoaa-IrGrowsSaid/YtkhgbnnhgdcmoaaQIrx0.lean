-- written by wip/xprint.py out of the translation's own print; Lean checks it
import Derived.Test.YtkhgbnnhgdcmoaaProg
import Derived.Below
import Derived.Deep.Draws
import Derived.Deep.AppendLies
import Derived.Maps.AppendAt
import Derived.OwnWalk
import Derived.Laws.BytesArg
import Derived.Laws.MakeOwn
import Derived.Laws.OwnMore
import Derived.Deep.OwnRows
import Derived.Tactics
import Derived.Lib.ConvBytes
import Derived.Laws.Slices
import Derived.WalkKit
import Derived.KernelRfl
import Derived.RowKit3
import Derived.Deep.LoopGhost
import Derived.Deep.QuietTactic
import Derived.BigQuiet
import Derived.WideLaws
import Derived.Deep.DeepCutAuto
import Derived.Deep.CutBlock
import Derived.Deep.RegionHeld3
import Derived.Laws.Rows
import Derived.Lib.AppendStr
import Derived.ArgAppend
import Derived.Laws.IdiomCopy
import Derived.OrdersHeld
import Derived.Laws.BitsLemmas
import Derived.RowKit
import Derived.Test.YtkhgbnnhgdcmoaaWWords
import Derived.Test.YtkhgbnnhgdcmoaaWLast
import Derived.Test.YtkhgbnnhgdcmoaaWTab
import Derived.Test.YtkhgbnnhgdcmoaaWFour
import Derived.Test.YtkhgbnnhgdcmoaaWQPut
import Derived.Test.YtkhgbnnhgdcmoaaWApart
import Derived.Test.YtkhgbnnhgdcmoaaWArr
import Derived.Test.YtkhgbnnhgdcmoaaWZeros
import Derived.Test.YtkhgbnnhgdcmoaaWFoot
import Derived.Test.YtkhgbnnhgdcmoaaWKept
import Derived.Test.YtkhgbnnhgdcmoaaWShare
import Derived.Test.YtkhgbnnhgdcmoaaWN
import Derived.Test.YtkhgbnnhgdcmoaaWFootNe
import Derived.Test.YtkhgbnnhgdcmoaaWAt
import Derived.Test.YtkhgbnnhgdcmoaaWEqStruct
import Derived.Test.YtkhgbnnhgdcmoaaWRepsOne
import Derived.Test.YtkhgbnnhgdcmoaaWInv
import Derived.Test.YtkhgbnnhgdcmoaaWInvWords
import Derived.Test.YtkhgbnnhgdcmoaaWGuard
import Derived.Test.YtkhgbnnhgdcmoaaWNEv
import Derived.Test.YtkhgbnnhgdcmoaaWMore
namespace Go.Proofs.Ytkhgbnnhgdcmoaa.QIr
open Go.RowKit Go.Proofs.YtkhgbnnhgdcmoaaW.PrintWords Go.Proofs.YtkhgbnnhgdcmoaaW.PrintLast Go.Proofs.YtkhgbnnhgdcmoaaW.PrintMore
attribute [local go_sem] max2_int min2_int max_two min_two max_three min_three max_four min_four   -- for this text's walks alone
set_option linter.unusedVariables false
set_option linter.unusedSimpArgs false



def errW : Option Int → Value
  | none => .nilIface
  | some c => .iface 0 (.int .i64 c)
theorem errW_none : errW none = .nilIface := rfl
theorem errW_some (c : Int) : errW (some c) = .iface 0 (.int .i64 c) := rfl

theorem info3 : (Try.prog.info? 3).map (fun i => (i.zero, i.size, i.bytes)) = some (some (.int .i64 0), 1, 8) := by kernel_rfl
theorem info36 : (Try.prog.info? 36).map (fun i => (i.zero, i.size, i.bytes)) = some (some (.agg #[(.int .i64 0), (.int .i64 0), (.int .u64 0)]), 3, 24) := by kernel_rfl
theorem info37 : (Try.prog.info? 37).map (fun i => (i.zero, i.size, i.bytes)) = some (some (.slice none 0 0), 1, 24) := by kernel_rfl
theorem info39 : (Try.prog.info? 39).map (fun i => (i.zero, i.size, i.bytes)) = some (some (.agg #[(.int .i64 0), (.int .i64 0), (.int .i64 0), (.int .i64 0), (.int .u64 0), (.slice none 0 0), (.int .u64 0)]), 7, 72) := by kernel_rfl
-- the values' own types
/-! #### struct type 36 -/
structure S36 where
  f0 : Int
  f1 : Int
  f2 : Int
def z36 : S36 := ⟨(0 : Int), (0 : Int), (0 : Int)⟩
def k36 : Kd S36 := Kd.iso (Kd.pair (Kd.int .i64) (Kd.pair (Kd.int .i64) (Kd.int .u64))) (fun x : S36 => (x.f0, x.f1, x.f2))
theorem k36_open {w : World} {x : S36} {cs : List Value} (h : k36.K w x cs) : cs = [.int .i64 x.f0, .int .i64 x.f1, .int .u64 x.f2] := by
  obtain ⟨_, _, rfl, rfl, ⟨_, _, rfl, rfl, rfl⟩⟩ := h
  exact rfl
theorem k36_openM {w : World} {base : Nat} {ok : Nat → Prop} {x : S36} {cs : List Value} (h : k36.M w base ok x cs) : cs = [.int .i64 x.f0, .int .i64 x.f1, .int .u64 x.f2] := by
  obtain ⟨_, _, rfl, rfl, ⟨_, _, rfl, rfl, rfl⟩⟩ := h
  exact rfl
theorem k36_mk (w : World) (x : S36)  : k36.K w x [.int .i64 x.f0, .int .i64 x.f1, .int .u64 x.f2] := ⟨[.int .i64 x.f0], [.int .i64 x.f1, .int .u64 x.f2], rfl, rfl, ⟨[.int .i64 x.f1], [.int .u64 x.f2], rfl, rfl, rfl⟩⟩
theorem k36_mkM (w : World) (base : Nat) (ok : Nat → Prop) (x : S36)  : k36.M w base ok x [.int .i64 x.f0, .int .i64 x.f1, .int .u64 x.f2] := ⟨[.int .i64 x.f0], [.int .i64 x.f1, .int .u64 x.f2], rfl, rfl, ⟨[.int .i64 x.f1], [.int .u64 x.f2], rfl, rfl, rfl⟩⟩
def rd_T36 (xs : List S36) (i : Int) : S36 := xs.getD i.toNat z36
theorem at_T36 {w : World} {A : Option Addr} {n : Nat} {xs : List S36} (h : Kd.C k36 w A n xs) (i : Int) (h0 : 0 ≤ i) (h1 : i < n) : ∃ ad , A = some ad ∧ w.cell? (ad.add (i.toNat * 3)) = some (.int .i64 (rd_T36 xs i).f0) ∧ w.cell? ⟨(ad.add (i.toNat * 3)).block, (ad.add (i.toNat * 3)).off + 1, none⟩ = some (.int .i64 (rd_T36 xs i).f1) ∧ w.cell? ⟨(ad.add (i.toNat * 3)).block, (ad.add (i.toNat * 3)).off + 2, none⟩ = some (.int .u64 (rd_T36 xs i).f2) := by
  obtain ⟨ad, c, e, _, hK, hc0⟩ := Kd.C_get h z36 i h0 h1
  have hc : ∀ j u, c[j]? = some u → w.cell? (ad.add (i.toNat * 3 + j)) = some u := hc0
  obtain rfl := k36_open hK
  exact ⟨ad, e, hc 0 _ rfl, by rw [← add_field _ _ 1 (by omega)]; exact hc 1 _ rfl, by rw [← add_field _ _ 2 (by omega)]; exact hc 2 _ rfl⟩

def rd_L3 (xs : List (List S36)) (i : Int) : (List S36) := xs.getD i.toNat ([] : List S36)
theorem at_L3 {w : World} {A : Option Addr} {n : Nat} {xs : List (List S36)} (h : Kd.C (Kd.slice 36 k36) w A n xs) (i : Int) (h0 : 0 ≤ i) (h1 : i < n) : ∃ ad A0 c0, A = some ad ∧ w.cell? (ad.add i.toNat) = some (.slice A0 (rd_L3 xs i).length c0) ∧ (rd_L3 xs i).length ≤ c0 ∧ k36.C w A0 (rd_L3 xs i).length (rd_L3 xs i) := by
  obtain ⟨ad, c, e, _, hK, hc0⟩ := Kd.C_get h ([] : List S36) i h0 h1
  have hc : ∀ j u, c[j]? = some u → w.cell? (ad.add (i.toNat * 1 + j)) = some u := hc0
  obtain ⟨A0, c0, rfl, l0, g0⟩ := hK
  exact ⟨ad, A0, c0, e, by have hq := hc 0 _ rfl; rwa [Nat.mul_one, Nat.add_zero] at hq, l0, g0⟩

/-! #### struct type 39 -/
structure S39 where
  f0 : Int
  f1 : Int
  f2 : S36
  f3 : (List S36)
  f4 : Int
def z39 : S39 := ⟨(0 : Int), (0 : Int), z36, ([] : List S36), (0 : Int)⟩
def k39 : Kd S39 := Kd.iso (Kd.pair (Kd.int .i64) (Kd.pair (Kd.int .i64) (Kd.pair k36 (Kd.pair (Kd.slice 36 k36) (Kd.int .u64))))) (fun x : S39 => (x.f0, x.f1, x.f2, x.f3, x.f4))
theorem k39_open {w : World} {x : S39} {cs : List Value} (h : k39.K w x cs) : ∃ A5 c5, cs = [.int .i64 x.f0, .int .i64 x.f1, .int .i64 x.f2.f0, .int .i64 x.f2.f1, .int .u64 x.f2.f2, .slice A5 x.f3.length c5, .int .u64 x.f4] ∧ x.f3.length ≤ c5 ∧ k36.C w A5 x.f3.length x.f3 := by
  obtain ⟨_, _, rfl, rfl, ⟨_, _, rfl, rfl, ⟨_, _, rfl, s2, ⟨_, _, rfl, ⟨A5, c5, rfl, l5, g5⟩, rfl⟩⟩⟩⟩ := h
  obtain rfl := k36_open s2
  exact ⟨A5, c5, rfl, l5, g5⟩
theorem k39_openM {w : World} {base : Nat} {ok : Nat → Prop} {x : S39} {cs : List Value} (h : k39.M w base ok x cs) : ∃ v5, cs = [.int .i64 x.f0, .int .i64 x.f1, .int .i64 x.f2.f0, .int .i64 x.f2.f1, .int .u64 x.f2.f2, v5, .int .u64 x.f4] ∧ k36.R 36 w base ok v5 x.f3 := by
  obtain ⟨_, _, rfl, rfl, ⟨_, _, rfl, rfl, ⟨_, _, rfl, s2, ⟨_, _, rfl, ⟨v5, rfl, g5⟩, rfl⟩⟩⟩⟩ := h
  obtain rfl := k36_openM s2
  exact ⟨v5, rfl, g5⟩
theorem k39_mk (w : World) (x : S39) {A5 : Option Addr} {c5 : Nat} (l5 : x.f3.length ≤ c5) (g5 : k36.C w A5 x.f3.length x.f3) : k39.K w x [.int .i64 x.f0, .int .i64 x.f1, .int .i64 x.f2.f0, .int .i64 x.f2.f1, .int .u64 x.f2.f2, .slice A5 x.f3.length c5, .int .u64 x.f4] := ⟨[.int .i64 x.f0], [.int .i64 x.f1, .int .i64 x.f2.f0, .int .i64 x.f2.f1, .int .u64 x.f2.f2, .slice A5 x.f3.length c5, .int .u64 x.f4], rfl, rfl, ⟨[.int .i64 x.f1], [.int .i64 x.f2.f0, .int .i64 x.f2.f1, .int .u64 x.f2.f2, .slice A5 x.f3.length c5, .int .u64 x.f4], rfl, rfl, ⟨[.int .i64 x.f2.f0, .int .i64 x.f2.f1, .int .u64 x.f2.f2], [.slice A5 x.f3.length c5, .int .u64 x.f4], rfl, (k36_mk w x.f2 ), ⟨[.slice A5 x.f3.length c5], [.int .u64 x.f4], rfl, ⟨A5, c5, rfl, l5, g5⟩, rfl⟩⟩⟩⟩
theorem k39_mkM (w : World) (base : Nat) (ok : Nat → Prop) (x : S39) {v5 : Value} (g5 : k36.R 36 w base ok v5 x.f3) : k39.M w base ok x [.int .i64 x.f0, .int .i64 x.f1, .int .i64 x.f2.f0, .int .i64 x.f2.f1, .int .u64 x.f2.f2, v5, .int .u64 x.f4] := ⟨[.int .i64 x.f0], [.int .i64 x.f1, .int .i64 x.f2.f0, .int .i64 x.f2.f1, .int .u64 x.f2.f2, v5, .int .u64 x.f4], rfl, rfl, ⟨[.int .i64 x.f1], [.int .i64 x.f2.f0, .int .i64 x.f2.f1, .int .u64 x.f2.f2, v5, .int .u64 x.f4], rfl, rfl, ⟨[.int .i64 x.f2.f0, .int .i64 x.f2.f1, .int .u64 x.f2.f2], [v5, .int .u64 x.f4], rfl, (k36_mkM w base ok x.f2 ), ⟨[v5], [.int .u64 x.f4], rfl, ⟨v5, rfl, g5⟩, rfl⟩⟩⟩⟩
def rd_T39 (xs : List S39) (i : Int) : S39 := xs.getD i.toNat z39
theorem at_T39 {w : World} {A : Option Addr} {n : Nat} {xs : List S39} (h : Kd.C k39 w A n xs) (i : Int) (h0 : 0 ≤ i) (h1 : i < n) : ∃ ad A5 c5, A = some ad ∧ w.cell? (ad.add (i.toNat * 7)) = some (.int .i64 (rd_T39 xs i).f0) ∧ w.cell? ⟨(ad.add (i.toNat * 7)).block, (ad.add (i.toNat * 7)).off + 1, none⟩ = some (.int .i64 (rd_T39 xs i).f1) ∧ w.cell? ⟨(ad.add (i.toNat * 7)).block, (ad.add (i.toNat * 7)).off + 2, none⟩ = some (.int .i64 (rd_T39 xs i).f2.f0) ∧ w.cell? ⟨(ad.add (i.toNat * 7)).block, (ad.add (i.toNat * 7)).off + 3, none⟩ = some (.int .i64 (rd_T39 xs i).f2.f1) ∧ w.cell? ⟨(ad.add (i.toNat * 7)).block, (ad.add (i.toNat * 7)).off + 4, none⟩ = some (.int .u64 (rd_T39 xs i).f2.f2) ∧ w.cell? ⟨(ad.add (i.toNat * 7)).block, (ad.add (i.toNat * 7)).off + 5, none⟩ = some (.slice A5 (rd_T39 xs i).f3.length c5) ∧ w.cell? ⟨(ad.add (i.toNat * 7)).block, (ad.add (i.toNat * 7)).off + 6, none⟩ = some (.int .u64 (rd_T39 xs i).f4) ∧ (rd_T39 xs i).f3.length ≤ c5 ∧ k36.C w A5 (rd_T39 xs i).f3.length (rd_T39 xs i).f3 := by
  obtain ⟨ad, c, e, _, hK, hc0⟩ := Kd.C_get h z39 i h0 h1
  have hc : ∀ j u, c[j]? = some u → w.cell? (ad.add (i.toNat * 7 + j)) = some u := hc0
  obtain ⟨A5, c5, rfl, l5, g5⟩ := k39_open hK
  exact ⟨ad, A5, c5, e, hc 0 _ rfl, by rw [← add_field _ _ 1 (by omega)]; exact hc 1 _ rfl, by rw [← add_field _ _ 2 (by omega)]; exact hc 2 _ rfl, by rw [← add_field _ _ 3 (by omega)]; exact hc 3 _ rfl, by rw [← add_field _ _ 4 (by omega)]; exact hc 4 _ rfl, by rw [← add_field _ _ 5 (by omega)]; exact hc 5 _ rfl, by rw [← add_field _ _ 6 (by omega)]; exact hc 6 _ rfl, l5, g5⟩

end Go.Proofs.Ytkhgbnnhgdcmoaa.QIr
