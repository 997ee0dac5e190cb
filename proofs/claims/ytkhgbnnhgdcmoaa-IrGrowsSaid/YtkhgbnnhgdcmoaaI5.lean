/-
  Walks of layer 11 (ir), part I5: what these functions of the program answer and what becomes of memory, for any values. No conditions beyond those that each theorem names.
-/
import Derived.Test.YtkhgbnnhgdcmoaaI4
namespace Go.Proofs.Ytkhgbnnhgdcmoaa.IR
open Go.RowKit Go.Proofs.YtkhgbnnhgdcmoaaW.PrintWords Go.Proofs.YtkhgbnnhgdcmoaaW.PrintLast Go.Proofs.YtkhgbnnhgdcmoaaW.PrintMore Go.Proofs.Ytkhgbnnhgdcmoaa.QIr

/-- a unit's box stays -/
def Own (w : World) (B : Nat) (cs : Array Value) (W : World) : Prop := Below w.heap.size w W ∧ W.heap[B]? = some (.cells cs 28 (0, 0))
theorem Own.below {w W W' : World} {B : Nat} {cs : Array Value} (h : Own w B cs W) (hb : Below W.heap.size W W') : Own w B cs W' := ⟨below_then h.1 h.1.size hb, blk_below h.2 hb⟩
theorem Own.drew1 {w W : World} {B : Nat} {cs : Array Value} (h : Own w B cs W) : Own w B cs W.drew := h.below (pw_below_drewN (Below.refl _ _) 1)
theorem Own.full {w W : World} {B : Nat} {cs : Array Value} (h : Own w B cs W) : (∀ o, W.cell? ⟨B, o, none⟩ = cs[o]?) ∧ Own w B cs W := ⟨fun o => by simp [World.cell?, h.2], h⟩
theorem ownB {X : Prop} {w W : World} {B : Nat} {cs : Array Value} (h : X ∧ Own w B cs W) : Below w.heap.size w W := h.2.1
theorem keepO {X : Prop} {w W W' : World} {B : Nat} {cs : Array Value} (hb : Below W.heap.size W W') (h : X ∧ Own w B cs W) : (∀ o, W'.cell? ⟨B, o, none⟩ = cs[o]?) ∧ Own w B cs W' := (h.2.below hb).full

/-- is a map none that may be? -/
def badB (u : U) (l : List S36) : Bool := (decide (0 < l.length) && (decide ((l.length : Int) < u.t) || decide (u.t + 16 < (l.length : Int)))) || !allB u l

set_option maxHeartbeats 4000000 in
set_option maxRecDepth 100000 in
theorem bad1_any (u : U) (x : UA) (l : List S36) (A : Option Addr) (c B : Nat) (w : World) (hl : Kd.C k36 w A l.length l) (hB : w.heap[B]? = some (.cells (uc u x) 28 (0, 0))) (hmax : l.length ≤ 9223372036854775807) (ht0 : 0 ≤ u.t) (ht1 : u.t ≤ 16) :
    Calls Try.prog 41 #[.slice A l.length c, .pointer (some ⟨B, 0, none⟩)] w (Ans (.bool (badB u l)) w) := by
  have hA := fun W (h : Below w.heap.size w W) => all_any u x l A c W (Kd.C_below hl h) hmax
  have hs : Own w B (uc u x) w := ⟨Below.refl _ _, hB⟩
  unfold uv at *
  unfold uc at *
  unfold badB
  generalize allB u l = AL at *
  obtain ⟨m, a, t, r, p, n, enter, code, starts, maps⟩ := u
  simp only at *
  have hlen : (0 : Int) ≤ (l.length : Int) := by omega
  have hpos : decide (0 < l.length) = decide ((0 : Int) < (l.length : Int)) := by simp
  rw [hpos]
  have HA := Lib.hid hA
  clear hA hl hB hpos
  go_enter Try.func41, Try.ntmps41
  have ways : (¬ (0 : Int) < (l.length : Int)) ∨ ((0 : Int) < (l.length : Int) ∧ (l.length : Int) < t) ∨ ((0 : Int) < (l.length : Int) ∧ ¬ (l.length : Int) < t ∧ t + 16 < (l.length : Int)) ∨ ((0 : Int) < (l.length : Int) ∧ ¬ (l.length : Int) < t ∧ ¬ t + 16 < (l.length : Int)) := by omega
  obtain ⟨hc, hs⟩ := hs.full
  rcases ways with g1 | ⟨g1, g2⟩ | ⟨g1, g2, g3⟩ | ⟨g1, g2, g3⟩
  · go_wp2_with (go_at_call 42; refine (HA.out _ hs.1).mono ?_; rintro e w5 ⟨rfl, hb5⟩)
    go_ret
    refine ⟨?_, hb5⟩
    simp [*] <;> omega
  · go_wp2_with (go_at_call 42; refine (HA.out _ hs.1).mono ?_; rintro e w5 ⟨rfl, hb5⟩)
    go_ret
    refine ⟨?_, Below.refl _ _⟩
    simp [*] <;> omega
  · go_wp2_with (go_at_call 42; refine (HA.out _ hs.1).mono ?_; rintro e w5 ⟨rfl, hb5⟩)
    go_ret
    refine ⟨?_, Below.refl _ _⟩
    simp [*] <;> omega
  · go_wp2_with (go_at_call 42; refine (HA.out _ hs.1).mono ?_; rintro e w5 ⟨rfl, hb5⟩)
    go_ret
    refine ⟨?_, hb5⟩
    simp [*] <;> omega
end Go.Proofs.Ytkhgbnnhgdcmoaa.IR
