/-
  How a unit is read out of memory: what these functions of the program answer and what becomes of memory, for any values. No conditions beyond those that each theorem names.
-/
import Derived.Test.YtkhgbnnhgdcmoaaI15
import Derived.ProofKit
import Derived.OpenShut
namespace Go.Proofs.Ytkhgbnnhgdcmoaa.IR
open Go.RowKit Go.Proofs.YtkhgbnnhgdcmoaaW.PrintWords Go.Proofs.YtkhgbnnhgdcmoaaW.PrintLast Go.Proofs.YtkhgbnnhgdcmoaaW.PrintMore Go.Proofs.Ytkhgbnnhgdcmoaa.QIr

/-- what is read as a datum of type t is one of d's, and wf -/
def Reads {α : Type} (d : Kd α) (wf : α → Prop) (P : Program) (W : World) (t : TypeId) : Prop :=
  ∀ {H : Type} {enc : TypeId × Value → H} {spare : Nat → Bool} {held : Bool} {fuel : Nat} {cs : List Value} {y : DataW H × List MemPlace}, DataW.trod enc P W 0 spare held fuel t cs = some y → ∃ x, d.K W x cs ∧ wf x
theorem reads_int {P : Program} {W : World} {t : TypeId} {k : IntKind} (ht : P.underlying t = some (.int k)) : Reads (Kd.int k) (fun n => (Lit.int k n).wf = true) P W t := by
  intro H enc spare held fuel cs y h
  obtain ⟨n, rfl, _, hw⟩ := DataW.trod_int ht h
  exact ⟨n, rfl, hw⟩
theorem mapM_get {β γ : Type} {f : β → Option γ} : ∀ {l : List β} {r : List γ}, l.mapM f = some r → r.length = l.length ∧ ∀ (i : Nat) (a : β), l[i]? = some a → f a = r[i]? := by
  intro l
  induction l with
  | nil => intro r h; simp at h; subst h; exact ⟨rfl, fun i a hi => by simp at hi⟩
  | cons b l ih =>
    intro r h
    rw [List.mapM_cons] at h
    simp only [Option.bind_eq_bind, Option.bind_eq_some_iff, Option.pure_def, Option.some.injEq] at h
    obtain ⟨c, hc, r', hr', rfl⟩ := h
    obtain ⟨h1, h2⟩ := ih hr'
    refine ⟨by simp [h1], fun i a hi => ?_⟩
    cases i with
    | zero => simp at hi; subst hi; simpa using hc
    | succ i => simp at hi ⊢; exact h2 i a hi
theorem cells_get {w : World} {a : Addr} {n : Nat} {c : List Value} (h : w.cells? 0 a n = some c) : c.length = n ∧ ∀ (i : Nat) (u : Value), c[i]? = some u → w.cell? (a.add i) = some u := by
  unfold World.cells? at h
  rw [if_pos (Nat.zero_le _)] at h
  obtain ⟨h1, h2⟩ := mapM_get h
  rw [List.length_range] at h1
  refine ⟨h1, fun i u hu => ?_⟩
  have hi : i < n := by have := (List.getElem?_eq_some_iff.1 hu).1; omega
  rw [h2 i i (by simp [hi]), hu]
theorem add_addr (a : Addr) (i j : Nat) : (a.add i).add j = a.add (i + j) := by
  unfold Addr.add
  by_cases hi : i = 0
  · subst hi; simp
  · by_cases hj : j = 0
    · subst hj; simp
    · rw [if_neg hi, if_neg hj, if_neg (by omega)]; simp [Nat.add_assoc]
theorem list_of {α : Type} (Q : Nat → α → Prop) : ∀ n, (∀ i, i < n → ∃ x, Q i x) → ∃ xs : List α, xs.length = n ∧ ∀ (i : Nat) (x : α), xs[i]? = some x → Q i x := by
  intro n
  induction n with
  | zero => intro _; exact ⟨[], rfl, fun i x hi => by simp at hi⟩
  | succ n ih =>
    intro h
    obtain ⟨xs, h1, h2⟩ := ih fun i hi => h i (by omega)
    obtain ⟨x, hx⟩ := h n (by omega)
    refine ⟨xs ++ [x], by simp [h1], fun i y hi => ?_⟩
    by_cases hlt : i < xs.length
    · rw [List.getElem?_append_left hlt] at hi; exact h2 i y hi
    · rw [List.getElem?_append_right (by omega)] at hi
      have h0 : i - xs.length = 0 := by
        have := (List.getElem?_eq_some_iff.1 hi).1
        simp at this; omega
      rw [h0] at hi
      simp at hi
      subst hi
      rw [show i = n by omega]; exact hx
theorem reads_slice {α : Type} {d : Kd α} {wf : α → Prop} {P : Program} {W : World} {t e : TypeId} (ht : P.underlying t = some (.slice e)) (hc : P.cellsOf e = d.sz) (hr : Reads d wf P W e) :
    Reads (Kd.slice e d) (fun xs => ∀ x ∈ xs, wf x) P W t := by
  intro H enc spare held fuel cs y h
  rcases DataW.trod_slice ht h with ⟨rfl, _⟩ | ⟨a, len, cap, elems, rest, n, _, rfl, _, _, hl, hm, hlen, hel, _, _⟩
  · exact ⟨[], ⟨none, 0, rfl, Nat.le_refl _, C_nil _ _ _⟩, fun x hx => by cases hx⟩
  · have hex : ∀ i, i < len → ∃ x, (∃ c : List Value, c.length = d.sz ∧ d.K W x c ∧ ∀ j u, c[j]? = some u → W.cell? (a.add (i * d.sz + j)) = some u) ∧ wf x := by
      intro i hi
      have := hel i hi
      rw [List.getElem?_eq_getElem (by omega), Option.bind_eq_some_iff] at this
      obtain ⟨c, h1, h2⟩ := this
      obtain ⟨x, hx, hw⟩ := hr h2
      rw [hc] at h1
      obtain ⟨h3, h4⟩ := cells_get h1
      exact ⟨x, ⟨c, h3, hx, fun j u hu => by rw [← add_addr]; exact h4 j u hu⟩, hw⟩
    obtain ⟨xs, hx1, hx2⟩ := list_of _ len hex
    refine ⟨xs, ⟨some a, cap, by rw [hx1], by omega, ⟨rfl, by unfold maxLen at hm; omega, fun _ => ⟨a, rfl, fun j p hj => ?_⟩⟩⟩, fun x hx => ?_⟩
    · exact (hx2 j p hj).1
    · obtain ⟨i, hi, rfl⟩ := List.getElem_of_mem hx
      exact (hx2 i _ (List.getElem?_eq_getElem hi)).2

/-- a struct's fields -/
theorem reads_fields {H : Type} {enc : TypeId × Value → H} {P : Program} {W : World} {spare : Nat → Bool} {held : Bool} {fuel : Nat} {t : TypeId} {fs : Array Field} {cs : List Value} {y : DataW H × List MemPlace} (ht : P.underlying t = some (.struct fs))
    (h : DataW.trod enc P W 0 spare held fuel t cs = some y) : cs.length = P.cellsOf t ∧ ∀ (i : Nat) (f : Field), fs[i]? = some f → ∃ n z, DataW.trod enc P W 0 spare held n f.type ((cs.drop f.offset).take (P.cellsOf f.type)) = some z := by
  obtain ⟨xs, n, _, _, hl, hx, hf⟩ := DataW.trod_struct ht h
  refine ⟨hl, fun i f hi => ?_⟩
  have hlt : i < xs.length := by have := (Array.getElem?_eq_some_iff.1 hi).1; omega
  exact ⟨n, xs[i], by rw [hf i f hi, List.getElem?_eq_getElem hlt]⟩
theorem cells3 : Try.prog.cellsOf 3 = 1 := by kernel_rfl
theorem cells23 : Try.prog.cellsOf 23 = 1 := by kernel_rfl
theorem cells24 : Try.prog.cellsOf 24 = 1 := by kernel_rfl
theorem cells25 : Try.prog.cellsOf 25 = 1 := by kernel_rfl
theorem cells26 : Try.prog.cellsOf 26 = 1 := by kernel_rfl
theorem cells28 : Try.prog.cellsOf 28 = 10 := by kernel_rfl
theorem cells36 : Try.prog.cellsOf 36 = 3 := by kernel_rfl
theorem cells37 : Try.prog.cellsOf 37 = 1 := by kernel_rfl
theorem cells39 : Try.prog.cellsOf 39 = 7 := by kernel_rfl
theorem u64_is {n : Int} (h : (Lit.int .u64 n).wf = true) : 0 ≤ n ∧ n ≤ 18446744073709551615 := by
  simpa [Lit.wf, IntKind.min, IntKind.max, IntKind.signed, IntKind.bits] using h
def Ins39 (i : S39) : Prop := (0 ≤ i.f2.f2 ∧ i.f2.f2 ≤ 18446744073709551615) ∧ (0 ≤ i.f4 ∧ i.f4 ≤ 18446744073709551615) ∧ ∀ x ∈ i.f3, 0 ≤ x.f2 ∧ x.f2 ≤ 18446744073709551615
theorem reads36 (W : World) : Reads k36 (fun s => 0 ≤ s.f2 ∧ s.f2 ≤ 18446744073709551615) Try.prog W 36 := by
  intro H enc spare held fuel cs y h
  obtain ⟨hl, hf⟩ := reads_fields Try.underlying36 h
  obtain ⟨_, _, h0⟩ := hf 0 _ rfl
  obtain ⟨_, _, h1⟩ := hf 1 _ rfl
  obtain ⟨_, _, h2⟩ := hf 2 _ rfl
  obtain ⟨a, ha, _⟩ := reads_int Try.underlying3 h0
  obtain ⟨b, hb, _⟩ := reads_int Try.underlying3 h1
  obtain ⟨c, hc, hw⟩ := reads_int Try.underlying23 h2
  rw [cells36] at hl
  obtain ⟨c0, c1, c2, rfl⟩ : ∃ c0 c1 c2, cs = [c0, c1, c2] := by
    match cs, hl with
    | [c0, c1, c2], _ => exact ⟨c0, c1, c2, rfl⟩
  change (Kd.int .i64).K W a (List.take (Try.prog.cellsOf 3) [c0, c1, c2]) at ha
  change (Kd.int .i64).K W b (List.take (Try.prog.cellsOf 3) [c1, c2]) at hb
  change (Kd.int .u64).K W c (List.take (Try.prog.cellsOf 23) [c2]) at hc
  rw [cells3] at ha hb
  rw [cells23] at hc
  obtain rfl : c0 = .int .i64 a := List.head_eq_of_cons_eq ha
  obtain rfl : c1 = .int .i64 b := List.head_eq_of_cons_eq hb
  obtain rfl : c2 = .int .u64 c := List.head_eq_of_cons_eq hc
  refine ⟨⟨a, b, c⟩, k36_mk W ⟨a, b, c⟩, u64_is hw⟩
theorem reads37 (W : World) : Reads (Kd.slice 36 k36) (fun xs => ∀ x ∈ xs, 0 ≤ x.f2 ∧ x.f2 ≤ 18446744073709551615) Try.prog W 37 := reads_slice Try.underlying37 cells36 (reads36 W)
theorem reads39 (W : World) : Reads k39 Ins39 Try.prog W 39 := by
  intro H enc spare held fuel cs y h
  obtain ⟨hl, hf⟩ := reads_fields Try.underlying39 h
  obtain ⟨_, _, h0⟩ := hf 0 _ rfl
  obtain ⟨_, _, h1⟩ := hf 1 _ rfl
  obtain ⟨_, _, h2⟩ := hf 2 _ rfl
  obtain ⟨_, _, h3⟩ := hf 3 _ rfl
  obtain ⟨_, _, h4⟩ := hf 4 _ rfl
  obtain ⟨a, ha, _⟩ := reads_int Try.underlying3 h0
  obtain ⟨b, hb, _⟩ := reads_int Try.underlying3 h1
  obtain ⟨c, hc, hcw⟩ := reads36 W h2
  obtain ⟨d, hd, hdw⟩ := reads37 W h3
  obtain ⟨e, he, hw⟩ := reads_int Try.underlying23 h4
  rw [cells39] at hl
  obtain ⟨c0, c1, c2, c3, c4, c5, c6, rfl⟩ : ∃ c0 c1 c2 c3 c4 c5 c6, cs = [c0, c1, c2, c3, c4, c5, c6] := by
    match cs, hl with
    | [c0, c1, c2, c3, c4, c5, c6], _ => exact ⟨c0, c1, c2, c3, c4, c5, c6, rfl⟩
  change (Kd.int .i64).K W a (List.take (Try.prog.cellsOf 3) [c0, c1, c2, c3, c4, c5, c6]) at ha
  change (Kd.int .i64).K W b (List.take (Try.prog.cellsOf 3) [c1, c2, c3, c4, c5, c6]) at hb
  change k36.K W c (List.take (Try.prog.cellsOf 36) [c2, c3, c4, c5, c6]) at hc
  change (Kd.slice 36 k36).K W d (List.take (Try.prog.cellsOf 37) [c5, c6]) at hd
  change (Kd.int .u64).K W e (List.take (Try.prog.cellsOf 23) [c6]) at he
  rw [cells3] at ha hb
  rw [cells36] at hc
  rw [cells37] at hd
  rw [cells23] at he
  have hc' := k36_open hc
  obtain ⟨A5, n5, hd1, hd2, hd3⟩ := hd
  obtain rfl : c0 = .int .i64 a := List.head_eq_of_cons_eq ha
  obtain rfl : c1 = .int .i64 b := List.head_eq_of_cons_eq hb
  obtain ⟨rfl, rfl, rfl⟩ : c2 = .int .i64 c.f0 ∧ c3 = .int .i64 c.f1 ∧ c4 = .int .u64 c.f2 := by simpa using hc'
  obtain rfl : c5 = .slice A5 d.length n5 := List.head_eq_of_cons_eq hd1
  obtain rfl : c6 = .int .u64 e := List.head_eq_of_cons_eq he
  refine ⟨⟨a, b, c, d, e⟩, k39_mk W ⟨a, b, c, d, e⟩ hd2 hd3, hcw, u64_is hw, hdw⟩
theorem reads_unit (W : World) {H : Type} {enc : TypeId × Value → H} {v : Value} {d : DataW H} {ps : List MemPlace} {base : Nat} (hv : Value.okWide Try.prog W .any base 28 v) (h : DataW.Trod enc Try.prog W 0 (fun _ => true) true 28 v d ps) : ∃ u x, v = uv u x ∧ UIn u x W := by
  obtain ⟨fuel, h⟩ := h
  obtain ⟨ca, rfl, hsz⟩ := Go.WideShapes.okWide_struct Try.underlying28 hv
  rw [cells28] at hsz
  obtain ⟨cs⟩ := ca
  obtain ⟨hl, hf⟩ := reads_fields Try.underlying28 h
  clear h hv
  obtain ⟨_, _, h0⟩ := hf 0 _ rfl
  obtain ⟨_, _, h1⟩ := hf 1 _ rfl
  obtain ⟨_, _, h2⟩ := hf 2 _ rfl
  obtain ⟨_, _, h3⟩ := hf 3 _ rfl
  obtain ⟨_, _, h4⟩ := hf 4 _ rfl
  obtain ⟨_, _, h5⟩ := hf 5 _ rfl
  obtain ⟨_, _, h6⟩ := hf 6 _ rfl
  obtain ⟨_, _, h7⟩ := hf 7 _ rfl
  obtain ⟨_, _, h8⟩ := hf 8 _ rfl
  obtain ⟨_, _, h9⟩ := hf 9 _ rfl
  have hl10 : cs.length = 10 := by simpa using hsz
  obtain ⟨c0, c1, c2, c3, c4, c5, c6, c7, c8, c9, rfl⟩ : ∃ c0 c1 c2 c3 c4 c5 c6 c7 c8 c9, cs = [c0, c1, c2, c3, c4, c5, c6, c7, c8, c9] := by
    match cs, hl10 with
    | [c0, c1, c2, c3, c4, c5, c6, c7, c8, c9], _ => exact ⟨c0, c1, c2, c3, c4, c5, c6, c7, c8, c9, rfl⟩
  obtain ⟨m, k0, w0⟩ := reads_int Try.underlying23 h0
  change (Kd.int .u64).K W m (List.take (Try.prog.cellsOf 23) [c0, c1, c2, c3, c4, c5, c6, c7, c8, c9]) at k0
  rw [cells23] at k0
  obtain ⟨a, k1, w1⟩ := reads_int Try.underlying3 h1
  change (Kd.int .i64).K W a (List.take (Try.prog.cellsOf 3) [c1, c2, c3, c4, c5, c6, c7, c8, c9]) at k1
  rw [cells3] at k1
  obtain ⟨t, k2, w2⟩ := reads_int Try.underlying3 h2
  change (Kd.int .i64).K W t (List.take (Try.prog.cellsOf 3) [c2, c3, c4, c5, c6, c7, c8, c9]) at k2
  rw [cells3] at k2
  obtain ⟨r, k3, w3⟩ := reads_int Try.underlying3 h3
  change (Kd.int .i64).K W r (List.take (Try.prog.cellsOf 3) [c3, c4, c5, c6, c7, c8, c9]) at k3
  rw [cells3] at k3
  obtain ⟨p, k4, w4⟩ := reads_int Try.underlying3 h4
  change (Kd.int .i64).K W p (List.take (Try.prog.cellsOf 3) [c4, c5, c6, c7, c8, c9]) at k4
  rw [cells3] at k4
  obtain ⟨n, k5, w5⟩ := reads_int Try.underlying3 h5
  change (Kd.int .i64).K W n (List.take (Try.prog.cellsOf 3) [c5, c6, c7, c8, c9]) at k5
  rw [cells3] at k5
  obtain ⟨e, k6, w6⟩ := reads_slice Try.underlying24 cells39 (reads39 W) h6
  change (Kd.slice 39 k39).K W e (List.take (Try.prog.cellsOf 24) [c6, c7, c8, c9]) at k6
  rw [cells24] at k6
  obtain ⟨c, k7, w7⟩ := reads_slice Try.underlying24 cells39 (reads39 W) h7
  change (Kd.slice 39 k39).K W c (List.take (Try.prog.cellsOf 24) [c7, c8, c9]) at k7
  rw [cells24] at k7
  obtain ⟨s, k8, w8⟩ := reads_slice Try.underlying25 cells3 (reads_int Try.underlying3) h8
  change (Kd.slice 3 (Kd.int .i64)).K W s (List.take (Try.prog.cellsOf 25) [c8, c9]) at k8
  rw [cells25] at k8
  obtain ⟨g, k9, w9⟩ := reads_slice Try.underlying26 cells37 (reads37 W) h9
  change (Kd.slice 37 (Kd.slice 36 k36)).K W g (List.take (Try.prog.cellsOf 26) [c9]) at k9
  rw [cells26] at k9
  obtain rfl : c0 = .int .u64 m := List.head_eq_of_cons_eq k0
  obtain rfl : c1 = .int .i64 a := List.head_eq_of_cons_eq k1
  obtain rfl : c2 = .int .i64 t := List.head_eq_of_cons_eq k2
  obtain rfl : c3 = .int .i64 r := List.head_eq_of_cons_eq k3
  obtain rfl : c4 = .int .i64 p := List.head_eq_of_cons_eq k4
  obtain rfl : c5 = .int .i64 n := List.head_eq_of_cons_eq k5
  obtain ⟨A6, n6, q6, l6, g6⟩ := k6
  obtain rfl : c6 = .slice A6 e.length n6 := List.head_eq_of_cons_eq q6
  obtain ⟨A7, n7, q7, l7, g7⟩ := k7
  obtain rfl : c7 = .slice A7 c.length n7 := List.head_eq_of_cons_eq q7
  obtain ⟨A8, n8, q8, l8, g8⟩ := k8
  obtain rfl : c8 = .slice A8 s.length n8 := List.head_eq_of_cons_eq q8
  obtain ⟨A9, n9, q9, l9, g9⟩ := k9
  obtain rfl : c9 = .slice A9 g.length n9 := List.head_eq_of_cons_eq q9
  exact ⟨⟨m, a, t, r, p, n, e, c, s, g⟩, ⟨A6, n6, A7, n7, A8, n8, A9, n9⟩, rfl, ⟨g6, g7, g8, g9, fun i hi => (w6 i hi).2.1, fun i hi => (w7 i hi).2.1⟩⟩
end Go.Proofs.Ytkhgbnnhgdcmoaa.IR
