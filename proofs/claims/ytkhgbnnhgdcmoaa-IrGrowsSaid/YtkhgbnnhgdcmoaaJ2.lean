/-
  Walks of layer 11 (ir), part J2: what these functions of the program answer and what becomes of memory, for any values. No conditions beyond those that each theorem names.
-/
import Derived.Test.YtkhgbnnhgdcmoaaJ1
import Derived.SizedLaws
namespace Go.Proofs.Ytkhgbnnhgdcmoaa.IR
open Go.RowKit Go.Proofs.YtkhgbnnhgdcmoaaW.PrintWords Go.Proofs.YtkhgbnnhgdcmoaaW.PrintLast Go.Proofs.YtkhgbnnhgdcmoaaW.PrintMore Go.Proofs.Ytkhgbnnhgdcmoaa.QIr

/-- what is read as a datum of type t, of the form's reach, is one of d's, and wf -/
def Sized {α : Type} (d : Kd α) (wf : α → Prop) (P : Program) (W : World) (t : TypeId) : Prop :=
  ∀ {H : Type} {enc : TypeId × Value → H} {spare : Nat → Bool} {held : Bool} {fuel : Nat} {cs : List Value} {y : DataW H × List MemPlace}, DataW.trod enc P W 0 spare held fuel t cs = some y → (∀ n ∈ y.1.weights P t, n ≤ reachBytes) → ∃ x, d.K W x cs ∧ wf x
theorem sized_int {P : Program} {W : World} {t : TypeId} {k : IntKind} (ht : P.underlying t = some (.int k)) : Sized (Kd.int k) (fun n => (Lit.int k n).wf = true) P W t := by
  intro H enc spare held fuel cs y h _
  exact reads_int ht h
theorem weights_mem_all {H : Type} {P : Program} {e : TypeId} : ∀ {ds : List (DataW H)} {j : Nat} {d : DataW H}, ds[j]? = some d → ∀ n ∈ d.weights P e, n ∈ DataW.weightsAll P e ds
  | d0 :: ds, 0, d, hd, n, hn => by
    simp only [List.getElem?_cons_zero, Option.some.injEq] at hd
    subst hd
    simp only [DataW.weightsAll, List.mem_append]
    exact Or.inl hn
  | d0 :: ds, j + 1, d, hd, n, hn => by
    simp only [List.getElem?_cons_succ] at hd
    simp only [DataW.weightsAll, List.mem_append]
    exact Or.inr (weights_mem_all hd n hn)
  | [], _, _, hd, _, _ => by simp at hd
theorem sized_slice_of {α : Type} {d : Kd α} {wf : α → Prop} {P : Program} {W : World} {t e : TypeId} (ht : P.underlying t = some (.slice e)) (hc : P.cellsOf e = d.sz) (hr : Sized d wf P W e) :
    Sized (Kd.slice e d) (fun xs => xs.length * P.bytesOf e ≤ reachBytes ∧ ∀ x ∈ xs, wf x) P W t := by
  intro H enc spare held fuel cs y h hw
  rcases DataW.trod_slice ht h with ⟨rfl, _⟩ | ⟨a, len, cap, elems, rest, n, _, rfl, rfl, _, hl, hm, hlen, hel, _, _⟩
  · exact ⟨[], ⟨none, 0, rfl, Nat.le_refl _, C_nil _ _ _⟩, by simp, fun x hx => by cases hx⟩
  · have hbig : (elems.length + rest.length) * P.bytesOf e ≤ reachBytes := by
      have := hw ((elems.length + rest.length) * P.bytesOf e) (by simp [DataW.weights, ht])
      exact this
    have hex : ∀ i, i < len → ∃ x, (∃ c : List Value, c.length = d.sz ∧ d.K W x c ∧ ∀ j u, c[j]? = some u → W.cell? (a.add (i * d.sz + j)) = some u) ∧ wf x := by
      intro i hi
      have := hel i hi
      have hie : i < elems.length := by omega
      rw [List.getElem?_eq_getElem hie, Option.bind_eq_some_iff] at this
      obtain ⟨c, h1, h2⟩ := this
      obtain ⟨x, hx, hwf⟩ := hr h2 fun n hn => hw n (by
        simp only [DataW.weights, ht, List.mem_cons, List.mem_append]
        right; left
        exact weights_mem_all (j := i) (by simp [hie]) n hn)
      rw [hc] at h1
      obtain ⟨h3, h4⟩ := cells_get h1
      exact ⟨x, ⟨c, h3, hx, fun j u hu => by rw [← add_addr]; exact h4 j u hu⟩, hwf⟩
    obtain ⟨xs, hx1, hx2⟩ := list_of _ len hex
    refine ⟨xs, ⟨some a, cap, by rw [hx1], by omega, ⟨rfl, by unfold maxLen at hm; omega, fun _ => ⟨a, rfl, fun j p hj => ?_⟩⟩⟩, ?_, fun x hx => ?_⟩
    · exact (hx2 j p hj).1
    · rw [hx1, ← hlen]; exact Nat.le_trans (Nat.mul_le_mul_right _ (Nat.le_add_right _ _)) hbig
    · obtain ⟨i, hi, rfl⟩ := List.getElem_of_mem hx
      exact (hx2 i _ (List.getElem?_eq_getElem hi)).2
/-- a struct's fields -/
theorem sized_fields {H : Type} {enc : TypeId × Value → H} {P : Program} {W : World} {spare : Nat → Bool} {held : Bool} {fuel : Nat} {t : TypeId} {fs : Array Field} {cs : List Value} {y : DataW H × List MemPlace} (ht : P.underlying t = some (.struct fs))
    (h : DataW.trod enc P W 0 spare held fuel t cs = some y) (hw : ∀ n ∈ y.1.weights P t, n ≤ reachBytes) : cs.length = P.cellsOf t ∧ ∀ (i : Nat) (f : Field), fs[i]? = some f → ∃ n z, DataW.trod enc P W 0 spare held n f.type ((cs.drop f.offset).take (P.cellsOf f.type)) = some z ∧ ∀ n ∈ z.1.weights P f.type, n ≤ reachBytes := by
  obtain ⟨xs, n, _, rfl, hl, hx, hf⟩ := DataW.trod_struct ht h
  refine ⟨hl, fun i f hi => ?_⟩
  have hlt : i < xs.length := by have := (Array.getElem?_eq_some_iff.1 hi).1; omega
  refine ⟨n, xs[i], by rw [hf i f hi, List.getElem?_eq_getElem hlt], fun k hk => hw k ?_⟩
  simp only [DataW.weights, ht]
  exact DataW.weights_mem_each (j := i) (t := f.type) (d := xs[i].1) (by rw [List.getElem?_map, Array.getElem?_toList, hi]; rfl) (by simp [hlt]) k hk
theorem bytes36 : Try.prog.bytesOf 36 = 24 := by kernel_rfl
theorem bytes3 : Try.prog.bytesOf 3 = 8 := by kernel_rfl
theorem bytes37 : Try.prog.bytesOf 37 = 24 := by kernel_rfl
theorem bytes39 : Try.prog.bytesOf 39 = 72 := by kernel_rfl
def InsSz (i : S39) : Prop := (0 ≤ i.f2.f2 ∧ i.f2.f2 ≤ 18446744073709551615) ∧ (0 ≤ i.f4 ∧ i.f4 ≤ 18446744073709551615) ∧ i.f3.length * 24 ≤ reachBytes ∧ ∀ x ∈ i.f3, 0 ≤ x.f2 ∧ x.f2 ≤ 18446744073709551615
theorem sized36 (W : World) : Sized k36 (fun s => 0 ≤ s.f2 ∧ s.f2 ≤ 18446744073709551615) Try.prog W 36 := by
  intro H enc spare held fuel cs y h hbig
  obtain ⟨hl, hf⟩ := sized_fields Try.underlying36 h hbig
  obtain ⟨_, _, h0, b0⟩ := hf 0 _ rfl
  obtain ⟨_, _, h1, b1⟩ := hf 1 _ rfl
  obtain ⟨_, _, h2, b2⟩ := hf 2 _ rfl
  obtain ⟨a, ha, _⟩ := sized_int Try.underlying3 h0 b0
  obtain ⟨b, hb, _⟩ := sized_int Try.underlying3 h1 b1
  obtain ⟨c, hc, hw⟩ := sized_int Try.underlying23 h2 b2
  rw [cells36] at hl
  obtain ⟨c0, c1, c2, rfl⟩ : ∃ c0 c1 c2, cs = [c0, c1, c2] := by
    match cs, hl with
    | [c0, c1, c2], _ => exact ⟨c0, c1, c2, rfl⟩
  change (Kd.int .i64).K W a (List.take (Try.prog.cellsOf 3) [c0, c1, c2]) at ha
  change (Kd.int .i64).K W b (List.take (Try.prog.cellsOf 3) [c1, c2]) at hb
  change (Kd.int .u64).K W c (List.take (Try.prog.cellsOf 23) [c2]) at hc
  rw [cells3] at ha hb
  rw [cells23] at hc
  obtain rfl : c0 = .int .i64 a := List.head_eq_of_cons_eq ha
  obtain rfl : c1 = .int .i64 b := List.head_eq_of_cons_eq hb
  obtain rfl : c2 = .int .u64 c := List.head_eq_of_cons_eq hc
  refine ⟨⟨a, b, c⟩, k36_mk W ⟨a, b, c⟩, u64_is hw⟩
theorem sized37 (W : World) : Sized (Kd.slice 36 k36) (fun xs => xs.length * 24 ≤ reachBytes ∧ ∀ x ∈ xs, 0 ≤ x.f2 ∧ x.f2 ≤ 18446744073709551615) Try.prog W 37 := by
  intro H enc spare held fuel cs y h hbig
  obtain ⟨x, h1, h2, h3⟩ := sized_slice_of (W := W) Try.underlying37 cells36 (sized36 W) h hbig
  rw [bytes36] at h2
  exact ⟨x, h1, h2, h3⟩
theorem sized39 (W : World) : Sized k39 InsSz Try.prog W 39 := by
  intro H enc spare held fuel cs y h hbig
  obtain ⟨hl, hf⟩ := sized_fields Try.underlying39 h hbig
  obtain ⟨_, _, h0, b0⟩ := hf 0 _ rfl
  obtain ⟨_, _, h1, b1⟩ := hf 1 _ rfl
  obtain ⟨_, _, h2, b2⟩ := hf 2 _ rfl
  obtain ⟨_, _, h3, b3⟩ := hf 3 _ rfl
  obtain ⟨_, _, h4, b4⟩ := hf 4 _ rfl
  obtain ⟨a, ha, _⟩ := sized_int Try.underlying3 h0 b0
  obtain ⟨b, hb, _⟩ := sized_int Try.underlying3 h1 b1
  obtain ⟨c, hc, hcw⟩ := sized36 W h2 b2
  obtain ⟨d, hd, hdw⟩ := sized37 W h3 b3
  obtain ⟨e, he, hw⟩ := sized_int Try.underlying23 h4 b4
  rw [cells39] at hl
  obtain ⟨c0, c1, c2, c3, c4, c5, c6, rfl⟩ : ∃ c0 c1 c2 c3 c4 c5 c6, cs = [c0, c1, c2, c3, c4, c5, c6] := by
    match cs, hl with
    | [c0, c1, c2, c3, c4, c5, c6], _ => exact ⟨c0, c1, c2, c3, c4, c5, c6, rfl⟩
  change (Kd.int .i64).K W a (List.take (Try.prog.cellsOf 3) [c0, c1, c2, c3, c4, c5, c6]) at ha
  change (Kd.int .i64).K W b (List.take (Try.prog.cellsOf 3) [c1, c2, c3, c4, c5, c6]) at hb
  change k36.K W c (List.take (Try.prog.cellsOf 36) [c2, c3, c4, c5, c6]) at hc
  change (Kd.slice 36 k36).K W d (List.take (Try.prog.cellsOf 37) [c5, c6]) at hd
  change (Kd.int .u64).K W e (List.take (Try.prog.cellsOf 23) [c6]) at he
  rw [cells3] at ha hb
  rw [cells36] at hc
  rw [cells37] at hd
  rw [cells23] at he
  have hc' := k36_open hc
  obtain ⟨A5, n5, hd1, hd2, hd3⟩ := hd
  obtain rfl : c0 = .int .i64 a := List.head_eq_of_cons_eq ha
  obtain rfl : c1 = .int .i64 b := List.head_eq_of_cons_eq hb
  obtain ⟨rfl, rfl, rfl⟩ : c2 = .int .i64 c.f0 ∧ c3 = .int .i64 c.f1 ∧ c4 = .int .u64 c.f2 := by simpa using hc'
  obtain rfl : c5 = .slice A5 d.length n5 := List.head_eq_of_cons_eq hd1
  obtain rfl : c6 = .int .u64 e := List.head_eq_of_cons_eq he
  refine ⟨⟨a, b, c, d, e⟩, k39_mk W ⟨a, b, c, d, e⟩ hd2 hd3, hcw, u64_is hw, hdw.1, hdw.2⟩
/-- a unit's sizes -/
structure USz (u : U) : Prop where
  en : u.enter.length * 72 ≤ reachBytes
  co : u.code.length * 72 ≤ reachBytes
  st : u.starts.length * 8 ≤ reachBytes
  ma : u.maps.length * 24 ≤ reachBytes
  enl : ∀ i ∈ u.enter, i.f3.length * 24 ≤ reachBytes
  col : ∀ i ∈ u.code, i.f3.length * 24 ≤ reachBytes
  mal : ∀ m ∈ u.maps, m.length * 24 ≤ reachBytes
theorem sized_unit (W : World) {H : Type} {enc : TypeId × Value → H} {v : Value} {d : DataW H} {ps : List MemPlace} {base : Nat} (hv : Value.okWide Try.prog W .any base 28 v) (h : DataW.Trod enc Try.prog W 0 (fun _ => true) true 28 v d ps) (hbig : ∀ n ∈ d.weights Try.prog 28, n ≤ reachBytes) : ∃ u x, v = uv u x ∧ UIn u x W ∧ USz u := by
  obtain ⟨fuel, h⟩ := h
  obtain ⟨ca, rfl, hsz⟩ := Go.WideShapes.okWide_struct Try.underlying28 hv
  rw [cells28] at hsz
  obtain ⟨cs⟩ := ca
  obtain ⟨hl, hf⟩ := sized_fields Try.underlying28 h hbig
  clear h hv hbig
  obtain ⟨_, _, h0, b0⟩ := hf 0 _ rfl
  obtain ⟨_, _, h1, b1⟩ := hf 1 _ rfl
  obtain ⟨_, _, h2, b2⟩ := hf 2 _ rfl
  obtain ⟨_, _, h3, b3⟩ := hf 3 _ rfl
  obtain ⟨_, _, h4, b4⟩ := hf 4 _ rfl
  obtain ⟨_, _, h5, b5⟩ := hf 5 _ rfl
  obtain ⟨_, _, h6, b6⟩ := hf 6 _ rfl
  obtain ⟨_, _, h7, b7⟩ := hf 7 _ rfl
  obtain ⟨_, _, h8, b8⟩ := hf 8 _ rfl
  obtain ⟨_, _, h9, b9⟩ := hf 9 _ rfl
  have hl10 : cs.length = 10 := by simpa using hsz
  obtain ⟨c0, c1, c2, c3, c4, c5, c6, c7, c8, c9, rfl⟩ : ∃ c0 c1 c2 c3 c4 c5 c6 c7 c8 c9, cs = [c0, c1, c2, c3, c4, c5, c6, c7, c8, c9] := by
    match cs, hl10 with
    | [c0, c1, c2, c3, c4, c5, c6, c7, c8, c9], _ => exact ⟨c0, c1, c2, c3, c4, c5, c6, c7, c8, c9, rfl⟩
  obtain ⟨m, k0, w0⟩ := sized_int Try.underlying23 h0 b0
  change (Kd.int .u64).K W m (List.take (Try.prog.cellsOf 23) [c0, c1, c2, c3, c4, c5, c6, c7, c8, c9]) at k0
  rw [cells23] at k0
  obtain ⟨a, k1, w1⟩ := sized_int Try.underlying3 h1 b1
  change (Kd.int .i64).K W a (List.take (Try.prog.cellsOf 3) [c1, c2, c3, c4, c5, c6, c7, c8, c9]) at k1
  rw [cells3] at k1
  obtain ⟨t, k2, w2⟩ := sized_int Try.underlying3 h2 b2
  change (Kd.int .i64).K W t (List.take (Try.prog.cellsOf 3) [c2, c3, c4, c5, c6, c7, c8, c9]) at k2
  rw [cells3] at k2
  obtain ⟨r, k3, w3⟩ := sized_int Try.underlying3 h3 b3
  change (Kd.int .i64).K W r (List.take (Try.prog.cellsOf 3) [c3, c4, c5, c6, c7, c8, c9]) at k3
  rw [cells3] at k3
  obtain ⟨p, k4, w4⟩ := sized_int Try.underlying3 h4 b4
  change (Kd.int .i64).K W p (List.take (Try.prog.cellsOf 3) [c4, c5, c6, c7, c8, c9]) at k4
  rw [cells3] at k4
  obtain ⟨n, k5, w5⟩ := sized_int Try.underlying3 h5 b5
  change (Kd.int .i64).K W n (List.take (Try.prog.cellsOf 3) [c5, c6, c7, c8, c9]) at k5
  rw [cells3] at k5
  obtain ⟨e, k6, w6⟩ := sized_slice_of Try.underlying24 cells39 (sized39 W) h6 b6
  change (Kd.slice 39 k39).K W e (List.take (Try.prog.cellsOf 24) [c6, c7, c8, c9]) at k6
  rw [cells24] at k6
  obtain ⟨c, k7, w7⟩ := sized_slice_of Try.underlying24 cells39 (sized39 W) h7 b7
  change (Kd.slice 39 k39).K W c (List.take (Try.prog.cellsOf 24) [c7, c8, c9]) at k7
  rw [cells24] at k7
  obtain ⟨s, k8, w8⟩ := sized_slice_of Try.underlying25 cells3 (sized_int Try.underlying3) h8 b8
  change (Kd.slice 3 (Kd.int .i64)).K W s (List.take (Try.prog.cellsOf 25) [c8, c9]) at k8
  rw [cells25] at k8
  obtain ⟨g, k9, w9⟩ := sized_slice_of Try.underlying26 cells37 (sized37 W) h9 b9
  change (Kd.slice 37 (Kd.slice 36 k36)).K W g (List.take (Try.prog.cellsOf 26) [c9]) at k9
  rw [cells26] at k9
  obtain rfl : c0 = .int .u64 m := List.head_eq_of_cons_eq k0
  obtain rfl : c1 = .int .i64 a := List.head_eq_of_cons_eq k1
  obtain rfl : c2 = .int .i64 t := List.head_eq_of_cons_eq k2
  obtain rfl : c3 = .int .i64 r := List.head_eq_of_cons_eq k3
  obtain rfl : c4 = .int .i64 p := List.head_eq_of_cons_eq k4
  obtain rfl : c5 = .int .i64 n := List.head_eq_of_cons_eq k5
  obtain ⟨A6, n6, q6, l6, g6⟩ := k6
  obtain rfl : c6 = .slice A6 e.length n6 := List.head_eq_of_cons_eq q6
  obtain ⟨A7, n7, q7, l7, g7⟩ := k7
  obtain rfl : c7 = .slice A7 c.length n7 := List.head_eq_of_cons_eq q7
  obtain ⟨A8, n8, q8, l8, g8⟩ := k8
  obtain rfl : c8 = .slice A8 s.length n8 := List.head_eq_of_cons_eq q8
  obtain ⟨A9, n9, q9, l9, g9⟩ := k9
  obtain rfl : c9 = .slice A9 g.length n9 := List.head_eq_of_cons_eq q9
  exact ⟨⟨m, a, t, r, p, n, e, c, s, g⟩, ⟨A6, n6, A7, n7, A8, n8, A9, n9⟩, rfl, ⟨g6, g7, g8, g9, fun i hi => (w6.2 i hi).2.1, fun i hi => (w7.2 i hi).2.1⟩, ⟨by rw [← bytes39]; exact w6.1, by rw [← bytes39]; exact w7.1, by rw [← bytes3]; exact w8.1, by rw [← bytes37]; exact w9.1, fun i hi => (w6.2 i hi).2.2.1, fun i hi => (w7.2 i hi).2.2.1, fun m hm => (w9.2 m hm).1⟩⟩
theorem sized_ins (W : World) {H : Type} {enc : TypeId × Value → H} {v : Value} {d : DataW H} {ps : List MemPlace} {base : Nat} (hv : Value.okWide Try.prog W .any base 39 v) (h : DataW.Trod enc Try.prog W 0 (fun _ => true) true 39 v d ps) (hbig : ∀ n ∈ d.weights Try.prog 39, n ≤ reachBytes) :
    ∃ i A c, v = iv i A c ∧ k36.C W A i.f3.length i.f3 ∧ i.f3.length ≤ c ∧ i.f3.length * 24 ≤ 140737488351232 := by
  obtain ⟨fuel, h⟩ := h
  obtain ⟨ca, rfl, hsz⟩ := Go.WideShapes.okWide_struct Try.underlying39 hv
  obtain ⟨i, hK, hw⟩ := sized39 W h hbig
  obtain ⟨A, c, hcs, hle, hC⟩ := k39_open hK
  refine ⟨i, A, c, ?_, hC, hle, hw.2.2.1⟩
  have hl : ca.toList = (ic i A c).toList := hcs
  have : ca = ic i A c := Array.toList_inj.1 hl
  rw [this]; rfl
theorem sized_src (W : World) {H : Type} {enc : TypeId × Value → H} {v : Value} {d : DataW H} {ps : List MemPlace} {base : Nat} (hv : Value.okWide Try.prog W .any base 36 v) (h : DataW.Trod enc Try.prog W 0 (fun _ => true) true 36 v d ps) : ∃ s, v = sv s := by
  obtain ⟨fuel, h⟩ := h
  obtain ⟨ca, rfl, hsz⟩ := Go.WideShapes.okWide_struct Try.underlying36 hv
  obtain ⟨s, hK, hw⟩ := reads36 W h
  have hl : ca.toList = [.int .i64 s.f0, .int .i64 s.f1, .int .u64 s.f2] := k36_open hK
  have : ca = #[.int .i64 s.f0, .int .i64 s.f1, .int .u64 s.f2] := Array.toList_inj.1 hl
  exact ⟨s, by rw [this]; rfl⟩
end Go.Proofs.Ytkhgbnnhgdcmoaa.IR
