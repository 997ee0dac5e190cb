/-
  Walks of layer 11 (ir), part I22: what these functions of the program answer and what becomes of memory, for any values. No conditions beyond those that each theorem names.
-/
import Derived.Test.YtkhgbnnhgdcmoaaI21
namespace Go.Proofs.Ytkhgbnnhgdcmoaa.IR
open Go.RowKit Go.Proofs.YtkhgbnnhgdcmoaaW.PrintWords Go.Proofs.YtkhgbnnhgdcmoaaW.PrintLast Go.Proofs.YtkhgbnnhgdcmoaaW.PrintMore Go.Proofs.Ytkhgbnnhgdcmoaa.QIr

/-- element k of a block of instructions -/
def Cell7 (cs : Array Value) (k : Nat) (s : S39) (v5 : Value) : Prop := cs[k * 7]? = some (.int .i64 s.f0) ∧ cs[k * 7 + 1]? = some (.int .i64 s.f1) ∧ cs[k * 7 + 2]? = some (.int .i64 s.f2.f0) ∧ cs[k * 7 + 3]? = some (.int .i64 s.f2.f1) ∧ cs[k * 7 + 4]? = some (.int .u64 s.f2.f2) ∧ cs[k * 7 + 5]? = some v5 ∧ cs[k * 7 + 6]? = some (.int .u64 s.f4)
/-- the lists of the first k instructions are made, the others are those that were read -/
structure Deep (l : List S39) (g cap base : Nat) (w : World) (k : Nat) (W : World) : Prop where
  le : k ≤ l.length
  bel : Below base w W
  row : ∃ c : Array Value, W.heap[g]? = some (.cells c 39 (0, 0)) ∧ c.size = cap * 7 ∧ (∀ i, i < k → ∃ v5, Cell7 c i (i_ l i) v5 ∧ k36.R 36 W base (fun j => j ≠ g) v5 (i_ l i).f3) ∧ (∀ i, k ≤ i → i < l.length → ∃ A5 c5, Cell7 c i (i_ l i) (.slice A5 (i_ l i).f3.length c5) ∧ k36.C w A5 (i_ l i).f3.length (i_ l i).f3)
theorem cell7_set {c : Array Value} {i k : Nat} {s : S39} {v u : Value} (h : Cell7 c i s v) (hi : i * 7 + 6 < c.size) : Cell7 (c.setIfInBounds (k * 7 + 5) u) i s (if i = k then u else v) := by
  obtain ⟨h0, h1, h2, h3, h4, h5, h6⟩ := h
  unfold Cell7
  simp only [Array.getElem?_setIfInBounds]
  refine ⟨?_, ?_, ?_, ?_, ?_, ?_, ?_⟩
  · rw [if_neg (by omega)]; exact h0
  · rw [if_neg (by omega)]; exact h1
  · rw [if_neg (by omega)]; exact h2
  · rw [if_neg (by omega)]; exact h3
  · rw [if_neg (by omega)]; exact h4
  · by_cases e : i = k
    · rw [if_pos e, if_pos (by omega), if_pos (by omega)]
    · rw [if_neg e, if_neg (by omega)]; exact h5
  · rw [if_neg (by omega)]; exact h6
theorem Deep.next {l : List S39} {g cap base k : Nat} {w W W' : World} {v : Value} (h : Deep l g cap base w k W) (hk : k < l.length) (hcap : l.length ≤ cap) (hg : base ≤ g) (hbase : base ≤ W.heap.size) (hb : Below W.heap.size W W') (hv : k36.R 36 W' W.heap.size (fun _ => True) v (i_ l k).f3) :
    Deep l g cap base w (k + 1) (W'.setCell ⟨g, k * 7 + 5, none⟩ v) := by
  obtain ⟨c, h1, h2, h3, h4⟩ := h.row
  have hglt := blk_lt h1
  refine ⟨hk, (below_then h.bel hbase hb).setCell hg _, c.setIfInBounds (k * 7 + 5) v, blk_set (blk_below h1 hb) _ _, by simp [h2], fun i hi => ?_, fun i hi hi2 => ?_⟩
  · by_cases e : i = k
    · subst e
      obtain ⟨A5, c5, hc, _⟩ := h4 i (Nat.le_refl _) hk
      refine ⟨v, by have := cell7_set (k := i) (u := v) hc (by omega); rwa [if_pos rfl] at this, ?_⟩
      refine Kd.R_far (p := ⟨g, i * 7 + 5, none⟩) (Kd.R_mono (ok' := fun j => j ≠ g) (Kd.R_lower (Kd.R_bound hv) hbase) (fun j hj e => by have := hj.2.1; omega)) (fun j hj => hj) _
    · obtain ⟨v5, hc, hr⟩ := h3 i (by omega)
      refine ⟨v5, by have := cell7_set (k := k) (u := v) hc (by omega); rwa [if_neg e] at this, ?_⟩
      exact Kd.R_far (p := ⟨g, k * 7 + 5, none⟩) (Kd.R_below hr hb) (fun j hj => hj) _
  · obtain ⟨A5, c5, hc, hC⟩ := h4 i (by omega) hi2
    exact ⟨A5, c5, by have := cell7_set (k := k) (u := v) hc (by omega); rwa [if_neg (by omega)] at this, hC⟩
theorem Deep.start {l : List S39} {g cap base : Nat} {w W : World} {cur : Array Value} {news : List Value} (hg : W.heap[g]? = some (.cells cur 39 (0, 0))) (hs : cur.size = cap * 7) (ht : cur.toList.take (l.length * 7) = news) (hr : Reps (k39.K w) 7 l news) (hb : Below base w W) : Deep l g cap base w 0 W := by
  refine ⟨Nat.zero_le _, hb, cur, hg, hs, fun i hi => by omega, fun i _ hi => ?_⟩
  have hK := hr.2 i (i_ l i) (by unfold i_; rw [List.getD_eq_getElem?_getD, List.getElem?_eq_getElem hi]; rfl)
  obtain ⟨A5, c5, he, _, hC⟩ := k39_open hK
  refine ⟨A5, c5, ?_, hC⟩
  have key : ∀ j u, j < 7 → ((news.drop (i * 7)).take 7)[j]? = some u → cur[i * 7 + j]? = some u := by
    intro j u hj h
    rw [List.getElem?_take, if_pos hj, List.getElem?_drop, ← ht, List.getElem?_take, if_pos (by omega), Array.getElem?_toList] at h
    exact h
  rw [he] at key
  exact ⟨key 0 _ (by omega) rfl, key 1 _ (by omega) rfl, key 2 _ (by omega) rfl, key 3 _ (by omega) rfl, key 4 _ (by omega) rfl, key 5 _ (by omega) rfl, key 6 _ (by omega) rfl⟩
theorem Deep.made {l : List S39} {g cap base : Nat} {w W : World} (h : Deep l g cap base w l.length W) (hcap : l.length ≤ cap) (hm : cap ≤ maxLen) (hg : base ≤ g) : Kd.R k39 39 W base (fun _ => True) (.slice (some ⟨g, 0, none⟩) l.length cap) l := by
  obtain ⟨c, h1, h2, h3, _⟩ := h.row
  have hlen : (c.toList.take (l.length * 7)).length = l.length * 7 := by have hz : c.toList.length = c.size := Array.length_toList; rw [List.length_take, hz]; omega
  refine ⟨fun _ _ => trivial, c.toList.take (l.length * 7), ⟨hlen, .inr ⟨g, cap, c, rfl, hg, h1, hcap, hm, h2, rfl⟩⟩, hlen, fun j p hj => ?_⟩
  have hjl : j < l.length := (List.getElem?_eq_some_iff.1 hj).1
  have hp : i_ l j = p := by unfold i_; rw [List.getD_eq_getElem?_getD, hj]; rfl
  obtain ⟨v5, ⟨e0, e1, e2, e3, e4, e5, e6⟩, hr⟩ := h3 j hjl
  rw [hp] at e0 e1 e2 e3 e4 e6 hr
  have hcs : ((c.toList.take (l.length * 7)).drop (j * k39.sz)).take k39.sz = [.int .i64 p.f0, .int .i64 p.f1, .int .i64 p.f2.f0, .int .i64 p.f2.f1, .int .u64 p.f2.f2, v5, .int .u64 p.f4] := by
    change ((c.toList.take (l.length * 7)).drop (j * 7)).take 7 = _
    apply List.ext_getElem?
    intro i
    rw [List.getElem?_take, List.getElem?_drop, List.getElem?_take]
    match i with
    | 0 => rw [if_pos (by omega), if_pos (by omega), Array.getElem?_toList]; exact e0
    | 1 => rw [if_pos (by omega), if_pos (by omega), Array.getElem?_toList]; exact e1
    | 2 => rw [if_pos (by omega), if_pos (by omega), Array.getElem?_toList]; exact e2
    | 3 => rw [if_pos (by omega), if_pos (by omega), Array.getElem?_toList]; exact e3
    | 4 => rw [if_pos (by omega), if_pos (by omega), Array.getElem?_toList]; exact e4
    | 5 => rw [if_pos (by omega), if_pos (by omega), Array.getElem?_toList]; exact e5
    | 6 => rw [if_pos (by omega), if_pos (by omega), Array.getElem?_toList]; exact e6
    | i + 7 => rw [if_neg (by omega)]; simp
  rw [hcs]
  refine k39_mkM _ _ _ p (Kd.R_mono hr (fun k hk => ⟨trivial, fun e => hk ?_⟩))
  have : k = g := by simpa [Value.ownBlock] using e
  exact this

def MadeIns (w : World) (l : List S39) (e : Ending) (w' : World) : Prop := ∃ v, e = .returned v ∧ Kd.R k39 39 w' w.heap.size (fun _ => True) v l ∧ Below w.heap.size w w'
set_option maxHeartbeats 4000000 in
set_option maxRecDepth 100000 in
theorem code_any (l : List S39) (A : Option Addr) (c : Nat) (w : World) (hl : Kd.C k39 w A l.length l) (hsz : l.length * 72 ≤ 140737488355328) (hsl : ∀ i ∈ l, i.f3.length * 24 ≤ 140737488355328) : Calls Try.prog 32 #[.slice A l.length c] w (MadeIns w l) := by
  have hcl := cloneIns_any l A c w w hl (Below.refl _ _) hsz
  have hc36 := clone36_any
  have hmx := Kd.C_max hl
  have hsl2 : ∀ k, k < l.length → (i_ l k).f3.length * 24 ≤ 140737488355328 := fun k hk => hsl _ (i_mem hk)
  have HCL := Lib.hid hcl
  have HC36 := Lib.hid hc36
  have HSL := Lib.hid hsl2
  have hl0 : (0 : Int) ≤ (l.length : Int) := by omega
  clear hcl hc36 hl hsz hsl hsl2
  go_enter Try.func32, Try.ntmps32
  go_upto_region 2 with ((with_reducible refine HCL.out.mono ?_); rintro e w1 ⟨v, news, rfl, hv, hrep, hb1⟩)
  rcases hv.2 with ⟨rfl, h0⟩ | ⟨g, cap, cur, rfl, hbg, hg, hnc, hcap, hcs, htk⟩
  · obtain rfl : l = [] := List.length_eq_zero_iff.1 h0
    go_wp2_with fail
    go_loopw [8] (fun i wr => i = .int .i64 0 ∧ Below w.heap.size w wr) (fun _ _ => 0)
    case atStart => exact ⟨rfl, hb1⟩
    case round =>
      obtain ⟨rfl, hb⟩ := hrel
      go_wp2
      go_ret
      exact ⟨_, rfl, Kd.R_nil _ _ _ _ _, hb⟩
  · have hd0 := Deep.start hg hcs htk hrep hb1
    have HD0 := Lib.hid hd0
    have HCAP := Lib.hid hcap
    clear hd0 hv hg hcs htk hrep hcap
    have hb1s := hb1.size
    go_wp2_with fail
    go_loopw [8] (fun i wr => ∃ k : Nat, i = .int .i64 k ∧ Deep l g cap w.heap.size w k wr) (fun i _ => l.length - (intOf i).toNat)
    case atStart => exact ⟨0, rfl, HD0.out⟩
    case round =>
      obtain ⟨k, rfl, hd⟩ := hrel
      have hkl := hd.le
      have hk0 : (0 : Int) ≤ (k : Int) := by omega
      have HD := Lib.hid hd
      have hbs := hd.bel.size
      have HB := Lib.hid hd.bel
      obtain ⟨cu, r1, r2, r3, r4⟩ := hd.row
      have hglt := blk_lt r1
      clear hd
      by_cases hlt : k < l.length
      · obtain ⟨A5, c5, ⟨_, _, _, _, _, q5, _⟩, hC⟩ := r4 k (Nat.le_refl _) hlt
        have hk1 : (k : Int) < (l.length : Int) := by omega
        have e5 := (blk_cell r1 (k * 7 + 5)).trans q5
        have hfr : ∀ o, wr.frozen? ⟨g, o, none⟩ = false := fun o => blk_frozen r1 o
        have hcall := HC36.out (i_ l k).f3 A5 c5 wr (Kd.C_below hC HB.out) (HSL.out k hlt)
        have hnx := fun v W' (hb : Below wr.heap.size wr W') hv => HD.out.next (v := v) (W' := W') hlt hnc hbg hbs hb hv
        clear r1 r2 r3 r4 q5 hC
        generalize (i_ l k).f3 = f3 at *
        have HCALL := Lib.hid hcall
        have HNX := Lib.hid hnx
        clear hcall hnx
        go_wp2_with ((with_reducible refine HCALL.out.mono ?_); rintro e w2 ⟨v2, rfl, hv2, hb2⟩; obtain ⟨A2, c2, rfl⟩ := Kd.R_slice hv2; have hc2 := (old_cells hb2).1; have hf2 := (old_cells hb2).2)
        go_roundw
        case rel => exact ⟨k + 1, by go_num, HNX.out _ _ hb2 hv2⟩
        case measure => simp [intOf]; omega
      · have hk1 : ¬ (k : Int) < (l.length : Int) := by omega
        obtain rfl : k = l.length := by omega
        go_wp2
        go_ret
        exact ⟨_, rfl, HD.out.made hnc HCAP.out hbg, HB.out⟩
end Go.Proofs.Ytkhgbnnhgdcmoaa.IR
