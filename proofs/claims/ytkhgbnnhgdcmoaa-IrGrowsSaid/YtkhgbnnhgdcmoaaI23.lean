/-
  Walks of layer 11 (ir), part I23: what these functions of the program answer and what becomes of memory, for any values. No conditions beyond those that each theorem names.
-/
import Derived.Test.YtkhgbnnhgdcmoaaI22
import Derived.Test.YtkhgbnnhgdcmoaaJ2
import Derived.Deep.CutBlock
namespace Go.Proofs.Ytkhgbnnhgdcmoaa.IR
open Go.RowKit Go.Proofs.YtkhgbnnhgdcmoaaW.PrintWords Go.Proofs.YtkhgbnnhgdcmoaaW.PrintLast Go.Proofs.YtkhgbnnhgdcmoaaW.PrintMore Go.Proofs.Ytkhgbnnhgdcmoaa.QIr

/-- the first k maps are made, the others are those that were read -/
structure DeepM (l : List (List S36)) (g cap base : Nat) (w : World) (k : Nat) (W : World) : Prop where
  le : k ≤ l.length
  bel : Below base w W
  row : ∃ c : Array Value, W.heap[g]? = some (.cells c 37 (0, 0)) ∧ c.size = cap ∧ (∀ i, i < k → ∃ v5, c[i]? = some v5 ∧ k36.R 36 W base (fun j => j ≠ g) v5 (m_ l i)) ∧ (∀ i, k ≤ i → i < l.length → ∃ A5 c5, c[i]? = some (.slice A5 (m_ l i).length c5) ∧ k36.C w A5 (m_ l i).length (m_ l i))
theorem DeepM.next {l : List (List S36)} {g cap base k : Nat} {w W W' : World} {v : Value} (h : DeepM l g cap base w k W) (hk : k < l.length) (hcap : l.length ≤ cap) (hg : base ≤ g) (hbase : base ≤ W.heap.size) (hb : Below W.heap.size W W') (hv : k36.R 36 W' W.heap.size (fun _ => True) v (m_ l k)) :
    DeepM l g cap base w (k + 1) (W'.setCell ⟨g, k, none⟩ v) := by
  obtain ⟨c, h1, h2, h3, h4⟩ := h.row
  have hglt := blk_lt h1
  refine ⟨hk, (below_then h.bel hbase hb).setCell hg _, c.setIfInBounds k v, blk_set (blk_below h1 hb) _ _, by simp [h2], fun i hi => ?_, fun i hi hi2 => ?_⟩
  · by_cases e : i = k
    · subst e
      refine ⟨v, by rw [Array.getElem?_setIfInBounds, if_pos rfl, if_pos (by omega)], ?_⟩
      exact Kd.R_far (p := ⟨g, i, none⟩) (Kd.R_mono (ok' := fun j => j ≠ g) (Kd.R_lower (Kd.R_bound hv) hbase) (fun j hj e => by have := hj.2.1; omega)) (fun j hj => hj) _
    · obtain ⟨v5, hc, hr⟩ := h3 i (by omega)
      refine ⟨v5, by rw [Array.getElem?_setIfInBounds, if_neg (Ne.symm e)]; exact hc, ?_⟩
      exact Kd.R_far (p := ⟨g, k, none⟩) (Kd.R_below hr hb) (fun j hj => hj) _
  · obtain ⟨A5, c5, hc, hC⟩ := h4 i (by omega) hi2
    exact ⟨A5, c5, by rw [Array.getElem?_setIfInBounds, if_neg (by omega)]; exact hc, hC⟩
theorem DeepM.start {l : List (List S36)} {g cap base : Nat} {w W : World} {cur : Array Value} {news : List Value} (hg : W.heap[g]? = some (.cells cur 37 (0, 0))) (hs : cur.size = cap * 1) (ht : cur.toList.take (l.length * 1) = news) (hr : Reps ((Kd.slice 36 k36).K w) 1 l news) (hb : Below base w W) : DeepM l g cap base w 0 W := by
  refine ⟨Nat.zero_le _, hb, cur, hg, by omega, fun i hi => by omega, fun i _ hi => ?_⟩
  have hK := hr.2 i (m_ l i) (by unfold m_; rw [List.getD_eq_getElem?_getD, List.getElem?_eq_getElem hi]; rfl)
  obtain ⟨A5, c5, he, _, hC⟩ := hK
  refine ⟨A5, c5, ?_, hC⟩
  have h0 : ((news.drop (i * 1)).take 1)[0]? = some (.slice A5 (m_ l i).length c5) := by rw [he]; rfl
  rw [List.getElem?_take, if_pos (by omega), List.getElem?_drop, ← ht, List.getElem?_take, if_pos (by omega), Array.getElem?_toList] at h0
  simpa using h0
theorem DeepM.made {l : List (List S36)} {g cap base : Nat} {w W : World} (h : DeepM l g cap base w l.length W) (hcap : l.length ≤ cap) (hm : cap ≤ maxLen) (hg : base ≤ g) : Kd.R (Kd.slice 36 k36) 37 W base (fun _ => True) (.slice (some ⟨g, 0, none⟩) l.length cap) l := by
  obtain ⟨c, h1, h2, h3, _⟩ := h.row
  have hlen : (c.toList.take (l.length * 1)).length = l.length * 1 := by have hz : c.toList.length = c.size := Array.length_toList; rw [List.length_take, hz]; omega
  refine ⟨fun _ _ => trivial, c.toList.take (l.length * 1), ⟨hlen, .inr ⟨g, cap, c, rfl, hg, h1, hcap, hm, by rw [h2]; exact (Nat.mul_one _).symm, rfl⟩⟩, hlen, fun j p hj => ?_⟩
  have hjl : j < l.length := (List.getElem?_eq_some_iff.1 hj).1
  have hp : m_ l j = p := by unfold m_; rw [List.getD_eq_getElem?_getD, hj]; rfl
  obtain ⟨v5, e0, hr⟩ := h3 j hjl
  rw [hp] at hr
  have hcs : ((c.toList.take (l.length * 1)).drop (j * (Kd.slice 36 k36).sz)).take (Kd.slice 36 k36).sz = [v5] := by
    change ((c.toList.take (l.length * 1)).drop (j * 1)).take 1 = _
    apply List.ext_getElem?
    intro i
    rw [List.getElem?_take, List.getElem?_drop, List.getElem?_take]
    match i with
    | 0 => rw [if_pos (by omega), if_pos (by omega), Array.getElem?_toList, show j * 1 + 0 = j by omega]; exact e0
    | i + 1 => rw [if_neg (by omega)]; simp
  rw [hcs]
  refine ⟨v5, rfl, Kd.R_mono hr (fun k hk => ⟨trivial, fun e => hk ?_⟩)⟩
  have : k = g := by simpa [Value.ownBlock] using e
  exact this
theorem own_slice_of {w : World} {base e sz n : Nat} {v : Value} {xs : List Value} (h : w.ownsRow base e sz v n xs) : ∃ A c, v = .slice A n c := by
  rcases h.2 with ⟨rfl, rfl⟩ | ⟨g, cap, cur, rfl, _⟩
  · exact ⟨none, 0, rfl⟩
  · exact ⟨_, cap, rfl⟩
/-- a unit of the call's own -/
structure UOwn (u : U) (x : UA) (base N : Nat) (w : World) : Prop where
  en : Kd.R k39 39 w base (fun k => N ≤ k) (.slice x.ae u.enter.length x.ce) u.enter
  co : Kd.R k39 39 w base (fun k => k < N) (.slice x.ac u.code.length x.cc) u.code
  st : Kd.R (Kd.int .i64) 3 w base (fun _ => True) (.slice x.at_ u.starts.length x.ct) u.starts
  ma : Kd.R (Kd.slice 36 k36) 37 w base (fun _ => True) (.slice x.am u.maps.length x.cm) u.maps
def CopyOf (u : U) (w : World) (e : Ending) (w' : World) : Prop := ∃ x N, e = .returned (uv u x) ∧ UOwn u x w.heap.size N w' ∧ Below w.heap.size w w'
theorem ints_own {l : List Int} {w0 w : World} {base : Nat} {v : Value} {news : List Value} (h : w.ownsRow base 3 1 v l.length news) (hr : Reps ((Kd.int .i64).K w0) 1 l news) : Kd.R (Kd.int .i64) 3 w base (fun _ => True) v l :=
  ⟨fun _ _ => trivial, news, h, hr.imp_ (fun _ _ h => h)⟩

theorem sets_R {α : Type} {d : Kd α} {e base : Nat} {ok : Nat → Prop} {v : Value} {xs : List α} {w : World} {g : Nat} {cs : Array Value} (hb : w.heap[g]? = some (.cells cs 28 (0, 0))) (ht : ∀ q, q ∈ e :: d.E → q ≠ 28) (h : d.R e w base ok v xs) (i1 i2 i3 i4 : Nat) (u1 u2 u3 u4 : Value) :
    d.R e ((((w.setCell ⟨g, i1, none⟩ u1).setCell ⟨g, i2, none⟩ u2).setCell ⟨g, i3, none⟩ u3).setCell ⟨g, i4, none⟩ u4) base ok v xs :=
  Kd.R_set (Kd.R_set (Kd.R_set (Kd.R_set h hb ht i1 u1) (blk_set hb i1 u1) ht i2 u2) (blk_set (blk_set hb i1 u1) i2 u2) ht i3 u3) (blk_set (blk_set (blk_set hb i1 u1) i2 u2) i3 u3) ht i4 u4
theorem sets_own {α : Type} {R : α → List Value → Prop} {e sz base : Nat} {v : Value} {xs : List α} {w : World} {g : Nat} {cs : Array Value} (hb : w.heap[g]? = some (.cells cs 28 (0, 0))) (ht : e ≠ 28) (h : OwnRow R e sz w base v xs) (i1 i2 i3 i4 : Nat) (u1 u2 u3 u4 : Value) :
    OwnRow R e sz ((((w.setCell ⟨g, i1, none⟩ u1).setCell ⟨g, i2, none⟩ u2).setCell ⟨g, i3, none⟩ u3).setCell ⟨g, i4, none⟩ u4) base v xs :=
  OwnRow.set_ (OwnRow.set_ (OwnRow.set_ (OwnRow.set_ h hb ht i1 u1) (blk_set hb i1 u1) ht i2 u2) (blk_set (blk_set hb i1 u1) i2 u2) ht i3 u3) (blk_set (blk_set (blk_set hb i1 u1) i2 u2) i3 u3) ht i4 u4
/-- Copy's memory while its maps are made -/
structure Mid (u : U) (x : UA) (N b : Nat) (cs zs : Array Value) (w : World) (k : Nat) (W : World) : Prop where
  le : k ≤ u.maps.length
  box : W.heap[b]? = some (.cells cs 28 (0, 0))
  res : W.heap[b + 1]? = some (.cells zs 28 (0, 0))
  en : Kd.R k39 39 W w.heap.size (fun k => N ≤ k) (.slice x.ae u.enter.length x.ce) u.enter
  co : Kd.R k39 39 W w.heap.size (fun k => k < N) (.slice x.ac u.code.length x.cc) u.code
  st : Kd.R (Kd.int .i64) 3 W w.heap.size (fun _ => True) (.slice x.at_ u.starts.length x.ct) u.starts
  ma : (u.maps = [] ∧ x.am = none ∧ x.cm = 0) ∨ ∃ g, x.am = some ⟨g, 0, none⟩ ∧ w.heap.size ≤ g ∧ u.maps.length ≤ x.cm ∧ x.cm ≤ maxLen ∧ DeepM u.maps g x.cm w.heap.size w k W
  bel : Below w.heap.size w W
theorem Mid.start {u : U} {x : UA} {N b : Nat} {cs zs : Array Value} {w W : World} (box : W.heap[b]? = some (.cells cs 28 (0, 0))) (res : W.heap[b + 1]? = some (.cells zs 28 (0, 0)))
    (en : Kd.R k39 39 W w.heap.size (fun k => N ≤ k) (.slice x.ae u.enter.length x.ce) u.enter) (co : Kd.R k39 39 W w.heap.size (fun k => k < N) (.slice x.ac u.code.length x.cc) u.code) (st : Kd.R (Kd.int .i64) 3 W w.heap.size (fun _ => True) (.slice x.at_ u.starts.length x.ct) u.starts)
    (ma : OwnRow ((Kd.slice 36 k36).K w) 37 1 W w.heap.size (.slice x.am u.maps.length x.cm) u.maps) (bel : Below w.heap.size w W) : Mid u x N b cs zs w 0 W := by
  refine ⟨Nat.zero_le _, box, res, en, co, st, ?_, bel⟩
  obtain ⟨news, hown, hrep⟩ := ma
  rcases hown.2 with ⟨hv, h0⟩ | ⟨g, cap, cur, hv, hbg, hg, hnc, hcap, hcs, htk⟩
  · injection hv with h1 h2 h3
    exact .inl ⟨List.length_eq_zero_iff.1 h0, h1, h3⟩
  · injection hv with h1 h2 h3
    exact .inr ⟨g, h1, hbg, by rw [h3]; exact hnc, by rw [h3]; exact hcap, by rw [h3]; exact DeepM.start hg hcs htk hrep bel⟩
theorem Mid.next {u : U} {x : UA} {N b g k : Nat} {cs zs : Array Value} {w W W' : World} {v : Value} (h : Mid u x N b cs zs w k W) (hk : k < u.maps.length) (ha : x.am = some ⟨g, 0, none⟩) (hb : Below W.heap.size W W') (hv : k36.R 36 W' W.heap.size (fun _ => True) v (m_ u.maps k)) :
    Mid u x N b cs zs w (k + 1) (W'.setCell ⟨g, k, none⟩ v) := by
  have hs := h.bel.size
  rcases h.ma with ⟨h0, _⟩ | ⟨g', ha', hg, hn, hm, hd⟩
  · rw [h0] at hk; simp at hk
  · rw [ha] at ha'
    cases ha'
    obtain ⟨c, r1, _⟩ := hd.row
    have r2 := blk_below r1 hb
    have b2 := blk_below h.box hb
    have z2 := blk_below h.res hb
    have n1 := blk_ne b2 r2 (by decide)
    have n2 := blk_ne z2 r2 (by decide)
    exact ⟨hk, blk_far b2 (p := ⟨g, k, none⟩) n1 _, blk_far z2 (p := ⟨g, k, none⟩) n2 _, Kd.R_set (Kd.R_below h.en hb) r2 (by decide) k v, Kd.R_set (Kd.R_below h.co hb) r2 (by decide) k v, Kd.R_set (Kd.R_below h.st hb) r2 (by decide) k v, .inr ⟨g, ha, hg, hn, hm, hd.next hk hn hg hs hb hv⟩, (below_then h.bel hs hb).setCell hg _⟩
theorem Mid.out {u : U} {x : UA} {N b : Nat} {cs zs : Array Value} {w W : World} (h : Mid u x N b cs zs w u.maps.length W) (hbb : w.heap.size ≤ b + 1) (cs2 : Array Value) : UOwn u x w.heap.size N (W.setRow (b + 1) cs2) ∧ Below w.heap.size w (W.setRow (b + 1) cs2) := by
  have mv : ∀ {α : Type} {d : Kd α} {e : Nat} {v : Value} {xs : List α} {ok : Nat → Prop}, (∀ q, q ∈ e :: d.E → q ≠ 28) → d.R e W w.heap.size ok v xs → d.R e (W.setRow (b + 1) cs2) w.heap.size ok v xs := fun ht hR =>
    Kd.R_mono (Kd.R_step (Kd.R_types hR h.res ht) (fun k hk _ => setRow_other W (b + 1) k cs2 hk.2)) (fun _ hk => hk.1)
  refine ⟨⟨mv (by decide) h.en, mv (by decide) h.co, mv (by decide) h.st, mv (by decide) ?_⟩, below_setRow h.bel hbb cs2⟩
  rcases h.ma with ⟨h0, h1, h2⟩ | ⟨g, ha, hg, hn, hm, hd⟩
  · rw [h0, h1, h2]; exact Kd.R_nil _ _ _ _ _
  · rw [ha]; exact hd.made hn hm hg

set_option maxHeartbeats 8000000 in
set_option maxRecDepth 100000 in
theorem copy_any (u : U) (x : UA) (w : World) (h : UIn u x w) (hz : USz u) : Calls Try.prog 14 #[uv u x] w (CopyOf u w) := by
  have hcode := fun W (hb : Below w.heap.size w W) => code_any u.code x.ac x.cc W (Kd.C_below h.hc hb) (Nat.le_trans hz.co (by decide)) (fun i hi => Nat.le_trans (hz.col i hi) (by decide))
  have hent := fun W (hb : Below w.heap.size w W) => code_any u.enter x.ae x.ce W (Kd.C_below h.he hb) (Nat.le_trans hz.en (by decide)) (fun i hi => Nat.le_trans (hz.enl i hi) (by decide))
  have hints := fun W (hb : Below w.heap.size w W) => cloneInts_any u.starts x.at_ x.ct w W h.hs hb (Nat.le_trans hz.st (by decide))
  have hmaps := fun W (hb : Below w.heap.size w W) => cloneMaps_any u.maps x.am x.cm w W h.hm hb (Nat.le_trans hz.ma (by decide))
  have hmal : ∀ k, k < u.maps.length → (m_ u.maps k).length * 24 ≤ 140737488355328 := fun k hk => Nat.le_trans (hz.mal _ (m_mem hk)) (by decide)
  have hmx := Kd.C_max h.hm
  have hb0 := (below_box w (.cells (uc u x) 28)).alloc (Nat.le_of_lt (by simp)) (.cells #[Value.int .u64 0, .int .i64 0, .int .i64 0, .int .i64 0, .int .i64 0, .int .i64 0, .slice none 0 0, .slice none 0 0, .slice none 0 0, .slice none 0 0] 28)
  have n1 := blk_alloc (blk_new w (.cells (uc u x) 28)) (.cells #[Value.int .u64 0, .int .i64 0, .int .i64 0, .int .i64 0, .int .i64 0, .int .i64 0, .slice none 0 0, .slice none 0 0, .slice none 0 0, .slice none 0 0] 28)
  have n2 := blk_new (w.alloc (.cells (uc u x) 28)) (.cells #[Value.int .u64 0, .int .i64 0, .int .i64 0, .int .i64 0, .int .i64 0, .int .i64 0, .slice none 0 0, .slice none 0 0, .slice none 0 0, .slice none 0 0] 28)
  rw [World.size_alloc] at n2
  unfold uv uc at *
  obtain ⟨m, a, t, r, p, n, enter, code, starts, maps⟩ := u
  obtain ⟨ae, ce, ac, cc, ast, ct, am, cm⟩ := x
  simp only at *
  have HCODE := Lib.hid hcode
  have HENT := Lib.hid hent
  have HINTS := Lib.hid hints
  have HMAPS := Lib.hid hmaps
  have HMAL := Lib.hid hmal
  clear hcode hent hints hmaps hmal h hz
  have hml0 : (0 : Int) ≤ (maps.length : Int) := by omega
  go_enter Try.func14, Try.ntmps14
  go_upto_region 1 with fail
  refine abs_world fun W0 hW0 => ?_
  rw [← hW0] at hb0 n1 n2
  have c1 := blk_cell n1
  have c2 := blk_cell n2
  have hs0 := blk_lt n1
  have hs1 := blk_lt n2
  have N1 := Lib.hid n1
  have N2 := Lib.hid n2
  have HB0 := Lib.hid hb0
  clear hW0 n1 n2 hb0
  refine Till.start (T := Past W0) (k := 13) (by kernel_rfl) ?_ (fun hHeld => ?_)
  focus ((try dsimp only); (first | exact Past.below (by assumption) (by assumption) | exact Past.drew1 (by assumption) | exact Past.start1 _); done)
  refine Till.take (i := 0) (oi := { dst := some 4, op := Go.Op.fieldAddr 28 (Go.Operand.tmp 1) 7, type := 0, pos := "ir.go:178", after := #[], guard := none }) (v := ?_) rfl (by kernel_rfl) (fun _ _ _ h => h) (Or.inl ⟨by rfl, ?_⟩) (by assumption) ?_
  rotate_left
  focus (intro W hSw; obtain ⟨hcW, hfW, hbW⟩ := hSw; go_simp; (try with_reducible rfl); done)
  simp only [Act.put, List.setIfInBounds_toArray, List.set_cons_zero, List.set_cons_succ]
  refine Till.take (i := 1) (oi := { dst := some 5, op := Go.Op.load 24 (Go.Operand.tmp 4), type := 24, pos := "ir.go:178", after := #[{ on := 0, ground := Go.Ground.data }], guard := none }) (v := ?_) rfl (by kernel_rfl) (fun _ _ _ h => h) (Or.inl ⟨by rfl, ?_⟩) (by assumption) ?_
  rotate_left
  focus (intro W hSw; obtain ⟨hcW, hfW, hbW⟩ := hSw; go_simp; (try with_reducible rfl); done)
  simp only [Act.put, List.setIfInBounds_toArray, List.set_cons_zero, List.set_cons_succ]
  refine Till.take (i := 3) (oi := { dst := some 7, op := Go.Op.fieldAddr 28 (Go.Operand.tmp 1) 6, type := 0, pos := "ir.go:178", after := #[], guard := none }) (v := ?_) rfl (by kernel_rfl) (fun _ _ _ h => h) (Or.inl ⟨by rfl, ?_⟩) (by assumption) ?_
  rotate_left
  focus (intro W hSw; obtain ⟨hcW, hfW, hbW⟩ := hSw; go_simp; (try with_reducible rfl); done)
  simp only [Act.put, List.setIfInBounds_toArray, List.set_cons_zero, List.set_cons_succ]
  refine Till.take (i := 4) (oi := { dst := some 8, op := Go.Op.load 24 (Go.Operand.tmp 7), type := 24, pos := "ir.go:178", after := #[{ on := 3, ground := Go.Ground.data }], guard := none }) (v := ?_) rfl (by kernel_rfl) (fun _ _ _ h => h) (Or.inl ⟨by rfl, ?_⟩) (by assumption) ?_
  rotate_left
  focus (intro W hSw; obtain ⟨hcW, hfW, hbW⟩ := hSw; go_simp; (try with_reducible rfl); done)
  simp only [Act.put, List.setIfInBounds_toArray, List.set_cons_zero, List.set_cons_succ]
  refine Till.take (i := 6) (oi := { dst := some 10, op := Go.Op.fieldAddr 28 (Go.Operand.tmp 1) 8, type := 0, pos := "ir.go:178", after := #[], guard := none }) (v := ?_) rfl (by kernel_rfl) (fun _ _ _ h => h) (Or.inl ⟨by rfl, ?_⟩) (by assumption) ?_
  rotate_left
  focus (intro W hSw; obtain ⟨hcW, hfW, hbW⟩ := hSw; go_simp; (try with_reducible rfl); done)
  simp only [Act.put, List.setIfInBounds_toArray, List.set_cons_zero, List.set_cons_succ]
  refine Till.take (i := 7) (oi := { dst := some 11, op := Go.Op.load 25 (Go.Operand.tmp 10), type := 25, pos := "ir.go:178", after := #[{ on := 6, ground := Go.Ground.data }], guard := none }) (v := ?_) rfl (by kernel_rfl) (fun _ _ _ h => h) (Or.inl ⟨by rfl, ?_⟩) (by assumption) ?_
  rotate_left
  focus (intro W hSw; obtain ⟨hcW, hfW, hbW⟩ := hSw; go_simp; (try with_reducible rfl); done)
  simp only [Act.put, List.setIfInBounds_toArray, List.set_cons_zero, List.set_cons_succ]
  refine Till.take (i := 9) (oi := { dst := some 13, op := Go.Op.fieldAddr 28 (Go.Operand.tmp 1) 9, type := 0, pos := "ir.go:178", after := #[], guard := none }) (v := ?_) rfl (by kernel_rfl) (fun _ _ _ h => h) (Or.inl ⟨by rfl, ?_⟩) (by assumption) ?_
  rotate_left
  focus (intro W hSw; obtain ⟨hcW, hfW, hbW⟩ := hSw; go_simp; (try with_reducible rfl); done)
  simp only [Act.put, List.setIfInBounds_toArray, List.set_cons_zero, List.set_cons_succ]
  refine Till.take (i := 10) (oi := { dst := some 14, op := Go.Op.load 26 (Go.Operand.tmp 13), type := 26, pos := "ir.go:178", after := #[{ on := 9, ground := Go.Ground.data }], guard := none }) (v := ?_) rfl (by kernel_rfl) (fun _ _ _ h => h) (Or.inl ⟨by rfl, ?_⟩) (by assumption) ?_
  rotate_left
  focus (intro W hSw; obtain ⟨hcW, hfW, hbW⟩ := hSw; go_simp; (try with_reducible rfl); done)
  simp only [Act.put, List.setIfInBounds_toArray, List.set_cons_zero, List.set_cons_succ]
  refine Till.one (i := 2) (o := { dst := some 6, op := Go.Op.call { callee := Go.Callee.value (Go.Operand.func 32), args := #[Go.Operand.tmp 5], argTypes := #[24] }, type := 24, pos := "ir.go:178", after := #[{ on := 1, ground := Go.Ground.data }], guard := none }) (by kernel_rfl) rfl (fun K hK => ?_)
  go_simp
  (first | (go_at_call 32; (with_reducible refine (HCODE.out _ (below_then HB0.out HB0.out.size (Past.bel (by assumption : Past W0 _)))).mono ?_); rintro e w1 ⟨v1, rfl, hv1, hb1⟩; have hz1 := (below_then HB0.out HB0.out.size (Past.bel (by assumption : Past W0 _))).size; obtain ⟨A1, c1', rfl⟩ := Kd.R_slice hv1) | (go_at_call 32; (with_reducible refine (HENT.out _ (below_then HB0.out HB0.out.size (Past.bel (by assumption : Past W0 _)))).mono ?_); rintro e w2 ⟨v2, rfl, hv2, hb2⟩; have hz2 := (below_then HB0.out HB0.out.size (Past.bel (by assumption : Past W0 _))).size; obtain ⟨A2, c2', rfl⟩ := Kd.R_slice hv2))
  refine hK.out _ _ ?_ (fun hHeld => ?_)
  focus ((try dsimp only); (first | exact Past.below (by assumption) (by assumption) | exact Past.drew1 (by assumption) | exact Past.start1 _); done)
  clear hK K
  try simp only [Act.put, List.setIfInBounds_toArray, List.set_cons_zero, List.set_cons_succ]
  refine Till.take (i := 12) (oi := { dst := some 16, op := Go.Op.fieldAddr 28 (Go.Operand.tmp 1) 7, type := 0, pos := "ir.go:178", after := #[{ on := 0, ground := Go.Ground.phase }, { on := 1, ground := Go.Ground.phase }, { on := 2, ground := Go.Ground.phase }, { on := 3, ground := Go.Ground.phase }, { on := 4, ground := Go.Ground.phase }, { on := 5, ground := Go.Ground.textOnly Go.Departure.lateStoresUnsure }, { on := 6, ground := Go.Ground.phase }, { on := 7, ground := Go.Ground.phase }, { on := 8, ground := Go.Ground.textOnly Go.Departure.lateStoresUnsure }, { on := 9, ground := Go.Ground.phase }, { on := 10, ground := Go.Ground.phase }, { on := 11, ground := Go.Ground.textOnly Go.Departure.lateStoresUnsure }], guard := none }) (v := ?_) rfl (by kernel_rfl) (fun _ _ _ h => h) (Or.inl ⟨by rfl, ?_⟩) (by assumption) ?_
  rotate_left
  focus (intro W hSw; obtain ⟨hcW, hfW, hbW⟩ := hSw; go_simp; (try with_reducible rfl); done)
  simp only [Act.put, List.setIfInBounds_toArray, List.set_cons_zero, List.set_cons_succ]
  refine Till.one (i := 5) (o := { dst := some 9, op := Go.Op.call { callee := Go.Callee.value (Go.Operand.func 32), args := #[Go.Operand.tmp 8], argTypes := #[24] }, type := 24, pos := "ir.go:178", after := #[{ on := 4, ground := Go.Ground.data }, { on := 2, ground := Go.Ground.chain }], guard := none }) (by kernel_rfl) rfl (fun K hK => ?_)
  go_simp
  (first | (go_at_call 32; (with_reducible refine (HCODE.out _ (below_then HB0.out HB0.out.size (Past.bel (by assumption : Past W0 _)))).mono ?_); rintro e w1 ⟨v1, rfl, hv1, hb1⟩; have hz1 := (below_then HB0.out HB0.out.size (Past.bel (by assumption : Past W0 _))).size; obtain ⟨A1, c1', rfl⟩ := Kd.R_slice hv1) | (go_at_call 32; (with_reducible refine (HENT.out _ (below_then HB0.out HB0.out.size (Past.bel (by assumption : Past W0 _)))).mono ?_); rintro e w2 ⟨v2, rfl, hv2, hb2⟩; have hz2 := (below_then HB0.out HB0.out.size (Past.bel (by assumption : Past W0 _))).size; obtain ⟨A2, c2', rfl⟩ := Kd.R_slice hv2))
  refine hK.out _ _ ?_ (fun hHeld => ?_)
  focus ((try dsimp only); (first | exact Past.below (by assumption) (by assumption) | exact Past.drew1 (by assumption) | exact Past.start1 _); done)
  clear hK K
  try simp only [Act.put, List.setIfInBounds_toArray, List.set_cons_zero, List.set_cons_succ]
  refine Till.one (i := 8) (o := { dst := some 12, op := Go.Op.call { callee := Go.Callee.value (Go.Operand.func 33), args := #[Go.Operand.tmp 11], argTypes := #[25] }, type := 25, pos := "ir.go:178", after := #[{ on := 7, ground := Go.Ground.data }, { on := 5, ground := Go.Ground.chain }], guard := none }) (by kernel_rfl) rfl (fun K hK => ?_)
  go_simp
  (go_at_call 33; (with_reducible refine (HINTS.out _ (below_then HB0.out HB0.out.size (Past.bel (by assumption : Past W0 _)))).mono ?_); rintro e w3 ⟨v3, news3, rfl, hown3, hrep3, hb3⟩; have hz3 := (below_then HB0.out HB0.out.size (Past.bel (by assumption : Past W0 _))).size; have hv3 := ints_own hown3 hrep3; obtain ⟨A3, c3', rfl⟩ := Kd.R_slice hv3)
  refine hK.out _ _ ?_ (fun hHeld => ?_)
  focus ((try dsimp only); (first | exact Past.below (by assumption) (by assumption) | exact Past.drew1 (by assumption) | exact Past.start1 _); done)
  clear hK K
  try simp only [Act.put, List.setIfInBounds_toArray, List.set_cons_zero, List.set_cons_succ]
  refine Till.one (i := 11) (o := { dst := some 15, op := Go.Op.call { callee := Go.Callee.value (Go.Operand.func 34), args := #[Go.Operand.tmp 14], argTypes := #[26] }, type := 26, pos := "ir.go:178", after := #[{ on := 10, ground := Go.Ground.data }, { on := 8, ground := Go.Ground.chain }], guard := none }) (by kernel_rfl) rfl (fun K hK => ?_)
  go_simp
  (go_at_call 34; (with_reducible refine (HMAPS.out _ (below_then HB0.out HB0.out.size (Past.bel (by assumption : Past W0 _)))).mono ?_); rintro e w4 ⟨v4, news4, rfl, hown4, hrep4, hb4⟩; have hz4 := (below_then HB0.out HB0.out.size (Past.bel (by assumption : Past W0 _))).size; obtain ⟨A4, c4', rfl⟩ : ∃ A c, v4 = .slice A maps.length c := own_slice_of hown4)
  refine hK.out _ _ ?_ (fun hHeld => ?_)
  focus ((try dsimp only); (first | exact Past.below (by assumption) (by assumption) | exact Past.drew1 (by assumption) | exact Past.start1 _); done)
  clear hK K
  try simp only [Act.put, List.setIfInBounds_toArray, List.set_cons_zero, List.set_cons_succ]
  refine Till.late (i := 13) (o := { dst := none, op := Go.Op.store 24 (Go.Operand.tmp 16) (Go.Operand.tmp 6), type := 0, pos := "ir.go:178", after := #[{ on := 12, ground := Go.Ground.data }, { on := 2, ground := Go.Ground.data }, { on := 11, ground := Go.Ground.chain }, { on := 0, ground := Go.Ground.phase }, { on := 1, ground := Go.Ground.phase }, { on := 2, ground := Go.Ground.phase }, { on := 3, ground := Go.Ground.phase }, { on := 4, ground := Go.Ground.phase }, { on := 5, ground := Go.Ground.textOnly Go.Departure.lateStoresUnsure }, { on := 6, ground := Go.Ground.phase }, { on := 7, ground := Go.Ground.phase }, { on := 8, ground := Go.Ground.textOnly Go.Departure.lateStoresUnsure }, { on := 9, ground := Go.Ground.phase }, { on := 10, ground := Go.Ground.phase }, { on := 11, ground := Go.Ground.textOnly Go.Departure.lateStoresUnsure }], guard := none }) (by kernel_rfl) rfl (fun K hK => ?_)
  have hp4 : Past W0 w4 := by assumption
  have hx1 := hp4.cc
  have hx2 := hp4.ff
  have f1 := fun o => blk_frozen N1.out o
  go_simp
  refine hK.out _ _ ?_
  clear hK K
  try simp only [Act.put, List.setIfInBounds_toArray, List.set_cons_zero, List.set_cons_succ]
  refine Till.late (i := 14) (o := { dst := some 17, op := Go.Op.fieldAddr 28 (Go.Operand.tmp 1) 6, type := 0, pos := "ir.go:178", after := #[{ on := 0, ground := Go.Ground.phase }, { on := 1, ground := Go.Ground.phase }, { on := 2, ground := Go.Ground.phase }, { on := 3, ground := Go.Ground.phase }, { on := 4, ground := Go.Ground.phase }, { on := 5, ground := Go.Ground.phase }, { on := 6, ground := Go.Ground.phase }, { on := 7, ground := Go.Ground.phase }, { on := 8, ground := Go.Ground.textOnly Go.Departure.lateStoresUnsure }, { on := 9, ground := Go.Ground.phase }, { on := 10, ground := Go.Ground.phase }, { on := 11, ground := Go.Ground.textOnly Go.Departure.lateStoresUnsure }, { on := 12, ground := Go.Ground.phase }, { on := 13, ground := Go.Ground.phase }], guard := none }) (by kernel_rfl) rfl (fun K hK => ?_)
  go_simp
  refine hK.out _ _ ?_
  clear hK K
  try simp only [Act.put, List.setIfInBounds_toArray, List.set_cons_zero, List.set_cons_succ]
  refine Till.late (i := 15) (o := { dst := none, op := Go.Op.store 24 (Go.Operand.tmp 17) (Go.Operand.tmp 9), type := 0, pos := "ir.go:178", after := #[{ on := 14, ground := Go.Ground.data }, { on := 5, ground := Go.Ground.data }, { on := 13, ground := Go.Ground.chain }, { on := 0, ground := Go.Ground.phase }, { on := 1, ground := Go.Ground.phase }, { on := 2, ground := Go.Ground.phase }, { on := 3, ground := Go.Ground.phase }, { on := 4, ground := Go.Ground.phase }, { on := 5, ground := Go.Ground.phase }, { on := 6, ground := Go.Ground.phase }, { on := 7, ground := Go.Ground.phase }, { on := 8, ground := Go.Ground.textOnly Go.Departure.lateStoresUnsure }, { on := 9, ground := Go.Ground.phase }, { on := 10, ground := Go.Ground.phase }, { on := 11, ground := Go.Ground.textOnly Go.Departure.lateStoresUnsure }, { on := 12, ground := Go.Ground.phase }, { on := 13, ground := Go.Ground.phase }], guard := none }) (by kernel_rfl) rfl (fun K hK => ?_)
  go_simp
  refine hK.out _ _ ?_
  clear hK K
  try simp only [Act.put, List.setIfInBounds_toArray, List.set_cons_zero, List.set_cons_succ]
  refine Till.late (i := 16) (o := { dst := some 18, op := Go.Op.fieldAddr 28 (Go.Operand.tmp 1) 8, type := 0, pos := "ir.go:178", after := #[{ on := 0, ground := Go.Ground.phase }, { on := 1, ground := Go.Ground.phase }, { on := 2, ground := Go.Ground.phase }, { on := 3, ground := Go.Ground.phase }, { on := 4, ground := Go.Ground.phase }, { on := 5, ground := Go.Ground.phase }, { on := 6, ground := Go.Ground.phase }, { on := 7, ground := Go.Ground.phase }, { on := 8, ground := Go.Ground.phase }, { on := 9, ground := Go.Ground.phase }, { on := 10, ground := Go.Ground.phase }, { on := 11, ground := Go.Ground.textOnly Go.Departure.lateStoresUnsure }, { on := 12, ground := Go.Ground.phase }, { on := 13, ground := Go.Ground.phase }, { on := 14, ground := Go.Ground.phase }, { on := 15, ground := Go.Ground.phase }], guard := none }) (by kernel_rfl) rfl (fun K hK => ?_)
  go_simp
  refine hK.out _ _ ?_
  clear hK K
  try simp only [Act.put, List.setIfInBounds_toArray, List.set_cons_zero, List.set_cons_succ]
  refine Till.late (i := 17) (o := { dst := none, op := Go.Op.store 25 (Go.Operand.tmp 18) (Go.Operand.tmp 12), type := 0, pos := "ir.go:178", after := #[{ on := 16, ground := Go.Ground.data }, { on := 8, ground := Go.Ground.data }, { on := 15, ground := Go.Ground.chain }, { on := 0, ground := Go.Ground.phase }, { on := 1, ground := Go.Ground.phase }, { on := 2, ground := Go.Ground.phase }, { on := 3, ground := Go.Ground.phase }, { on := 4, ground := Go.Ground.phase }, { on := 5, ground := Go.Ground.phase }, { on := 6, ground := Go.Ground.phase }, { on := 7, ground := Go.Ground.phase }, { on := 8, ground := Go.Ground.phase }, { on := 9, ground := Go.Ground.phase }, { on := 10, ground := Go.Ground.phase }, { on := 11, ground := Go.Ground.textOnly Go.Departure.lateStoresUnsure }, { on := 12, ground := Go.Ground.phase }, { on := 13, ground := Go.Ground.phase }, { on := 14, ground := Go.Ground.phase }, { on := 15, ground := Go.Ground.phase }], guard := none }) (by kernel_rfl) rfl (fun K hK => ?_)
  go_simp
  refine hK.out _ _ ?_
  clear hK K
  try simp only [Act.put, List.setIfInBounds_toArray, List.set_cons_zero, List.set_cons_succ]
  refine Till.late (i := 18) (o := { dst := some 19, op := Go.Op.fieldAddr 28 (Go.Operand.tmp 1) 9, type := 0, pos := "ir.go:178", after := #[{ on := 0, ground := Go.Ground.phase }, { on := 1, ground := Go.Ground.phase }, { on := 2, ground := Go.Ground.phase }, { on := 3, ground := Go.Ground.phase }, { on := 4, ground := Go.Ground.phase }, { on := 5, ground := Go.Ground.phase }, { on := 6, ground := Go.Ground.phase }, { on := 7, ground := Go.Ground.phase }, { on := 8, ground := Go.Ground.phase }, { on := 9, ground := Go.Ground.phase }, { on := 10, ground := Go.Ground.phase }, { on := 11, ground := Go.Ground.phase }, { on := 12, ground := Go.Ground.phase }, { on := 13, ground := Go.Ground.phase }, { on := 14, ground := Go.Ground.phase }, { on := 15, ground := Go.Ground.phase }, { on := 16, ground := Go.Ground.phase }, { on := 17, ground := Go.Ground.phase }], guard := none }) (by kernel_rfl) rfl (fun K hK => ?_)
  go_simp
  refine hK.out _ _ ?_
  clear hK K
  try simp only [Act.put, List.setIfInBounds_toArray, List.set_cons_zero, List.set_cons_succ]
  refine Till.late (i := 19) (o := { dst := none, op := Go.Op.store 26 (Go.Operand.tmp 19) (Go.Operand.tmp 15), type := 0, pos := "ir.go:178", after := #[{ on := 18, ground := Go.Ground.data }, { on := 11, ground := Go.Ground.data }, { on := 17, ground := Go.Ground.chain }, { on := 0, ground := Go.Ground.phase }, { on := 1, ground := Go.Ground.phase }, { on := 2, ground := Go.Ground.phase }, { on := 3, ground := Go.Ground.phase }, { on := 4, ground := Go.Ground.phase }, { on := 5, ground := Go.Ground.phase }, { on := 6, ground := Go.Ground.phase }, { on := 7, ground := Go.Ground.phase }, { on := 8, ground := Go.Ground.phase }, { on := 9, ground := Go.Ground.phase }, { on := 10, ground := Go.Ground.phase }, { on := 11, ground := Go.Ground.phase }, { on := 12, ground := Go.Ground.phase }, { on := 13, ground := Go.Ground.phase }, { on := 14, ground := Go.Ground.phase }, { on := 15, ground := Go.Ground.phase }, { on := 16, ground := Go.Ground.phase }, { on := 17, ground := Go.Ground.phase }], guard := none }) (by kernel_rfl) rfl (fun K hK => ?_)
  go_simp
  refine hK.out _ _ ?_
  clear hK K
  try simp only [Act.put, List.setIfInBounds_toArray, List.set_cons_zero, List.set_cons_succ]
  refine Till.done (by kernel_rfl) ?_ _
  have q1 := Kd.R_below (Kd.R_below (Kd.R_below (Kd.R_mono (ok' := fun k => k < w1.heap.size) (Kd.R_bound (Kd.R_lower hv1 hz1)) (fun k hk => hk.2.2.1)) hb2) hb3) hb4
  have q2 := Kd.R_below (Kd.R_below (Kd.R_lower (Kd.R_mono (ok' := fun k => w1.heap.size ≤ k) (Kd.R_bound hv2) (fun k hk => hk.2.1)) hz2) hb3) hb4
  have q3 := Kd.R_below (Kd.R_lower hv3 hz3) hb4
  have q4 : OwnRow ((Kd.slice 36 k36).K w) 37 1 w4 w.heap.size (.slice A4 maps.length c4') maps := ⟨news4, own_weaken hown4 hz4, hrep4⟩
  have k0 := blk_below N1.out hp4.bel
  have j0 := blk_below N2.out hp4.bel
  have bel := below_then HB0.out HB0.out.size hp4.bel
  go_upto_block 0 with fail
  refine abs_world fun Wx hWx => ?_
  have hne : w.heap.size + 1 ≠ w.heap.size := by omega
  have box : Wx.heap[w.heap.size]? = some (.cells #[Value.int .u64 m, .int .i64 a, .int .i64 t, .int .i64 r, .int .i64 p, .int .i64 n, .slice A2 enter.length c2', .slice A1 code.length c1', .slice A3 starts.length c3', .slice A4 maps.length c4'] 28 (0, 0)) := by rw [hWx]; exact (blk_set (blk_set (blk_set (blk_set k0 7 (.slice A1 code.length c1')) 6 (.slice A2 enter.length c2')) 8 (.slice A3 starts.length c3')) 9 (.slice A4 maps.length c4')).trans rfl
  have res : Wx.heap[w.heap.size + 1]? = some (.cells #[Value.int .u64 0, .int .i64 0, .int .i64 0, .int .i64 0, .int .i64 0, .int .i64 0, .slice none 0 0, .slice none 0 0, .slice none 0 0, .slice none 0 0] 28 (0, 0)) := by rw [hWx]; exact blk_far (p := ⟨w.heap.size, 9, none⟩) (blk_far (p := ⟨w.heap.size, 8, none⟩) (blk_far (p := ⟨w.heap.size, 6, none⟩) (blk_far (p := ⟨w.heap.size, 7, none⟩) j0 hne _) hne _) hne _) hne _
  have hmid : Mid (⟨m, a, t, r, p, n, enter, code, starts, maps⟩ : U) ⟨A2, c2', A1, c1', A3, c3', A4, c4'⟩ w1.heap.size w.heap.size #[Value.int .u64 m, .int .i64 a, .int .i64 t, .int .i64 r, .int .i64 p, .int .i64 n, .slice A2 enter.length c2', .slice A1 code.length c1', .slice A3 starts.length c3', .slice A4 maps.length c4'] #[Value.int .u64 0, .int .i64 0, .int .i64 0, .int .i64 0, .int .i64 0, .int .i64 0, .slice none 0 0, .slice none 0 0, .slice none 0 0, .slice none 0 0] w 0 Wx := by
    refine Mid.start box res ?_ ?_ ?_ ?_ ?_
    · rw [hWx]; exact sets_R k0 (by decide) q2 7 6 8 9 _ _ _ _
    · rw [hWx]; exact sets_R k0 (by decide) q1 7 6 8 9 _ _ _ _
    · rw [hWx]; exact sets_R k0 (by decide) q3 7 6 8 9 _ _ _ _
    · rw [hWx]; exact sets_own k0 (by decide) q4 7 6 8 9 _ _ _ _
    · rw [hWx]; exact (((bel.setCell (Nat.le_refl _) _).setCell (Nat.le_refl _) _).setCell (Nat.le_refl _) _).setCell (Nat.le_refl _) _
  have HMID := Lib.hid hmid
  clear hWx box res hmid q1 q2 q3 q4 k0 j0 bel hv1 hv2 hv3 hown3 hown4 hrep3 hrep4 hx1 hx2 f1 hp4 hb1 hb2 hb3 hb4 c1 c2 N1 N2 hHeld hs0 hs1
  go_wp2_with fail
  go_loopw [23] (fun i wr => ∃ k : Nat, i = .int .i64 k ∧ Mid (⟨m, a, t, r, p, n, enter, code, starts, maps⟩ : U) ⟨A2, c2', A1, c1', A3, c3', A4, c4'⟩ w1.heap.size w.heap.size #[Value.int .u64 m, .int .i64 a, .int .i64 t, .int .i64 r, .int .i64 p, .int .i64 n, .slice A2 enter.length c2', .slice A1 code.length c1', .slice A3 starts.length c3', .slice A4 maps.length c4'] #[Value.int .u64 0, .int .i64 0, .int .i64 0, .int .i64 0, .int .i64 0, .int .i64 0, .slice none 0 0, .slice none 0 0, .slice none 0 0, .slice none 0 0] w k wr) (fun i _ => maps.length - (intOf i).toNat)
  case atStart => exact ⟨0, rfl, HMID.out⟩
  case round =>
    clear HMID
    obtain ⟨k, rfl, hmid⟩ := hrel
    have hkl : k ≤ maps.length := hmid.le
    have hk0 : (0 : Int) ≤ (k : Int) := by omega
    have HM := Lib.hid hmid
    have hblk := blk_cell hmid.box
    have hbs := blk_lt hmid.box
    have hbel := hmid.bel.size
    by_cases hlt : k < maps.length
    · have hk1 : (k : Int) < (maps.length : Int) := by omega
      rcases hmid.ma with ⟨h0, _⟩ | ⟨g, hA, hg, hn, hm, hd⟩
      · have h0' : maps = [] := h0
        rw [h0'] at hlt
        simp at hlt
      · simp only at hA
        subst hA
        obtain ⟨cu, r1, r2, r3, r4⟩ := hd.row
        obtain ⟨A5, c5, q5, hC⟩ := r4 k (Nat.le_refl _) hlt
        have e5 := (blk_cell r1 k).trans q5
        have hgs := blk_lt r1
        have hfr : ∀ o, wr.frozen? ⟨g, o, none⟩ = false := fun o => blk_frozen r1 o
        have hcall := fun W (hb : Below wr.heap.size wr W) => clone36_any (m_ maps k) A5 c5 W (Kd.C_below (Kd.C_below hC hmid.bel) hb) (HMAL.out k hlt)
        have hnx := fun v W' (hb : Below wr.heap.size wr W') hv => HM.out.next (v := v) (W' := W') hlt rfl hb hv
        have HCALL := Lib.hid hcall
        have HNX := Lib.hid hnx
        clear hcall hnx hmid hd r1 r2 r3 r4 q5 hC hn hm
        change wr.cell? ⟨g, k, none⟩ = some (.slice A5 (m_ maps k).length c5) at e5
        generalize m_ maps k = lm at *
        go_upto_region 5 with fail
        refine Till.start (T := Past wr) (k := 10) (by kernel_rfl) ?_ (fun hHeld => ?_)
        focus ((try dsimp only); (first | exact Past.below (by assumption) (by assumption) | exact Past.drew1 (by assumption) | exact Past.start1 _); done)
        refine Till.take (i := 0) (oi := { dst := some 26, op := Go.Op.fieldAddr 28 (Go.Operand.tmp 1) 9, type := 0, pos := "ir.go:180", after := #[], guard := none }) (v := ?_) rfl (by kernel_rfl) (fun _ _ _ h => h) (Or.inl ⟨by rfl, ?_⟩) (by assumption) ?_
        rotate_left
        focus (intro W hSw; obtain ⟨hcW, hfW, hbW⟩ := hSw; go_simp; (try with_reducible rfl); done)
        simp only [Act.put, List.setIfInBounds_toArray, List.set_cons_zero, List.set_cons_succ]
        refine Till.take (i := 1) (oi := { dst := some 27, op := Go.Op.load 26 (Go.Operand.tmp 26), type := 26, pos := "ir.go:180", after := #[{ on := 0, ground := Go.Ground.data }], guard := none }) (v := ?_) rfl (by kernel_rfl) (fun _ _ _ h => h) (Or.inl ⟨by rfl, ?_⟩) (by assumption) ?_
        rotate_left
        focus (intro W hSw; obtain ⟨hcW, hfW, hbW⟩ := hSw; go_simp; (try with_reducible rfl); done)
        simp only [Act.put, List.setIfInBounds_toArray, List.set_cons_zero, List.set_cons_succ]
        refine Till.take (i := 2) (oi := { dst := some 28, op := Go.Op.move (Go.Operand.tmp 3), type := 3, pos := "ir.go:180", after := #[], guard := none }) (v := ?_) rfl (by kernel_rfl) (fun _ _ _ h => h) (Or.inl ⟨by rfl, ?_⟩) (by assumption) ?_
        rotate_left
        focus (intro W hSw; obtain ⟨hcW, hfW, hbW⟩ := hSw; go_simp; (try with_reducible rfl); done)
        simp only [Act.put, List.setIfInBounds_toArray, List.set_cons_zero, List.set_cons_succ]
        refine Till.take (i := 3) (oi := { dst := some 29, op := Go.Op.fieldAddr 28 (Go.Operand.tmp 1) 9, type := 0, pos := "ir.go:180", after := #[], guard := none }) (v := ?_) rfl (by kernel_rfl) (fun _ _ _ h => h) (Or.inl ⟨by rfl, ?_⟩) (by assumption) ?_
        rotate_left
        focus (intro W hSw; obtain ⟨hcW, hfW, hbW⟩ := hSw; go_simp; (try with_reducible rfl); done)
        simp only [Act.put, List.setIfInBounds_toArray, List.set_cons_zero, List.set_cons_succ]
        refine Till.take (i := 4) (oi := { dst := some 30, op := Go.Op.load 26 (Go.Operand.tmp 29), type := 26, pos := "ir.go:180", after := #[{ on := 3, ground := Go.Ground.data }], guard := none }) (v := ?_) rfl (by kernel_rfl) (fun _ _ _ h => h) (Or.inl ⟨by rfl, ?_⟩) (by assumption) ?_
        rotate_left
        focus (intro W hSw; obtain ⟨hcW, hfW, hbW⟩ := hSw; go_simp; (try with_reducible rfl); done)
        simp only [Act.put, List.setIfInBounds_toArray, List.set_cons_zero, List.set_cons_succ]
        refine Till.take (i := 5) (oi := { dst := some 31, op := Go.Op.move (Go.Operand.tmp 3), type := 3, pos := "ir.go:180", after := #[], guard := none }) (v := ?_) rfl (by kernel_rfl) (fun _ _ _ h => h) (Or.inl ⟨by rfl, ?_⟩) (by assumption) ?_
        rotate_left
        focus (intro W hSw; obtain ⟨hcW, hfW, hbW⟩ := hSw; go_simp; (try with_reducible rfl); done)
        simp only [Act.put, List.setIfInBounds_toArray, List.set_cons_zero, List.set_cons_succ]
        refine Till.take (i := 6) (oi := { dst := some 32, op := Go.Op.indexAddr 26 (Go.Operand.tmp 30) (Go.Operand.tmp 31), type := 0, pos := "ir.go:180", after := #[{ on := 4, ground := Go.Ground.data }, { on := 5, ground := Go.Ground.data }], guard := none }) (v := ?_) rfl (by kernel_rfl) (fun _ _ _ h => h) (Or.inl ⟨by rfl, ?_⟩) (by assumption) ?_
        rotate_left
        focus (intro W hSw; obtain ⟨hcW, hfW, hbW⟩ := hSw; go_simp; (try with_reducible rfl); done)
        simp only [Act.put, List.setIfInBounds_toArray, List.set_cons_zero, List.set_cons_succ]
        refine Till.take (i := 7) (oi := { dst := some 33, op := Go.Op.load 37 (Go.Operand.tmp 32), type := 37, pos := "ir.go:180", after := #[{ on := 6, ground := Go.Ground.data }], guard := none }) (v := ?_) rfl (by kernel_rfl) (fun _ _ _ h => h) (Or.inl ⟨by rfl, ?_⟩) (by assumption) ?_
        rotate_left
        focus (intro W hSw; obtain ⟨hcW, hfW, hbW⟩ := hSw; go_simp; (try with_reducible rfl); done)
        simp only [Act.put, List.setIfInBounds_toArray, List.set_cons_zero, List.set_cons_succ]
        refine Till.one (i := 8) (o := { dst := some 34, op := Go.Op.call { callee := Go.Callee.value (Go.Operand.func 35), args := #[Go.Operand.tmp 33], argTypes := #[37] }, type := 37, pos := "ir.go:180", after := #[{ on := 7, ground := Go.Ground.data }], guard := none }) (by kernel_rfl) rfl (fun K hK => ?_)
        go_simp
        (go_at_call 35; (with_reducible refine (HCALL.out _ (Past.bel (by assumption : Past wr _))).mono ?_); rintro e w9 ⟨v9, rfl, hv9, hb9⟩; obtain ⟨A9, c9, rfl⟩ := Kd.R_slice hv9)
        refine hK.out _ _ ?_ (fun hHeld => ?_)
        focus ((try dsimp only); (first | exact Past.below (by assumption) (by assumption) | exact Past.drew1 (by assumption) | exact Past.start1 _); done)
        clear hK K
        try simp only [Act.put, List.setIfInBounds_toArray, List.set_cons_zero, List.set_cons_succ]
        refine Till.take (i := 9) (oi := { dst := some 35, op := Go.Op.indexAddr 26 (Go.Operand.tmp 27) (Go.Operand.tmp 28), type := 0, pos := "ir.go:180", after := #[{ on := 1, ground := Go.Ground.data }, { on := 2, ground := Go.Ground.data }, { on := 0, ground := Go.Ground.phase }, { on := 1, ground := Go.Ground.phase }, { on := 2, ground := Go.Ground.phase }, { on := 3, ground := Go.Ground.phase }, { on := 4, ground := Go.Ground.phase }, { on := 5, ground := Go.Ground.phase }, { on := 6, ground := Go.Ground.phase }, { on := 7, ground := Go.Ground.phase }, { on := 8, ground := Go.Ground.phase }], guard := none }) (v := ?_) rfl (by kernel_rfl) (fun _ _ _ h => h) (Or.inl ⟨by rfl, ?_⟩) (by assumption) ?_
        rotate_left
        focus (intro W hSw; obtain ⟨hcW, hfW, hbW⟩ := hSw; go_simp; (try with_reducible rfl); done)
        simp only [Act.put, List.setIfInBounds_toArray, List.set_cons_zero, List.set_cons_succ]
        refine Till.late (i := 10) (o := { dst := none, op := Go.Op.store 37 (Go.Operand.tmp 35) (Go.Operand.tmp 34), type := 0, pos := "ir.go:180", after := #[{ on := 9, ground := Go.Ground.data }, { on := 8, ground := Go.Ground.data }, { on := 8, ground := Go.Ground.chain }, { on := 0, ground := Go.Ground.phase }, { on := 1, ground := Go.Ground.phase }, { on := 2, ground := Go.Ground.phase }, { on := 3, ground := Go.Ground.phase }, { on := 4, ground := Go.Ground.phase }, { on := 5, ground := Go.Ground.phase }, { on := 6, ground := Go.Ground.phase }, { on := 7, ground := Go.Ground.phase }, { on := 8, ground := Go.Ground.phase }], guard := none }) (by kernel_rfl) rfl (fun K hK => ?_)
        have hp9 : Past wr w9 := by assumption
        have hx1 := hp9.cc
        have hx2 := hp9.ff
        have hz9 : wr.heap.size ≤ wr.drew.heap.size := Nat.le_refl _
        go_simp
        refine hK.out _ _ ?_
        clear hK K
        try simp only [Act.put, List.setIfInBounds_toArray, List.set_cons_zero, List.set_cons_succ]
        refine Till.done (by kernel_rfl) ?_ _
        go_wp2
        go_roundw
        case rel => exact ⟨k + 1, by go_num, HNX.out _ _ hp9.bel (Kd.R_lower hv9 hz9)⟩
        case measure => simp [intOf]; omega
    · have hk1 : ¬ (k : Int) < (maps.length : Int) := by omega
      have hfin := fun cs2 => (show Mid (⟨m, a, t, r, p, n, enter, code, starts, maps⟩ : U) ⟨A2, c2', A1, c1', A3, c3', A4, c4'⟩ w1.heap.size w.heap.size #[Value.int .u64 m, .int .i64 a, .int .i64 t, .int .i64 r, .int .i64 p, .int .i64 n, .slice A2 enter.length c2', .slice A1 code.length c1', .slice A3 starts.length c3', .slice A4 maps.length c4'] #[Value.int .u64 0, .int .i64 0, .int .i64 0, .int .i64 0, .int .i64 0, .int .i64 0, .slice none 0 0, .slice none 0 0, .slice none 0 0, .slice none 0 0] w maps.length wr from by have := HM.out; rwa [show k = maps.length by omega] at this).out (by omega) cs2
      have hbox := hmid.box
      have hres := hmid.res
      have HBOX := Lib.hid hbox
      have HRES := Lib.hid hres
      have HFIN := Lib.hid hfin
      clear hbox hres hfin hmid HM hblk
      have hsz28 : (Try.prog.info? 28).map (·.size) = some 10 := by kernel_rfl
      have HSZ := Lib.hid hsz28
      clear hsz28
      go_upto_region 7 with fail
      go_wp2_with (first | (refine wpList_load_row rfl 28 _ rfl w.heap.size rfl 28 #[Value.int .u64 m, .int .i64 a, .int .i64 t, .int .i64 r, .int .i64 p, .int .i64 n, .slice A2 enter.length c2', .slice A1 code.length c1', .slice A3 starts.length c3', .slice A4 maps.length c4'] (0, 0) _ HBOX.out Try.underlying28 rfl HSZ.out ?_) | (refine wpList_store_row rfl 28 (.tmp 2) (.tmp 37) rfl (w.heap.size + 1) #[Value.int .u64 m, .int .i64 a, .int .i64 t, .int .i64 r, .int .i64 p, .int .i64 n, .slice A2 enter.length c2', .slice A1 code.length c1', .slice A3 starts.length c3', .slice A4 maps.length c4'] rfl rfl 28 #[Value.int .u64 0, .int .i64 0, .int .i64 0, .int .i64 0, .int .i64 0, .int .i64 0, .slice none 0 0, .slice none 0 0, .slice none 0 0, .slice none 0 0] HRES.out HSZ.out (by kernel_rfl) (by kernel_rfl) ?_))
      refine bodyPost_ret (v := .agg #[Value.int .u64 m, .int .i64 a, .int .i64 t, .int .i64 r, .int .i64 p, .int .i64 n, .slice A2 enter.length c2', .slice A1 code.length c1', .slice A3 starts.length c3', .slice A4 maps.length c4']) (results_cell_row rfl _ _ (w.heap.size + 1) 28 #[Value.int .u64 m, .int .i64 a, .int .i64 t, .int .i64 r, .int .i64 p, .int .i64 n, .slice A2 enter.length c2', .slice A1 code.length c1', .slice A3 starts.length c3', .slice A4 maps.length c4'] (0, 0) _ rfl (setRow_heap _ _ _ _ _ _ HRES.out) Try.underlying28 rfl HSZ.out) rfl ?_
      exact ⟨⟨A2, c2', A1, c1', A3, c3', A4, c4'⟩, w1.heap.size, rfl, (HFIN.out _).1, (HFIN.out _).2⟩
end Go.Proofs.Ytkhgbnnhgdcmoaa.IR
