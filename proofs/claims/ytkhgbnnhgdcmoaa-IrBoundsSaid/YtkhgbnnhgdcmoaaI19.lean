/-
  Walks of layer 11 (ir), part I19: what these functions of the program answer and what becomes of memory, for any values. No conditions beyond those that each theorem names.
-/
import Derived.Test.YtkhgbnnhgdcmoaaI18
namespace Go.Proofs.Ytkhgbnnhgdcmoaa.IR
open Go.RowKit Go.Proofs.YtkhgbnnhgdcmoaaW.PrintWords Go.Proofs.YtkhgbnnhgdcmoaaW.PrintLast Go.Proofs.YtkhgbnnhgdcmoaaW.PrintMore Go.Proofs.Ytkhgbnnhgdcmoaa.QIr

theorem C_cell3 {l : List S36} {w : World} {g : Nat} {c : Array Value} (hg : w.heap[g]? = some (.cells c 36 (0, 0))) (hl : k36.C w (some ⟨g, 0, none⟩) l.length l) : ∀ k, k < l.length → Cell3 c k (s_ l k) := by
  intro k hk
  obtain ⟨b, o, hA, _, hc⟩ := src_cell hl (by omega)
  cases hA
  obtain ⟨e0, e1, e2⟩ := hc k hk
  rw [Nat.zero_add] at e0 e1 e2
  rw [blk_cell hg] at e0 e1 e2
  exact ⟨e0, e1, e2⟩
theorem cell3_C {l : List S36} {w : World} {g : Nat} {c : Array Value} (hg : w.heap[g]? = some (.cells c 36 (0, 0))) (hmax : l.length ≤ 9223372036854775807) (h : ∀ k, k < l.length → Cell3 c k (s_ l k)) : k36.C w (some ⟨g, 0, none⟩) l.length l := by
  refine C_block hg hmax fun j p hj => ?_
  have hjl : j < l.length := (List.getElem?_eq_some_iff.1 hj).1
  have hp : s_ l j = p := by unfold s_; rw [List.getD_eq_getElem?_getD, hj]; rfl
  obtain ⟨e0, e1, e2⟩ := h j hjl
  rw [hp] at e0 e1 e2
  refine ⟨_, rfl, k36_mk w p, fun i u hu => ?_⟩
  change c[j * 3 + i]? = some u
  match i, hu with
  | 0, hu => cases hu; exact e0
  | 1, hu => cases hu; exact e1
  | 2, hu => cases hu; exact e2
  | i + 3, hu => simp at hu

set_option maxHeartbeats 1000000 in
set_option maxRecDepth 100000 in
theorem delete_nil (w : World) : Calls Try.prog 37 #[.slice none 0 0, .func (Fn.func 38) #[] #[]] w (Ans (.slice none 0 0) w) := by
  have hix := index38_any [] none 0 w (C_nil _ _ _) (by simp)
  change Calls Try.prog 49 #[.slice none 0 0, .func (Fn.func 38) #[] #[]] w (Ans (.int .i64 (-1)) w) at hix
  have HIX := Lib.hid hix
  clear hix
  go_enter Try.func37, Try.ntmps37
  go_wp2_with ((with_reducible refine HIX.out.mono ?_); rintro e w1 ⟨rfl, hb1⟩)
  go_ret
  exact ⟨rfl, hb1⟩

/-- a row of the call's own, out of its block -/
theorem cell3_R {l : List S36} {w : World} {g cap base : Nat} {c : Array Value} (hg : w.heap[g]? = some (.cells c 36 (0, 0))) (hsz : c.size = cap * 3) (hcap : cap ≤ 9223372036854775807) (hn : l.length ≤ cap) (hbase : base ≤ g) (h : ∀ k, k < l.length → Cell3 c k (s_ l k)) : Kd.R k36 36 w base (fun _ => True) (.slice (some ⟨g, 0, none⟩) l.length cap) l := by
  have hlen : (c.toList.take (l.length * 3)).length = l.length * 3 := by have hz : c.toList.length = c.size := Array.length_toList; rw [List.length_take, hz]; omega
  refine ⟨fun _ _ => trivial, c.toList.take (l.length * 3), ⟨hlen, .inr ⟨g, cap, c, rfl, hbase, hg, hn, by unfold maxLen; omega, hsz, rfl⟩⟩, hlen, fun j p hj => ?_⟩
  have hjl : j < l.length := (List.getElem?_eq_some_iff.1 hj).1
  have hp : s_ l j = p := by unfold s_; rw [List.getD_eq_getElem?_getD, hj]; rfl
  obtain ⟨e0, e1, e2⟩ := h j hjl
  rw [hp] at e0 e1 e2
  have hcs : ((c.toList.take (l.length * 3)).drop (j * k36.sz)).take k36.sz = [.int .i64 p.f0, .int .i64 p.f1, .int .u64 p.f2] := by
    change ((c.toList.take (l.length * 3)).drop (j * 3)).take 3 = _
    apply List.ext_getElem?
    intro i
    rw [List.getElem?_take, List.getElem?_drop, List.getElem?_take]
    match i with
    | 0 => rw [if_pos (by omega), if_pos (by omega), Array.getElem?_toList]; exact e0
    | 1 => rw [if_pos (by omega), if_pos (by omega), Array.getElem?_toList]; exact e1
    | 2 => rw [if_pos (by omega), if_pos (by omega), Array.getElem?_toList]; exact e2
    | i + 3 => rw [if_neg (by omega)]; simp
  rw [hcs]
  exact k36_mkM _ _ _ p
/-- a row that is read -/
def RowOf (l : List S36) (w : World) (e : Ending) (w' : World) : Prop := ∃ A c, e = .returned (.slice A l.length c) ∧ k36.C w' A l.length l ∧ l.length ≤ c ∧ Below w.heap.size w w'
/-- a row of the call's own -/
def RowR (l : List S36) (w : World) (e : Ending) (w' : World) : Prop := ∃ v, e = .returned v ∧ Kd.R k36 36 w' w.heap.size (fun _ => True) v l ∧ Below w.heap.size w w'
theorem RowR.row {l : List S36} {w : World} {e : Ending} {w' : World} (h : RowR l w e w') : RowOf l w e w' := by
  obtain ⟨v, rfl, hv, hb⟩ := h
  obtain ⟨A, c, rfl, hle, hC⟩ := Kd.R_reads hv
  exact ⟨A, c, rfl, hC, hle, hb⟩
theorem delete_row (l : List S36) (v : Value) (base : Nat) (w : World) (h : Kd.R k36 36 w base (fun _ => True) v l) (w0 : World) (hb : Below base w0 w) (hbs : base = w0.heap.size) : Calls Try.prog 37 #[v, .func (Fn.func 38) #[] #[]] w (RowR (l.filter placeB) w0) := by
  obtain ⟨A, c0, hv, hlc, hC⟩ := Kd.R_reads h
  obtain ⟨inner, hlen, how⟩ := Kd.R_own h
  rcases how with ⟨rfl, h0⟩ | ⟨g, cap, cur, hve, hbg, hg, hn, hcap, hcs, htk⟩
  · obtain rfl : l = [] := List.length_eq_zero_iff.1 h0
    refine (delete_nil w).mono ?_
    rintro e w1 ⟨rfl, hb1⟩
    refine ⟨_, rfl, Kd.R_nil _ _ _ _ _, ?_⟩
    subst hbs
    exact below_then hb hb.size hb1
  · rw [hve] at hv
    cases hv
    subst hve
    unfold maxLen at hcap
    refine (delete_any l g c0 base cur w hg (C_cell3 hg hC) hcs hn (by omega) hbg hC).mono ?_
    rintro e w1 ⟨cap1, hle1, rfl, hb1, c1, hg1, ⟨hs1, hm1⟩, hc1⟩
    subst hbs
    exact ⟨_, rfl, cell3_R hg1 hs1 hm1 hle1 hbg hc1, hb.trans hb1⟩
set_option maxHeartbeats 2000000 in
set_option maxRecDepth 100000 in
theorem readsR_any (i : S39) (A : Option Addr) (c : Nat) (w : World) (hl : k36.C w A i.f3.length i.f3) (hsz : i.f3.length * 24 ≤ 140737488355328) : Calls Try.prog 23 #[iv i A c] w (RowR (i.f3.filter placeB) w) := by
  obtain ⟨op, nn, ⟨dk, dn, dw⟩, l, q⟩ := i
  simp only at *
  have hbx := below_box w (.cells (ic ⟨op, nn, ⟨dk, dn, dw⟩, l, q⟩ A c) 39)
  have hcl := clone36_any l A c (w.alloc (.cells (ic ⟨op, nn, ⟨dk, dn, dw⟩, l, q⟩ A c) 39)) (Kd.C_below hl hbx) hsz
  have hdel := fun v w1 => delete_row l v (w.alloc (.cells (ic ⟨op, nn, ⟨dk, dn, dw⟩, l, q⟩ A c) 39)).heap.size w1
  unfold ic at hcl hdel hbx
  unfold iv
  have HCL := Lib.hid hcl
  have HDEL := Lib.hid hdel
  have HBX := Lib.hid hbx
  clear hcl hdel hl hsz hbx
  generalize hfl : l.filter placeB = fl at *
  go_enter Try.func23, Try.ntmps23
  go_wp2_with ((with_reducible refine HCL.out.mono ?_); rintro e w1 ⟨v, rfl, hv, hb1⟩)
  refine (HDEL.out v w1 hv _ hb1 rfl).mono ?_
  rintro e w2 ⟨v2, rfl, hv2, hb2⟩
  go_wp2
  go_ret
  exact ⟨v2, rfl, Kd.R_lower hv2 HBX.out.size, below_then HBX.out HBX.out.size hb2⟩
theorem reads_any (i : S39) (A : Option Addr) (c : Nat) (w : World) (hl : k36.C w A i.f3.length i.f3) (hsz : i.f3.length * 24 ≤ 140737488355328) : Calls Try.prog 23 #[iv i A c] w (RowOf (i.f3.filter placeB) w) := (readsR_any i A c w hl hsz).mono fun _ _ h => h.row
end Go.Proofs.Ytkhgbnnhgdcmoaa.IR
