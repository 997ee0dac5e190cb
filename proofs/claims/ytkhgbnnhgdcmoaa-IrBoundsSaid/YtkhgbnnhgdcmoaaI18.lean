/-
  Walks of layer 11 (ir), part I18: what these functions of the program answer and what becomes of memory, for any values. No conditions beyond those that each theorem names.
-/
import Derived.Test.YtkhgbnnhgdcmoaaI17
import Derived.Laws.CopyRow
namespace Go.Proofs.Ytkhgbnnhgdcmoaa.IR
open Go.RowKit Go.Proofs.YtkhgbnnhgdcmoaaW.PrintWords Go.Proofs.YtkhgbnnhgdcmoaaW.PrintLast Go.Proofs.YtkhgbnnhgdcmoaaW.PrintMore Go.Proofs.Ytkhgbnnhgdcmoaa.QIr

set_option maxHeartbeats 1000000 in
set_option maxRecDepth 100000 in
theorem drop_any (s : S36) (w : World) : Calls Try.prog 38 #[.agg #[.int .i64 s.f0, .int .i64 s.f1, .int .u64 s.f2]] w (Ans (.bool (!placeB s)) w) := by
  have hp := fun W => place_any s W
  unfold sv at hp
  obtain ⟨k, n, x⟩ := s
  simp only at *
  generalize placeB ⟨k, n, x⟩ = b at *
  have HP := Lib.hid hp
  clear hp
  go_enter Try.func38, Try.ntmps38
  go_wp2_with (go_at_call 20; (with_reducible refine (HP.out _).mono ?_); rintro e w1 ⟨rfl, hb1⟩)
  go_ret
  exact ⟨rfl, below_then (below_box w _) (by simp) hb1⟩

set_option maxHeartbeats 2000000 in
set_option maxRecDepth 100000 in
theorem index38_any (l : List S36) (A : Option Addr) (c : Nat) (w : World) (hl : Kd.C k36 w A l.length l) (hmax : l.length ≤ 9223372036854775807) :
    Calls Try.prog 49 #[.slice A l.length c, .func (Fn.func 38) #[] #[]] w (Ans (.int .i64 (firstB (fun s => !placeB s) l)) w) := by
  obtain ⟨p, hp⟩ : ∃ p : S36 → Bool, p = fun s => !placeB s := ⟨_, rfl⟩
  have hf : ∀ (s : S36) (W : World), Calls Try.prog 38 #[.agg #[.int .i64 s.f0, .int .i64 s.f1, .int .u64 s.f2]] W (Ans (.bool (p s)) W) := by
    intro s W; rw [hp]; exact drop_any s W
  have h2' := @firstB_none p l
  rw [← hp]
  clear hp
  have HF := Lib.hid hf
  have HL := Lib.hid hl
  clear hf hl
  obtain ⟨n, hn⟩ : ∃ n, n = l.length := ⟨_, rfl⟩
  rw [← hn] at hmax ⊢
  have HN := Lib.hid hn
  clear hn
  go_enter Try.func49, Try.ntmps49
  go_wp2
  go_loopw [8] (fun i wr => ∃ k : Nat, k ≤ n ∧ i = .int .i64 k ∧ (∀ j, j < k → p (l.getD j z36) = false) ∧ Below w.heap.size w wr) (fun i _ => n - (intOf i).toNat)
  case atStart => exact ⟨0, by omega, rfl, fun j hj => by omega, Below.refl _ _⟩
  case round =>
    obtain ⟨k, hk, rfl, hno, hbw⟩ := hrel
    have HNO := Lib.hid hno
    clear hno
    by_cases hlt : k < n
    · have hk0 : (0 : Int) ≤ (k : Int) := by omega
      have hkn : (k : Int) < (n : Int) := by omega
      obtain ⟨ad, hA, c0, c1, c2⟩ := at_T36 (Kd.C_below HL.out hbw) (k : Int) hk0 (by rw [← HN.out]; exact hkn)
      simp only [Int.toNat_natCast] at c0 c1 c2
      have hs : rd_T36 l (k : Int) = l.getD k z36 := by unfold rd_T36; rw [Int.toNat_natCast]
      rw [hs] at c0 c1 c2
      clear hs
      subst hA
      have hcall := HF.out (l.getD k z36) wr
      have hb1 := @firstB_at p l k (by rw [← HN.out]; exact hlt)
      have HC := Lib.hid hcall
      have HB1 := Lib.hid hb1
      clear hcall hb1
      generalize hps : l.getD k z36 = s at *
      have HPS := Lib.hid hps
      clear hps
      cases hpv : p s with
      | true =>
        rw [hpv] at HC HB1
        have HV := Lib.hid (HB1.out rfl HNO.out)
        clear hpv
        go_wp2_with fail
        refine HC.out.mono ?_
        rintro e w1 ⟨rfl, hb⟩
        go_wp2
        go_ret
        refine ⟨?_, below_then hbw hbw.size hb⟩
        rw [HV.out]; rfl
      | false =>
        rw [hpv] at HC
        have HV := Lib.hid hpv
        clear hpv
        go_wp2_with fail
        refine HC.out.mono ?_
        rintro e w1 ⟨rfl, hb⟩
        go_wp2
        go_roundw
        case rel =>
          refine ⟨k + 1, by omega, by go_num, fun j hj => ?_, below_then hbw hbw.size hb⟩
          by_cases e : j = k
          · rw [e, HPS.out, HV.out]
          · exact HNO.out j (by omega)
        case measure => simp [intOf]; omega
    · have hkn : ¬ (k : Int) < (n : Int) := by omega
      have hkk : k = n := by omega
      have hv : firstB p l = -1 := h2' fun j hj => HNO.out j (by rw [hkk, HN.out]; exact hj)
      have HV := Lib.hid hv
      clear hv hkk
      go_wp2
      go_ret
      refine ⟨?_, hbw⟩
      rw [HV.out]; rfl

/-- element k of a block of sources -/
def Cell3 (cs : Array Value) (k : Nat) (s : S36) : Prop := cs[k * 3]? = some (.int .i64 s.f0) ∧ cs[k * 3 + 1]? = some (.int .i64 s.f1) ∧ cs[k * 3 + 2]? = some (.int .u64 s.f2)
def Kept (l : List S36) (k : Nat) : List S36 := (l.take k).filter placeB
theorem kept_succ {l : List S36} {k : Nat} (h : k < l.length) : Kept l (k + 1) = Kept l k ++ (if placeB (s_ l k) = true then [s_ l k] else []) := by
  unfold Kept s_
  rw [List.take_succ_eq_append_getElem h, List.filter_append, List.getD_eq_getElem?_getD, List.getElem?_eq_getElem h]
  simp [List.filter_cons]
theorem kept_le (l : List S36) (k : Nat) : (Kept l k).length ≤ k := Nat.le_trans (List.length_filter_le _ _) (List.length_take_le _ _)
theorem s_append_left {a b : List S36} {k : Nat} (h : k < a.length) : s_ (a ++ b) k = s_ a k := by
  unfold s_
  rw [List.getD_eq_getElem?_getD, List.getD_eq_getElem?_getD, List.getElem?_append_left h]
theorem s_append_last {a : List S36} {x : S36} : s_ (a ++ [x]) a.length = x := by
  unfold s_
  rw [List.getD_eq_getElem?_getD, List.getElem?_append_right (Nat.le_refl _), Nat.sub_self]; rfl
/-- behind jj elements: the first ii are those that stay, the others as they were -/
structure Del (l : List S36) (g size base : Nat) (w : World) (ii jj : Nat) (wr : World) : Prop where
  lt : ii < jj
  le : jj ≤ l.length
  len : (Kept l jj).length = ii
  row : ∃ c : Array Value, wr.heap[g]? = some (.cells c 36 (0, 0)) ∧ c.size = size ∧ (∀ k, k < ii → Cell3 c k (s_ (Kept l jj) k)) ∧ (∀ k, jj ≤ k → k < l.length → Cell3 c k (s_ l k))
  bel : Below base w wr
theorem Del.skip {l : List S36} {g size base ii jj : Nat} {w wr W : World} (h : Del l g size base w ii jj wr) (hlt : jj < l.length) (hp : placeB (s_ l jj) = false) (hb : Below wr.heap.size wr W) (hbase : base ≤ wr.heap.size) : Del l g size base w ii (jj + 1) W := by
  obtain ⟨c, h1, h2, h3, h4⟩ := h.row
  have hk : Kept l (jj + 1) = Kept l jj := by rw [kept_succ hlt, hp]; simp
  exact ⟨Nat.lt_succ_of_lt h.lt, hlt, by rw [hk]; exact h.len, ⟨c, blk_below h1 hb, h2, fun k hk2 => by rw [hk]; exact h3 k hk2, fun k h5 h6 => h4 k (by omega) h6⟩, below_then h.bel hbase hb⟩
theorem cell3_set {c : Array Value} {i k : Nat} {s t : S36} (hi : i * 3 + 2 < c.size) (h : k ≠ i → Cell3 c k t) :
    Cell3 (((c.setIfInBounds (i * 3) (.int .i64 s.f0)).setIfInBounds (i * 3 + 1) (.int .i64 s.f1)).setIfInBounds (i * 3 + 2) (.int .u64 s.f2)) k (if k = i then s else t) := by
  unfold Cell3
  by_cases e : k = i
  · subst e
    rw [if_pos rfl]
    simp only [Array.getElem?_setIfInBounds, Array.size_setIfInBounds]
    refine ⟨?_, ?_, ?_⟩
    · rw [if_neg (by omega), if_neg (by omega), if_pos trivial, if_pos (by omega)]
    · rw [if_neg (by omega), if_pos trivial, if_pos (by omega)]
    · rw [if_pos trivial, if_pos hi]
  · rw [if_neg e]
    obtain ⟨h1, h2, h3⟩ := h e
    simp only [Array.getElem?_setIfInBounds]
    refine ⟨?_, ?_, ?_⟩
    · rw [if_neg (by omega), if_neg (by omega), if_neg (by omega)]; exact h1
    · rw [if_neg (by omega), if_neg (by omega), if_neg (by omega)]; exact h2
    · rw [if_neg (by omega), if_neg (by omega), if_neg (by omega)]; exact h3
theorem Del.keep {l : List S36} {g size base ii jj : Nat} {w wr W : World} (h : Del l g size base w ii jj wr) (hlt : jj < l.length) (hp : placeB (s_ l jj) = true) (hb : Below wr.heap.size wr W) (hbase : base ≤ wr.heap.size) (hg : base ≤ g) (hsize : l.length * 3 ≤ size) :
    Del l g size base w (ii + 1) (jj + 1) (((W.setCell ⟨g, ii * 3, none⟩ (.int .i64 (s_ l jj).f0)).setCell ⟨g, ii * 3 + 1, none⟩ (.int .i64 (s_ l jj).f1)).setCell ⟨g, ii * 3 + 2, none⟩ (.int .u64 (s_ l jj).f2)) := by
  obtain ⟨c, h1, h2, h3, h4⟩ := h.row
  have hlt2 := h.lt
  have hlen := h.len
  have hk : Kept l (jj + 1) = Kept l jj ++ [s_ l jj] := by rw [kept_succ hlt, hp]; simp
  refine ⟨by omega, hlt, by rw [hk]; simp [hlen], ⟨_, blk_set (blk_set (blk_set (blk_below h1 hb) (ii * 3) (.int .i64 (s_ l jj).f0)) (ii * 3 + 1) (.int .i64 (s_ l jj).f1)) (ii * 3 + 2) (.int .u64 (s_ l jj).f2), by simp [h2], fun k hk2 => ?_, fun k h5 h6 => ?_⟩, ?_⟩
  · have := cell3_set (c := c) (i := ii) (k := k) (s := s_ l jj) (t := s_ (Kept l jj) k) (by omega) (fun e => h3 k (by omega))
    by_cases e : k = ii
    · rw [if_pos e] at this
      subst e
      rwa [hk, show s_ (Kept l jj ++ [s_ l jj]) k = s_ l jj from by rw [← hlen]; exact s_append_last]
    · rw [if_neg e] at this
      rwa [hk, s_append_left (by omega)]
  · have := cell3_set (c := c) (i := ii) (k := k) (s := s_ l jj) (t := s_ l k) (by omega) (fun e => h4 k (by omega) h6)
    rwa [if_neg (by omega)] at this
  · exact (((below_then h.bel hbase hb).setCell hg _).setCell hg _).setCell hg _
theorem first_cases {p : S36 → Bool} {l : List S36} : (firstB p l = -1 ∧ ∀ j, j < l.length → p (s_ l j) = false) ∨ (∃ i : Nat, firstB p l = i ∧ i < l.length ∧ p (s_ l i) = true ∧ ∀ j, j < i → p (s_ l j) = false) := by
  unfold firstB
  cases h : l.findIdx? p with
  | none =>
    left
    rw [List.findIdx?_eq_none_iff] at h
    exact ⟨rfl, fun j hj => h _ (s_mem hj)⟩
  | some i =>
    right
    obtain ⟨hi, hp, hn⟩ := List.findIdx?_eq_some_iff_getElem.1 h
    refine ⟨i, rfl, hi, ?_, fun j hj => ?_⟩
    · unfold s_; rw [List.getD_eq_getElem?_getD, List.getElem?_eq_getElem hi]; exact hp
    · have := hn j hj
      unfold s_; rw [List.getD_eq_getElem?_getD, List.getElem?_eq_getElem (by omega)]; simpa using this
theorem kept_all {l : List S36} {k : Nat} (hk : k ≤ l.length) (h : ∀ j, j < k → (!placeB (s_ l j)) = false) : Kept l k = l.take k := by
  unfold Kept
  rw [List.filter_eq_self]
  intro s hs
  obtain ⟨j, hj, rfl⟩ := List.getElem_of_mem hs
  have hjk : j < k := by rw [List.length_take] at hj; omega
  have := h j hjk
  rw [List.getElem_take]
  unfold s_ at this
  rw [List.getD_eq_getElem?_getD, List.getElem?_eq_getElem (by omega)] at this
  simpa using this
theorem s_take {l : List S36} {i k : Nat} (h : k < i) : s_ (l.take i) k = s_ l k := by
  unfold s_
  rw [List.getD_eq_getElem?_getD, List.getD_eq_getElem?_getD, List.getElem?_take_of_lt h]
theorem Del.start {l : List S36} {g base i : Nat} {w W : World} {c : Array Value} (hg : w.heap[g]? = some (.cells c 36 (0, 0))) (hc : ∀ k, k < l.length → Cell3 c k (s_ l k)) (hi : i < l.length) (hpi : (!placeB (s_ l i)) = true) (hn : ∀ j, j < i → (!placeB (s_ l j)) = false) (hb : Below w.heap.size w W) (hbase : base ≤ w.heap.size) : Del l g c.size base w i (i + 1) W := by
  have h0 : Kept l i = l.take i := kept_all (by omega) hn
  have hpf : placeB (s_ l i) = false := by simpa using hpi
  have h1 : Kept l (i + 1) = l.take i := by rw [kept_succ hi, hpf, h0]; simp
  refine ⟨by omega, hi, by rw [h1, List.length_take]; omega, ⟨c, blk_below hg hb, rfl, fun k hk => by rw [h1, s_take hk]; exact hc k (by omega), fun k hk1 hk2 => hc k hk2⟩, below_then (Below.refl _ _) hbase hb⟩

/-- what DeleteFunc leaves in a row of the call's own -/
def Deleted (l : List S36) (g base : Nat) (w : World) (e : Ending) (w' : World) : Prop := ∃ cap, (l.filter placeB).length ≤ cap ∧ e = .returned (.slice (some ⟨g, 0, none⟩) (l.filter placeB).length cap) ∧ Below base w w' ∧ ∃ c : Array Value, w'.heap[g]? = some (.cells c 36 (0, 0)) ∧ (c.size = cap * 3 ∧ cap ≤ 9223372036854775807) ∧ ∀ k, k < (l.filter placeB).length → Cell3 c k (s_ (l.filter placeB) k)
theorem clear_row {w : World} {g o n cap : Nat} {c : Array Value} (hg : w.heap[g]? = some (.cells c 36 (0, 0))) (hn : 0 < n) (hfit : o + n * 3 ≤ c.size) :
    ∃ W, (∀ ty, (Builtin.clear_ #[37] ty #[.slice (some ⟨g, o, none⟩) n cap]).run Try.prog w = .ok (.tuple #[]) W) ∧ (∃ c' : Array Value, W.heap[g]? = some (.cells c' 36 (0, 0)) ∧ c'.size = c.size ∧ ∀ k, k < o → c'[k]? = c[k]?) ∧ ∀ {B w0}, Below B w0 w → B ≤ g → Below B w0 W := by
  let z : Array Value := #[.int .i64 0, .int .i64 0, .int .u64 0]
  have hlen : (Builtin.zeroCells z n).toList.length = n * 3 := by simp [Builtin.zeroCells, z]
  have hst := run_storeCells_at Try.prog g o 36 (Builtin.zeroCells z n).toList 0 c w hg (by rw [hlen]; omega) (by
    intro v hv
    simp only [Builtin.zeroCells, Array.toList_map, List.mem_map] at hv
    obtain ⟨i, _, rfl⟩ := hv
    have hi : i % z.size < 3 := Nat.mod_lt _ (by decide)
    have : i % z.size = 0 ∨ i % z.size = 1 ∨ i % z.size = 2 := by omega
    rcases this with h | h | h <;> rw [h] <;> rfl)
  obtain ⟨cs, hcs⟩ : ∃ cs : Array Value, cs = (c.toList.take (o + 0) ++ (Builtin.zeroCells z n).toList ++ c.toList.drop (o + 0 + (Builtin.zeroCells z n).toList.length)).toArray := ⟨_, rfl⟩
  rw [← hcs] at hst
  refine ⟨w.setRow g cs, fun ty => ?_, ⟨cs, setRow_heap w g c cs 36 (0, 0) hg, ?_, fun k hk => ?_⟩, fun hb hB => below_setRow hb hB cs⟩
  · obtain ⟨m, rfl⟩ : ∃ m, n = m + 1 := ⟨n - 1, by omega⟩
    simp [Builtin.clear_, run_underlying Try.underlying37, Value.cells]
    have h2 : (storeCells ⟨g, o, none⟩ (Builtin.zeroCells #[.int .i64 0, .int .i64 0, .int .u64 0] (m + 1)).toList).run Try.prog w = .ok () (w.setRow g cs) := hst
    rw [h2]
    rfl
  · rw [hcs]
    simp only [List.size_toArray, List.length_append, List.length_take, List.length_drop, Array.length_toList, hlen]
    omega
  · have h1 : k < c.size := by omega
    rw [hcs]
    simp [List.getElem?_append, hk, h1]
    intro h; omega
set_option maxHeartbeats 4000000 in
set_option maxRecDepth 100000 in
theorem delete_any (l : List S36) (g cap base : Nat) (c : Array Value) (w : World) (hg : w.heap[g]? = some (.cells c 36 (0, 0))) (hc : ∀ k, k < l.length → Cell3 c k (s_ l k)) (hsz : c.size = cap * 3) (hn : l.length ≤ cap) (hcap : cap ≤ 9223372036854775807) (hbase : base ≤ g) (hl : Kd.C k36 w (some ⟨g, 0, none⟩) l.length l) :
    Calls Try.prog 37 #[.slice (some ⟨g, 0, none⟩) l.length cap, .func (Fn.func 38) #[] #[]] w (Deleted l g base w) := by
  have hix := index38_any l (some ⟨g, 0, none⟩) cap w hl (by omega)
  have hblt := blk_lt hg
  have hfc := @first_cases (fun s => !placeB s) l
  have hdr := fun s W => drop_any s W
  have HDR := Lib.hid hdr
  have HG := Lib.hid hg
  have HC := Lib.hid hc
  have HSZ := Lib.hid hsz
  have HN := Lib.hid hn
  have hn : l.length ≤ cap := hn
  have HL := Lib.hid hl
  clear hg hc hsz hl hdr
  rcases hfc with ⟨h1, hno⟩ | ⟨i, h1, hi, hpi, hno⟩
  · rw [h1] at hix
    have HIX := Lib.hid hix
    have hk : l.filter placeB = l := by
      have := kept_all (l := l) (k := l.length) (Nat.le_refl _) hno
      unfold Kept at this
      rwa [List.take_length] at this
    have HK := Lib.hid hk
    clear hix h1 hno hk
    go_enter Try.func37, Try.ntmps37
    go_wp2_with ((with_reducible refine HIX.out.mono ?_); rintro e w1 ⟨rfl, hb1⟩)
    go_ret
    refine ⟨cap, by rw [HK.out]; exact hn, by rw [HK.out]; rfl, below_then (Below.refl _ _) (by omega) hb1, c, blk_below HG.out hb1, ⟨HSZ.out, hcap⟩, ?_⟩
    rw [HK.out]; exact HC.out
  · rw [h1] at hix
    have HIX := Lib.hid hix
    have HNO := Lib.hid hno
    have HPI := Lib.hid hpi
    clear hix h1 hno hpi
    have hi0 : (0 : Int) ≤ (i : Int) := by omega
    have hin : (i : Int) < (l.length : Int) := by omega
    have hm1 : ((i : Int) == -1) = false := by rw [beq_eq_false_iff_ne]; omega
    go_enter Try.func37, Try.ntmps37
    go_wp2_with ((with_reducible refine HIX.out.mono ?_); rintro e w1 ⟨rfl, hb1⟩)
    have hW1 : base ≤ w1.heap.size := by have := hb1.size; omega
    have hd0 := Del.start (base := base) HG.out HC.out hi HPI.out HNO.out hb1 (by omega)
    have HD0 := Lib.hid hd0
    clear hd0
    go_loopw [5, 6] (fun a b wr => ∃ ii jj : Nat, a = .int .i64 ii ∧ b = .int .i64 jj ∧ Del l g c.size base w ii jj wr) (fun _ b _ => l.length - (intOf b).toNat)
    case atStart => exact ⟨i, i + 1, rfl, by go_num, HD0.out⟩
    case round =>
      obtain ⟨ii, jj, rfl, rfl, hd⟩ := hrel
      have hii := hd.lt
      have hjj := hd.le
      have HD := Lib.hid hd
      obtain ⟨cu, r1, r2, r3, r4⟩ := hd.row
      have hglt := blk_lt r1
      clear hd
      have hbw : base ≤ wr.heap.size := by omega
      have hj0 : (0 : Int) ≤ (jj : Int) := by omega
      have hi1 : (0 : Int) ≤ (ii : Int) := by omega
      have hin2 : (ii : Int) < (l.length : Int) := by omega
      have hfr : ∀ o, wr.frozen? ⟨g, o, none⟩ = false := fun o => blk_frozen r1 o
      by_cases hlt : jj < l.length
      · have hjn : (jj : Int) < (l.length : Int) := by omega
        obtain ⟨q0, q1, q2⟩ := r4 jj (Nat.le_refl _) hlt
        have e0 := (blk_cell r1 (jj * 3)).trans q0
        have e1 := (blk_cell r1 (jj * 3 + 1)).trans q1
        have e2 := (blk_cell r1 (jj * 3 + 2)).trans q2
        have x0 : ∀ k, k < 3 → ∃ u, wr.cell? ⟨g, ii * 3 + k, none⟩ = some u := fun k hk => by
          have hs := HSZ.out
          have hnn := HN.out
          refine ⟨cu[ii * 3 + k]'(by omega), ?_⟩
          rw [blk_cell r1]; exact Array.getElem?_eq_getElem (by omega)
        obtain ⟨y0, z0⟩ := x0 0 (by omega)
        obtain ⟨y1, z1⟩ := x0 1 (by omega)
        obtain ⟨y2, z2⟩ := x0 2 (by omega)
        rw [Nat.add_zero] at z0
        have hdr := HDR.out (s_ l jj)
        have hkp := fun hp W hb => HD.out.keep (W := W) hlt hp hb hbw hbase (by have := HSZ.out; have := HN.out; omega)
        have hsk := fun hp W hb => HD.out.skip (W := W) hlt hp hb hbw
        clear r1 r2 r3 r4 q0 q1 q2 x0
        generalize placeB (s_ l jj) = b at *
        generalize s_ l jj = sj at *
        obtain ⟨k0, k1, k2⟩ := sj
        simp only at *
        have HDJ := Lib.hid hdr
        have HKP := Lib.hid hkp
        have HSK := Lib.hid hsk
        clear hdr hkp hsk
        cases b with
        | false =>
          go_wp2_with ((with_reducible refine (HDJ.out _).mono ?_); rintro e w2 ⟨rfl, hb2⟩; have hc2 := (old_cells hb2).1; have hf2 := (old_cells hb2).2; have hz2 := hb2.size)
          go_roundw
          case rel => exact ⟨ii, jj + 1, rfl, by go_num, HSK.out (by trivial) _ (below_then (below_box wr _) (by simp) hb2)⟩
          case measure => simp [intOf]; omega
        | true =>
          go_wp2_with ((with_reducible refine (HDJ.out _).mono ?_); rintro e w2 ⟨rfl, hb2⟩; have hc2 := (old_cells hb2).1; have hf2 := (old_cells hb2).2; have hz2 := hb2.size)
          go_roundw
          case rel => exact ⟨ii + 1, jj + 1, by go_num, by go_num, HKP.out (by trivial) _ (below_then (below_box wr _) (by simp) hb2)⟩
          case measure => simp [intOf]; omega
      · have hjn : ¬ (jj : Int) < (l.length : Int) := by omega
        have hcn := HN.out
        have hs := HSZ.out
        have hic : (ii : Int) < (cap : Int) := by omega
        have hnc : (l.length : Int) ≤ (cap : Int) := by omega
        obtain ⟨W2, hcl, ⟨c2, hrow, hs2, hold⟩, hbel⟩ := clear_row (n := l.length - ii) (o := ii * 3) (cap := cap - ii) r1 (by omega) (by rw [r2, hs]; omega)
        have hfk : l.filter placeB = Kept l jj := by unfold Kept; rw [show jj = l.length by omega, List.take_length]
        have hfin : ∀ k, k < (l.filter placeB).length → Cell3 c2 k (s_ (l.filter placeB) k) := by
          rw [hfk, HD.out.len]
          intro k hk
          obtain ⟨q0, q1, q2⟩ := r3 k hk
          exact ⟨(hold _ (by omega)).trans q0, (hold _ (by omega)).trans q1, (hold _ (by omega)).trans q2⟩
        have hlen : (l.filter placeB).length = ii := by rw [hfk]; exact HD.out.len
        have hb2 := hbel HD.out.bel hbase
        have HF := Lib.hid hfin
        have HLEN := Lib.hid hlen
        have HROW := Lib.hid hrow
        have HS2 := Lib.hid (hs2.trans (r2.trans hs))
        clear hfin hlen hs2 hrow hold hbel hfk r1 r2 r3 r4 hs
        go_wp2
        go_ret
        exact ⟨cap, by rw [HLEN.out]; omega, by rw [HLEN.out]; rfl, hb2, c2, HROW.out, ⟨by rw [HS2.out], hcap⟩, HF.out⟩
end Go.Proofs.Ytkhgbnnhgdcmoaa.IR
