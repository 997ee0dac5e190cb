/-
  The walks of layer 8 (cache): what cache.New, Put, Get, Drop and Drops do to a cache in memory, and that the laws CacheOne and CacheDropped come to true. No conditions beyond each number being of its kind.
-/
import Derived.Test.YthhfgchbpgcfmaaProg
import Derived.Below
import Derived.Deep.Draws
import Derived.Deep.AppendLies
import Derived.Maps.AppendAt
import Derived.OwnWalk
import Derived.Laws.BytesArg
import Derived.Laws.MakeOwn
import Derived.Laws.OwnMore
import Derived.Deep.OwnRows
import Derived.Tactics
import Derived.Lib.ConvBytes
import Derived.Laws.Slices
import Derived.WalkKit
import Derived.KernelRfl
import Derived.RowKit3
import Derived.Deep.LoopGhost
import Derived.Deep.QuietTactic
import Derived.BigQuiet
import Derived.WideLaws
import Derived.Deep.DeepCutAuto
import Derived.Deep.CutBlock
import Derived.Deep.RegionHeld3
import Derived.Laws.Rows
import Derived.Lib.AppendStr
import Derived.ArgAppend
import Derived.Laws.IdiomCopy
import Derived.OrdersHeld
import Derived.Laws.BitsLemmas
import Derived.RowKit
import Derived.Test.YthhfgchbpgcfmaaWWords
import Derived.Test.YthhfgchbpgcfmaaWLast
import Derived.Test.YthhfgchbpgcfmaaWTab
import Derived.Test.YthhfgchbpgcfmaaWFour
import Derived.Test.YthhfgchbpgcfmaaWQPut
import Derived.Test.YthhfgchbpgcfmaaWApart
import Derived.Test.YthhfgchbpgcfmaaWArr
import Derived.Test.YthhfgchbpgcfmaaWZeros
import Derived.Test.YthhfgchbpgcfmaaWFoot
import Derived.Test.YthhfgchbpgcfmaaWKept
import Derived.Test.YthhfgchbpgcfmaaWShare
import Derived.Test.YthhfgchbpgcfmaaWN
import Derived.Test.YthhfgchbpgcfmaaWFootNe
import Derived.Test.YthhfgchbpgcfmaaWAt
import Derived.Test.YthhfgchbpgcfmaaWEqStruct
import Derived.Test.YthhfgchbpgcfmaaWRepsOne
import Derived.Test.YthhfgchbpgcfmaaWInv
import Derived.Test.YthhfgchbpgcfmaaWInvWords
import Derived.Test.YthhfgchbpgcfmaaWGuard
import Derived.Test.YthhfgchbpgcfmaaWNEv
import Derived.Test.YthhfgchbpgcfmaaWMore
import Derived.Lib.Hide
import Derived.Laws.Entries
import Derived.StillTailTactics
import Derived.IntWalk
import Derived.Laws.BitsAllLaws
import Derived.Laws.Bits64
namespace Go.Proofs.Ythhfgchbpgcfmaa.CC
open Go.RowKit Go.Proofs.YthhfgchbpgcfmaaW.PrintWords Go.Proofs.YthhfgchbpgcfmaaW.PrintLast Go.Proofs.YthhfgchbpgcfmaaW.PrintMore

def hashOf (cl sel : Int) : Int := IntKind.u64.wrap (IntKind.u64.wrap (cl / 2 * 31) + sel / 2)

/-- the line of a key, among n -/
def idx (n : Nat) (cl sel : Int) : Nat := (hashOf cl sel % (n : Int)).toNat

set_option maxHeartbeats 1000000 in
set_option maxRecDepth 100000 in
theorem at_any (g lb n : Nat) (cl sel : Int) (w : World) (hc : w.cell? ⟨g, 0, none⟩ = some (.slice (some ⟨lb, 0, none⟩) n n)) (h0 : 0 < n) (h1 : n ≤ 256) :
    Calls Try.prog 43 #[.pointer (some ⟨g, 0, none⟩), .agg #[.int .u64 cl, .int .u64 sel]] w fun e w' => e = .returned (.pointer (some (⟨lb, idx n cl sel * 4, none⟩ : Addr))) ∧ Below w.heap.size w w' := by
  unfold idx
  obtain ⟨H, hH⟩ : ∃ H, H = hashOf cl sel := ⟨_, rfl⟩
  rw [← hH]
  have HH := Lib.hid hH
  clear hH
  have hn0 : ((n : Int) == 0) = false := beq_eq_false_iff_ne.2 (by omega)
  have lg := World.block_lt_of_cell? w _ hc
  go_enter Try.func43, Try.ntmps43
  go_wp2_with fail
  have lw : w.heap.size ≠ g := by omega
  have hb0 : 0 ≤ hashOf cl sel ∧ hashOf cl sel < 18446744073709551616 := by unfold hashOf; rw [IntKind.wrap_u64]; omega
  change Code.wp _ _ _ { tmps := #[_, _, _, _, _, .int .u64 (hashOf cl sel), _, _, _, _, _, _, _, _, _, _, _, _, _, _, _, _, _, .int .u64 (hashOf cl sel), _, _, _, _, _, _, _, _, _, _, _, _, _], defers := _ } _
  rw [← HH.out]
  obtain ⟨hb0, hb1⟩ := hb0
  rw [← HH.out] at hb0 hb1
  have hnn : (0 : Int) < (n : Int) := by omega
  have e1 : IntKind.u64.wrap (n : Int) = n := by rw [IntKind.wrap_u64]; omega
  have hm0 : 0 ≤ H % (n : Int) := Int.emod_nonneg _ (by omega)
  have hm1 : H % (n : Int) < n := Int.emod_lt_of_pos _ hnn
  have e2 : H.tmod (n : Int) = H % (n : Int) := Int.tmod_eq_emod_of_nonneg hb0
  have hn1 : ((n : Int) != 0) = true := by rw [bne_iff_ne]; omega
  have hn2 : ¬ n = 0 := by omega
  have hn3 : (n == 0) = false := beq_eq_false_iff_ne.2 hn2
  have hn4 : ¬ (n : Int) = 0 := by omega
  go_quiet (fail)
  go_wp2
  go_ret
  exact ⟨rfl, pw_below_drewN ((Below.refl _ _).alloc (Nat.le_refl _) _) _⟩

/-- a line of the cache -/
structure Line where
  cl : Int
  sel : Int
  m : Int
  full : Int
def zeroLine : Line := ⟨0, 0, 0, 0⟩
def LineAt (cs : Array Value) (i : Nat) (l : Line) : Prop :=
  cs[i * 4]? = some (.int .u64 l.cl) ∧ cs[i * 4 + 1]? = some (.int .u64 l.sel) ∧ cs[i * 4 + 2]? = some (.int .u64 l.m) ∧ cs[i * 4 + 3]? = some (.int .i64 l.full)
/-- what a cache is in memory: n lines L, how often they answered, what was dropped -/
structure CacheAt (w : World) (g lb n base : Nat) (L : Nat → Line) (hits looks : Int) (dv : Value) (ds : List Int) : Prop where
  blk : w.heap[g]? = some (.cells #[.slice (some ⟨lb, 0, none⟩) n n, .int .i64 hits, .int .i64 looks, dv] 68 (0, 0))
  row : ∃ cs : Array Value, w.heap[lb]? = some (.cells cs 74 (0, 0)) ∧ cs.size = n * 4 ∧ ∀ i, i < n → LineAt cs i (L i)
  drops : QRow w base 23 1 dv ds.length (nums .u64 ds)
  bg : base ≤ g
  bl : base ≤ lb

def upd (L : Nat → Line) (i : Nat) (l : Line) : Nat → Line := fun j => if j = i then l else L j
def Put (w : World) (g lb n base : Nat) (L : Nat → Line) (hits looks : Int) (dv : Value) (ds : List Int) (cl sel m : Int) (w' : World) : Prop :=
  CacheAt w' g lb n base (upd L (idx n cl sel) ⟨cl, sel, m, 1⟩) hits looks dv ds ∧ Below base w w'
theorem idx_lt {n : Nat} (h : 1 ≤ n) (cl sel : Int) : idx n cl sel < n := by
  unfold idx
  have := Int.emod_nonneg (hashOf cl sel) (show (n : Int) ≠ 0 by omega)
  have := Int.emod_lt_of_pos (hashOf cl sel) (show (0 : Int) < n by omega)
  omega

theorem info74 : (Try.prog.info? 74).map (fun i => (i.zero, i.size, i.bytes)) = some (some (.agg #[.int .u64 0, .int .u64 0, .int .u64 0, .int .i64 0]), 4, 32) := by kernel_rfl
theorem under66 : Try.prog.underlying 66 = some (.slice 74) := by kernel_rfl

/-- four cells of one block are written: what becomes of the block -/
theorem set4 {w : World} {lb : Nat} {cs : Array Value} {t : TypeId} (h : w.heap[lb]? = some (.cells cs t (0, 0))) (o : Nat) (a b c d : Value) :
    ((((w.setCell ⟨lb, o, none⟩ a).setCell ⟨lb, o + 1, none⟩ b).setCell ⟨lb, o + 2, none⟩ c).setCell ⟨lb, o + 3, none⟩ d).heap[lb]? =
      some (.cells ((((cs.setIfInBounds o a).setIfInBounds (o + 1) b).setIfInBounds (o + 2) c).setIfInBounds (o + 3) d) t (0, 0)) :=
  blk_set (blk_set (blk_set (blk_set h o a) (o + 1) b) (o + 2) c) (o + 3) d
theorem lines_set {cs : Array Value} {n I : Nat} {L : Nat → Line} (hsz : cs.size = n * 4) (hL : ∀ i, i < n → LineAt cs i (L i)) (hI : I < n) (l : Line) :
    ∀ i, i < n → LineAt ((((cs.setIfInBounds (I * 4) (.int .u64 l.cl)).setIfInBounds (I * 4 + 1) (.int .u64 l.sel)).setIfInBounds (I * 4 + 2) (.int .u64 l.m)).setIfInBounds (I * 4 + 3) (.int .i64 l.full)) i (upd L I l i) := by
  intro i hi
  have h := hL i hi
  unfold LineAt at h ⊢
  unfold upd
  simp only [Array.getElem?_setIfInBounds, Array.size_setIfInBounds]
  by_cases e : i = I
  · subst e
    rw [show (if i = i then l else L i) = l from if_pos rfl]
    refine ⟨?_, ?_, ?_, ?_⟩
    · rw [if_neg (by omega), if_neg (by omega), if_neg (by omega), if_pos rfl, if_pos (by omega)]
    · rw [if_neg (by omega), if_neg (by omega), if_pos rfl, if_pos (by omega)]
    · rw [if_neg (by omega), if_pos rfl, if_pos (by omega)]
    · rw [if_pos rfl, if_pos (by omega)]
  · rw [show (if i = I then l else L i) = L i from if_neg e]
    refine ⟨?_, ?_, ?_, ?_⟩
    · rw [if_neg (by omega), if_neg (by omega), if_neg (by omega), if_neg (by omega)]; exact h.1
    · rw [if_neg (by omega), if_neg (by omega), if_neg (by omega), if_neg (by omega)]; exact h.2.1
    · rw [if_neg (by omega), if_neg (by omega), if_neg (by omega), if_neg (by omega)]; exact h.2.2.1
    · rw [if_neg (by omega), if_neg (by omega), if_neg (by omega), if_neg (by omega)]; exact h.2.2.2
/-- a line is written: the cache then -/
theorem CacheAt.line {w : World} {g lb n base : Nat} {L : Nat → Line} {hits looks : Int} {dv : Value} {ds : List Int} (h : CacheAt w g lb n base L hits looks dv ds) {I : Nat} (hI : I < n) (l : Line) :
    CacheAt ((((w.setCell ⟨lb, I * 4, none⟩ (.int .u64 l.cl)).setCell ⟨lb, I * 4 + 1, none⟩ (.int .u64 l.sel)).setCell ⟨lb, I * 4 + 2, none⟩ (.int .u64 l.m)).setCell ⟨lb, I * 4 + 3, none⟩ (.int .i64 l.full))
      g lb n base (upd L I l) hits looks dv ds := by
  obtain ⟨cs, hrow, hsz, hL⟩ := h.row
  have hne : g ≠ lb := blk_ne h.blk hrow (by decide)
  refine ⟨?_, ⟨_, set4 hrow _ _ _ _ _, by simpa using hsz, lines_set hsz hL hI l⟩, ?_, h.bg, h.bl⟩
  · exact blk_far (blk_far (blk_far (blk_far h.blk hne _) hne _) hne _) hne _
  · refine q_move h.drops fun k hk => ?_
    obtain ⟨_, cells, hc⟩ := q_typed h.drops k hk
    have hk' : k ≠ lb := blk_ne hc hrow (by decide)
    rw [hc]
    exact blk_far (blk_far (blk_far (blk_far hc hk' _) hk' _) hk' _) hk' _
theorem CacheAt.below {w w' : World} {g lb n base : Nat} {L : Nat → Line} {hits looks : Int} {dv : Value} {ds : List Int} (h : CacheAt w g lb n base L hits looks dv ds) (hb : Below w.heap.size w w') :
    CacheAt w' g lb n base L hits looks dv ds := by
  obtain ⟨cs, hrow, hsz, hL⟩ := h.row
  exact ⟨blk_below h.blk hb, ⟨cs, blk_below hrow hb, hsz, hL⟩, q_move h.drops fun k hk => hb.block k (q_lt h.drops k hk), h.bg, h.bl⟩

set_option maxHeartbeats 1000000 in
set_option maxRecDepth 100000 in
theorem put_any (g lb n base : Nat) (L : Nat → Line) (hits looks : Int) (dv : Value) (ds : List Int) (cl sel m : Int) (w : World) (hC : CacheAt w g lb n base L hits looks dv ds) (h0 : 1 ≤ n) (h1 : n ≤ 256) :
    Calls Try.prog 17 #[.pointer (some ⟨g, 0, none⟩), .int .u64 cl, .int .u64 sel, .int .u64 m] w fun e w' => e = .returned (.tuple #[]) ∧ Put w g lb n base L hits looks dv ds cl sel m w' := by
  have hg : w.cell? ⟨g, 0, none⟩ = some (.slice (some ⟨lb, 0, none⟩) n n) := by rw [blk_cell hC.blk]; rfl
  have lg := World.block_lt_of_cell? w _ hg
  go_enter Try.func17, Try.ntmps17
  go_wp2_with fail
  refine (at_any g lb n cl sel _ ?_ (by omega) (by omega)).mono ?_
  · rw [World.cell?_alloc_lt _ _ _ (by simpa using lg)]; exact hg
  rintro e w' ⟨rfl, hb⟩
  have hI := idx_lt h0 cl sel
  generalize hidx : idx n cl sel = I at *
  have HI := Lib.hid hidx
  clear hidx
  have hk0 : w'.cell? ⟨w.heap.size, 0, none⟩ = some (.int .u64 cl) := (hb.cell (p := ⟨w.heap.size, 0, none⟩) (by simp)).trans (by rw [blk_cell (blk_new w _)]; rfl)
  have hk1 : w'.cell? ⟨w.heap.size, 1, none⟩ = some (.int .u64 sel) := (hb.cell (p := ⟨w.heap.size, 1, none⟩) (by simp)).trans (by rw [blk_cell (blk_new w _)]; rfl)
  have hb2 : Below w.heap.size w w' := below_then ((Below.refl _ _).alloc (Nat.le_refl _) _) (by simp) hb
  obtain ⟨cs, hrow, hsz, hL⟩ := hC.row
  have hrow' := blk_below hrow hb2
  have hfr : ∀ j, w'.frozen? ⟨lb, j, none⟩ = false := fun j => blk_frozen hrow' j
  have hl0 : w'.cell? ⟨lb, I * 4, none⟩ = some (.int .u64 (L I).cl) := by rw [blk_cell hrow']; exact (hL I hI).1
  have hl1 : w'.cell? ⟨lb, I * 4 + 1, none⟩ = some (.int .u64 (L I).sel) := by rw [blk_cell hrow']; exact (hL I hI).2.1
  have hl2 : w'.cell? ⟨lb, I * 4 + 2, none⟩ = some (.int .u64 (L I).m) := by rw [blk_cell hrow']; exact (hL I hI).2.2.1
  have hl3 : w'.cell? ⟨lb, I * 4 + 3, none⟩ = some (.int .i64 (L I).full) := by rw [blk_cell hrow']; exact (hL I hI).2.2.2
  go_wp2_with fail
  go_end0
  refine ⟨rfl, ?_, ?_⟩
  · rw [HI.out]
    exact (hC.below hb2).line hI ⟨cl, sel, m, 1⟩
  · have hb3 : Below base w w' := hb2.mono (Nat.le_trans hC.bg (Nat.le_of_lt lg))
    exact (((hb3.setCell hC.bl _).setCell hC.bl _).setCell hC.bl _).setCell hC.bl _

theorem run_make_rowN {P : Program} (t e : TypeId) (i : TypeInfo) (z : Value) (ht : P.underlying t = some (.slice e)) (hi : P.info? e = some i) (hz : i.zero = some z)
    (kl kc : IntKind) (n c : Nat) (hnc : n ≤ c) (hbytes : i.bytes * c ≤ 281474976710656) (h63 : c ≤ 9223372036854775807) (w : World) :
    (Instr.makeSlice t (.int kl (n : Int)) (.int kc (c : Int))).run P w = .ok (.slice (some ⟨w.heap.size, 0, none⟩) n c) (w.alloc (.cells (madeCells z.cells (c * i.size)) e)) := by
  have hb : (i.bytes : Int) * (c : Int) ≤ 281474976710656 := by
    have h : ((i.bytes * c : Nat) : Int) ≤ 281474976710656 := by omega
    rwa [Int.natCast_mul] at h
  have hr := run_make (P := P) w t e i z ht hi hz kl kc n c (by omega) (by omega) hb (by omega)
  simp only [Int.toNat_natCast] at hr
  exact hr
theorem made_line (n i : Nat) (hi : i < n) : LineAt (madeCells (Value.agg #[.int .u64 0, .int .u64 0, .int .u64 0, .int .i64 0]).cells (n * 4)) i zeroLine := by
  have h : ∀ j, j < n * 4 → (madeCells (Value.agg #[.int .u64 0, .int .u64 0, .int .u64 0, .int .i64 0]).cells (n * 4))[j]? = some ((#[.int .u64 0, .int .u64 0, .int .u64 0, .int .i64 0] : Array Value)[j % 4]!) := by
    intro j hj
    simp only [madeCells]
    rw [Array.getElem?_map]
    simp [hj, Value.cells]
  refine ⟨?_, ?_, ?_, ?_⟩
  · rw [h _ (by omega), show i * 4 % 4 = 0 by omega]; rfl
  · rw [h _ (by omega), show (i * 4 + 1) % 4 = 1 by omega]; rfl
  · rw [h _ (by omega), show (i * 4 + 2) % 4 = 2 by omega]; rfl
  · rw [h _ (by omega), show (i * 4 + 3) % 4 = 3 by omega]; rfl

def New (w : World) (n : Nat) (e : Ending) (w' : World) : Prop :=
  ∃ g lb, e = .returned (.tuple #[.pointer (some ⟨g, 0, none⟩), .int .i64 0]) ∧ CacheAt w' g lb n w.heap.size (fun _ => zeroLine) 0 0 (.slice none 0 0) [] ∧ Below w.heap.size w w'

set_option maxHeartbeats 1000000 in
set_option maxRecDepth 100000 in
theorem new_yes (n : Nat) (w : World) (h0 : 1 ≤ n) (h1 : n ≤ 256) : Calls Try.prog 16 #[.int .i64 n] w (New w n) := by
  have c1 : decide ((n : Int) < 1) = false := decide_eq_false (by omega)
  have c2 : decide (256 < (n : Int)) = false := decide_eq_false (by omega)
  obtain ⟨i0, hi0, hz0, hz1, hz2⟩ := info_parts info74
  have hmk := fun W => run_make_rowN (P := Try.prog) 66 74 i0 _ under66 hi0 hz0 .i64 .i64 n n (Nat.le_refl _) (by rw [hz2]; omega) (by omega) W
  rw [hz1] at hmk
  go_enter Try.func16, Try.ntmps16
  go_wp2
  go_ret2
  refine ⟨w.heap.size + 1, w.heap.size, rfl, ⟨?_, ⟨madeCells #[.int .u64 0, .int .u64 0, .int .u64 0, .int .i64 0] (n * 4), ?_, ?_, fun i hi => made_line n i hi⟩, ⟨by simp [nums], .inl ⟨rfl, none, rfl, fun a ha => by cases ha⟩⟩, ?_, ?_⟩, ?_⟩
  · have := blk_new (w.alloc (.cells (madeCells #[.int .u64 0, .int .u64 0, .int .u64 0, .int .i64 0] (n * 4)) 74)) (.cells #[.slice (some ⟨w.heap.size, 0, none⟩) n n, .int .i64 0, .int .i64 0, .slice none 0 0] 68 (0, 0))
    simpa using this
  · exact blk_alloc (blk_new _ _) _
  · rw [size_madeCells]
  · simp
  · simp
  · exact ((Below.refl _ _).alloc (Nat.le_refl _) _).alloc (by simp) _

theorem new_no (w : World) : Calls Try.prog 16 #[.int .i64 0] w fun e w' => e = .returned (.tuple #[.pointer none, .int .i64 1]) ∧ w = w' := by
  have c1 : decide ((0 : Int) < 1) = true := rfl
  go_enter Try.func16, Try.ntmps16
  go_wp2
  go_ret2
  exact ⟨rfl, rfl⟩

/-- what a line answers -/
def hit (l : Line) (cl sel : Int) : Bool := decide (0 < l.full) && (l.cl == cl && l.sel == sel)
def Got (w : World) (l : Line) (cl sel : Int) (e : Ending) (w' : World) : Prop :=
  e = .returned (.tuple #[.int .u64 (if hit l cl sel = true then l.m else 0), .bool (hit l cl sel)]) ∧ Below w.heap.size w w'

theorem eqA70 (d : Nat) (w : World) (x0 x1 y0 y1 : Int) :
    (Op.equalIn (d + 2) 70 (.agg #[.int .u64 x0, .int .u64 x1]) (.agg #[.int .u64 y0, .int .u64 y1])).run Try.prog w = .ok (x0 == y0 && (x1 == y1)) w := by
  refine eqA_of Try.underlying70 (by kernel_rfl) ?_
  refine eqf_cons (by rfl) (by go_simp; rfl) (by go_simp; rfl) (by go_simp) ?_
  exact eqf_last (by rfl) (by go_simp; rfl) (by go_simp; rfl) (by go_simp)
attribute [local go_sem high] eqA70

set_option maxHeartbeats 1000000 in
set_option maxRecDepth 100000 in
theorem get_any (g lb n base : Nat) (L : Nat → Line) (hits looks : Int) (dv : Value) (ds : List Int) (cl sel : Int) (w : World) (hC : CacheAt w g lb n base L hits looks dv ds) (h0 : 1 ≤ n) (h1 : n ≤ 256) :
    Calls Try.prog 18 #[.pointer (some ⟨g, 0, none⟩), .int .u64 cl, .int .u64 sel] w (Got w (L (idx n cl sel)) cl sel) := by
  have hg : w.cell? ⟨g, 0, none⟩ = some (.slice (some ⟨lb, 0, none⟩) n n) := by rw [blk_cell hC.blk]; rfl
  have lg := World.block_lt_of_cell? w _ hg
  go_enter Try.func18, Try.ntmps18
  go_wp2_with fail
  refine (at_any g lb n cl sel _ ?_ (by omega) (by omega)).mono ?_
  · rw [World.cell?_alloc_lt _ _ _ (by simpa using lg)]; exact hg
  rintro e w' ⟨rfl, hb⟩
  have hI := idx_lt h0 cl sel
  have hk0 : w'.cell? ⟨w.heap.size, 0, none⟩ = some (.int .u64 cl) := (hb.cell (p := ⟨w.heap.size, 0, none⟩) (by simp)).trans (by rw [blk_cell (blk_new w _)]; rfl)
  have hk1 : w'.cell? ⟨w.heap.size, 1, none⟩ = some (.int .u64 sel) := (hb.cell (p := ⟨w.heap.size, 1, none⟩) (by simp)).trans (by rw [blk_cell (blk_new w _)]; rfl)
  have hb2 : Below w.heap.size w w' := below_then ((Below.refl _ _).alloc (Nat.le_refl _) _) (by simp) hb
  obtain ⟨cs, hrow, hsz, hL⟩ := hC.row
  have hrow' := blk_below hrow hb2
  obtain ⟨e0, e1, e2, e3⟩ := hL _ hI
  generalize idx n cl sel = I at *
  generalize L I = l at *
  clear hL
  have hl0 : w'.cell? ⟨lb, I * 4, none⟩ = some (.int .u64 l.cl) := by rw [blk_cell hrow']; exact e0
  have hl1 : w'.cell? ⟨lb, I * 4 + 1, none⟩ = some (.int .u64 l.sel) := by rw [blk_cell hrow']; exact e1
  have hl2 : w'.cell? ⟨lb, I * 4 + 2, none⟩ = some (.int .u64 l.m) := by rw [blk_cell hrow']; exact e2
  have hl3 : w'.cell? ⟨lb, I * 4 + 3, none⟩ = some (.int .i64 l.full) := by rw [blk_cell hrow']; exact e3
  clear e0 e1 e2 e3 hrow hrow' hsz hg lg hC
  obtain ⟨lcl, lsel, lm, lf⟩ := l
  by_cases hf : 0 < lf
  · have hf1 : decide (0 < lf) = true := decide_eq_true hf
    by_cases hk : lcl = cl ∧ lsel = sel
    · obtain ⟨k1, k2⟩ := hk
      subst k1; subst k2
      have hfin : hit ⟨lcl, lsel, lm, lf⟩ lcl lsel = true := by simp [hit, hf]
      have HF := Lib.hid hfin
      clear hfin
      go_wp2_with fail
      go_quiet (fail)
      go_wp2
      go_ret2
      refine ⟨?_, pw_below_drewN hb2 _⟩
      rw [HF.out]; rfl
    · have hkb : (lcl == cl && (lsel == sel)) = false := by
        rw [Bool.and_eq_false_iff, beq_eq_false_iff_ne, beq_eq_false_iff_ne]
        rcases Decidable.not_and_iff_not_or_not.1 hk with h | h
        · exact .inl h
        · exact .inr h
      have hfin : hit ⟨lcl, lsel, lm, lf⟩ cl sel = false := by simp [hit, hkb]
      have HF := Lib.hid hfin
      clear hfin hk
      go_wp2_with fail
      go_quiet (fail)
      go_wp2
      go_ret2
      refine ⟨?_, pw_below_drewN hb2 _⟩
      rw [HF.out]; rfl
  · have hf1 : decide (0 < lf) = false := decide_eq_false hf
    have hfin : hit ⟨lcl, lsel, lm, lf⟩ cl sel = false := by simp [hit, hf]
    have HF := Lib.hid hfin
    clear hfin
    go_wp2_with fail
    go_quiet (fail)
    go_wp2
    go_ret2
    refine ⟨?_, pw_below_drewN hb2 _⟩
    rw [HF.out]; rfl

attribute [local go_sem] max2_int min2_int max_two min_two max_three min_three max_four min_four

theorem wpList_append_q {P : Program} {ops : Array Oper} {rest : List Oper} {o : Oper} {a : Act} {Q' : Exit → Act → World → Prop} {W : World} (base : Nat) (hgd : o.guard = none) (s x : Operand) (t e : TypeId) (i : TypeInfo) (z : Value) (size bytes : Nat)
    (ho : o.op = .call { callee := .builtin .append, args := #[s, x], argTypes := #[t, t] }) (ht : P.underlying t = some (.slice e)) (hi : P.info? e = some i) (hz : i.zero = some z)
    (hsize : i.size = size) (hby : i.bytes = bytes) (hzs : z.cells.size = size) (hsz : 0 < size)
    (v : Value) (n : Nat) (xs : List Value) (hown : QRow W base e size v n xs) (hs : a.eval s = v)
    (ad : Addr) (m c : Nat) (news : List Value) (hx : a.eval x = .slice (some ad) m c) (hl : news.length = m * size) (hnews : ∀ j u, news[j]? = some u → W.cell? (ad.add j) = some u) (h1 : ∀ u ∈ news, u.oneCell' = true) (hm : 0 < m)
    (h63 : n + m ≤ maxLen) (hbytes : (n + m) * bytes ≤ 140737488355328) (hbase : base ≤ W.heap.size)
    (h : ∀ v' w', QRow w' base e size v' (n + m) (xs ++ news) → W.grownBy w' v.ownBlock → (v'.ownBlock = v.ownBlock ∨ ∃ b, v'.ownBlock = some b ∧ W.heap.size ≤ b) → wpList P ops Q' rest (a.put o.dst v') w') :
    wpList P ops Q' (o :: rest) a W := by
  obtain ⟨v1, w1, hr, g1, g2, g3⟩ := q_append (P := P) W base t o.type e i z size bytes ht hi hz hsize hby hzs hsz v n xs hown ad m c news hl hnews h1 hm h63 hbytes hbase
  refine wpList_plain hgd fun K hK => ?_
  unfold Oper.wp execOp
  simp only [ho, resolve, invoke, builtin, Sem.run_bind, Sem.run_pure, Result.andThen_ok, List.map_toArray, List.map_cons, List.map_nil, hs, hx, hr]
  exact hK _ _ (h v1 w1 g1 g2 g3)

theorem info23 : (Try.prog.info? 23).map (fun i => (i.zero, i.size, i.bytes)) = some (some (.int .u64 0), 1, 8) := by kernel_rfl

/-- the last 64 -/
def last64 (l : List Int) : List Int := l.drop (l.length - 64)
def dropped (L : Nat → Line) (sel : Int) (k : Nat) : Nat → Line := fun i => if i < k ∧ (L i).sel = sel then zeroLine else L i
def Drop (w : World) (g lb n base : Nat) (L : Nat → Line) (hits looks : Int) (ds : List Int) (sel : Int) (e : Ending) (w' : World) : Prop :=
  e = .returned (.tuple #[]) ∧ ∃ dv', CacheAt w' g lb n base (dropped L sel n) hits looks dv' (last64 (ds ++ [sel])) ∧ Below base w w'

theorem dropped_zero (L : Nat → Line) (sel : Int) : dropped L sel 0 = L := by
  funext i; unfold dropped; rw [if_neg (fun h => by omega)]
theorem dropped_at (L : Nat → Line) (sel : Int) (k : Nat) : dropped L sel k k = L k := by
  unfold dropped; rw [if_neg (fun h => by omega)]
theorem dropped_yes (L : Nat → Line) (sel : Int) (k : Nat) (h : (L k).sel = sel) : upd (dropped L sel k) k zeroLine = dropped L sel (k + 1) := by
  funext i; unfold upd dropped
  by_cases e : i = k
  · subst e; rw [if_pos rfl, if_pos ⟨by omega, h⟩]
  · rw [if_neg e]
    by_cases c : i < k ∧ (L i).sel = sel
    · rw [if_pos c, if_pos ⟨by omega, c.2⟩]
    · rw [if_neg c, if_neg (fun d => c ⟨by omega, d.2⟩)]
theorem dropped_no (L : Nat → Line) (sel : Int) (k : Nat) (h : (L k).sel ≠ sel) : dropped L sel k = dropped L sel (k + 1) := by
  funext i; unfold dropped
  by_cases c : i < k ∧ (L i).sel = sel
  · rw [if_pos c, if_pos ⟨by omega, c.2⟩]
  · rw [if_neg c, if_neg (fun d => c ⟨by
      have : i ≠ k := fun e => h (e ▸ d.2)
      omega, d.2⟩)]

set_option maxHeartbeats 2000000 in
set_option maxRecDepth 100000 in
theorem drop_any (g lb n base : Nat) (L : Nat → Line) (hits looks : Int) (dv : Value) (ds : List Int) (sel : Int) (w : World) (hC : CacheAt w g lb n base L hits looks dv ds) (h0 : 1 ≤ n) (h1 : n ≤ 256) (hd : ds.length ≤ 64) :
    Calls Try.prog 19 #[.pointer (some ⟨g, 0, none⟩), .int .u64 sel] w (Drop w g lb n base L hits looks ds sel) := by
  have hg : w.cell? ⟨g, 0, none⟩ = some (.slice (some ⟨lb, 0, none⟩) n n) := by rw [blk_cell hC.blk]; rfl
  have hg3 : w.cell? ⟨g, 3, none⟩ = some dv := by rw [blk_cell hC.blk]; rfl
  have lg := World.block_lt_of_cell? w _ hg
  have hn0 : ((n : Int) == 0) = false := beq_eq_false_iff_ne.2 (by omega)
  obtain ⟨i0, hi0, hz0, hz1, hz2⟩ := info_parts info23
  have hbase : base ≤ w.heap.size := Nat.le_trans hC.bg (Nat.le_of_lt lg)
  obtain ⟨cs, hrow, hsz, hL⟩ := hC.row
  have hng : some g ≠ dv.ownBlock := fun he => by
    obtain ⟨_, cells, hc⟩ := q_typed hC.drops g he.symm
    exact blk_ne hC.blk hc (by decide) rfl
  have hnl : some lb ≠ dv.ownBlock := fun he => by
    obtain ⟨_, cells, hc⟩ := q_typed hC.drops lb he.symm
    exact blk_ne hrow hc (by decide) rfl
  have hne : g ≠ lb := blk_ne hC.blk hrow (by decide)
  go_enter Try.func19, Try.ntmps19
  go_wp2_with (at_builtin; refine wpList_append_q base rfl (.tmp 19) (.tmp 21) 34 23 i0 _ 1 8 rfl Try.underlying34 hi0 hz0 hz1 hz2 rfl (by omega) dv ds.length (nums .u64 ds) (q_move hC.drops fun k hk => Below.heap_alloc w _ k (q_lt hC.drops k hk)) rfl ⟨w.heap.size, 0, none⟩ 1 1 [.int .u64 sel] rfl rfl (by simpa using World.news_of_block (cs := #[.int .u64 sel]) (t := 23) (fr := (0, 0)) (heap_alloc_new w (.cells #[.int .u64 sel] 23))) (by simp [Value.oneCell']) (by omega) (by simp only [maxLen]; omega) (by omega) (by simp; omega) ?_; intro v1 w1 hq1 hgr1 hat1; obtain ⟨A1, c1, hv1, hle⟩ := q_slice hq1; subst hv1; have hgb := blk_grown (blk_alloc hC.blk (.cells #[.int .u64 sel] 23)) hgr1 hng; have hlb := blk_grown (blk_alloc hrow (.cells #[.int .u64 sel] 23)) hgr1 hnl; have hgc : w1.cell? ⟨g, 3, none⟩ = some dv := (blk_cell hgb 3).trans rfl; have hgf : w1.frozen? ⟨g, 3, none⟩ = false := blk_frozen hgb 3)
  have hx : w1.cell? ⟨g, 3, none⟩ ≠ none := by rw [hgc]; simp
  obtain ⟨W2, hW2⟩ : ∃ W2, W2 = w1.setCell ⟨g, 3, none⟩ (.slice A1 (ds.length + 1) c1) := ⟨_, rfl⟩
  rw [← hW2]
  have hgb2 := blk_set hgb 3 (.slice A1 (ds.length + 1) c1)
  have hlb2 := blk_far hlb (p := ⟨g, 3, none⟩) (Ne.symm hne) (.slice A1 (ds.length + 1) c1)
  rw [← hW2] at hgb2 hlb2
  have hc3 : W2.cell? ⟨g, 3, none⟩ = some (.slice A1 (ds.length + 1) c1) := (blk_cell hgb2 3).trans rfl
  have hf3 : W2.frozen? ⟨g, 3, none⟩ = false := blk_frozen hgb2 3
  have HW2 := Lib.hid hW2
  clear hW2 hgc hgf hx
  have hc0 : W2.cell? ⟨g, 0, none⟩ = some (.slice (some ⟨lb, 0, none⟩) n n) := (blk_cell hgb2 0).trans rfl
  obtain ⟨j, hj⟩ : ∃ j, j = ds.length + 1 - 64 := ⟨_, rfl⟩
  have hqd := q_drop hq1 (k := j) (by omega)
  rw [if_neg (by omega), Nat.mul_one] at hqd
  have hw1 : IntKind.i64.wrap ((ds.length : Int) + 1 - 64) = ds.length + 1 - 64 := IntWalk.i64_in _ (by omega)
  have hif : (if (64 : Int) < (ds.length : Int) + 1 then (ds.length : Int) + 1 - 64 else 0) = (j : Int) := by split <;> omega
  have hj0 : ¬ c1 = j := by omega
  have hj1 : (j : Int) ≤ (ds.length : Int) + 1 := by omega
  have HJ := Lib.hid hj
  clear hj
  go_still_tail 15, (by kernel_rfl)
  go_wp2_with fail
  obtain ⟨V3, hV3⟩ : ∃ V3, V3 = Value.slice (Option.map (fun x => x.add j) A1) (ds.length + 1 - j) (c1 - j) := ⟨_, rfl⟩
  rw [← hV3]
  rw [← hV3] at hqd
  have hst : CacheAt (W2.setCell ⟨g, 3, none⟩ V3).drew g lb n base (dropped L sel 0) hits looks V3 (last64 (ds ++ [sel])) := by
    rw [dropped_zero]
    refine ⟨(blk_set hgb2 3 V3).trans (by simp), ⟨cs, blk_far hlb2 (p := ⟨g, 3, none⟩) (Ne.symm hne) V3, hsz, hL⟩, ?_, hC.bg, hC.bl⟩
    have e1 : (last64 (ds ++ [sel])).length = ds.length + 1 - j := by
      have := HJ.out
      unfold last64; simp; omega
    have e2 : nums .u64 (last64 (ds ++ [sel])) = List.drop j (nums .u64 ds ++ [Value.int .u64 sel]) := by
      have := HJ.out
      unfold last64 nums; simp [List.map_drop, this]
    rw [e1, e2]
    have hQ : QRow W2 base 23 1 V3 (ds.length + 1 - j) (List.drop j (nums .u64 ds ++ [Value.int .u64 sel])) := by
      refine q_move hqd fun k hk => ?_
      obtain ⟨_, cells, hc⟩ := q_typed hqd k hk
      rw [HW2.out]
      exact Below.heap_setCell w1 _ _ k (blk_ne hc hgb (by decide))
    refine q_move hQ fun k hk => ?_
    obtain ⟨_, cells, hc⟩ := q_typed hQ k hk
    exact Below.heap_setCell W2 _ _ k (blk_ne hc hgb2 (by decide))
  have hbw : Below base w (W2.setCell ⟨g, 3, none⟩ V3).drew := by
    have h1 : Below base w w1 := ((Below.refl _ _).alloc hbase _).grown hgr1 (by simp; omega) (fun k hk => (q_typed hC.drops k hk).1)
    have h2 : Below base w W2 := by rw [HW2.out]; exact h1.setCell hC.bg _
    exact below_drew (h2.setCell hC.bg _)
  clear hqd hq1 hat1 hgr1 hgb hlb hgb2 hlb2 hc0 hc3 hf3 hif hj0 hj1 hw1 hL hsz hrow hng hnl hg hg3 hC HW2 HJ hV3
  go_loopw [45] (fun i wr => ∃ k : Nat, k ≤ n ∧ i = .int .i64 k ∧ CacheAt wr g lb n base (dropped L sel k) hits looks V3 (last64 (ds ++ [sel])) ∧ Below base w wr) (fun i _ => n - (intOf i).toNat)
  case atStart => exact ⟨0, by omega, rfl, hst, hbw⟩
  case round =>
    obtain ⟨k, hk, rfl, hR, hB⟩ := hrel
    by_cases hlt : k < n
    · have hki : (0 : Int) ≤ (k : Int) := by omega
      have hkn : (k : Int) < (n : Int) := by omega
      have hr0 : wr.cell? ⟨g, 0, none⟩ = some (.slice (some ⟨lb, 0, none⟩) n n) := (blk_cell hR.blk 0).trans rfl
      obtain ⟨cr, hrow, hsz, hL⟩ := hR.row
      obtain ⟨l0, l1, l2, l3⟩ := hL k hlt
      rw [dropped_at] at l0 l1 l2 l3
      have hfr : ∀ i, wr.frozen? ⟨lb, i, none⟩ = false := fun i => blk_frozen hrow i
      have m0 := (blk_cell hrow (k * 4)).trans l0
      have m1 := (blk_cell hrow (k * 4 + 1)).trans l1
      have m2 := (blk_cell hrow (k * 4 + 2)).trans l2
      have m3 := (blk_cell hrow (k * 4 + 3)).trans l3
      clear l0 l1 l2 l3 hL hsz hrow
      by_cases hs : (L k).sel = sel
      · have hsb : ((L k).sel == sel) = true := beq_iff_eq.2 hs
        have HS := Lib.hid hs
        clear hs
        go_wp2
        go_roundw
        case rel =>
          refine ⟨k + 1, by omega, by go_num, ?_, ?_⟩
          · rw [← dropped_yes L sel k HS.out]
            exact hR.line hlt zeroLine
          · exact (((hB.setCell hR.bl _).setCell hR.bl _).setCell hR.bl _).setCell hR.bl _
        case measure => simp [intOf]; omega
      · have hsb : ((L k).sel == sel) = false := beq_eq_false_iff_ne.2 hs
        have HS := Lib.hid hs
        clear hs
        go_wp2
        go_roundw
        case rel =>
          refine ⟨k + 1, by omega, by go_num, ?_, hB⟩
          rw [← dropped_no L sel k HS.out]
          exact hR
        case measure => simp [intOf]; omega
    · have hkn : ¬ (k : Int) < (n : Int) := by omega
      have hkk : k = n := by omega
      have HK := Lib.hid hkk
      clear hkk
      go_wp2
      go_end0
      refine ⟨rfl, V3, ?_, hB⟩
      rw [HK.out] at hR
      exact hR

def Told (w : World) (g lb n base : Nat) (L : Nat → Line) (hits looks : Int) (dv : Value) (ds : List Int) (e : Ending) (w' : World) : Prop :=
  e = .returned dv ∧ CacheAt w' g lb n base L hits looks (.slice none 0 0) [] ∧ QRow w' base 23 1 dv ds.length (nums .u64 ds) ∧ Below base w w' ∧ ∀ k, k ≠ g → w'.heap[k]? = w.heap[k]?

set_option maxHeartbeats 1000000 in
set_option maxRecDepth 100000 in
theorem drops_any (g lb n base : Nat) (L : Nat → Line) (hits looks : Int) (dv : Value) (ds : List Int) (w : World) (hC : CacheAt w g lb n base L hits looks dv ds) :
    Calls Try.prog 20 #[.pointer (some ⟨g, 0, none⟩)] w (Told w g lb n base L hits looks dv ds) := by
  have hg3 : w.cell? ⟨g, 3, none⟩ = some dv := by rw [blk_cell hC.blk]; rfl
  have hf3 : w.frozen? ⟨g, 3, none⟩ = false := blk_frozen hC.blk 3
  go_enter Try.func20, Try.ntmps20
  go_wp2
  go_ret
  obtain ⟨cs, hrow, hsz, hL⟩ := hC.row
  have hne : g ≠ lb := blk_ne hC.blk hrow (by decide)
  refine ⟨rfl, ⟨(blk_set hC.blk 3 _).trans (by simp), ⟨cs, blk_far hrow (p := ⟨g, 3, none⟩) (Ne.symm hne) _, hsz, hL⟩, ⟨by simp [nums], .inl ⟨rfl, none, rfl, fun a ha => by cases ha⟩⟩, hC.bg, hC.bl⟩, ?_, (Below.refl _ _).setCell hC.bg _, fun k hk => Below.heap_setCell w _ _ k hk⟩
  refine q_move hC.drops fun k hk => ?_
  obtain ⟨_, cells, hc⟩ := q_typed hC.drops k hk
  exact Below.heap_setCell w _ _ k (blk_ne hc hC.blk (by decide))

theorem got_yes {w : World} {l : Line} {cl sel : Int} {e : Ending} {w' : World} (h : Got w l cl sel e w') (hh : hit l cl sel = true) (m : Int) (hm : l.m = m) : e = .returned (.tuple #[.int .u64 m, .bool true]) ∧ Below w.heap.size w w' := by
  obtain ⟨h1, h2⟩ := h
  rw [hh, if_pos rfl, hm] at h1
  exact ⟨h1, h2⟩
theorem got_no {w : World} {l : Line} {cl sel : Int} {e : Ending} {w' : World} (h : Got w l cl sel e w') (hh : hit l cl sel = false) : e = .returned (.tuple #[.int .u64 0, .bool false]) ∧ Below w.heap.size w w' := by
  obtain ⟨h1, h2⟩ := h
  rw [hh] at h1
  exact ⟨h1, h2⟩
theorem upd_same (L : Nat → Line) (i : Nat) (l : Line) : upd L i l i = l := if_pos rfl
theorem upd_other (L : Nat → Line) {i j : Nat} (l : Line) (h : j ≠ i) : upd L i l j = L j := if_neg h
theorem hit_zero (cl sel : Int) : hit zeroLine cl sel = false := rfl

theorem idx_one (a b : Int) : idx 1 a b = 0 := by unfold idx; omega
def Awake (w : World) (e : Ending) (w' : World) : Prop := e = .returned (.bool true) ∧ Below w.heap.size w w'

set_option maxHeartbeats 1000000 in
set_option maxRecDepth 100000 in
theorem awake_any (w : World) : Calls Try.prog 15 #[] w (Awake w) := by
  go_enter Try.func15, Try.ntmps15
  go_wp2_with fail
  refine (new_yes 1 w (by omega) (by omega)).mono ?_
  rintro e w1 ⟨g, lb, rfl, hC1, hb1⟩
  go_wp2_with fail
  refine (new_no w1).mono ?_
  rintro e w' ⟨rfl, rfl⟩
  go_wp2_with fail
  refine (put_any g lb 1 w.heap.size _ _ _ _ _ 2 4 6 w1 hC1 (by omega) (by omega)).mono ?_
  rintro e w2 ⟨rfl, hC2, hb2⟩
  rw [idx_one] at hC2
  go_wp2_with fail
  refine (get_any g lb 1 w.heap.size _ _ _ _ _ 2 4 w2 hC2 (by omega) (by omega)).mono ?_
  intro e w3 h3
  rw [idx_one] at h3
  obtain ⟨rfl, hb3⟩ := got_yes h3 (by rw [upd_same]; decide) 6 (by rw [upd_same])
  clear h3
  have hC3 := hC2.below hb3
  go_wp2_with fail
  refine (put_any g lb 1 w.heap.size _ _ _ _ _ 8 4 6 w3 hC3 (by omega) (by omega)).mono ?_
  rintro e w4 ⟨rfl, hC4, hb4⟩
  rw [idx_one] at hC4
  go_wp2_with fail
  refine (get_any g lb 1 w.heap.size _ _ _ _ _ 2 4 w4 hC4 (by omega) (by omega)).mono ?_
  intro e w5 h5
  rw [idx_one] at h5
  obtain ⟨rfl, hb5⟩ := got_no h5 (by rw [upd_same]; decide)
  clear h5
  have hC5 := hC4.below hb5
  go_wp2_with fail
  refine (drop_any g lb 1 w.heap.size _ _ _ _ _ 4 w5 hC5 (by omega) (by omega) (by simp)).mono ?_
  rintro e w6 ⟨rfl, dv, hC6, hb6⟩
  go_wp2_with fail
  refine (get_any g lb 1 w.heap.size _ _ _ _ _ 8 4 w6 hC6 (by omega) (by omega)).mono ?_
  intro e w7 h7
  rw [idx_one] at h7
  obtain ⟨rfl, hb7⟩ := got_no h7 (by unfold dropped; rw [upd_same, if_pos ⟨by omega, rfl⟩]; decide)
  clear h7
  go_wp2
  go_ret
  refine ⟨rfl, ?_⟩
  have s1 := hb1.size
  have t3 : Below w.heap.size w2 w3 := hb3.mono (Nat.le_trans hC2.bg (Nat.le_of_lt (blk_lt hC2.blk)))
  have t5 : Below w.heap.size w4 w5 := hb5.mono (Nat.le_trans hC4.bg (Nat.le_of_lt (blk_lt hC4.blk)))
  have t7 : Below w.heap.size w6 w7 := hb7.mono (Nat.le_trans hC6.bg (Nat.le_of_lt (blk_lt hC6.blk)))
  exact (((((hb1.trans hb2).trans t3).trans hb4).trans t5).trans hb6).trans t7

theorem and_255 (n : Int) : Go.bits .and .i64 n 255 = n % 256 := by
  unfold Go.bits
  rw [IntKind.wrap_i64]
  show ((BitVec.ofInt 64 n &&& BitVec.ofInt 64 255).toNat + 9223372036854775808 : Int) % 18446744073709551616 - 9223372036854775808 = n % 256
  rw [BitVec.toNat_and]
  have e1 : (BitVec.ofInt 64 255).toNat = 255 := by decide
  rw [e1, nat_mask8]
  have e2 : ((BitVec.ofInt 64 n).toNat : Int) = n % 18446744073709551616 := by
    rw [BitVec.toNat_ofInt]; simp; omega
  omega

theorem same_iff {N : Nat} {a b x y : Int} (h1 : 1 ≤ N) (ha : 0 ≤ a) (hb : 0 ≤ b) (hx : 0 ≤ x) (hy : 0 ≤ y) (H : IntKind.u64.wrap a = a ∧ IntKind.u64.wrap b = b ∧ IntKind.u64.wrap x = x ∧ IntKind.u64.wrap y = y) :
    (((IntKind.u64.wrap (IntKind.u64.wrap (IntKind.u64.wrap (a.tdiv 2) * 31) + IntKind.u64.wrap (b.tdiv 2))).tmod (N : Int) == (IntKind.u64.wrap (IntKind.u64.wrap (IntKind.u64.wrap (x.tdiv 2) * 31) + IntKind.u64.wrap (y.tdiv 2))).tmod (N : Int))) = true ↔ idx N a b = idx N x y := by
  obtain ⟨h2, h3, h4, h5⟩ := H
  have half : ∀ z : Int, 0 ≤ z → IntKind.u64.wrap z = z → IntKind.u64.wrap (z.tdiv 2) = z / 2 := by
    intro z hz hw
    rw [Int.tdiv_eq_ediv_of_nonneg hz]
    rw [IntKind.wrap_u64] at hw ⊢; omega
  rw [half a ha h2, half b hb h3, half x hx h4, half y hy h5]
  have nn : ∀ z : Int, 0 ≤ IntKind.u64.wrap z := by intro z; rw [IntKind.wrap_u64]; omega
  rw [Int.tmod_eq_emod_of_nonneg (nn _), Int.tmod_eq_emod_of_nonneg (nn _), beq_iff_eq]
  unfold idx hashOf
  have p := Int.emod_nonneg (IntKind.u64.wrap (IntKind.u64.wrap (a / 2 * 31) + b / 2)) (show (N : Int) ≠ 0 by omega)
  have q := Int.emod_nonneg (IntKind.u64.wrap (IntKind.u64.wrap (x / 2 * 31) + y / 2)) (show (N : Int) ≠ 0 by omega)
  omega

theorem law_below {w w0 w1 w2 w3 w4 w5 w7 w8 w9 : World} (hb0 : Below w.heap.size w w0) (hb1 : Below w0.heap.size w0 w1) (hb2 : Below w0.heap.size w1 w2) (hb3 : Below w0.heap.size w2 w3) (hb4 : Below w3.heap.size w3 w4)
    (hb5 : Below w4.heap.size w4 w5) (nq : Nat) (hb7 : Below w0.heap.size (w5.drewN nq) w7) (hb8 : Below w7.heap.size w7 w8) (hb9 : Below w8.heap.size w8 w9) {g : Nat} {o3 o4 o7 o8 : Obj} (hg : w0.heap.size ≤ g)
    (h3 : w3.heap[g]? = some o3) (h4 : w4.heap[g]? = some o4) (h7 : w7.heap[g]? = some o7) (h8 : w8.heap[g]? = some o8) : Below w.heap.size w w9 := by
  have s0 := hb0.size
  have t : Below w0.heap.size w0 w9 :=
    (((((((hb1.trans hb2).trans hb3).trans (hb4.mono (Nat.le_trans hg (Nat.le_of_lt (blk_lt h3))))).trans (hb5.mono (Nat.le_trans hg (Nat.le_of_lt (blk_lt h4))))).trans (pw_below_drewN (Below.refl _ _) nq)).trans hb7).trans (hb8.mono (Nat.le_trans hg (Nat.le_of_lt (blk_lt h7))))).trans (hb9.mono (Nat.le_trans hg (Nat.le_of_lt (blk_lt h8))))
  exact hb0.trans (t.mono s0)

set_option maxHeartbeats 4000000 in
set_option maxRecDepth 100000 in
theorem one_any (lines a b m x y : Int) (w : World) (ha : 0 ≤ a) (hb : 0 ≤ b) (hx : 0 ≤ x) (hy : 0 ≤ y) (ha' : IntKind.u64.wrap a = a) (hb' : IntKind.u64.wrap b = b) (hx' : IntKind.u64.wrap x = x) (hy' : IntKind.u64.wrap y = y) :
    Calls Try.prog 3 #[.int .i64 lines, .int .u64 a, .int .u64 b, .int .u64 m, .int .u64 x, .int .u64 y] w (Awake w) := by
  obtain ⟨N, hN, h1, h2⟩ : ∃ N : Nat, 1 + Go.bits .and .i64 lines 255 = (N : Int) ∧ 1 ≤ N ∧ N ≤ 256 := ⟨(1 + lines % 256).toNat, by rw [and_255]; omega, by omega, by omega⟩
  have HA := Lib.hid (And.intro ha' (And.intro hb' (And.intro hx' hy')))
  clear ha' hb' hx' hy'
  go_enter Try.func3, Try.ntmps3
  go_wp2_with fail
  refine (awake_any w).mono ?_
  rintro e w0 ⟨rfl, hb0⟩
  go_wp2_with fail
  refine (new_yes N w0 (by omega) (by omega)).mono ?_
  rintro e w1 ⟨g, lb, rfl, hC1, hb1⟩
  go_wp2_with fail
  refine (put_any g lb N w0.heap.size _ _ _ _ _ x y 10 w1 hC1 (by omega) (by omega)).mono ?_
  rintro e w2 ⟨rfl, hC2, hb2⟩
  go_wp2_with fail
  refine (put_any g lb N w0.heap.size _ _ _ _ _ a b m w2 hC2 (by omega) (by omega)).mono ?_
  rintro e w3 ⟨rfl, hC3, hb3⟩
  go_wp2_with fail
  refine (get_any g lb N w0.heap.size _ _ _ _ _ a b w3 hC3 (by omega) (by omega)).mono ?_
  intro e w4 h4
  obtain ⟨rfl, hb4⟩ := got_yes h4 (by rw [upd_same]; simp [hit]) m (by rw [upd_same])
  clear h4
  have hC4 := hC3.below hb4
  go_wp2_with fail
  refine (get_any g lb N w0.heap.size _ _ _ _ _ x y w4 hC4 (by omega) (by omega)).mono ?_
  intro e w5 h5
  have hb5 := h5.2
  have hC5 := hC4.below hb5
  obtain ⟨h5, _⟩ := h5
  obtain ⟨also, hal⟩ : ∃ also, also = hit (upd (upd (fun _ => zeroLine) (idx N x y) ⟨x, y, 10, 1⟩) (idx N a b) ⟨a, b, m, 1⟩ (idx N x y)) x y := ⟨_, rfl⟩
  obtain ⟨w', hw'⟩ : ∃ w', w' = if also = true then (upd (upd (fun _ => zeroLine) (idx N x y) ⟨x, y, 10, 1⟩) (idx N a b) ⟨a, b, m, 1⟩ (idx N x y)).m else 0 := ⟨_, rfl⟩
  rw [← hal, ← hw'] at h5
  subst h5
  have HAL := Lib.hid hal
  have HW := Lib.hid hw'
  clear hal hw'
  go_wp2_with fail
  go_quiet (fail)
  obtain ⟨same, hs⟩ : ∃ same, same = ((IntKind.u64.wrap (IntKind.u64.wrap (IntKind.u64.wrap (a.tdiv 2) * 31) + IntKind.u64.wrap (b.tdiv 2))).tmod (N : Int) == (IntKind.u64.wrap (IntKind.u64.wrap (IntKind.u64.wrap (x.tdiv 2) * 31) + IntKind.u64.wrap (y.tdiv 2))).tmod (N : Int)) := ⟨_, rfl⟩
  rw [← hs]
  have hS : same = true ↔ idx N a b = idx N x y := by
    rw [hs]; exact same_iff h1 ha hb hx hy HA.out
  clear hs
  have hC6 := hC5.below (pw_below_drewN (Below.refl _ _) nq)
  have hal := HAL.out
  have hw' := HW.out
  clear HAL HW HA
  by_cases hk : a = x ∧ b = y
  · obtain ⟨rfl, rfl⟩ := hk
    obtain rfl : same = true := hS.2 rfl
    rw [upd_same] at hal hw'
    obtain rfl : also = true := by rw [hal]; simp [hit]
    rw [if_pos rfl] at hw'
    subst hw'
    clear hS hal
    go_wp2_with fail
    refine (drop_any g lb N w0.heap.size _ _ _ _ _ b _ hC6 (by omega) (by omega) (by simp)).mono ?_
    rintro e w7 ⟨rfl, dv, hC7, hb7⟩
    go_wp2_with fail
    refine (get_any g lb N w0.heap.size _ _ _ _ _ a b w7 hC7 (by omega) (by omega)).mono ?_
    intro e w8 h8
    obtain ⟨rfl, hb8⟩ := got_no h8 (by unfold dropped; rw [upd_same, if_pos ⟨idx_lt h1 a b, rfl⟩]; rfl)
    clear h8
    have hC8 := hC7.below hb8
    go_wp2_with fail
    refine (get_any g lb N w0.heap.size _ _ _ _ _ a b w8 hC8 (by omega) (by omega)).mono ?_
    intro e w9 h9
    obtain ⟨rfl, _⟩ := got_no h9 (by unfold dropped; rw [upd_same, if_pos ⟨idx_lt h1 a b, rfl⟩]; rfl)
    have hb9 := h9.2
    clear h9
    have hfin : Below w.heap.size w w9 := law_below hb0 hb1 hb2 hb3 hb4 hb5 nq hb7 hb8 hb9 hC3.bg hC3.blk hC4.blk hC7.blk hC8.blk
    clear hC1 hC2 hC3 hC4 hC5 hC6 hC7 hC8
    go_wp2
    go_ret
    exact ⟨by first | rfl | simp, hfin⟩
  by_cases hi : idx N a b = idx N x y
  · obtain rfl : same = true := hS.2 hi
    rw [← hi, upd_same] at hal hw'
    have hne : (a == x && b == y) = false := by
      rw [Bool.and_eq_false_iff, beq_eq_false_iff_ne, beq_eq_false_iff_ne]
      exact Decidable.not_and_iff_not_or_not.1 hk
    obtain rfl : also = false := by rw [hal]; simp [hit, hne]
    rw [if_neg (by decide)] at hw'
    subst hw'
    clear hS hal
    have HI := Lib.hid hi
    have HK := Lib.hid hk
    clear hi
    by_cases hax : a = x
    · subst hax
      have hby : (b == y) = false := beq_eq_false_iff_ne.2 (fun h => HK.out ⟨rfl, h⟩)
      have hby2 : (b != y) = true := by rw [bne_iff_ne]; exact fun h => HK.out ⟨rfl, h⟩
      clear hk hne
      go_wp2_with fail
      refine (drop_any g lb N w0.heap.size _ _ _ _ _ b _ hC6 (by omega) (by omega) (by simp)).mono ?_
      rintro e w7 ⟨rfl, dv, hC7, hb7⟩
      go_wp2_with fail
      refine (get_any g lb N w0.heap.size _ _ _ _ _ a b w7 hC7 (by omega) (by omega)).mono ?_
      intro e w8 h8
      obtain ⟨rfl, hb8⟩ := got_no h8 (by unfold dropped; rw [upd_same, if_pos ⟨idx_lt h1 a b, rfl⟩]; rfl)
      clear h8
      have hC8 := hC7.below hb8
      go_wp2_with fail
      refine (get_any g lb N w0.heap.size _ _ _ _ _ a y w8 hC8 (by omega) (by omega)).mono ?_
      intro e w9 h9
      obtain ⟨rfl, _⟩ := got_no h9 (by unfold dropped; rw [← HI.out, upd_same, if_pos ⟨idx_lt h1 a b, rfl⟩]; rfl)
      have hb9 := h9.2
      clear h9
      have hfin : Below w.heap.size w w9 := law_below hb0 hb1 hb2 hb3 hb4 hb5 nq hb7 hb8 hb9 hC3.bg hC3.blk hC4.blk hC7.blk hC8.blk
      clear hC1 hC2 hC3 hC4 hC5 hC6 hC7 hC8
      go_wp2
      go_ret
      exact ⟨by first | rfl | simp, hfin⟩
    · have hax1 : (a == x) = false := beq_eq_false_iff_ne.2 hax
      have hax2 : (a != x) = true := bne_iff_ne.2 hax
      clear hk hne hax
      go_wp2_with fail
      refine (drop_any g lb N w0.heap.size _ _ _ _ _ b _ hC6 (by omega) (by omega) (by simp)).mono ?_
      rintro e w7 ⟨rfl, dv, hC7, hb7⟩
      go_wp2_with fail
      refine (get_any g lb N w0.heap.size _ _ _ _ _ a b w7 hC7 (by omega) (by omega)).mono ?_
      intro e w8 h8
      obtain ⟨rfl, hb8⟩ := got_no h8 (by unfold dropped; rw [upd_same, if_pos ⟨idx_lt h1 a b, rfl⟩]; rfl)
      clear h8
      have hC8 := hC7.below hb8
      go_wp2_with fail
      refine (get_any g lb N w0.heap.size _ _ _ _ _ x y w8 hC8 (by omega) (by omega)).mono ?_
      intro e w9 h9
      obtain ⟨rfl, _⟩ := got_no h9 (by unfold dropped; rw [← HI.out, upd_same, if_pos ⟨idx_lt h1 a b, rfl⟩]; rfl)
      have hb9 := h9.2
      clear h9
      have hfin : Below w.heap.size w w9 := law_below hb0 hb1 hb2 hb3 hb4 hb5 nq hb7 hb8 hb9 hC3.bg hC3.blk hC4.blk hC7.blk hC8.blk
      clear hC1 hC2 hC3 hC4 hC5 hC6 hC7 hC8
      go_wp2
      go_ret
      exact ⟨by first | rfl | simp, hfin⟩
  · obtain rfl : same = false := by
      cases same
      · rfl
      · exact absurd (hS.1 rfl) hi
    have hi' : idx N x y ≠ idx N a b := fun h => hi h.symm
    rw [upd_other _ _ hi', upd_same] at hal hw'
    obtain rfl : also = true := by rw [hal]; simp [hit]
    rw [if_pos rfl] at hw'
    replace hw' : w' = 10 := hw'
    subst hw'
    clear hS hal
    have hne : (a == x && b == y) = false := by
      rw [Bool.and_eq_false_iff, beq_eq_false_iff_ne, beq_eq_false_iff_ne]
      exact Decidable.not_and_iff_not_or_not.1 hk
    have HI := Lib.hid hi'
    have HK := Lib.hid hk
    have HN := Lib.hid hne
    clear hi hi' hk hne
    by_cases hax : a = x
    · subst hax
      have hby : (b == y) = false := beq_eq_false_iff_ne.2 (fun h => HK.out ⟨rfl, h⟩)
      by_cases hyb : y = b
      · have hyb2 : (y != b) = false := by rw [hyb]; simp
        have HY := Lib.hid hyb
        clear hyb
        go_wp2_with fail
        refine (drop_any g lb N w0.heap.size _ _ _ _ _ b _ hC6 (by omega) (by omega) (by simp)).mono ?_
        rintro e w7 ⟨rfl, dv, hC7, hb7⟩
        go_wp2_with fail
        refine (get_any g lb N w0.heap.size _ _ _ _ _ a b w7 hC7 (by omega) (by omega)).mono ?_
        intro e w8 h8
        obtain ⟨rfl, hb8⟩ := got_no h8 (by unfold dropped; rw [upd_same, if_pos ⟨idx_lt h1 a b, rfl⟩]; rfl)
        clear h8
        have hC8 := hC7.below hb8
        go_wp2_with fail
        refine (get_any g lb N w0.heap.size _ _ _ _ _ a y w8 hC8 (by omega) (by omega)).mono ?_
        intro e w9 h9
        obtain ⟨rfl, _⟩ := got_no h9 (by unfold dropped; rw [upd_other _ _ HI.out, upd_same, if_pos ⟨idx_lt h1 _ _, HY.out⟩]; rfl)
        have hb9 := h9.2
        clear h9
        have hfin : Below w.heap.size w w9 := law_below hb0 hb1 hb2 hb3 hb4 hb5 nq hb7 hb8 hb9 hC3.bg hC3.blk hC4.blk hC7.blk hC8.blk
        clear hC1 hC2 hC3 hC4 hC5 hC6 hC7 hC8
        go_wp2
        go_ret
        exact ⟨by first | rfl | simp, hfin⟩
      · have hyb2 : (y != b) = true := bne_iff_ne.2 hyb
        have HY := Lib.hid hyb
        clear hyb
        go_wp2_with fail
        refine (drop_any g lb N w0.heap.size _ _ _ _ _ b _ hC6 (by omega) (by omega) (by simp)).mono ?_
        rintro e w7 ⟨rfl, dv, hC7, hb7⟩
        go_wp2_with fail
        refine (get_any g lb N w0.heap.size _ _ _ _ _ a b w7 hC7 (by omega) (by omega)).mono ?_
        intro e w8 h8
        obtain ⟨rfl, hb8⟩ := got_no h8 (by unfold dropped; rw [upd_same, if_pos ⟨idx_lt h1 a b, rfl⟩]; rfl)
        clear h8
        have hC8 := hC7.below hb8
        go_wp2_with fail
        refine (get_any g lb N w0.heap.size _ _ _ _ _ a y w8 hC8 (by omega) (by omega)).mono ?_
        intro e w9 h9
        obtain ⟨rfl, _⟩ := got_yes h9 (by unfold dropped; rw [upd_other _ _ HI.out, upd_same, if_neg (fun h => HY.out h.2)]; simp [hit]) 10 (by unfold dropped; rw [upd_other _ _ HI.out, upd_same, if_neg (fun h => HY.out h.2)])
        have hb9 := h9.2
        clear h9
        have hfin : Below w.heap.size w w9 := law_below hb0 hb1 hb2 hb3 hb4 hb5 nq hb7 hb8 hb9 hC3.bg hC3.blk hC4.blk hC7.blk hC8.blk
        clear hC1 hC2 hC3 hC4 hC5 hC6 hC7 hC8
        go_wp2
        go_ret
        exact ⟨by first | rfl | simp, hfin⟩
    · have hax1 : (a == x) = false := beq_eq_false_iff_ne.2 hax
      clear hax
      by_cases hyb : y = b
      · have hyb2 : (y != b) = false := by rw [hyb]; simp
        have HY := Lib.hid hyb
        clear hyb
        go_wp2_with fail
        refine (drop_any g lb N w0.heap.size _ _ _ _ _ b _ hC6 (by omega) (by omega) (by simp)).mono ?_
        rintro e w7 ⟨rfl, dv, hC7, hb7⟩
        go_wp2_with fail
        refine (get_any g lb N w0.heap.size _ _ _ _ _ a b w7 hC7 (by omega) (by omega)).mono ?_
        intro e w8 h8
        obtain ⟨rfl, hb8⟩ := got_no h8 (by unfold dropped; rw [upd_same, if_pos ⟨idx_lt h1 a b, rfl⟩]; rfl)
        clear h8
        have hC8 := hC7.below hb8
        go_wp2_with fail
        refine (get_any g lb N w0.heap.size _ _ _ _ _ x y w8 hC8 (by omega) (by omega)).mono ?_
        intro e w9 h9
        obtain ⟨rfl, _⟩ := got_no h9 (by unfold dropped; rw [upd_other _ _ HI.out, upd_same, if_pos ⟨idx_lt h1 _ _, HY.out⟩]; rfl)
        have hb9 := h9.2
        clear h9
        have hfin : Below w.heap.size w w9 := law_below hb0 hb1 hb2 hb3 hb4 hb5 nq hb7 hb8 hb9 hC3.bg hC3.blk hC4.blk hC7.blk hC8.blk
        clear hC1 hC2 hC3 hC4 hC5 hC6 hC7 hC8
        go_wp2
        go_ret
        exact ⟨by first | rfl | simp, hfin⟩
      · have hyb2 : (y != b) = true := bne_iff_ne.2 hyb
        have HY := Lib.hid hyb
        clear hyb
        go_wp2_with fail
        refine (drop_any g lb N w0.heap.size _ _ _ _ _ b _ hC6 (by omega) (by omega) (by simp)).mono ?_
        rintro e w7 ⟨rfl, dv, hC7, hb7⟩
        go_wp2_with fail
        refine (get_any g lb N w0.heap.size _ _ _ _ _ a b w7 hC7 (by omega) (by omega)).mono ?_
        intro e w8 h8
        obtain ⟨rfl, hb8⟩ := got_no h8 (by unfold dropped; rw [upd_same, if_pos ⟨idx_lt h1 a b, rfl⟩]; rfl)
        clear h8
        have hC8 := hC7.below hb8
        go_wp2_with fail
        refine (get_any g lb N w0.heap.size _ _ _ _ _ x y w8 hC8 (by omega) (by omega)).mono ?_
        intro e w9 h9
        obtain ⟨rfl, _⟩ := got_yes h9 (by unfold dropped; rw [upd_other _ _ HI.out, upd_same, if_neg (fun h => HY.out h.2)]; simp [hit]) 10 (by unfold dropped; rw [upd_other _ _ HI.out, upd_same, if_neg (fun h => HY.out h.2)])
        have hb9 := h9.2
        clear h9
        have hfin : Below w.heap.size w w9 := law_below hb0 hb1 hb2 hb3 hb4 hb5 nq hb7 hb8 hb9 hC3.bg hC3.blk hC4.blk hC7.blk hC8.blk
        clear hC1 hC2 hC3 hC4 hC5 hC6 hC7 hC8
        go_wp2
        go_ret
        exact ⟨by first | rfl | simp, hfin⟩

attribute [local go_sem] max2_int min2_int max_two min_two max_three min_three max_four min_four

/-- a slice of words reads as a list -/
def WordsAt (w : World) (A : Option Addr) (xs : List Int) : Prop := 0 < xs.length → ∃ ad, A = some ad ∧ ∀ j, j < xs.length → w.cell? (ad.add j) = some (.int .u64 (xs.getD j 0))
theorem WordsAt.drewN {w : World} {A : Option Addr} {xs : List Int} (h : WordsAt w A xs) (n : Nat) : WordsAt (w.drewN n) A xs := h

set_option maxHeartbeats 1000000 in
set_option maxRecDepth 100000 in
theorem same_any (A B : Option Addr) (n c d : Nat) (xs : List Int) (w : World) (hA : WordsAt w A xs) (hB : WordsAt w B xs) (hn : xs.length = n) (hl : n ≤ 9223372036854775807) :
    Calls Try.prog 21 #[.slice A n c, .slice B n d] w fun e w' => e = .returned (.bool true) ∧ Drawn0 w w' := by
  have HA := Lib.hid hA
  have HB := Lib.hid hB
  clear hA hB
  have HN := Lib.hid hn
  clear hn
  go_enter Try.func21, Try.ntmps21
  go_wp2
  go_loopw [5] (fun i wr => ∃ k : Nat, k ≤ n ∧ i = .int .i64 k ∧ ∃ q, wr = w.drewN q) (fun i _ => n - (intOf i).toNat)
  case atStart => exact ⟨0, by omega, rfl, 0, rfl⟩
  case round =>
    obtain ⟨k, hk, rfl, q, rfl⟩ := hrel
    by_cases hlt : k < n
    · have hk0 : (0 : Int) ≤ (k : Int) := by omega
      have hkn : (k : Int) < (n : Int) := by omega
      obtain ⟨ad, hA, hca⟩ := HA.out (by rw [HN.out]; omega)
      obtain ⟨bd, hB, hcb⟩ := HB.out (by rw [HN.out]; omega)
      subst hA
      subst hB
      have ha := hca k (by rw [HN.out]; exact hlt)
      have hb := hcb k (by rw [HN.out]; exact hlt)
      clear hca hcb
      generalize xs.getD k 0 = x at *
      go_wp2_with fail
      go_quiet (fail)
      go_wp2
      go_roundw
      case rel => exact ⟨k + 1, by omega, by go_num, _, rfl⟩
      case measure => simp [intOf]; omega
    · have hkn : ¬ (k : Int) < (n : Int) := by omega
      go_wp2
      go_ret
      exact ⟨rfl, ⟨⟨_, rfl⟩⟩⟩

theorem last64_snoc (l : List Int) (x : Int) : last64 (last64 l ++ [x]) = last64 (l ++ [x]) := by
  unfold last64
  simp only [List.length_append, List.length_drop, List.length_cons, List.length_nil]
  by_cases h : l.length ≤ 64
  · rw [show l.length - 64 = 0 by omega]; simp
  · rw [show l.length - (l.length - 64) + (0 + 1) - 64 = 1 by omega, show l.length + (0 + 1) - 64 = (l.length - 64) + 1 by omega]
    rw [← List.drop_drop]
    congr 1
    rw [List.drop_append_of_le_length (by omega)]
theorem last64_le (l : List Int) : (last64 l).length ≤ 64 := by unfold last64; rw [List.length_drop]; omega
theorem wordsAt_of_q {w : World} {base : Nat} {A : Option Addr} {c : Nat} {xs : List Int} (h : QRow w base 23 1 (.slice A xs.length c) xs.length (nums .u64 xs)) : WordsAt w A xs := by
  intro h0
  obtain ⟨ad, e, hc⟩ := q_cells h h0
  refine ⟨ad, e, fun j hj => hc j _ ?_⟩
  unfold nums
  rw [List.getElem?_map, List.getElem?_eq_getElem hj, List.getD_eq_getElem?_getD, List.getElem?_eq_getElem hj]; rfl

set_option maxHeartbeats 4000000 in
set_option maxRecDepth 100000 in
theorem dropped_any (lines : Int) (ad : Addr) (len cap : Nat) (zs : List Int) (w : World) (hlc : len ≤ cap) (hzl : zs.length = cap) (hcap : cap ≤ 9223372036854775807) (hcell : ∀ i, i < zs.length → w.cell? (ad.add i) = some (.int .u64 (zs.getD i 0))) :
    Calls Try.prog 4 #[.int .i64 lines, .slice (some ad) len cap] w (Awake w) := by
  obtain ⟨N, hN, h1, h2⟩ : ∃ N : Nat, 1 + Go.bits .and .i64 lines 255 = (N : Int) ∧ 1 ≤ N ∧ N ≤ 256 := ⟨(1 + lines % 256).toNat, by rw [and_255]; omega, by omega, by omega⟩
  have HC := Lib.hid hcell
  have HZ := Lib.hid hzl
  clear hcell hzl
  go_enter Try.func4, Try.ntmps4
  go_wp2_with fail
  refine (awake_any w).mono ?_
  rintro e w0 ⟨rfl, hb0⟩
  go_wp2_with fail
  refine (new_yes N w0 (by omega) (by omega)).mono ?_
  rintro e w1 ⟨g, lb, rfl, hC1, hb1⟩
  go_wp2_with fail
  go_loopw [8] (fun i wr => ∃ k : Nat, k ≤ len ∧ i = .int .i64 k ∧ ∃ L dv, CacheAt wr g lb N w0.heap.size L 0 0 dv (last64 (zs.take k)) ∧ Below w0.heap.size w0 wr) (fun i _ => len - (intOf i).toNat)
  case atStart => exact ⟨0, by omega, rfl, _, _, hC1, hb1⟩
  case round =>
    obtain ⟨k, hk, rfl, L, dv, hC, hB⟩ := hrel
    by_cases hlt : k < len
    · have hk0 : (0 : Int) ≤ (k : Int) := by omega
      have hkn : (k : Int) < (len : Int) := by omega
      have hx : wr.cell? (ad.add k) = some (.int .u64 (zs.getD k 0)) := by
        have hc := HC.out k (by rw [HZ.out]; omega)
        have hb := (hb0.trans (hB.mono hb0.size)).cell (p := ad.add k) (World.block_lt_of_cell? w _ hc)
        exact hb.trans hc
      have htk : zs.take (k + 1) = zs.take k ++ [zs.getD k 0] := by
        rw [List.take_succ_eq_append_getElem (by rw [HZ.out]; omega), List.getD_eq_getElem?_getD, List.getElem?_eq_getElem (by rw [HZ.out]; omega)]; rfl
      have HT := Lib.hid htk
      clear htk
      generalize zs.getD k 0 = x at *
      go_wp2_with fail
      refine (drop_any g lb N w0.heap.size L _ _ dv _ x wr hC (by omega) (by omega) (last64_le _)).mono ?_
      rintro e w5 ⟨rfl, dv', hC5, hb5⟩
      go_wp2
      go_roundw
      case rel =>
        refine ⟨k + 1, by omega, by go_num, dropped L x N, dv', ?_, hB.trans hb5⟩
        rw [HT.out, ← last64_snoc]
        exact hC5
      case measure => simp [intOf]; omega
    · have hkn : ¬ (k : Int) < (len : Int) := by omega
      have hkk : k = len := by omega
      have HK := Lib.hid hkk
      clear hkk
      obtain ⟨j, hj⟩ : ∃ j, j = len - 64 := ⟨_, rfl⟩
      have hif : (if (64 : Int) < (len : Int) then (len : Int) - 64 else 0) = (j : Int) := by split <;> omega
      have hj1 : (j : Int) ≤ (len : Int) := by omega
      have hj0 : (0 : Int) ≤ (j : Int) := by omega
      have hxl : (zs.take k).length = len := by rw [List.length_take, HZ.out]; omega
      have hll : (last64 (zs.take k)).length = len - j := by unfold last64; rw [List.length_drop, hxl]; omega
      have HXL := Lib.hid hxl
      have HLL := Lib.hid hll
      have HJ := Lib.hid hj
      clear hxl hll hj
      obtain ⟨A, c, hv, hle⟩ := q_slice hC.drops
      rw [HLL.out] at hv
      subst hv
      go_wp2_with fail
      refine (drops_any g lb N w0.heap.size L _ _ _ _ wr hC).mono ?_
      rintro e w5 ⟨rfl, hC5, hq5, hb5, ho5⟩
      go_wp2_with fail
      refine (drops_any g lb N w0.heap.size L _ _ _ _ w5 hC5).mono ?_
      rintro e w6 ⟨rfl, hC6, hq6, hb6, ho6⟩
      have hbw : Below w.heap.size w w6 := hb0.trans (((hB.trans hb5).trans hb6).mono hb0.size)
      have hWA : WordsAt w6 A (last64 (zs.take k)) := by
        refine wordsAt_of_q (base := w0.heap.size) (c := c) ?_
        rw [HLL.out] at hq5 ⊢
        refine q_move hq5 fun i hi => ?_
        obtain ⟨_, cells, hc⟩ := q_typed hq5 i hi
        exact ho6 i (blk_ne hc hC5.blk (by decide))
      have hWB : ∀ B : Option Addr, (0 < len → B = some (ad.add j)) → WordsAt w6 B (last64 (zs.take k)) := by
        intro B hB0 h0
        have hlen0 : 0 < len := by have := HLL.out; omega
        refine ⟨ad.add j, hB0 hlen0, fun i hi => ?_⟩
        rw [HLL.out] at hi
        have hc := HC.out (j + i) (by rw [HZ.out]; omega)
        have hb := hbw.cell (p := ad.add (j + i)) (World.block_lt_of_cell? w _ hc)
        have e1 : (ad.add j).add i = ad.add (j + i) := by
          unfold Addr.add
          by_cases hi : j = 0 <;> by_cases hj : i = 0 <;> simp [hi, hj, Nat.add_assoc]
        rw [e1, hb, hc]
        have e2 : (last64 (zs.take k)).getD i 0 = zs.getD (j + i) 0 := by
          unfold last64
          have := HXL.out
          have := HJ.out
          rw [List.getD_eq_getElem?_getD, List.getD_eq_getElem?_getD, List.getElem?_drop, HXL.out, List.getElem?_take, if_pos (by omega), show len - 64 = j by omega]
        rw [e2]
      clear hC5 hC6 hC hq5 hq6 hb5 hb6 ho5 ho6 hB hb0 hb1 hC1
      by_cases hcj : cap = j
      · have hl0 : len = 0 := by have := HJ.out; omega
        have hj00 : j = 0 := by omega
        have hw0 : (last64 (zs.take k)).length = 0 := by have := HLL.out; omega
        have HW0 := Lib.hid hw0
        clear hw0
        subst hj00
        subst hcj
        subst hl0
        go_wp2_with fail
        refine (same_any A (some ad) 0 c 0 (last64 (zs.take k)) w6 hWA (hWB _ (fun h => by omega)) HW0.out (by omega)).mono ?_
        rintro e w7 ⟨rfl, ⟨nd, rfl⟩⟩
        go_wp2
        go_ret
        exact ⟨rfl, pw_below_drewN hbw _⟩
      · go_wp2_with fail
        refine (same_any A (some (ad.add j)) (len - j) c (cap - j) (last64 (zs.take k)) w6 hWA (hWB _ (fun h => rfl)) HLL.out (by omega)).mono ?_
        rintro e w7 ⟨rfl, ⟨nd, rfl⟩⟩
        go_wp2
        go_ret
        exact ⟨rfl, pw_below_drewN hbw _⟩

set_option maxHeartbeats 4000000 in
set_option maxRecDepth 100000 in
theorem dropped_nil (lines : Int) (w : World) :
    Calls Try.prog 4 #[.int .i64 lines, .slice none 0 0] w (Awake w) := by
  obtain ⟨N, hN, h1, h2⟩ : ∃ N : Nat, 1 + Go.bits .and .i64 lines 255 = (N : Int) ∧ 1 ≤ N ∧ N ≤ 256 := ⟨(1 + lines % 256).toNat, by rw [and_255]; omega, by omega, by omega⟩
  go_enter Try.func4, Try.ntmps4
  go_wp2_with fail
  refine (awake_any w).mono ?_
  rintro e w0 ⟨rfl, hb0⟩
  go_wp2_with fail
  refine (new_yes N w0 (by omega) (by omega)).mono ?_
  rintro e w1 ⟨g, lb, rfl, hC1, hb1⟩
  go_wp2_with fail
  go_loopw [8] (fun i wr => i = .int .i64 0 ∧ wr = w1) (fun _ _ => 0)
  case atStart => exact ⟨rfl, rfl⟩
  case round =>
    obtain ⟨rfl, rfl⟩ := hrel
    go_wp2_with fail
    refine (drops_any g lb N w0.heap.size _ _ _ _ [] _ hC1).mono ?_
    rintro e w5 ⟨rfl, hC5, hq5, hb5, ho5⟩
    go_wp2_with fail
    refine (drops_any g lb N w0.heap.size _ _ _ _ _ w5 hC5).mono ?_
    rintro e w6 ⟨rfl, hC6, hq6, hb6, ho6⟩
    have hbw : Below w.heap.size w w6 := hb0.trans (((hb1.trans hb5).trans hb6).mono hb0.size)
    clear hC5 hC6 hC1 hq5 hq6 ho5 ho6 hb5 hb6 hb1 hb0
    go_wp2_with fail
    refine (same_any none none 0 0 0 [] w6 (fun h => by simp at h) (fun h => by simp at h) rfl (by omega)).mono ?_
    rintro e w7 ⟨rfl, ⟨nd, rfl⟩⟩
    go_wp2
    go_ret
    exact ⟨rfl, pw_below_drewN hbw _⟩

end Go.Proofs.Ythhfgchbpgcfmaa.CC
