/-
  The plain laws of layer 1 (word): what the printed functions of tappet/word and of its reference come to, over whole numbers alone, and the pure statements of WordParts, WordBits, WordUndone, WordForms, WordBack, WordReckons, WordTurns, WordRanks. No conditions beyond each number being of its kind.
-/
import Derived.Test.YthhfgchbpgcfmaaQWordx
import Derived.WalkSmall
import Derived.Laws.BitsAllLaws
import Derived.Laws.Bits64
import Derived.IntWalk
namespace Go.Proofs.Ythhfgchbpgcfmaa.WB
open Go.RowKit Go.Proofs.Ythhfgchbpgcfmaa.QWord

theorem or_one (m : Int) (h0 : 0 ≤ m) (h1 : m < 18446744073709551616) (he : m % 2 = 0) : Go.bits .or .u64 m 1 = m + 1 := by
  rw [u64_or m 1 h0 h1 (by omega) (by omega)]
  have e : m.toNat ||| (1 : Int).toNat = m.toNat + 1 := by
    have := nat_join 1 m.toNat 1 (by omega) (by omega)
    simpa using this
  rw [e]; omega

theorem and32 (m : Int) (h0 : 0 ≤ m) (h1 : m < 18446744073709551616) : Go.bits .and .u64 m 4294967295 = m % 4294967296 := by
  rw [u64_and m 4294967295 h0 h1 (by omega) (by omega)]
  have e : m.toNat &&& (4294967295 : Int).toNat = m.toNat % 4294967296 := nat_mask32 m.toNat
  rw [e]; omega

theorem u64w (n : Int) (h0 : 0 ≤ n) (h1 : n < 18446744073709551616) : IntKind.u64.wrap n = n := by rw [IntKind.wrap_u64]; omega

theorem mul_le (a b A B : Int) (h0 : 0 ≤ a) (h1 : a ≤ A) (h2 : 0 ≤ b) (h3 : b ≤ B) : 0 ≤ a * b ∧ a * b ≤ A * B :=
  ⟨Int.mul_nonneg h0 h2, Int.mul_le_mul h1 h3 h2 (by omega)⟩

theorem mul64 (x y : Int) (hx0 : 0 ≤ x) (hx : x < 18446744073709551616) (hy0 : 0 ≤ y) (hy : y < 18446744073709551616) :
    IntKind.u64.wrap ((IntKind.u64.wrap ((IntKind.u64.wrap ((x / 4294967296) * (y / 4294967296))) + ((IntKind.u64.wrap ((IntKind.u64.wrap ((x / 4294967296) * (Go.bits .and .u64 y 4294967295))) + ((IntKind.u64.wrap ((Go.bits .and .u64 x 4294967295) * (Go.bits .and .u64 y 4294967295))) / 4294967296))) / 4294967296))) + ((IntKind.u64.wrap ((Go.bits .and .u64 (IntKind.u64.wrap ((IntKind.u64.wrap ((x / 4294967296) * (Go.bits .and .u64 y 4294967295))) + ((IntKind.u64.wrap ((Go.bits .and .u64 x 4294967295) * (Go.bits .and .u64 y 4294967295))) / 4294967296))) 4294967295) + (IntKind.u64.wrap ((Go.bits .and .u64 x 4294967295) * (y / 4294967296))))) / 4294967296))
      = x * y / 18446744073709551616 := by
  rw [and32 x hx0 hx, and32 y hy0 hy]
  generalize hx1 : x / 4294967296 = x1
  generalize hx2 : x % 4294967296 = x0
  generalize hy1 : y / 4294967296 = y1
  generalize hy2 : y % 4294967296 = y0
  have ex : x = x1 * 4294967296 + x0 := by omega
  have ey : y = y1 * 4294967296 + y0 := by omega
  have bx1 : 0 ≤ x1 ∧ x1 ≤ 4294967295 := by omega
  have bx0 : 0 ≤ x0 ∧ x0 ≤ 4294967295 := by omega
  have by1 : 0 ≤ y1 ∧ y1 ≤ 4294967295 := by omega
  have by0 : 0 ≤ y0 ∧ y0 ≤ 4294967295 := by omega
  have e : x * y = x1 * y1 * 18446744073709551616 + (x1 * y0 + x0 * y1) * 4294967296 + x0 * y0 := by
    rw [ex, ey]; grind
  have p11 := mul_le x1 y1 _ _ bx1.1 bx1.2 by1.1 by1.2
  have p10 := mul_le x1 y0 _ _ bx1.1 bx1.2 by0.1 by0.2
  have p01 := mul_le x0 y1 _ _ bx0.1 bx0.2 by1.1 by1.2
  have p00 := mul_le x0 y0 _ _ bx0.1 bx0.2 by0.1 by0.2
  rw [e]
  clear e ex ey hx1 hx2 hy1 hy2 hx hy hx0 hy0
  generalize x1 * y1 = a at *
  generalize x1 * y0 = b at *
  generalize x0 * y1 = c at *
  generalize x0 * y0 = d at *
  clear bx1 bx0 by1 by0
  rw [u64w a (by omega) (by omega), u64w b (by omega) (by omega), u64w c (by omega) (by omega), u64w d (by omega) (by omega)]
  have ht : 0 ≤ b + d / 4294967296 ∧ b + d / 4294967296 < 18446744073709551616 := by omega
  rw [u64w (b + d / 4294967296) ht.1 ht.2, and32 _ ht.1 ht.2]
  generalize htt : b + d / 4294967296 = t at *
  rw [u64w (t % 4294967296 + c) (by omega) (by omega)]
  rw [u64w (a + t / 4294967296) (by omega) (by omega)]
  rw [u64w _ (by omega) (by omega)]
  omega

/-- what an odd word's number is -/
def dec (w : Int) : Int := wrap64 w / 2
def fits (n : Int) : Prop := -4611686018427387904 ≤ n ∧ n < 4611686018427387904
instance (n : Int) : Decidable (fits n) := inferInstanceAs (Decidable (_ ∧ _))
def enc (n : Int) : Int := (2 * n + 1) % 18446744073709551616
def word (w : Int) : Prop := 0 ≤ w ∧ w < 18446744073709551616

theorem dec_fits {w : Int} (h : word w) : fits (dec w) := by unfold fits dec wrap64; obtain ⟨h0, h1⟩ := h; omega
theorem dec_enc {n : Int} (h : fits n) : dec (enc n) = n := by unfold fits at h; unfold dec enc wrap64; omega
theorem enc_odd (n : Int) : enc n % 2 = 1 := by unfold enc; omega
theorem enc_word (n : Int) : word (enc n) := by unfold enc word; omega
theorem enc_dec {w : Int} (h : word w) (ho : w % 2 = 1) : enc (dec w) = w := by unfold word at h; unfold dec enc wrap64; omega
theorem enc_inj {a b : Int} (ha : fits a) (hb : fits b) (h : enc a = enc b) : a = b := by rw [← dec_enc ha, h, dec_enc hb]
theorem enc_ne0 (n : Int) : enc n ≠ 0 := by unfold enc; omega

theorem isInt (w : Int) (h : word w) : word_IsInt.f w = some (w % 2 != 0) := by
  unfold word_IsInt.f; rw [and_one_u64 w h.1 (by have := h.2; omega)]
theorem int_odd {w : Int} (h : word w) (ho : w % 2 = 1) : word_Int.f w = some (dec w, 0) := by
  unfold word_Int.f; rw [isInt w h]; simp [ho, dec]
theorem int_even {w : Int} (h : word w) (ho : w % 2 = 0) : word_Int.f w = some (0, 1) := by
  unfold word_Int.f; rw [isInt w h]; simp [ho]
theorem int_enc {n : Int} (h : fits n) : word_Int.f (enc n) = some (n, 0) := by
  rw [int_odd (enc_word n) (enc_odd n), dec_enc h]
theorem int_zero : word_Int.f 0 = some (0, 1) := int_even ⟨by omega, by omega⟩ rfl

theorem fromInt_yes {n : Int} (h : fits n) : word_FromInt.f n = some (enc n, 0) := by
  unfold fits at h
  unfold word_FromInt.f
  rw [if_neg (by omega), if_neg (by omega)]
  rw [IntKind.wrap_u64, IntKind.wrap_u64]
  rw [or_one _ (by omega) (by omega) (by omega)]
  have : n % 18446744073709551616 * 2 % 18446744073709551616 + 1 = enc n := by unfold enc; omega
  rw [this]
theorem fromInt_no {n : Int} (h : ¬ fits n) : word_FromInt.f n = some (0, 1) := by
  unfold fits at h
  unfold word_FromInt.f
  by_cases c : n < -4611686018427387904
  · rw [if_pos c]
  · rw [if_neg c, if_pos (by omega)]
theorem of_yes {n : Int} (h : fits n) : tappetlaw01_of.f n = some (enc n) := by unfold tappetlaw01_of.f; rw [fromInt_yes h]; rfl
theorem of_no {n : Int} (h : ¬ fits n) : tappetlaw01_of.f n = some 0 := by unfold tappetlaw01_of.f; rw [fromInt_no h]; rfl

/-- an answer, laid into a word, if it fits -/
def pack : Option Int → Int × Bool
  | none => (0, false)
  | some n => if fits n then (enc n, true) else (0, false)
theorem pack_yes {n : Int} (h : fits n) : pack (some n) = (enc n, true) := if_pos h
theorem pack_no {n : Int} (h : ¬ fits n) : pack (some n) = (0, false) := if_neg h
theorem packs (n : Int) : ((word_FromInt.f n).bind fun b => some (b.1, (b.2 == 0))) = some (pack (some n)) := by
  by_cases h : fits n
  · rw [fromInt_yes h, pack_yes h]; rfl
  · rw [fromInt_no h, pack_no h]; rfl

/-- the amount of a number -/
theorem wide1 {a : Int} (h : fits a) : word_wide_1.f a = some (if a < 0 then -a else a) := by
  unfold fits at h
  unfold word_wide_1.f
  by_cases c : a < 0
  · rw [if_pos c, if_pos c, IntKind.wrap_u64, IntKind.wrap_u64]; congr 1; omega
  · rw [if_neg c, if_neg c, IntKind.wrap_u64]; congr 1; omega

theorem abs_mul (a b : Int) : (if a < 0 then -a else a) * (if b < 0 then -b else b) = if a * b < 0 then -(a * b) else a * b := by
  by_cases ha : a < 0 <;> by_cases hb : b < 0
  · have := Int.mul_pos_of_neg_of_neg ha hb; rw [if_pos ha, if_pos hb, if_neg (by omega)]; grind
  · rw [if_pos ha, if_neg hb]
    by_cases hz : b = 0
    · subst hz; simp
    · have := Int.mul_neg_of_neg_of_pos ha (show 0 < b by omega); rw [if_pos this]; grind
  · rw [if_neg ha, if_pos hb]
    by_cases hz : a = 0
    · subst hz; simp
    · have := Int.mul_neg_of_pos_of_neg (show 0 < a by omega) hb; rw [if_pos this]; grind
  · rw [if_neg ha, if_neg hb]; have := Int.mul_nonneg (show 0 ≤ a by omega) (show 0 ≤ b by omega); rw [if_neg (by omega)]

theorem wide_eq {a b : Int} (ha : fits a) (hb : fits b) : word_wide.f a b = some (decide ((if a * b < 0 then -(a * b) else a * b) > 4611686018427387904)) := by
  unfold word_wide.f
  rw [wide1 ha, wide1 hb]
  simp only [Option.bind_some]
  rw [← abs_mul]
  unfold fits at ha hb
  have ba : 0 ≤ (if a < 0 then -a else a) ∧ (if a < 0 then -a else a) ≤ 4611686018427387904 := by split <;> omega
  have bb : 0 ≤ (if b < 0 then -b else b) ∧ (if b < 0 then -b else b) ≤ 4611686018427387904 := by split <;> omega
  generalize (if a < 0 then -a else a) = x at *
  generalize (if b < 0 then -b else b) = y at *
  unfold bits_Mul64.f
  rw [mul64 x y (by omega) (by omega) (by omega) (by omega)]
  have hp := mul_le x y _ _ ba.1 ba.2 bb.1 bb.2
  simp only [Option.bind_some]
  generalize x * y = p at *
  rw [IntKind.wrap_u64]
  by_cases c : p / 18446744073709551616 = 0
  · rw [if_pos c]; congr 1; rw [decide_eq_decide]; omega
  · rw [if_neg c]; congr 1; symm; rw [decide_eq_true_eq]; omega

/-! ### bits of numbers that are not only positive -/
theorem wrap64_nat (x : BitVec 64) : IntKind.i64.wrap (x.toNat : Int) = x.toInt := by
  rw [IntKind.wrap_i64, BitVec.toInt_eq_toNat_cond]
  have := x.isLt
  split <;> omega
theorem ofInt_toInt {a : Int} (h0 : -9223372036854775808 ≤ a) (h1 : a < 9223372036854775808) : (BitVec.ofInt 64 a).toInt = a := by
  rw [BitVec.toInt_ofInt]; exact Int.bmod_eq_of_le (by simp; omega) (by simp; omega)
theorem bits_and (a b : Int) : Go.bits .and .i64 a b = (BitVec.ofInt 64 a &&& BitVec.ofInt 64 b).toInt := wrap64_nat _
theorem bits_or (a b : Int) : Go.bits .or .i64 a b = (BitVec.ofInt 64 a ||| BitVec.ofInt 64 b).toInt := wrap64_nat _
theorem bits_xor (a b : Int) : Go.bits .xor .i64 a b = (BitVec.ofInt 64 a ^^^ BitVec.ofInt 64 b).toInt := wrap64_nat _
theorem xor_neg {a b : Int} (ha0 : -9223372036854775808 ≤ a) (ha1 : a < 9223372036854775808) (hb0 : -9223372036854775808 ≤ b) (hb1 : b < 9223372036854775808) :
    Go.bits .xor .i64 a b < 0 ↔ (decide (a < 0) != decide (b < 0)) = true := by
  rw [bits_xor]
  have hx : ∀ x : BitVec 64, decide (x.toInt < 0) = x.msb := fun x => (BitVec.msb_eq_toInt).symm
  have e1 := hx (BitVec.ofInt 64 a)
  have e2 := hx (BitVec.ofInt 64 b)
  have e3 := hx (BitVec.ofInt 64 a ^^^ BitVec.ofInt 64 b)
  rw [ofInt_toInt ha0 ha1] at e1
  rw [ofInt_toInt hb0 hb1] at e2
  rw [BitVec.msb_xor, ← e1, ← e2] at e3
  rw [show (decide (a < 0) != decide (b < 0)) = (decide (a < 0) ^^ decide (b < 0)) from rfl, ← e3, decide_eq_true_eq]

/-! ### the quotient that is rounded down, and its rest -/
def flq (a b : Int) : Int := if Int.tmod a b = 0 then Int.tdiv a b else if (decide (a < 0) != decide (b < 0)) = true then Int.tdiv a b - 1 else Int.tdiv a b
def flr (a b : Int) : Int := if Int.tmod a b = 0 then Int.tmod a b else if (decide (a < 0) != decide (b < 0)) = true then Int.tmod a b + b else Int.tmod a b
theorem fl_sum (a b : Int) : flq a b * b + flr a b = a := by
  have h := Int.mul_tdiv_add_tmod a b
  unfold flq flr
  split
  · grind
  · split <;> grind
theorem tdiv_small {a b : Int} (ha : fits a) : -4611686018427387904 ≤ Int.tdiv a b ∧ Int.tdiv a b ≤ 4611686018427387904 := by
  have := Int.natAbs_tdiv_le_natAbs a b
  unfold fits at ha
  omega
theorem tmod_small {a b : Int} : (0 < b → -b < Int.tmod a b ∧ Int.tmod a b < b) ∧ (b < 0 → b < Int.tmod a b ∧ Int.tmod a b < -b) ∧ (Int.tmod a b = 0 ∨ (decide (Int.tmod a b < 0) = decide (a < 0))) := by
  refine ⟨fun h => ?_, fun h => ?_, ?_⟩
  · exact ⟨Int.lt_tmod_of_pos a h, Int.tmod_lt_of_pos a h⟩
  · have h1 := Int.lt_tmod_of_pos a (b := -b) (by omega)
    have h2 := Int.tmod_lt_of_pos a (b := -b) (by omega)
    rw [Int.tmod_neg] at h1 h2
    omega
  · by_cases h0 : 0 ≤ a
    · have := Int.tmod_nonneg b h0
      rw [decide_eq_decide]; omega
    · have := Int.tmod_nonneg b (show 0 ≤ -a by omega)
      rw [Int.neg_tmod] at this
      rw [decide_eq_decide]; omega
theorem floor_eq {a b : Int} (ha : fits a) (hb : fits b) (hb0 : b ≠ 0) : word_floor.f a b = some (flq a b, flr a b) := by
  have hq := tdiv_small (b := b) ha
  obtain ⟨r1, r2, r3⟩ := tmod_small (a := a) (b := b)
  unfold word_floor.f flq flr
  unfold fits at ha hb
  have w1 : wrap64 (Int.tdiv a b) = Int.tdiv a b := by unfold wrap64; omega
  have w2 : wrap64 (Int.tdiv a b - 1) = Int.tdiv a b - 1 := by unfold wrap64; omega
  have w3 : wrap64 (Int.tmod a b + b) = Int.tmod a b + b := by
    rcases Int.lt_or_gt_of_ne hb0 with h | h
    · have := r2 h; unfold wrap64; omega
    · have := r1 h; unfold wrap64; omega
  have hx : Go.bits .xor .i64 (Int.tmod a b) b < 0 ↔ (decide (Int.tmod a b < 0) != decide (b < 0)) = true := by
    refine xor_neg ?_ ?_ ?_ ?_
    · rcases Int.lt_or_gt_of_ne hb0 with h | h
      · have := r2 h; omega
      · have := r1 h; omega
    · rcases Int.lt_or_gt_of_ne hb0 with h | h
      · have := r2 h; omega
      · have := r1 h; omega
    · omega
    · omega
  rw [if_neg hb0, w1, w2, w3]
  by_cases c : Int.tmod a b = 0
  · rw [if_pos c, if_pos c, if_pos c]
  · rw [if_neg c, if_neg c, if_neg c]
    have r4 := r3.resolve_left c
    rw [r4] at hx
    by_cases d : (decide (a < 0) != decide (b < 0)) = true
    · rw [if_pos (hx.2 d), if_pos d, if_pos d]
    · rw [if_neg (fun h => d (hx.1 h)), if_neg d, if_neg d]
theorem flr_sign {a b : Int} : (0 < b → 0 ≤ flr a b ∧ flr a b < b) ∧ (b < 0 → b < flr a b ∧ flr a b ≤ 0) := by
  obtain ⟨r1, r2, r3⟩ := tmod_small (a := a) (b := b)
  unfold flr
  by_cases c : Int.tmod a b = 0
  · rw [if_pos c]; omega
  · rw [if_neg c]
    have r4 := r3.resolve_left c
    rw [decide_eq_decide] at r4
    by_cases d : (decide (a < 0) != decide (b < 0)) = true
    · rw [if_pos d]
      rw [bne_iff_ne, Ne, decide_eq_decide] at d
      omega
    · rw [if_neg d]
      rw [bne_iff_ne, Ne, decide_eq_decide, Decidable.not_not] at d
      omega

/-! ### the reckoning -/
def rawA (kind a b : Int) : Option Int :=
  if kind = 0 then some (a + b) else if kind = 1 then some (a - b) else if kind = 2 then some (a * b)
  else if kind = 3 then (if b = 0 then none else some (flq a b)) else if kind = 4 then (if b = 0 then none else some (flr a b))
  else if kind = 5 then some (Go.bits .and .i64 a b) else if kind = 6 then some (Go.bits .or .i64 a b) else if kind = 7 then some (Go.bits .xor .i64 a b) else none

theorem arith_ok (k : Nat) (kind a b : Int) (ha : fits a) (hb : fits b) : word_Arith.j0 (k + 2) kind a b false = some (pack (rawA kind a b)) := by
  simp only [word_Arith.j0, rawA]
  rw [if_neg (by decide)]
  by_cases c1 : kind = 1
  · subst c1
    have : wrap64 (a + wrap64 (-b)) = a - b := by unfold fits at ha hb; unfold wrap64; omega
    rw [if_pos rfl, this, packs]; rfl
  rw [if_neg c1]
  by_cases c0 : kind = 0
  · subst c0
    have : wrap64 (a + b) = a + b := by unfold fits at ha hb; unfold wrap64; omega
    rw [if_pos rfl, this, packs]; rfl
  rw [if_neg c0]
  by_cases c2 : kind = 2
  · subst c2
    rw [if_pos rfl, wide_eq ha hb]
    simp only [Option.bind_some]
    rw [if_neg c0, if_neg c1, if_pos trivial]
    generalize a * b = p
    by_cases c : (if p < 0 then -p else p) > 4611686018427387904
    · rw [if_pos (decide_eq_true c), pack_no]
      unfold fits
      split at c <;> omega
    · rw [if_neg (by rw [decide_eq_true_eq]; exact c)]
      have : wrap64 p = p := by unfold wrap64; split at c <;> omega
      rw [this, packs]
  rw [if_neg c2]
  by_cases c3 : kind = 3
  · subst c3
    rw [if_pos rfl]
    simp only [word_Arith.j1]
    by_cases hb0 : b = 0
    · simp [hb0, pack]
    · rw [floor_eq ha hb hb0]
      simp [hb0, packs]
  rw [if_neg c3]
  simp only [word_Arith.j1]
  by_cases c4 : kind = 4
  · subst c4
    by_cases hb0 : b = 0
    · simp [hb0, pack]
    · rw [floor_eq ha hb hb0]
      simp [hb0, packs]
  rw [if_neg (by simpa using c4)]
  rw [if_neg c0, if_neg c1, if_neg c2, if_neg c3, if_neg c4]
  by_cases c5 : kind = 5
  · rw [if_pos c5, if_pos c5, packs]
  rw [if_neg c5, if_neg c5]
  by_cases c6 : kind = 6
  · rw [if_pos c6, if_pos c6, packs]
  rw [if_neg c6, if_neg c6]
  by_cases c7 : kind = 7
  · rw [if_pos c7, if_pos c7, packs]
  rw [if_neg c7, if_neg c7]; rfl

theorem arith_odd (k : Nat) (kind : Int) {v w : Int} (hv : word v) (hw : word w) (ov : v % 2 = 1) (ow : w % 2 = 1) :
    word_Arith.f (k + 2) kind v w = some (pack (rawA kind (dec v) (dec w))) := by
  unfold word_Arith.f
  rw [int_odd hv ov, int_odd hw ow]
  exact arith_ok k kind _ _ (dec_fits hv) (dec_fits hw)
theorem arith_even (k : Nat) (kind : Int) {v w : Int} (hv : word v) (hw : word w) (h : v % 2 = 0 ∨ w % 2 = 0) :
    word_Arith.f (k + 2) kind v w = some (0, false) := by
  unfold word_Arith.f
  by_cases ov : v % 2 = 1
  · rw [int_odd hv ov, int_even hw (by omega)]
    simp [word_Arith.j0]
  · rw [int_even hv (by omega)]
    by_cases ow : w % 2 = 1
    · rw [int_odd hw ow]; simp [word_Arith.j0]
    · rw [int_even hw (by omega)]; simp [word_Arith.j0]
theorem arith_enc (k : Nat) (kind : Int) {a b : Int} (ha : fits a) (hb : fits b) : word_Arith.f (k + 2) kind (enc a) (enc b) = some (pack (rawA kind a b)) := by
  rw [arith_odd k kind (enc_word a) (enc_word b) (enc_odd a) (enc_odd b), dec_enc ha, dec_enc hb]

theorem awake_yes : tappetlaw01_awake.f 5 = some true := by decide +kernel
theorem i64_bounds {a : Int} (h : (Lit.int .i64 a).wf = true) : -9223372036854775808 ≤ a ∧ a ≤ 9223372036854775807 := by
  simpa [Lit.wf, IntKind.min, IntKind.max, IntKind.signed, IntKind.bits] using h
theorem u64_word {a : Int} (h : (Lit.int .u64 a).wf = true) : word a := by
  have : 0 ≤ a ∧ a ≤ 18446744073709551615 := by simpa [Lit.wf, IntKind.min, IntKind.max, IntKind.signed, IntKind.bits] using h
  unfold word; omega

/-- the same for words that are no numbers' words -/
theorem arith_none (k : Nat) (kind : Int) {a b : Int} (h : ¬ fits a ∨ ¬ fits b) (v w : Int) (hv : tappetlaw01_of.f a = some v) (hw : tappetlaw01_of.f b = some w) :
    word_Arith.f (k + 2) kind v w = some (0, false) := by
  by_cases ha : fits a
  · rw [of_yes ha] at hv; rw [of_no (by rcases h with h | h; exact absurd ha h; exact h)] at hw
    injection hv with hv; injection hw with hw; subst hv; subst hw
    exact arith_even k kind (enc_word a) ⟨by omega, by omega⟩ (.inr rfl)
  · rw [of_no ha] at hv
    injection hv with hv; subst hv
    have hww : word w := by
      by_cases hb : fits b
      · rw [of_yes hb] at hw; injection hw with hw; subst hw; exact enc_word b
      · rw [of_no hb] at hw; injection hw with hw; subst hw; exact ⟨by omega, by omega⟩
    exact arith_even k kind ⟨by omega, by omega⟩ hww (.inl rfl)
theorem of_some (a : Int) : ∃ v, tappetlaw01_of.f a = some v := by
  by_cases h : fits a
  · exact ⟨_, of_yes h⟩
  · exact ⟨_, of_no h⟩

theorem flq_fits {a b : Int} (ha : fits a) (hb0 : b ≠ 0) (hb1 : b ≠ -1) : fits (flq a b) := by
  have hq := Int.natAbs_tdiv_le_natAbs a b
  have hq2 := tdiv_small (b := b) ha
  obtain ⟨r1, r2, r3⟩ := tmod_small (a := a) (b := b)
  have hs := fl_sum a b
  have hr := flr_sign (a := a) (b := b)
  by_cases h1 : b = 1
  · subst h1
    have : flr a 1 = 0 := by omega
    unfold fits at *; omega
  · -- the amount of b is 2 at least
    unfold fits at *
    generalize flq a b = q at *
    generalize flr a b = r at *
    by_cases hq0 : q < -4611686018427387904
    · exfalso
      rcases Int.lt_or_gt_of_ne hb0 with h | h
      · have : q * b ≥ 4611686018427387905 * (-b) := by
          have := Int.mul_le_mul_of_nonneg_right (show 4611686018427387905 ≤ -q by omega) (show 0 ≤ -b by omega)
          grind
        omega
      · have : q * b ≤ - (4611686018427387905 * b) := by
          have := Int.mul_le_mul_of_nonneg_right (show q ≤ -4611686018427387905 by omega) (show 0 ≤ b by omega)
          grind
        omega
    · by_cases hq1 : q < 4611686018427387904
      · omega
      · exfalso
        rcases Int.lt_or_gt_of_ne hb0 with h | h
        · have : q * b ≤ 4611686018427387904 * b := by
            have := Int.mul_le_mul_of_nonpos_right (show (4611686018427387904 : Int) ≤ q by omega) (show b ≤ 0 by omega)
            grind
          omega
        · have : q * b ≥ 4611686018427387904 * b := by
            have := Int.mul_le_mul_of_nonneg_right (show (4611686018427387904 : Int) ≤ q by omega) (show 0 ≤ b by omega)
            grind
          omega
theorem flr_fits {a b : Int} (hb : fits b) (hb0 : b ≠ 0) : fits (flr a b) := by
  have hr := flr_sign (a := a) (b := b)
  unfold fits at *; omega

theorem WordParts : tappetlaw01_WordParts.Pure := by
  intro a b ha hb
  refine ⟨5, ?_⟩
  unfold tappetlaw01_WordParts.f
  rw [awake_yes]
  obtain ⟨v, hv⟩ := of_some a
  obtain ⟨w, hw⟩ := of_some b
  simp only [Option.bind_some, hv, hw]
  by_cases hf : fits a ∧ fits b
  · obtain ⟨fa, fb⟩ := hf
    have ev : v = enc a := by rw [of_yes fa] at hv; injection hv with hv; exact hv.symm
    have ew : w = enc b := by rw [of_yes fb] at hw; injection hw with hw; exact hw.symm
    subst ev; subst ew
    rw [arith_enc 3 3 fa fb, arith_enc 3 4 fa fb]
    simp only [Option.bind_some]
    by_cases hb0 : b = 0
    · subst hb0
      simp [rawA, pack, tappetlaw01_WordParts.j0]
    · have e3 : rawA 3 a b = some (flq a b) := by simp [rawA, hb0]
      have e4 : rawA 4 a b = some (flr a b) := by simp [rawA, hb0]
      have f4 := flr_fits (a := a) fb hb0
      rw [e3, e4, pack_yes f4]
      by_cases f3 : fits (flq a b)
      · rw [pack_yes f3]
        simp only [tappetlaw01_WordParts.j0, hv, hw, int_enc f3, int_enc f4, int_enc fa, int_enc fb, Option.bind_some]
        have hs := fl_sum a b
        have hr := flr_sign (a := a) (b := b)
        have : wrap64 (wrap64 (flq a b * b) + flr a b) = a := by
          generalize flq a b * b = p at *
          unfold fits at fa; unfold wrap64; omega
        rw [this]
        generalize flr a b = r at *
        simp only [if_true, Bool.not_true, Bool.false_eq_true, if_false]
        rcases Int.lt_or_gt_of_ne hb0 with h | h
        · obtain ⟨g1, g2⟩ := hr.2 h
          by_cases r0 : r = 0
          · subst r0; rw [if_pos rfl, if_neg (by omega), if_pos h, if_pos (by omega)]
          · rw [if_neg r0, if_pos (by simp; omega), if_neg (by omega), if_pos h, if_pos (by omega)]
        · obtain ⟨g1, g2⟩ := hr.1 h
          by_cases r0 : r = 0
          · subst r0; rw [if_pos rfl, if_pos (by omega), if_neg (by omega)]; simp; omega
          · rw [if_neg r0, if_pos (by simp; omega), if_pos (by omega), if_neg (by omega)]; simp; omega
      · rw [pack_no f3]
        have hb1 : b = -1 := by
          rcases Decidable.em (b = -1) with h | h
          · exact h
          · exact absurd (flq_fits fa hb0 h) f3
        subst hb1
        simp [tappetlaw01_WordParts.j0]
  · rw [arith_none 3 3 (Decidable.not_and_iff_not_or_not.1 hf) v w hv hw, arith_none 3 4 (Decidable.not_and_iff_not_or_not.1 hf) v w hv hw]
    simp only [Option.bind_some, tappetlaw01_WordParts.j0, if_true, Bool.false_eq_true, if_false]
    unfold fits at hf
    by_cases h1 : b = 0
    · simp [h1]
    by_cases h2 : b = -1
    · simp [h2]
    rw [if_neg h1, if_neg h2]
    by_cases h3 : a > 4611686018427387903
    · rw [if_pos h3]
    rw [if_neg h3]
    by_cases h4 : a < -4611686018427387904
    · rw [if_pos h4]
    rw [if_neg h4]
    by_cases h5 : b > 4611686018427387903
    · rw [if_pos h5]
    rw [if_neg h5]
    congr 1; rw [decide_eq_true_eq]; omega

/-! ### bits of two numbers of 63 bits -/
theorem low63 {a : Int} (h : fits a) : BitVec.ofInt 64 a = (BitVec.ofInt 63 a).signExtend 64 := by
  apply BitVec.eq_of_toInt_eq
  unfold fits at h
  rw [ofInt_toInt (by omega) (by omega), BitVec.toInt_signExtend_of_le (by decide), BitVec.toInt_ofInt]
  exact (Int.bmod_eq_of_le (by simp; omega) (by simp; omega)).symm
theorem ext63_fits (x : BitVec 63) : fits (x.signExtend 64).toInt := by
  rw [BitVec.toInt_signExtend_of_le (by decide)]
  have h1 := BitVec.toInt_lt (x := x)
  have h2 := BitVec.le_toInt (x := x)
  unfold fits
  simp at h1 h2
  omega
theorem and_fits {a b : Int} (ha : fits a) (hb : fits b) : fits (Go.bits .and .i64 a b) := by
  rw [bits_and, low63 ha, low63 hb, ← BitVec.signExtend_and]; exact ext63_fits _
theorem or_fits {a b : Int} (ha : fits a) (hb : fits b) : fits (Go.bits .or .i64 a b) := by
  rw [bits_or, low63 ha, low63 hb, ← BitVec.signExtend_or]; exact ext63_fits _
theorem xor_fits {a b : Int} (ha : fits a) (hb : fits b) : fits (Go.bits .xor .i64 a b) := by
  rw [bits_xor, low63 ha, low63 hb, ← BitVec.signExtend_xor]; exact ext63_fits _
theorem bv_xor_and (x y : BitVec 64) : (x ^^^ y) + (x &&& y) = x ||| y := by
  rw [BitVec.add_eq_or_of_and_eq_zero]
  · ext i hi; simp only [BitVec.getElem_or, BitVec.getElem_xor, BitVec.getElem_and]; cases x[i] <;> cases y[i] <;> rfl
  · ext i hi; simp only [BitVec.getElem_xor, BitVec.getElem_and, BitVec.getElem_zero]; cases x[i] <;> cases y[i] <;> rfl
theorem bv_or (x y : BitVec 64) : x ||| y = x + (y &&& ~~~x) := by
  rw [BitVec.add_eq_or_of_and_eq_zero]
  · ext i hi; simp only [BitVec.getElem_or, BitVec.getElem_and, BitVec.getElem_not]; cases x[i] <;> cases y[i] <;> rfl
  · ext i hi; simp only [BitVec.getElem_and, BitVec.getElem_not, BitVec.getElem_zero]; cases x[i] <;> cases y[i] <;> rfl
theorem bv_part (x y : BitVec 64) : (y &&& ~~~x) + (x &&& y) = y := by
  rw [BitVec.add_eq_or_of_and_eq_zero]
  · ext i hi; simp only [BitVec.getElem_or, BitVec.getElem_and, BitVec.getElem_not]; cases x[i] <;> cases y[i] <;> rfl
  · ext i hi; simp only [BitVec.getElem_and, BitVec.getElem_not, BitVec.getElem_zero]; cases x[i] <;> cases y[i] <;> rfl
theorem bv_sum (x y : BitVec 64) : (x &&& y) + (x ||| y) = x + y := by
  rw [bv_or, BitVec.add_comm, BitVec.add_assoc, bv_part]
theorem toInt_wrap (x y : BitVec 64) : (x + y).toInt = wrap64 (x.toInt + y.toInt) := by
  rw [BitVec.toInt_add]; unfold wrap64 Int.bmod; simp; omega
theorem bits_sum (a b : Int) (ha : fits a) (hb : fits b) : wrap64 (Go.bits .and .i64 a b + Go.bits .or .i64 a b) = wrap64 (a + b) := by
  rw [bits_and, bits_or, ← toInt_wrap, bv_sum, toInt_wrap]
  unfold fits at ha hb
  rw [ofInt_toInt (by omega) (by omega), ofInt_toInt (by omega) (by omega)]
theorem bits_xsum (a b : Int) : wrap64 (Go.bits .xor .i64 a b + Go.bits .and .i64 a b) = Go.bits .or .i64 a b := by
  rw [bits_and, bits_or, bits_xor, ← toInt_wrap, bv_xor_and]
theorem and_comm (a b : Int) : Go.bits .and .i64 a b = Go.bits .and .i64 b a := by rw [bits_and, bits_and, BitVec.and_comm]
theorem or_comm (a b : Int) : Go.bits .or .i64 a b = Go.bits .or .i64 b a := by rw [bits_or, bits_or, BitVec.or_comm]
theorem xor_comm (a b : Int) : Go.bits .xor .i64 a b = Go.bits .xor .i64 b a := by rw [bits_xor, bits_xor, BitVec.xor_comm]

theorem WordBits : tappetlaw01_WordBits.Pure := by
  intro a b _ _
  refine ⟨5, ?_⟩
  unfold tappetlaw01_WordBits.f
  rw [awake_yes]
  obtain ⟨v, hv⟩ := of_some a
  obtain ⟨w, hw⟩ := of_some b
  simp only [Option.bind_some, hv, hw]
  by_cases hf : fits a ∧ fits b
  · obtain ⟨fa, fb⟩ := hf
    have ev : v = enc a := by rw [of_yes fa] at hv; injection hv with hv; exact hv.symm
    have ew : w = enc b := by rw [of_yes fb] at hw; injection hw with hw; exact hw.symm
    subst ev; subst ew
    rw [arith_enc 3 5 fa fb, arith_enc 3 6 fa fb, arith_enc 3 7 fa fb]
    have e5 : rawA 5 a b = some (Go.bits .and .i64 a b) := rfl
    have e6 : rawA 6 a b = some (Go.bits .or .i64 a b) := rfl
    have e7 : rawA 7 a b = some (Go.bits .xor .i64 a b) := rfl
    rw [e5, e6, e7, pack_yes (and_fits fa fb), pack_yes (or_fits fa fb), pack_yes (xor_fits fa fb)]
    simp only [Option.bind_some, tappetlaw01_WordBits.j0, int_enc (and_fits fa fb), int_enc (or_fits fa fb), int_enc (xor_fits fa fb), bits_sum a b fa fb, bits_xsum]
    simp
  · have hf' := Decidable.not_and_iff_not_or_not.1 hf
    rw [arith_none 3 5 hf' v w hv hw, arith_none 3 6 hf' v w hv hw, arith_none 3 7 hf' v w hv hw]
    simp only [Option.bind_some, tappetlaw01_WordBits.j0, if_true, Bool.false_eq_true, if_false, hv, hw]
    rcases hf' with h | h
    · rw [of_no h] at hv; injection hv with hv; subst hv; simp
    · rw [of_no h] at hw; injection hw with hw; subst hw; simp

theorem tmod_mul_self (a b : Int) : Int.tmod (a * b) b = 0 := Int.mul_tmod_left a b
theorem flq_mul (a b : Int) (hb : b ≠ 0) : flq (a * b) b = a := by
  unfold flq; rw [tmod_mul_self, if_pos rfl]; exact Int.mul_tdiv_cancel a hb

theorem WordUndone : tappetlaw01_WordUndone.Pure := by
  intro a b _ _
  refine ⟨5, ?_⟩
  unfold tappetlaw01_WordUndone.f
  rw [awake_yes]
  obtain ⟨v, hv⟩ := of_some a
  obtain ⟨w, hw⟩ := of_some b
  simp only [Option.bind_some, hv, hw]
  by_cases hf : fits a ∧ fits b
  · obtain ⟨fa, fb⟩ := hf
    have ev : v = enc a := by rw [of_yes fa] at hv; injection hv with hv; exact hv.symm
    have ew : w = enc b := by rw [of_yes fb] at hw; injection hw with hw; exact hw.symm
    subst ev; subst ew
    rw [arith_enc 3 0 fa fb, arith_enc 3 2 fa fb]
    have e0 : rawA 0 a b = some (a + b) := rfl
    have e2 : rawA 2 a b = some (a * b) := rfl
    rw [e0, e2]
    -- the product
    have key2 : ∀ (x : Int × Bool), word_Arith.f 5 3 (pack (some (a * b))).1 (enc b) = some x → (if (pack (some (a * b))).2 = true then (if b = 0 then some true else (if x.2 = true then some (x.1 == enc a) else some false)) else some true) = some true := by
      intro x hx
      by_cases f2 : fits (a * b)
      · rw [pack_yes f2] at hx ⊢
        rw [arith_enc 3 3 f2 fb] at hx
        by_cases hb0 : b = 0
        · simp [hb0]
        · have e3 : rawA 3 (a * b) b = some a := by simp [rawA, hb0, flq_mul a b hb0]
          rw [e3, pack_yes fa] at hx
          injection hx with hx; subst hx
          simp
      · rw [pack_no f2]; simp
    have ex2 : ∃ x, word_Arith.f 5 3 (pack (some (a * b))).1 (enc b) = some x := by
      by_cases f2 : fits (a * b)
      · rw [pack_yes f2]; exact ⟨_, arith_enc 3 3 f2 fb⟩
      · rw [pack_no f2]; exact ⟨_, arith_even 3 3 ⟨by omega, by omega⟩ (enc_word b) (.inl rfl)⟩
    obtain ⟨x, hx⟩ := ex2
    have k2 := key2 x hx
    simp only [Option.bind_some]
    by_cases f0 : fits (a + b)
    · have e1 : word_Arith.f 5 1 (pack (some (a + b))).1 (enc b) = some (enc a, true) := by
        rw [pack_yes f0, arith_enc 3 1 f0 fb]
        have : rawA 1 (a + b) b = some a := by show some (a + b - b) = some a; congr 1; omega
        rw [this, pack_yes fa]
      rw [e1, hx, pack_yes f0]
      simp only [Option.bind_some, if_true]
      exact k2
    · have e1 : ∃ y, word_Arith.f 5 1 (pack (some (a + b))).1 (enc b) = some y := by
        rw [pack_no f0]; exact ⟨_, arith_even 3 1 ⟨by omega, by omega⟩ (enc_word b) (.inl rfl)⟩
      obtain ⟨y, hy⟩ := e1
      rw [hy, hx, pack_no f0]
      simp only [Option.bind_some, if_true, Bool.false_eq_true, if_false]
      exact k2
  · have hf' := Decidable.not_and_iff_not_or_not.1 hf
    rw [arith_none 3 0 hf' v w hv hw, arith_none 3 2 hf' v w hv hw]
    have hww : word w := by
      by_cases hb : fits b
      · rw [of_yes hb] at hw; injection hw with hw; subst hw; exact enc_word b
      · rw [of_no hb] at hw; injection hw with hw; subst hw; exact ⟨by omega, by omega⟩
    simp only [Option.bind_some]
    rw [arith_even 3 1 ⟨by omega, by omega⟩ hww (.inl rfl), arith_even 3 3 ⟨by omega, by omega⟩ hww (.inl rfl)]
    simp

/-! ### less -/
theorem less_odd (k : Nat) (kind : Int) {v w : Int} (hv : word v) (hw : word w) (ov : v % 2 = 1) (ow : w % 2 = 1) :
    word_Less.f (k + 1) kind v w = some (if kind = 0 then (decide (dec v < dec w), true) else if kind = 1 then (decide (dec v ≤ dec w), true) else if kind = 2 then (dec v == dec w, true) else (false, false)) := by
  unfold word_Less.f
  rw [int_odd hv ov, int_odd hw ow]
  simp only [Option.bind_some, word_Less.j0]
  simp only [if_true, bne_self_eq_false, Bool.false_eq_true, if_false]
  by_cases c0 : kind = 0
  · simp [c0]
  by_cases c1 : kind = 1
  · simp [c1]
  by_cases c2 : kind = 2
  · simp [c2]
  simp [c0, c1, c2]
theorem less_even (k : Nat) (kind : Int) {v w : Int} (hv : word v) (hw : word w) (h : v % 2 = 0 ∨ w % 2 = 0) : word_Less.f (k + 1) kind v w = some (false, false) := by
  unfold word_Less.f
  by_cases ov : v % 2 = 1
  · rw [int_odd hv ov, int_even hw (by omega)]; simp [word_Less.j0]
  · rw [int_even hv (by omega)]
    by_cases ow : w % 2 = 1
    · rw [int_odd hw ow]; simp [word_Less.j0]
    · rw [int_even hw (by omega)]; simp [word_Less.j0]
theorem less_enc (k : Nat) (kind : Int) {a b : Int} (ha : fits a) (hb : fits b) :
    word_Less.f (k + 1) kind (enc a) (enc b) = some (if kind = 0 then (decide (a < b), true) else if kind = 1 then (decide (a ≤ b), true) else if kind = 2 then (a == b, true) else (false, false)) := by
  rw [less_odd k kind (enc_word a) (enc_word b) (enc_odd a) (enc_odd b), dec_enc ha, dec_enc hb]

theorem fits_ref (n : Int) : tappetref01_fits.f n = some (decide (fits n)) := by
  unfold tappetref01_fits.f
  have hd : ∀ b : Bool, (b = true ↔ fits n) → b = decide (fits n) := fun b hb => by
    by_cases h : fits n
    · rw [decide_eq_true h]; exact hb.2 h
    · rw [decide_eq_false h]; cases b
      · rfl
      · exact absurd (hb.1 rfl) h
  by_cases c : n ≥ -4611686018427387904
  · rw [if_pos c]; congr 1; refine hd _ ?_; rw [decide_eq_true_eq]; unfold fits; omega
  · rw [if_neg c]; congr 1; refine hd _ ?_; unfold fits; constructor
    · intro h; cases h
    · omega
theorem ref_fromInt (n : Int) : tappetref01_FromInt.f n = word_FromInt.f n := by
  unfold tappetref01_FromInt.f
  rw [fits_ref]
  simp only [Option.bind_some]
  by_cases h : fits n
  · rw [if_pos (decide_eq_true h), fromInt_yes h]
    have : IntKind.u64.wrap ((IntKind.u64.wrap ((IntKind.u64.wrap n) * 2)) + 1) = enc n := by
      rw [IntKind.wrap_u64, IntKind.wrap_u64, IntKind.wrap_u64]; unfold enc; omega
    rw [this]
  · rw [if_neg (by rw [decide_eq_true_eq]; exact h), fromInt_no h]
theorem ref_fromRef (n : Int) : tappetref01_FromRef.f n = word_FromRef.f n := rfl
theorem ref_isInt {w : Int} (h : word w) : tappetref01_IsInt.f w = word_IsInt.f w := by
  rw [isInt w h]
  unfold tappetref01_IsInt.f
  rw [Int.tmod_eq_emod_of_nonneg h.1]
  congr 1
  rcases Int.emod_two_eq w with e | e <;> rw [e] <;> rfl
theorem and_one_i64 (n : Int) : Go.bits .and .i64 n 1 = n % 2 := by
  unfold Go.bits
  rw [IntKind.wrap_i64]
  show ((BitVec.ofInt 64 n &&& BitVec.ofInt 64 1).toNat + 9223372036854775808 : Int) % 18446744073709551616 - 9223372036854775808 = n % 2
  rw [BitVec.toNat_and]
  have e1 : (BitVec.ofInt 64 1).toNat = 1 := by decide
  rw [e1, Nat.and_one_is_mod]
  have e2 : ((BitVec.ofInt 64 n).toNat : Int) = n % 18446744073709551616 := by
    rw [BitVec.toNat_ofInt]; simp; omega
  omega
theorem ref_int {w : Int} (h : word w) : tappetref01_Int.f w = word_Int.f w := by
  unfold tappetref01_Int.f
  rw [ref_isInt h, isInt w h]
  simp only [Option.bind_some]
  by_cases o : w % 2 = 1
  · rw [int_odd h o, if_pos (by rw [o]; rfl)]
    have b : -9223372036854775808 ≤ wrap64 w ∧ wrap64 w < 9223372036854775808 := by unfold wrap64; omega
    rw [and_one_i64]
    have ho : wrap64 w % 2 = 1 := by unfold wrap64; omega
    unfold dec
    generalize wrap64 w = n at *
    have e : wrap64 (n - n % 2) = n - 1 := by rw [ho]; unfold wrap64; omega
    rw [e]
    have e2 : (n - 1).tdiv 2 = n / 2 := by
      obtain ⟨q, hq⟩ : ∃ q, n - 1 = q * 2 := ⟨n / 2, by omega⟩
      rw [hq, Int.mul_tdiv_cancel _ (by decide)]; omega
    rw [e2]
    have e3 : wrap64 (n / 2) = n / 2 := by unfold wrap64; omega
    rw [e3]
  · rw [int_even h (by omega), if_neg (by have : w % 2 = 0 := by omega
                                          rw [this]; decide)]
theorem ref_ref {w : Int} (h : word w) : tappetref01_Ref.f w = word_Ref.f w := by
  unfold tappetref01_Ref.f word_Ref.f
  rw [ref_isInt h, isInt w h]
  simp only [Option.bind_some]
  by_cases o : (w % 2 != 0) = true
  · rw [if_pos o, if_pos o]
  · rw [if_neg o, if_neg o]
    have e : IntKind.u64.wrap (w.tdiv 2) = w / 2 := by
      rw [IntKind.wrap_u64, Int.tdiv_eq_ediv_of_nonneg h.1]; have := h.1; have := h.2; omega
    rw [e]
    by_cases c1 : w / 2 < 1
    · rw [if_pos c1, if_neg (show ¬ w / 2 ≥ 1 by omega)]
    · rw [if_neg c1, if_pos (show w / 2 ≥ 1 by omega)]
      by_cases c2 : w / 2 > 2147483647
      · rw [if_pos c2, if_neg (show ¬ w / 2 ≤ 2147483647 by omega)]
      · rw [if_neg c2, if_pos (show w / 2 ≤ 2147483647 by omega)]

theorem isInt_some (w : Int) : ∃ r, word_IsInt.f w = some r := ⟨_, rfl⟩
theorem fromRef_some (n : Int) : ∃ x, word_FromRef.f n = some x := by
  unfold word_FromRef.f; split
  · exact ⟨_, rfl⟩
  · split <;> exact ⟨_, rfl⟩
theorem fromInt_some (n : Int) : ∃ x, word_FromInt.f n = some x := by
  by_cases h : fits n
  · exact ⟨_, fromInt_yes h⟩
  · exact ⟨_, fromInt_no h⟩
theorem int_some {w : Int} (h : word w) : ∃ x, word_Int.f w = some x := by
  by_cases o : w % 2 = 1
  · exact ⟨_, int_odd h o⟩
  · exact ⟨_, int_even h (by omega)⟩
theorem ref_some (w : Int) : ∃ x, word_Ref.f w = some x := by
  unfold word_Ref.f
  obtain ⟨r, hr⟩ := isInt_some w
  rw [hr]; simp only [Option.bind_some]
  split
  · exact ⟨_, rfl⟩
  · split
    · split <;> exact ⟨_, rfl⟩
    · exact ⟨_, rfl⟩

theorem WordForms : tappetlaw01_WordForms.Pure := by
  intro n w _ hw
  refine ⟨5, ?_⟩
  have ww := u64_word hw
  unfold tappetlaw01_WordForms.f
  rw [awake_yes, ref_fromInt, ref_fromRef, ref_int ww, ref_ref ww, ref_isInt ww]
  obtain ⟨x1, h1⟩ := fromInt_some n
  obtain ⟨x2, h2⟩ := fromRef_some n
  obtain ⟨x3, h3⟩ := int_some ww
  obtain ⟨x4, h4⟩ := ref_some w
  obtain ⟨x5, h5⟩ := isInt_some w
  rw [h1, h2, h3, h4, h5]
  simp

/-- what a reference is -/
theorem ref_yes {w : Int} (h : word w) (he : w % 2 = 0) (h1 : 1 ≤ w / 2) (h2 : w / 2 ≤ 2147483647) : word_Ref.f w = some (w / 2, 0) := by
  unfold word_Ref.f
  rw [isInt w h]
  simp only [Option.bind_some]
  rw [if_neg (by rw [he]; decide), if_pos h1, if_pos h2]
  have : wrap64 (w / 2) = w / 2 := by unfold wrap64; omega
  rw [this]
theorem ref_no {w : Int} (h : word w) (hn : ¬ (w % 2 = 0 ∧ 1 ≤ w / 2 ∧ w / 2 ≤ 2147483647)) : word_Ref.f w = some (0, 1) := by
  unfold word_Ref.f
  rw [isInt w h]
  simp only [Option.bind_some]
  by_cases o : (w % 2 != 0) = true
  · rw [if_pos o]
  · rw [if_neg o]
    have he : w % 2 = 0 := by simpa using o
    by_cases c1 : w / 2 ≥ 1
    · rw [if_pos c1, if_neg (by omega)]
    · rw [if_neg c1]
theorem fromRef_yes {n : Int} (h1 : 1 ≤ n) (h2 : n ≤ 2147483647) : word_FromRef.f n = some (2 * n, 0) := by
  unfold word_FromRef.f
  rw [if_neg (by omega), if_neg (by omega)]
  have : IntKind.u64.wrap (IntKind.u64.wrap n * 2) = 2 * n := by rw [IntKind.wrap_u64, IntKind.wrap_u64]; omega
  rw [this]

theorem back_rest {w : Int} (h : word w) : tappetlaw01_WordBack.j0 5 w true false = some true := by
  obtain ⟨x2, h2⟩ := fromRef_some 0
  have f0 := fromInt_yes (n := 0) (by unfold fits; omega)
  simp only [tappetlaw01_WordBack.j0, tappetlaw01_WordBack.j1]
  rw [isInt w h]
  by_cases o : w % 2 = 1
  · rw [int_odd h o, ref_no h (by omega)]
    simp [fromInt_yes (dec_fits h), h2, enc_dec h o, o]
  · have o' : w % 2 = 0 := by omega
    rw [int_even h o']
    by_cases hr : 1 ≤ w / 2 ∧ w / 2 ≤ 2147483647
    · rw [ref_yes h o' hr.1 hr.2]
      have : 2 * (w / 2) = w := by omega
      simp [f0, fromRef_yes hr.1 hr.2, this, o']
    · rw [ref_no h (by omega)]
      simp [f0, h2, o']

theorem WordBack : tappetlaw01_WordBack.Pure := by
  intro n w _ hw
  refine ⟨5, ?_⟩
  have ww := u64_word hw
  unfold tappetlaw01_WordBack.f
  rw [awake_yes]
  simp only [Option.bind_some]
  by_cases h : fits n
  · rw [fromInt_yes h]
    simp only [Option.bind_some]
    rw [int_enc h]
    simp only [Option.bind_some, if_true]
    rw [isInt _ (enc_word n)]
    simp only [Option.bind_some, enc_odd]
    -- the first test of the law
    have := back_rest ww
    unfold tappetlaw01_WordBack.j0 at this ⊢
    simpa using this
  · rw [fromInt_no h]
    simp only [Option.bind_some]
    rw [int_zero]
    simp only [Option.bind_some]
    rw [if_neg (by decide)]
    have := back_rest ww
    unfold tappetlaw01_WordBack.j0 at this ⊢
    simpa using this

/-! ### the document's reckoning is the program's -/
theorem ref_j1 (k : Nat) (n : Int) : tappetref01_Arith.j1 (k + 1) n true = some (pack (some n)) := by
  simp only [tappetref01_Arith.j1, if_true]
  rw [fits_ref]
  simp only [Option.bind_some]
  by_cases h : fits n
  · rw [if_pos (decide_eq_true h), ref_fromInt, fromInt_yes h, pack_yes h]; rfl
  · rw [if_neg (by rw [decide_eq_true_eq]; exact h), pack_no h]
theorem ref_by {a b : Int} (ha : fits a) (hb0 : b ≠ 0) : tappetref01_by.f a b = some (flq a b) := by
  have hq := tdiv_small (b := b) ha
  have w1 : wrap64 (Int.tdiv a b) = Int.tdiv a b := by unfold wrap64; omega
  have w2 : wrap64 (Int.tdiv a b - 1) = Int.tdiv a b - 1 := by unfold wrap64; omega
  unfold tappetref01_by.f flq
  rw [if_neg hb0, w1, w2]
  by_cases c : Int.tmod a b = 0
  · rw [if_pos c, if_pos c]
  · rw [if_neg c, if_neg c]
    by_cases d : (decide (a < 0) != decide (b < 0)) = true
    · rw [if_pos d, if_pos d]
    · rw [if_neg d, if_neg d]
theorem wrap64_mod (p : Int) : ∃ m, wrap64 p = p - m * 18446744073709551616 := by
  unfold wrap64; exact ⟨(p + 9223372036854775808) / 18446744073709551616, by omega⟩
/-- a product of two numbers, as the document multiplies -/
theorem ref_times (k : Nat) {a b : Int} (ha : fits a) (hb : fits b) :
    ((tappetref01_times.f a b).bind fun x => tappetref01_Arith.j1 (k + 1) x.1 x.2) = some (pack (some (a * b))) := by
  unfold tappetref01_times.f
  by_cases a0 : a = 0
  · subst a0; rw [if_pos rfl]; simp only [Option.bind_some]; rw [ref_j1]; simp
  rw [if_neg a0]
  by_cases b0 : b = 0
  · subst b0; rw [if_pos rfl]; simp only [Option.bind_some]; rw [ref_j1]; simp
  rw [if_neg b0, fits_ref]
  obtain ⟨m, hm⟩ := wrap64_mod (a * b)
  by_cases h : fits (a * b)
  · have e : wrap64 (a * b) = a * b := by unfold fits at h; generalize a * b = p at *; unfold wrap64; omega
    have e2 : wrap64 (Int.tdiv (a * b) b) = a := by rw [Int.mul_tdiv_cancel a b0]; unfold fits at ha; unfold wrap64; omega
    rw [e, e2, if_pos rfl]
    simp only [Option.bind_some]
    rw [decide_eq_true h, ref_j1]
  · rw [pack_no h]
    by_cases c : wrap64 (Int.tdiv (wrap64 (a * b)) b) = a
    · rw [if_pos c]
      simp only [Option.bind_some]
      by_cases f : fits (wrap64 (a * b))
      · exfalso
        have q := tdiv_small (b := b) f
        have w1 : wrap64 (Int.tdiv (wrap64 (a * b)) b) = Int.tdiv (wrap64 (a * b)) b := by unfold wrap64 at q ⊢; omega
        rw [w1] at c
        have s := Int.mul_tdiv_add_tmod (wrap64 (a * b)) b
        rw [c] at s
        obtain ⟨r1, r2, _⟩ := tmod_small (a := wrap64 (a * b)) (b := b)
        have hc : b * a = a * b := Int.mul_comm b a
        rw [hc] at s
        generalize a * b = p at *
        generalize (wrap64 p).tmod b = r at *
        generalize wrap64 p = u at *
        unfold fits at *
        omega
      · rw [decide_eq_false f]; simp [tappetref01_Arith.j1]
    · rw [if_neg c]; simp [tappetref01_Arith.j1]

theorem ref_arith_ok (k : Nat) (kind a b : Int) (ha : fits a) (hb : fits b) (hz : ¬ ((kind = 3 ∨ kind = 4) ∧ b = 0)) : tappetref01_Arith.j0 (k + 2) kind a b false = some (pack (rawA kind a b)) := by
  simp only [tappetref01_Arith.j0, rawA]
  rw [if_neg (by decide)]
  by_cases c0 : kind = 0
  · have : wrap64 (a + b) = a + b := by unfold fits at ha hb; unfold wrap64; omega
    rw [if_pos c0, if_pos c0, this, ref_j1]
  rw [if_neg c0, if_neg c0]
  by_cases c1 : kind = 1
  · have : wrap64 (a - b) = a - b := by unfold fits at ha hb; unfold wrap64; omega
    rw [if_pos c1, if_pos c1, this, ref_j1]
  rw [if_neg c1, if_neg c1]
  by_cases c2 : kind = 2
  · rw [if_pos c2, if_pos c2, ref_times k ha hb]
  rw [if_neg c2, if_neg c2]
  by_cases c3 : kind = 3
  · have hb0 : b ≠ 0 := fun h => hz ⟨.inl c3, h⟩
    rw [if_pos c3, if_pos c3, ref_by ha hb0, if_neg hb0]
    simp only [Option.bind_some]
    rw [ref_j1]
  rw [if_neg c3, if_neg c3]
  by_cases c4 : kind = 4
  · have hb0 : b ≠ 0 := fun h => hz ⟨.inr c4, h⟩
    rw [if_pos c4, if_pos c4, ref_by ha hb0, if_neg hb0]
    simp only [Option.bind_some]
    have hs := fl_sum a b
    have hf := flr_fits (a := a) hb hb0
    have : wrap64 (a - wrap64 (flq a b * b)) = flr a b := by
      generalize flq a b * b = p at *
      unfold fits at *
      unfold wrap64; omega
    rw [this, ref_j1]
  rw [if_neg c4, if_neg c4]
  by_cases c5 : kind = 5
  · rw [if_pos c5, if_pos c5, ref_j1]
  rw [if_neg c5, if_neg c5]
  by_cases c6 : kind = 6
  · rw [if_pos c6, if_pos c6, ref_j1]
  rw [if_neg c6, if_neg c6]
  by_cases c7 : kind = 7
  · rw [if_pos c7, if_pos c7, ref_j1]
  rw [if_neg c7, if_neg c7]
  simp [tappetref01_Arith.j1, pack]

theorem ref_arith (k : Nat) (kind : Int) {v w : Int} (hv : word v) (hw : word w) : tappetref01_Arith.f (k + 2) kind v w = word_Arith.f (k + 2) kind v w := by
  by_cases o : v % 2 = 1 ∧ w % 2 = 1
  · obtain ⟨ov, ow⟩ := o
    rw [arith_odd k kind hv hw ov ow]
    unfold tappetref01_Arith.f
    rw [ref_int hv, ref_int hw, int_odd hv ov, int_odd hw ow]
    simp only [Option.bind_some, if_true]
    have fv := dec_fits hv
    have fw := dec_fits hw
    generalize dec v = a at *
    generalize dec w = b at *
    by_cases c3 : kind = 3
    · rw [if_pos c3]
      by_cases hb0 : b = 0
      · simp [hb0, c3, rawA, pack, tappetref01_Arith.j0]
      · rw [beq_eq_false_iff_ne.2 hb0]; exact ref_arith_ok k kind a b fv fw (fun h => hb0 h.2)
    rw [if_neg c3]
    by_cases c4 : kind = 4
    · rw [if_pos c4]
      by_cases hb0 : b = 0
      · simp [hb0, c4, rawA, pack, tappetref01_Arith.j0]
      · rw [beq_eq_false_iff_ne.2 hb0]; exact ref_arith_ok k kind a b fv fw (fun h => hb0 h.2)
    rw [if_neg c4]
    exact ref_arith_ok k kind a b fv fw (fun h => by rcases h.1 with h | h <;> contradiction)
  · rw [arith_even k kind hv hw (by omega)]
    unfold tappetref01_Arith.f
    rw [ref_int hv, ref_int hw]
    by_cases ov : v % 2 = 1
    · rw [int_odd hv ov, int_even hw (by omega)]; simp [tappetref01_Arith.j0]
    · rw [int_even hv (by omega)]
      by_cases ow : w % 2 = 1
      · rw [int_odd hw ow]; simp [tappetref01_Arith.j0]
      · rw [int_even hw (by omega)]; simp [tappetref01_Arith.j0]

theorem ref_less (k : Nat) (kind : Int) {v w : Int} (hv : word v) (hw : word w) : tappetref01_Less.f kind v w = word_Less.f (k + 1) kind v w := by
  unfold tappetref01_Less.f
  rw [ref_int hv, ref_int hw]
  by_cases o : v % 2 = 1 ∧ w % 2 = 1
  · obtain ⟨ov, ow⟩ := o
    rw [less_odd k kind hv hw ov ow, int_odd hv ov, int_odd hw ow]
    simp only [Option.bind_some, if_true]
    generalize dec v = a
    generalize dec w = b
    by_cases c0 : kind = 0
    · subst c0; by_cases h : a < b <;> simp [h]
    by_cases c1 : kind = 1
    · subst c1; by_cases h : a ≤ b <;> simp [h]
    by_cases c2 : kind = 2
    · subst c2; simp
    by_cases n : kind < 0
    · simp [c0, c1, c2, n]
    · have n2 : kind > 2 := by omega
      simp [c0, c1, c2, n, n2]
  · rw [less_even k kind hv hw (by omega)]
    by_cases ov : v % 2 = 1
    · rw [int_odd hv ov, int_even hw (by omega)]; simp
    · rw [int_even hv (by omega)]
      by_cases ow : w % 2 = 1
      · rw [int_odd hw ow]; simp
      · rw [int_even hw (by omega)]; simp

theorem arith_some (kind : Int) {v w : Int} (hv : word v) (hw : word w) : ∃ x, word_Arith.f 5 kind v w = some x := by
  by_cases o : v % 2 = 1 ∧ w % 2 = 1
  · exact ⟨_, arith_odd 3 kind hv hw o.1 o.2⟩
  · exact ⟨_, arith_even 3 kind hv hw (by omega)⟩
theorem less_some (k : Nat) (kind : Int) {v w : Int} (hv : word v) (hw : word w) : ∃ x, word_Less.f (k + 1) kind v w = some x := by
  by_cases o : v % 2 = 1 ∧ w % 2 = 1
  · exact ⟨_, less_odd k kind hv hw o.1 o.2⟩
  · exact ⟨_, less_even k kind hv hw (by omega)⟩

theorem WordReckons : tappetlaw01_WordReckons.Pure := by
  intro kind v w _ h1 h2
  refine ⟨5, ?_⟩
  have hv := u64_word h1
  have hw := u64_word h2
  unfold tappetlaw01_WordReckons.f
  rw [awake_yes, ref_arith 3 kind hv hw, ref_less 4 kind hv hw]
  obtain ⟨x, hx⟩ := arith_some kind hv hw
  obtain ⟨y, hy⟩ := less_some 4 kind hv hw
  rw [hx, hy]
  simp

theorem rawA_comm (kind a b : Int) (h : kind = 0 ∨ kind = 2 ∨ kind = 5 ∨ kind = 6 ∨ kind = 7) : rawA kind a b = rawA kind b a := by
  unfold rawA
  rcases h with h | h | h | h | h <;> subst h <;> simp [Int.add_comm, Int.mul_comm, and_comm a b, or_comm a b, xor_comm a b]

theorem arith_comm (kind : Int) {v w : Int} (hv : word v) (hw : word w) (h : kind = 0 ∨ kind = 2 ∨ kind = 5 ∨ kind = 6 ∨ kind = 7) : word_Arith.f 5 kind v w = word_Arith.f 5 kind w v := by
  by_cases o : v % 2 = 1 ∧ w % 2 = 1
  · rw [arith_odd 3 kind hv hw o.1 o.2, arith_odd 3 kind hw hv o.2 o.1, rawA_comm kind _ _ h]
  · rw [arith_even 3 kind hv hw (by omega), arith_even 3 kind hw hv (by omega)]

theorem WordTurns : tappetlaw01_WordTurns.Pure := by
  intro kind v w _ h1 h2
  refine ⟨5, ?_⟩
  have hv := u64_word h1
  have hw := u64_word h2
  unfold tappetlaw01_WordTurns.f
  rw [awake_yes]
  obtain ⟨x, hx⟩ := arith_some kind hv hw
  obtain ⟨y, hy⟩ := arith_some kind hw hv
  simp only [Option.bind_some]
  by_cases hc : kind = 0 ∨ kind = 2 ∨ kind = 5 ∨ kind = 6 ∨ kind = 7
  · have hxy := arith_comm kind hv hw hc
    rw [hx, hy] at hxy
    injection hxy with hxy
    subst hxy
    rw [hx, hy]
    rcases hc with h | h | h | h | h <;> subst h <;> simp [tappetlaw01_WordTurns.j0]
  · have n0 : kind ≠ 0 := fun h => hc (.inl h)
    have n2 : kind ≠ 2 := fun h => hc (.inr (.inl h))
    have n5 : kind ≠ 5 := fun h => hc (.inr (.inr (.inl h)))
    have n6 : kind ≠ 6 := fun h => hc (.inr (.inr (.inr (.inl h))))
    have n7 : kind ≠ 7 := fun h => hc (.inr (.inr (.inr (.inr h))))
    rw [hx, hy]
    simp only [Option.bind_some]
    rw [if_neg n0, if_neg n2, if_neg n5, if_neg n6, beq_eq_false_iff_ne.2 n7]
    unfold tappetlaw01_WordTurns.j0
    simp only [Bool.false_eq_true, if_false]
    by_cases c1 : kind = 1
    · subst c1
      rw [if_pos rfl]
      by_cases o : v % 2 = 1 ∧ w % 2 = 1
      · rw [arith_odd 3 1 hv hw o.1 o.2] at hx
        rw [arith_odd 3 1 hw hv o.2 o.1] at hy
        have e1 : rawA 1 (dec v) (dec w) = some (dec v - dec w) := rfl
        have e2 : rawA 1 (dec w) (dec v) = some (dec w - dec v) := rfl
        rw [e1] at hx; rw [e2] at hy
        generalize dec v = a at *
        generalize dec w = b at *
        injection hx with hx; injection hy with hy
        subst hx; subst hy
        by_cases f1 : fits (a - b)
        · rw [pack_yes f1]
          by_cases f2 : fits (b - a)
          · rw [pack_yes f2]
            simp only [tappetlaw01_WordTurns.j1, int_enc f1, int_enc f2, Option.bind_some]
            have : wrap64 (-(b - a)) = a - b := by unfold fits at f2; unfold wrap64; omega
            simp [this]
          · rw [pack_no f2]; simp [tappetlaw01_WordTurns.j1]
        · rw [pack_no f1]; simp [tappetlaw01_WordTurns.j1]
      · rw [arith_even 3 1 hv hw (by omega)] at hx
        injection hx with hx; subst hx
        simp [tappetlaw01_WordTurns.j1]
    · rw [if_neg c1]
      by_cases o : v % 2 = 1 ∧ w % 2 = 1
      · rw [less_odd 3 0 hv hw o.1 o.2, less_odd 3 2 hv hw o.1 o.2, less_odd 3 0 hw hv o.2 o.1]
        generalize dec v = a
        generalize dec w = b
        simp only [Option.bind_some, if_true]
        rcases Int.lt_trichotomy a b with h | h | h
        · have e1 : decide (a < b) = true := decide_eq_true h
          have e2 : (a == b) = false := beq_eq_false_iff_ne.2 (by omega)
          have e3 : decide (b < a) = false := decide_eq_false (by omega)
          simp [e1, e2, e3]
        · subst h; simp
        · have e1 : decide (a < b) = false := decide_eq_false (by omega)
          have e2 : (a == b) = false := beq_eq_false_iff_ne.2 (by omega)
          have e3 : decide (b < a) = true := decide_eq_true h
          simp [e1, e2, e3]
      · rw [less_even 3 0 hv hw (by omega), less_even 3 2 hv hw (by omega), less_even 3 0 hw hv (by omega)]
        simp

theorem of_word {a v : Int} (h : tappetlaw01_of.f a = some v) : word v := by
  by_cases hf : fits a
  · rw [of_yes hf] at h; injection h with h; subst h; exact enc_word a
  · rw [of_no hf] at h; injection h with h; subst h; exact ⟨by omega, by omega⟩
theorem less_none (k : Nat) (kind : Int) {a b : Int} (h : ¬ fits a ∨ ¬ fits b) {v w : Int} (hv : tappetlaw01_of.f a = some v) (hw : tappetlaw01_of.f b = some w) :
    word_Less.f (k + 1) kind v w = some (false, false) := by
  refine less_even k kind (of_word hv) (of_word hw) ?_
  rcases h with h | h
  · rw [of_no h] at hv; injection hv with hv; subst hv; exact .inl rfl
  · rw [of_no h] at hw; injection hw with hw; subst hw; exact .inr rfl

theorem WordRanks : tappetlaw01_WordRanks.Pure := by
  intro a b c _ _ _
  refine ⟨5, ?_⟩
  unfold tappetlaw01_WordRanks.f
  rw [awake_yes]
  obtain ⟨u, hu⟩ := of_some a
  obtain ⟨v, hv⟩ := of_some b
  obtain ⟨w, hw⟩ := of_some c
  simp only [Option.bind_some, hu, hv, hw]
  by_cases hf : fits a ∧ fits b ∧ fits c
  · obtain ⟨fa, fb, fc⟩ := hf
    have eu : u = enc a := by rw [of_yes fa] at hu; injection hu with hu; exact hu.symm
    have ev : v = enc b := by rw [of_yes fb] at hv; injection hv with hv; exact hv.symm
    have ew : w = enc c := by rw [of_yes fc] at hw; injection hw with hw; exact hw.symm
    subst eu; subst ev; subst ew
    rw [less_enc 4 0 fa fb, less_enc 4 0 fb fc, less_enc 4 0 fa fc]
    simp only [Option.bind_some, if_true]
    unfold tappetlaw01_WordRanks.j0
    simp only [hu, hv, Option.bind_some]
    rw [less_enc 3 2 fa fb, less_enc 3 1 fa fb]
    simp only [Option.bind_some]
    rcases Int.lt_trichotomy a b with h | h | h
    · have e1 : decide (a < b) = true := decide_eq_true h
      have e2 : (a == b) = false := beq_eq_false_iff_ne.2 (by omega)
      have e3 : decide (a ≤ b) = true := decide_eq_true (by omega)
      by_cases h2 : b < c
      · simp [e1, e2, e3, h2, show a < c by omega]
      · simp [e1, e2, e3, h2]
    · subst h; simp
    · have e1 : decide (a < b) = false := decide_eq_false (by omega)
      have e2 : (a == b) = false := beq_eq_false_iff_ne.2 (by omega)
      have e3 : decide (a ≤ b) = false := decide_eq_false (by omega)
      simp [e1, e2, e3]
  · have key : ∀ (x y z : Bool) (p : Bool), p = true → tappetlaw01_WordRanks.j0 5 a b c true x y z p = some true := by
      intro x y z p hp
      subst hp
      unfold tappetlaw01_WordRanks.j0
      simp only [hu, hv, hw, Option.bind_some, if_true]
      by_cases fa : fits a
      · by_cases fb : fits b
        · have fc : ¬ fits c := fun h => hf ⟨fa, fb, h⟩
          rw [of_no fc] at hw; injection hw with hw; subst hw; simp
        · rw [of_no fb] at hv; injection hv with hv; subst hv; simp
      · rw [of_no fa] at hu; injection hu with hu; subst hu; simp
    by_cases f1 : fits a ∧ fits b
    · have fc : ¬ fits c := fun h => hf ⟨f1.1, f1.2, h⟩
      rw [less_none 4 0 (.inr fc) hv hw, less_none 4 0 (.inr fc) hu hw]
      obtain ⟨x, hx⟩ := less_some 4 0 (of_word hu) (of_word hv)
      rw [hx]
      simp [key]
    · rw [less_none 4 0 (Decidable.not_and_iff_not_or_not.1 f1) hu hv]
      obtain ⟨x, hx⟩ := less_some 4 0 (of_word hv) (of_word hw)
      obtain ⟨y, hy⟩ := less_some 4 0 (of_word hu) (of_word hw)
      rw [hx, hy]
      simp [key]

end Go.Proofs.Ythhfgchbpgcfmaa.WB
