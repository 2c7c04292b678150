/- Whole numbers below 2^53 as floats: what the float operations do with them is exact. -/
import Derived.WalkLawsBesides
namespace Go.Proofs.Ytppfmnbedihfcaa
open Ieee

/-- A whole number's float. -/
def fl (n : Int) : Nat := floatOfInt .f64 n
theorem fl_eq (n : Int) : fl n = double.nearest (decide (n < 0)) n.natAbs 0 := rfl

theorem log2_le {m e : Nat} (h0 : m ≠ 0) (h : m < 2 ^ (e + 1)) : m.log2 ≤ e := by
  have := (Nat.log2_lt h0).2 h
  omega
theorem log2_shl {m : Nat} (h0 : m ≠ 0) (k : Nat) : (m * 2 ^ k).log2 = m.log2 + k := by
  have h1 := Nat.log2_self_le h0
  have h2 : m < 2 ^ (m.log2 + 1) := Nat.lt_log2_self
  have hk : 0 < 2 ^ k := Nat.two_pow_pos k
  have hne : m * 2 ^ k ≠ 0 := Nat.mul_ne_zero h0 (by omega)
  apply Nat.le_antisymm
  · have : (m * 2 ^ k).log2 < m.log2 + k + 1 := (Nat.log2_lt hne).2 (by
      rw [show m.log2 + k + 1 = (m.log2 + 1) + k by omega, Nat.pow_add]
      exact Nat.mul_lt_mul_of_pos_right h2 hk)
    omega
  · exact (Nat.le_log2 hne).2 (by rw [Nat.pow_add]; exact Nat.mul_le_mul_right _ h1)

theorem cut_shl (way : Toward) (neg : Bool) (n k : Nat) : way.cut neg (n * 2 ^ k) k = n := by
  unfold Toward.cut
  by_cases h0 : n = 0
  · subst h0
    have e1 : 0 * 2 ^ k = 0 := by simp
    rw [e1]
    cases way <;> simp
  · have e : min k ((n * 2 ^ k).log2 + 2) = k := by rw [log2_shl h0]; omega
    have hk : 0 < 2 ^ k := Nat.two_pow_pos k
    rw [e]
    have e1 : (1 <<< k) = 2 ^ k := by rw [Nat.shiftLeft_eq]; simp
    rw [e1]
    have e2 : n * 2 ^ k / 2 ^ k = n := Nat.mul_div_cancel _ hk
    have e3 : n * 2 ^ k % 2 ^ k = 0 := Nat.mul_mod_left _ _
    dsimp only
    rw [e2, e3]
    cases way <;> simp

theorem double_least : double.leastPlace = -1074 := by decide
theorem double_bin : double.binade = 2 ^ 52 := rfl
theorem double_frac : double.fractionBits = 52 := rfl

theorem nearest_shl (neg : Bool) (m k : Nat) (h : m < 2 ^ 53) : double.nearest neg (m * 2 ^ k) (-(k : Int)) = double.nearest neg m 0 := by
  by_cases h0 : m = 0
  · subst h0; simp [Format.nearest]
  · have hk : 0 < 2 ^ k := Nat.two_pow_pos k
    have hne : m * 2 ^ k ≠ 0 := Nat.mul_ne_zero h0 (by omega)
    have hl := log2_le (e := 52) h0 h
    unfold Format.nearest
    rw [if_neg hne, if_neg h0]
    dsimp only
    rw [log2_shl h0, double_least, double_frac]
    have el : max (-(k : Int) + ((m.log2 + k : Nat) : Int) - (52 : Nat)) (-1074) = (m.log2 : Int) - 52 := by omega
    have el2 : max (0 + (m.log2 : Int) - (52 : Nat)) (-1074) = (m.log2 : Int) - 52 := by omega
    rw [el, el2]
    congr 2
    congr 1
    have c0 := cut_shl .even neg (m * 2 ^ (52 - m.log2)) 0
    rw [Nat.pow_zero, Nat.mul_one] at c0
    have r : Toward.even.cut neg (m <<< (0 - ((m.log2 : Int) - 52)).toNat) ((m.log2 : Int) - 52 - 0).toNat = m * 2 ^ (52 - m.log2) := by
      rw [show ((m.log2 : Int) - 52 - 0).toNat = 0 by omega, show (0 - ((m.log2 : Int) - 52)).toNat = 52 - m.log2 by omega, Nat.shiftLeft_eq]
      exact c0
    rw [r]
    rcases Nat.lt_or_ge (52 - m.log2) k with hlt | hge
    · rw [show (-(k : Int) - ((m.log2 : Int) - 52)).toNat = 0 by omega, show ((m.log2 : Int) - 52 - -(k : Int)).toNat = k - (52 - m.log2) by omega, Nat.shiftLeft_eq, Nat.pow_zero, Nat.mul_one]
      have := cut_shl .even neg (m * 2 ^ (52 - m.log2)) (k - (52 - m.log2))
      rw [Nat.mul_assoc, ← Nat.pow_add, show 52 - m.log2 + (k - (52 - m.log2)) = k by omega] at this
      exact this
    · rw [show (-(k : Int) - ((m.log2 : Int) - 52)).toNat = 52 - m.log2 - k by omega, show ((m.log2 : Int) - 52 - -(k : Int)).toNat = 0 by omega, Nat.shiftLeft_eq, Nat.mul_assoc, ← Nat.pow_add, show k + (52 - m.log2 - k) = 52 - m.log2 by omega]
      exact c0

/-- The word x stands for the whole number n, and its sign is n's. -/
def Rd (x : Nat) (n : Int) : Prop := ∃ k : Nat, double.read x = .number (decide (n < 0)) (n.natAbs * 2 ^ k) (-(k : Int))

theorem word_sign (neg : Bool) (r : Nat) (h : r < double.signWeight) : (double.word neg r / double.signWeight % 2 == 1) = neg ∧ double.word neg r % double.signWeight = r := by
  unfold Format.word
  have hw : 0 < double.signWeight := Nat.two_pow_pos _
  cases neg
  · simp [Nat.div_eq_of_lt h, Nat.mod_eq_of_lt h]
  · simp [Nat.add_div_left _ hw, Nat.div_eq_of_lt h, Nat.mod_eq_of_lt h]

theorem fl_rd (n : Int) (h : n.natAbs < 2 ^ 53) : Rd (fl n) n := by
  rw [fl_eq]
  by_cases h0 : n = 0
  · subst h0
    obtain ⟨k, hk⟩ : ∃ k : Nat, k = 1074 := ⟨_, rfl⟩
    refine ⟨k, ?_⟩
    rw [show (0 : Int).natAbs = 0 from rfl, Nat.zero_mul, hk]
    decide
  · have hm0 : n.natAbs ≠ 0 := by omega
    have hl := log2_le (e := 52) hm0 h
    unfold Rd
    generalize hm : n.natAbs = m at *
    refine ⟨52 - m.log2, ?_⟩
    have h1 := Nat.log2_self_le hm0
    have h2 : m < 2 ^ (m.log2 + 1) := Nat.lt_log2_self
    have hk : 0 < 2 ^ (52 - m.log2) := Nat.two_pow_pos _
    have k1 : 2 ^ 52 ≤ m * 2 ^ (52 - m.log2) := by
      calc 2 ^ 52 = 2 ^ m.log2 * 2 ^ (52 - m.log2) := by rw [← Nat.pow_add]; congr 1; omega
        _ ≤ _ := Nat.mul_le_mul_right _ h1
    have k2 : m * 2 ^ (52 - m.log2) < 2 ^ 53 := by
      calc m * 2 ^ (52 - m.log2) < 2 ^ (m.log2 + 1) * 2 ^ (52 - m.log2) := Nat.mul_lt_mul_of_pos_right h2 hk
        _ = 2 ^ 53 := by rw [← Nat.pow_add]; congr 1; omega
    have c0 := cut_shl .even (decide (n < 0)) (m * 2 ^ (52 - m.log2)) 0
    rw [Nat.pow_zero, Nat.mul_one] at c0
    have e : double.nearest (decide (n < 0)) m 0 = double.word (decide (n < 0)) ((m.log2 + 1022) * 2 ^ 52 + m * 2 ^ (52 - m.log2)) := by
      unfold Format.nearest
      rw [if_neg hm0]
      dsimp only
      rw [double_least, double_frac, double_bin]
      have el2 : max (0 + (m.log2 : Int) - (52 : Nat)) (-1074) = (m.log2 : Int) - 52 := by omega
      rw [el2, show ((m.log2 : Int) - 52 - 0).toNat = 0 by omega, show (0 - ((m.log2 : Int) - 52)).toNat = 52 - m.log2 by omega, Nat.shiftLeft_eq, c0, show ((m.log2 : Int) - 52 - -1074).toNat = m.log2 + 1022 by omega]
      congr 1
      have hi : double.infRung = 2047 * 2 ^ 52 := by decide
      rw [hi]
      omega
    generalize m * 2 ^ (52 - m.log2) = q at *
    rw [e]
    have hsw : double.signWeight = 2048 * 2 ^ 52 := by decide
    have hws := word_sign (decide (n < 0)) ((m.log2 + 1022) * 2 ^ 52 + q) (by rw [hsw]; omega)
    unfold Format.read
    dsimp only
    rw [hws.1, hws.2, double_bin, double_least]
    have hi : double.infRung = 2047 * 2 ^ 52 := by decide
    rw [hi, if_neg (by omega), if_pos (by omega)]
    congr 1
    · omega
    · omega

theorem write_fl (n : Int) (k : Nat) (h : n.natAbs < 2 ^ 53) : double.write (.number (decide (n < 0)) (n.natAbs * 2 ^ k) (-(k : Int))) = fl n := by
  rw [fl_eq]
  exact nearest_shl _ _ _ h

theorem signed_eq (n : Int) (k u : Nat) (s : Bool) (hs : n ≠ 0 → s = decide (n < 0)) : signed s (n.natAbs * 2 ^ k) u = n * 2 ^ (k + u) := by
  unfold signed
  rw [Nat.shiftLeft_eq, Nat.mul_assoc, ← Nat.pow_add]
  by_cases h0 : n = 0
  · subst h0; simp
  · rw [hs h0]
    by_cases hn : n < 0
    · rw [if_pos (by simpa using hn)]
      have : ((n.natAbs * 2 ^ (k + u) : Nat) : Int) = (n.natAbs : Int) * 2 ^ (k + u) := by push_cast; rfl
      rw [this, show (n.natAbs : Int) = -n by omega]
      rw [Int.neg_mul, Int.neg_neg]
    · rw [if_neg (by simpa using hn)]
      have : ((n.natAbs * 2 ^ (k + u) : Nat) : Int) = (n.natAbs : Int) * 2 ^ (k + u) := by push_cast; rfl
      rw [this, show (n.natAbs : Int) = n by omega]

theorem pow_pos_int (K : Nat) : (0 : Int) < 2 ^ K := Int.pow_pos (by omega)
theorem mul_pow_lt (n : Int) (K : Nat) : decide (n * 2 ^ K < 0) = decide (n < 0) := by
  have := pow_pos_int K
  by_cases h : n < 0
  · rw [decide_eq_true h, decide_eq_true (Int.mul_neg_of_neg_of_pos h this)]
  · rw [decide_eq_false h, decide_eq_false (by have := Int.mul_nonneg (a := n) (b := 2 ^ K) (by omega) (by omega); omega)]
theorem mul_pow_zero (n : Int) (K : Nat) : n * 2 ^ K = 0 ↔ n = 0 := by
  have := pow_pos_int K
  rw [Int.mul_eq_zero]
  omega

theorem sum_any (a b : Int) (ka kb : Nat) (s t : Bool) (hs : a ≠ 0 → s = decide (a < 0)) (ht : b ≠ 0 → t = decide (b < 0)) (hz : a = 0 → s = false) :
    ∃ K : Nat, Datum.sum (.number s (a.natAbs * 2 ^ ka) (-(ka : Int))) (.number t (b.natAbs * 2 ^ kb) (-(kb : Int))) = some (.number (decide (a + b < 0)) ((a + b).natAbs * 2 ^ K) (-(K : Int))) := by
  refine ⟨max ka kb, ?_⟩
  unfold Datum.sum
  dsimp only
  have em : min (-(ka : Int)) (-(kb : Int)) = -((max ka kb : Nat) : Int) := by omega
  rw [em, signed_eq a ka _ s hs, signed_eq b kb _ t ht]
  rw [show ka + (-(ka : Int) - -((max ka kb : Nat) : Int)).toNat = max ka kb by omega, show kb + (-(kb : Int) - -((max ka kb : Nat) : Int)).toNat = max ka kb by omega, ← Int.add_mul]
  generalize max ka kb = K
  congr 2
  · by_cases h0 : a + b = 0
    · rw [if_pos (by rw [h0]; simp), h0]
      by_cases ha : a = 0
      · rw [hz ha]; rfl
      · rw [hs ha, ht (by omega)]
        by_cases hlt : a < 0
        · have : ¬ b < 0 := by omega
          simp [hlt, this]
        · simp [hlt]
    · rw [if_neg (by rw [mul_pow_zero]; exact h0), mul_pow_lt]
  · rw [Int.natAbs_mul]
    congr 1

theorem add_fl {x y : Nat} {a b : Int} (hx : Rd x a) (hy : Rd y b) (h : (a + b).natAbs < 2 ^ 53) : floatBits .add .f64 x y = some (fl (a + b)) := by
  obtain ⟨ka, ha⟩ := hx
  obtain ⟨kb, hb⟩ := hy
  obtain ⟨K, hK⟩ := sum_any a b ka kb _ _ (fun _ => rfl) (fun _ => rfl) (fun e => by subst e; rfl)
  show double.add x y = _
  unfold Format.add
  rw [ha, hb, hK, Option.map_some, write_fl _ _ h]

theorem sub_fl {x y : Nat} {a b : Int} (hx : Rd x a) (hy : Rd y b) (h : (a - b).natAbs < 2 ^ 53) : floatBits .sub .f64 x y = some (fl (a - b)) := by
  obtain ⟨ka, ha⟩ := hx
  obtain ⟨kb, hb⟩ := hy
  obtain ⟨K, hK⟩ := sum_any a (-b) ka kb (decide (a < 0)) (!decide (b < 0)) (fun _ => rfl) (fun h => by
    by_cases hb : b < 0
    · simp [hb]; omega
    · simp [hb]; omega) (fun e => by subst e; rfl)
  rw [Int.natAbs_neg] at hK
  show double.sub x y = _
  unfold Format.sub
  rw [ha, hb]
  show ((Datum.sum _ (.number _ _ _)).map _) = _
  rw [hK, Option.map_some, write_fl _ _ (by rw [← Int.sub_eq_add_neg]; exact h), ← Int.sub_eq_add_neg]

theorem mul_fl {x y : Nat} {a b : Int} (hx : Rd x a) (hy : Rd y b) (h : (a * b).natAbs < 2 ^ 53) (h1 : a = 0 → 0 ≤ b) (h2 : b = 0 → 0 ≤ a) : floatBits .mul .f64 x y = some (fl (a * b)) := by
  obtain ⟨ka, ha⟩ := hx
  obtain ⟨kb, hb⟩ := hy
  show double.mul x y = _
  unfold Format.mul
  rw [ha, hb]
  unfold Datum.product
  dsimp only
  rw [Option.map_some]
  have e : (.number (decide (a < 0) ^^ decide (b < 0)) (a.natAbs * 2 ^ ka * (b.natAbs * 2 ^ kb)) (-(ka : Int) + -(kb : Int)) : Datum) = .number (decide (a * b < 0)) ((a * b).natAbs * 2 ^ (ka + kb)) (-((ka + kb : Nat) : Int)) := by
    congr 1
    · by_cases hA : a = 0
      · have := h1 hA
        subst hA
        simp; omega
      · by_cases hB : b = 0
        · have := h2 hB
          subst hB
          simp; omega
        · by_cases ha0 : a < 0 <;> by_cases hb0 : b < 0
          · have : ¬ a * b < 0 := by have := Int.mul_pos_of_neg_of_neg ha0 hb0; omega
            simp [ha0, hb0, this]
          · have : a * b < 0 := Int.mul_neg_of_neg_of_pos ha0 (by omega)
            simp [ha0, hb0, this]
          · have : a * b < 0 := Int.mul_neg_of_pos_of_neg (by omega) hb0
            simp [ha0, hb0, this]
          · have : ¬ a * b < 0 := by have := Int.mul_nonneg (a := a) (b := b) (by omega) (by omega); omega
            simp [ha0, hb0, this]
    · rw [Int.natAbs_mul, Nat.pow_add]
      simp only [Nat.mul_assoc, Nat.mul_left_comm]
    · push_cast; omega
  rw [e, write_fl _ _ h]

theorem order_rd {x y : Nat} {a b : Int} (hx : Rd x a) (hy : Rd y b) : double.order x y = some (compare a b) := by
  obtain ⟨ka, ha⟩ := hx
  obtain ⟨kb, hb⟩ := hy
  unfold Format.order
  rw [ha, hb]
  unfold Datum.order
  dsimp only
  have em : min (-(ka : Int)) (-(kb : Int)) = -((max ka kb : Nat) : Int) := by omega
  rw [em, signed_eq a ka _ _ (fun _ => rfl), signed_eq b kb _ _ (fun _ => rfl)]
  rw [show ka + (-(ka : Int) - -((max ka kb : Nat) : Int)).toNat = max ka kb by omega, show kb + (-(kb : Int) - -((max ka kb : Nat) : Int)).toNat = max ka kb by omega]
  have := pow_pos_int (max ka kb)
  congr 1
  show compareOfLessAndEq _ _ = compareOfLessAndEq _ _
  unfold compareOfLessAndEq
  rcases Int.lt_trichotomy a b with h | h | h
  · rw [if_pos h, if_pos (Int.mul_lt_mul_of_pos_right h this)]
  · subst h; simp
  · have h2 := Int.mul_lt_mul_of_pos_right h this
    rw [if_neg (by omega), if_neg (by omega), if_neg (by omega), if_neg (by omega)]

theorem toInt_rd {x : Nat} {a : Int} (hx : Rd x a) : (double.read x).toInt .zero = some a ∧ (double.read x).integral .zero = .number (decide (a < 0)) a.natAbs 0 := by
  obtain ⟨k, ha⟩ := hx
  have e : (double.read x).integral .zero = .number (decide (a < 0)) a.natAbs 0 := by
    rw [ha]
    unfold Datum.integral
    dsimp only
    rw [show (-(k : Int)).toNat = 0 by omega, show (- -(k : Int)).toNat = k by omega, Nat.shiftLeft_eq, Nat.pow_zero, Nat.mul_one, cut_shl]
  refine ⟨?_, e⟩
  unfold Datum.toInt
  rw [e]
  have := signed_eq a 0 0 _ (fun _ => rfl)
  rw [Nat.pow_zero, Nat.mul_one] at this
  dsimp only
  rw [this]
  simp
end Go.Proofs.Ytppfmnbedihfcaa
