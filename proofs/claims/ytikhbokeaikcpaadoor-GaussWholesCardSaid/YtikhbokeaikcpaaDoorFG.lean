/- Contracts of this seat's functions (of each call: what it answers), walked over the abstract machine, and the laws of numbers that they want. Conditions: those that each theorem states. -/
import Derived.Laws.FloatArith
import Derived.Laws.FloatBits
import Derived.Test.YtikhbokeaikcpaaDoorA3
import Derived.Test.YtikhbokeaikcpaaDoorFF
import Derived.Test.YtikhbokeaikcpaaDoorRR
set_option linter.unusedVariables false
set_option maxRecDepth 20000
set_option linter.unusedSimpArgs false
namespace Go.Ab
open Ieee
/-! floats by their bits: plain -/
/-- the word of a sign, an exponent's field, a fraction's field -/
def fw (s : Bool) (E M : Nat) : Nat := (if s then 9223372036854775808 else 0) + (E * 4503599627370496 + M)
theorem fw_div {s : Bool} {E M : Nat} (hE : E < 2048) (hM : M < 4503599627370496) : fw s E M / 9223372036854775808 = (if s then 1 else 0) ∧ fw s E M % 9223372036854775808 = E * 4503599627370496 + M ∧ fw s E M < 18446744073709551616 := by
  unfold fw; cases s <;> simp <;> omega
theorem dbl_c : double.binade = 4503599627370496 ∧ double.infRung = 9218868437227405312 ∧ double.signWeight = 9223372036854775808 ∧ double.leastPlace = -1074 := by decide
theorem read_fw {s : Bool} {E M : Nat} (hE : E < 2048) (hM : M < 4503599627370496) : double.read (fw s E M) = if E = 0 then .number s M (-1074) else if E < 2047 then .number s (4503599627370496 + M) ((E : Int) - 1075) else if M = 0 then .infinity s else .nan s M := by
  obtain ⟨c1, c2, c3, c4⟩ := dbl_c
  obtain ⟨d1, d2, d3⟩ := fw_div (s := s) hE hM
  unfold Format.read
  simp only [c1, c2, c3, c4, d1, d2]
  have e1 : ((if s = true then 1 else 0) % 2 == 1) = s := by cases s <;> rfl
  rw [e1]
  by_cases h0 : E = 0
  · subst h0
    rw [if_pos (by omega), if_pos rfl, Nat.zero_mul, Nat.zero_add]
  · rw [if_neg (by omega), if_neg h0]
    by_cases h1 : E < 2047
    · rw [if_pos (by omega), if_pos h1]
      have e2 : (E * 4503599627370496 + M) % 4503599627370496 = M := by omega
      have e3 : (E * 4503599627370496 + M) / 4503599627370496 = E := by omega
      rw [e2, e3, show (-1074 : Int) + ((E - 1 : Nat) : Int) = (E : Int) - 1075 by omega]
    · obtain rfl : E = 2047 := by omega
      rw [if_neg (by omega), if_neg h1]
      by_cases h2 : M = 0
      · rw [if_pos (by omega), if_pos h2]
      · rw [if_neg (by omega), if_neg h2, show 2047 * 4503599627370496 + M - 9218868437227405312 = M by omega]
theorem log2_eq {n k : Nat} (h1 : 2 ^ k ≤ n) (h2 : n < 2 ^ (k + 1)) : n.log2 = k := by
  have h0 : n ≠ 0 := by have := Nat.two_pow_pos k; omega
  have a1 := (Nat.le_log2 h0).2 h1
  have a2 := (Nat.log2_lt h0).2 h2
  omega
theorem cut_0 (s : Bool) (n : Nat) : Toward.even.cut s n 0 = n := by
  unfold Toward.cut
  have e : (1 : Nat) <<< min 0 (n.log2 + 2) = 1 := by simp
  simp only [e]
  simp [Nat.mod_one]
theorem cut_x (s : Bool) (K j : Nat) (hK : 0 < K) : Toward.even.cut s (K * 2 ^ j) j = K := by
  have h0 : K * 2 ^ j ≠ 0 := Nat.ne_of_gt (Nat.mul_pos hK (Nat.two_pow_pos j))
  have hl : j ≤ (K * 2 ^ j).log2 := (Nat.le_log2 h0).2 (Nat.le_mul_of_pos_left _ hK)
  unfold Toward.cut
  have e : (1 : Nat) <<< min j ((K * 2 ^ j).log2 + 2) = 2 ^ j := by rw [Nat.min_eq_left (by omega), Nat.one_shiftLeft]
  have e1 : K * 2 ^ j / 2 ^ j = K := Nat.mul_div_cancel _ (Nat.two_pow_pos j)
  have e2 : K * 2 ^ j % 2 ^ j = 0 := Nat.mul_mod_left _ _
  have h2 := Nat.two_pow_pos j
  simp only [e, e1, e2]
  have e3 : decide (2 ^ j < 2 * 0) = false := decide_eq_false (by omega)
  have e4 : (2 ^ j == 2 * 0) = false := by simp
  rw [e3, e4]; rfl
/-- a number that the format has -/
theorem near_up {s : Bool} {m : Nat} {p : Int} {L : Nat} (h1 : 2 ^ L ≤ m) (h2 : m < 2 ^ (L + 1)) (hL : L ≤ 52) (hp : -1022 ≤ p + L) (hp2 : p + L ≤ 1023) :
    double.nearest s m p = fw s (p + L + 1023).toNat (m * 2 ^ (52 - L) - 4503599627370496) ∧ 4503599627370496 ≤ m * 2 ^ (52 - L) ∧ m * 2 ^ (52 - L) < 9007199254740992 := by
  obtain ⟨c1, c2, c3, c4⟩ := dbl_c
  have hm : m ≠ 0 := by have := Nat.two_pow_pos L; omega
  have hl := log2_eq h1 h2
  have k1 : 4503599627370496 ≤ m * 2 ^ (52 - L) := by
    have := Nat.mul_le_mul_right (2 ^ (52 - L)) h1
    rw [← Nat.pow_add, show L + (52 - L) = 52 by omega] at this
    exact this
  have k2 : m * 2 ^ (52 - L) < 9007199254740992 := by
    have := Nat.mul_lt_mul_of_pos_right h2 (Nat.two_pow_pos (52 - L))
    rw [← Nat.pow_add, show L + 1 + (52 - L) = 53 by omega] at this
    exact this
  refine ⟨?_, k1, k2⟩
  unfold Format.nearest
  rw [if_neg hm]
  have e1 : max (p + (m.log2 : Int) - (double.fractionBits : Int)) double.leastPlace = p + L - 52 := by
    rw [hl, c4, show double.fractionBits = 52 from rfl]; omega
  simp only [e1]
  have e2 : (p - (p + L - 52)).toNat = 52 - L := by omega
  have e3 : ((p + L - 52) - p).toNat = 0 := by omega
  rw [e2, e3, cut_0, Nat.shiftLeft_eq, c1, c2, c4]
  have e4 : (p + L - 52 - -1074).toNat = (p + L + 1022).toNat := by omega
  rw [e4]
  generalize m * 2 ^ (52 - L) = q at *
  unfold Format.word
  rw [c3]
  unfold fw
  have e5 : (p + L + 1023).toNat = (p + L + 1022).toNat + 1 := by omega
  have e6 : (p + L + 1022).toNat ≤ 2045 := by omega
  rw [e5]
  clear e5 e4 e1 e2 e3 hl
  generalize (p + L + 1022).toNat = T at *
  have e7 : T * 4503599627370496 + q ≤ 9218868437227405312 := by clear hm hp hp2 c4; omega
  rw [Nat.min_eq_left e7]
  have e8 : (T + 1) * 4503599627370496 + (q - 4503599627370496) = T * 4503599627370496 + q := by clear hm hp hp2 c4; omega
  rw [e8]
  cases s <;> simp
theorem near_dn {s : Bool} {K j : Nat} {p : Int} (h1 : 4503599627370496 ≤ K) (h2 : K < 9007199254740992) (hp : -1074 ≤ p + j) (hp2 : p + j ≤ 971) :
    double.nearest s (K * 2 ^ j) p = fw s (p + j + 1075).toNat (K - 4503599627370496) := by
  obtain ⟨c1, c2, c3, c4⟩ := dbl_c
  have hm : K * 2 ^ j ≠ 0 := Nat.ne_of_gt (Nat.mul_pos (by omega) (Nat.two_pow_pos j))
  have hl : (K * 2 ^ j).log2 = 52 + j := log2_eq (by rw [Nat.pow_add]; exact Nat.mul_le_mul_right _ h1) (by rw [show 52 + j + 1 = 53 + j by omega, Nat.pow_add]; exact Nat.mul_lt_mul_of_pos_right h2 (Nat.two_pow_pos j))
  unfold Format.nearest
  rw [if_neg hm]
  have e1 : max (p + ((K * 2 ^ j).log2 : Int) - (double.fractionBits : Int)) double.leastPlace = p + j := by
    rw [hl, c4, show double.fractionBits = 52 from rfl]; omega
  simp only [e1]
  have e2 : (p - (p + j)).toNat = 0 := by omega
  have e3 : ((p + j) - p).toNat = j := by omega
  rw [e2, e3, Nat.shiftLeft_zero, cut_x s K j (by omega), c1, c2, c4]
  have e4 : (p + j - -1074).toNat = (p + j + 1074).toNat := by omega
  rw [e4]
  unfold Format.word
  rw [c3]
  unfold fw
  have e5 : (p + j + 1075).toNat = (p + j + 1074).toNat + 1 := by omega
  have e6 : (p + j + 1074).toNat ≤ 2045 := by omega
  rw [e5]
  clear e5 e4 e1 e2 e3 hl
  generalize (p + j + 1074).toNat = T at *
  have e7 : T * 4503599627370496 + K ≤ 9218868437227405312 := by clear hm hp hp2 c4; omega
  rw [Nat.min_eq_left e7]
  have e8 : (T + 1) * 4503599627370496 + (K - 4503599627370496) = T * 4503599627370496 + K := by clear hm hp hp2 c4; omega
  rw [e8]
  cases s <;> simp
/-- never is a number's word none -/
theorem near_nn (s : Bool) (m : Nat) (p : Int) : ∃ E M, E < 2048 ∧ M < 4503599627370496 ∧ double.nearest s m p = fw s E M ∧ (E = 2047 → M = 0) := by
  obtain ⟨c1, c2, c3, c4⟩ := dbl_c
  have key : ∀ r, r ≤ 9218868437227405312 → ∃ E M, E < 2048 ∧ M < 4503599627370496 ∧ double.word s r = fw s E M ∧ (E = 2047 → M = 0) := fun r hr => by
    refine ⟨r / 4503599627370496, r % 4503599627370496, by omega, by omega, ?_, by omega⟩
    unfold Format.word fw
    rw [c3, show r / 4503599627370496 * 4503599627370496 + r % 4503599627370496 = r by omega]
    cases s <;> simp
  unfold Format.nearest
  split
  · exact key 0 (by omega)
  · exact key _ (by rw [c2]; exact Nat.min_le_right _ _)
end Go.Ab

set_option linter.unusedVariables false
set_option maxRecDepth 20000
set_option linter.unusedSimpArgs false
namespace Go.Ab
open Ieee
/-! floats: their bits by operations on whole numbers -/
theorem bits_u64 {a b : Nat} (ha : a < 18446744073709551616) (hb : b < 18446744073709551616) : bits .and .u64 (a : Int) (b : Int) = ((a &&& b : Nat) : Int) ∧ bits .or .u64 (a : Int) (b : Int) = ((a ||| b : Nat) : Int) ∧ bits .andNot .u64 (a : Int) (b : Int) = ((a &&& (18446744073709551615 - b) : Nat) : Int) := by
  have ea : (BitVec.ofInt 64 (a : Int)).toNat = a := by simp [BitVec.toNat_ofInt]; omega
  have eb : (BitVec.ofInt 64 (b : Int)).toNat = b := by simp [BitVec.toNat_ofInt]; omega
  have wr : ∀ n : Nat, n < 18446744073709551616 → IntKind.u64.wrap (n : Int) = (n : Int) := fun n hn => by unfold IntKind.wrap; simp [IntKind.bits, IntKind.signed]; omega
  have l1 : a &&& b < 18446744073709551616 := Nat.lt_of_le_of_lt Nat.and_le_left ha
  have l2 : a ||| b < 18446744073709551616 := Nat.or_lt_two_pow (n := 64) ha hb
  have l3 : a &&& (18446744073709551615 - b) < 18446744073709551616 := Nat.lt_of_le_of_lt Nat.and_le_left ha
  refine ⟨?_, ?_, ?_⟩
  · show IntKind.u64.wrap ((BitVec.ofInt 64 (a : Int) &&& BitVec.ofInt 64 (b : Int)).toNat : Int) = _
    rw [BitVec.toNat_and, ea, eb, wr _ l1]
  · show IntKind.u64.wrap ((BitVec.ofInt 64 (a : Int) ||| BitVec.ofInt 64 (b : Int)).toNat : Int) = _
    rw [BitVec.toNat_or, ea, eb, wr _ l2]
  · show IntKind.u64.wrap ((BitVec.ofInt 64 (a : Int) &&& ~~~(BitVec.ofInt 64 (b : Int))).toNat : Int) = _
    rw [BitVec.toNat_and, BitVec.toNat_not, ea, eb]
    exact wr _ l3
theorem bits_i64 {a b : Nat} (ha : a < 9223372036854775808) (hb : b < 9223372036854775808) : bits .and .i64 (a : Int) (b : Int) = ((a &&& b : Nat) : Int) := by
  have ea : (BitVec.ofInt 64 (a : Int)).toNat = a := by simp [BitVec.toNat_ofInt]; omega
  have eb : (BitVec.ofInt 64 (b : Int)).toNat = b := by simp [BitVec.toNat_ofInt]; omega
  have l1 : a &&& b < 9223372036854775808 := Nat.lt_of_le_of_lt Nat.and_le_left ha
  show IntKind.i64.wrap ((BitVec.ofInt 64 (a : Int) &&& BitVec.ofInt 64 (b : Int)).toNat : Int) = _
  rw [BitVec.toNat_and, ea, eb, wrap_i64 (by omega) (by omega)]
abbrev sb (s : Bool) : Nat := if s then 1 else 0
theorem fw_eq (s : Bool) (E M : Nat) : fw s E M = 2 ^ 63 * sb s + (2 ^ 52 * E + M) := by
  unfold fw sb
  cases s <;> simp <;> omega
theorem fw_bit {s : Bool} {E M : Nat} (hE : E < 2048) (hM : M < 4503599627370496) (j : Nat) : (fw s E M).testBit j = if j < 63 then (if j < 52 then M.testBit j else E.testBit (j - 52)) else (sb s).testBit (j - 63) := by
  rw [fw_eq, Nat.testBit_two_pow_mul_add _ (show 2 ^ 52 * E + M < 2 ^ 63 by omega), Nat.testBit_two_pow_mul_add _ (show M < 2 ^ 52 by omega)]
theorem fw_abs {s : Bool} {E M : Nat} (hE : E < 2048) (hM : M < 4503599627370496) : bits .andNot .u64 (fw s E M : Nat) 9223372036854775808 = (fw false E M : Nat) := by
  obtain ⟨d1, d2, d3⟩ := fw_div (s := s) hE hM
  have h := (bits_u64 d3 (b := 9223372036854775808) (by decide)).2.2
  refine h.trans ?_
  congr 1
  rw [show 18446744073709551615 - 9223372036854775808 = 2 ^ 63 - 1 from rfl, Nat.and_two_pow_sub_one_eq_mod]
  show fw s E M % 9223372036854775808 = _
  rw [d2]
  unfold fw; simp
theorem fw_low {s : Bool} {E M : Nat} (hE : E < 2048) (hM : M < 4503599627370496) : bits .andNot .u64 (fw s E M : Nat) 9218868437227405312 = (fw s 0 M : Nat) := by
  obtain ⟨d1, d2, d3⟩ := fw_div (s := s) hE hM
  have h := (bits_u64 d3 (b := 9218868437227405312) (by decide)).2.2
  refine h.trans ?_
  congr 1
  rw [show 18446744073709551615 - 9218868437227405312 = fw true 0 4503599627370495 by decide]
  apply Nat.eq_of_testBit_eq
  intro j
  rw [Nat.testBit_and, fw_bit hE hM, fw_bit (by decide) (by decide), fw_bit (by decide) hM]
  by_cases h1 : j < 63
  · rw [if_pos h1, if_pos h1, if_pos h1]
    by_cases h2 : j < 52
    · rw [if_pos h2, if_pos h2, if_pos h2, show 4503599627370495 = 2 ^ 52 - 1 from rfl, Nat.testBit_two_pow_sub_one, decide_eq_true h2, Bool.and_true]
    · rw [if_neg h2, if_neg h2, if_neg h2, Nat.zero_testBit, Bool.and_false]
  · rw [if_neg h1, if_neg h1, if_neg h1]
    cases s <;> simp [sb]
theorem fw_or {s : Bool} {E M : Nat} (hE : E < 2048) (hM : M < 4503599627370496) : bits .or .u64 (fw s 0 M : Nat) ((E * 4503599627370496 : Nat) : Int) = (fw s E M : Nat) := by
  obtain ⟨d1, d2, d3⟩ := fw_div (s := s) (E := 0) (by decide) hM
  have h := (bits_u64 d3 (b := E * 4503599627370496) (by omega)).2.1
  refine h.trans ?_
  congr 1
  rw [show E * 4503599627370496 = fw false E 0 by unfold fw; simp]
  apply Nat.eq_of_testBit_eq
  intro j
  rw [Nat.testBit_or, fw_bit (by decide) hM, fw_bit hE (by decide), fw_bit hE hM]
  by_cases h1 : j < 63
  · rw [if_pos h1, if_pos h1, if_pos h1]
    by_cases h2 : j < 52
    · rw [if_pos h2, if_pos h2, if_pos h2, Nat.zero_testBit, Bool.or_false]
    · rw [if_neg h2, if_neg h2, if_neg h2, Nat.zero_testBit, Bool.false_or]
  · rw [if_neg h1, if_neg h1, if_neg h1]
    simp [sb]
theorem fw_sh {s : Bool} {E M : Nat} (hE : E < 2048) (hM : M < 4503599627370496) : ((fw s E M : Nat) : Int).fdiv (2 ^ 52) = ((sb s * 2048 + E : Nat) : Int) := by
  rw [Int.fdiv_eq_ediv_of_nonneg _ (by decide)]
  have : fw s E M / 2 ^ 52 = sb s * 2048 + E := by unfold fw sb; cases s <;> simp <;> omega
  rw [← this]; rfl
theorem fw_exp {s : Bool} {E M : Nat} (hE : E < 2048) (hM : M < 4503599627370496) : bits .and .u64 (((fw s E M : Nat) : Int).fdiv (2 ^ 52)) 2047 = (E : Int) ∧ bits .and .i64 (((fw s E M : Nat) : Int).fdiv (2 ^ 52)) 2047 = (E : Int) ∧ ((fw s E M : Nat) : Int).fdiv (2 ^ 52) ≤ 9223372036854775807 ∧ 0 ≤ ((fw s E M : Nat) : Int).fdiv (2 ^ 52) := by
  have hs : sb s ≤ 1 := by unfold sb; cases s <;> decide
  have e : (sb s * 2048 + E) &&& 2047 = E := by
    rw [show 2047 = 2 ^ 11 - 1 from rfl, Nat.and_two_pow_sub_one_eq_mod]
    omega
  rw [fw_sh hE hM]
  refine ⟨?_, ?_, by omega, by omega⟩
  · have h := (bits_u64 (a := sb s * 2048 + E) (b := 2047) (by omega) (by decide)).1
    rw [e] at h; exact h
  · have h := bits_i64 (a := sb s * 2048 + E) (b := 2047) (by omega) (by decide)
    rw [e] at h; exact h
theorem fw_sgn {s : Bool} {E M : Nat} (hE : E < 2048) (hM : M < 4503599627370496) : bits .and .u64 (fw s E M : Nat) 9223372036854775808 = (fw s 0 0 : Nat) ∧ bits .or .u64 0 (fw s 0 0 : Nat) = (fw s 0 0 : Nat) := by
  obtain ⟨d1, d2, d3⟩ := fw_div (s := s) hE hM
  constructor
  · have h := (bits_u64 d3 (b := 9223372036854775808) (by decide)).1
    refine h.trans ?_
    congr 1
    rw [show 9223372036854775808 = fw true 0 0 by decide]
    apply Nat.eq_of_testBit_eq
    intro j
    rw [Nat.testBit_and, fw_bit hE hM, fw_bit (by decide) (by decide), fw_bit (by decide) (by decide)]
    by_cases h1 : j < 63
    · simp only [if_pos h1]
      by_cases h2 : j < 52
      · simp only [if_pos h2, Nat.zero_testBit, Bool.and_false]
      · simp only [if_neg h2, Nat.zero_testBit, Bool.and_false]
    · simp only [if_neg h1]
      cases s <;> simp [sb]
  · have h := (bits_u64 (a := 0) (b := fw s 0 0) (by decide) (by unfold fw; cases s <;> decide)).2.1
    exact h.trans (by rw [Nat.zero_or])
end Go.Ab

set_option linter.unusedVariables false
set_option maxRecDepth 20000
set_option linter.unusedSimpArgs false
namespace Go.Ab
open Ieee
/-! floats: order, products, whole numbers -/
theorem cmpI (a b : Int) : (compare a b = .eq ↔ a = b) ∧ (compare a b = .lt ↔ a < b) ∧ (compare a b = .gt ↔ b < a) := by
  show (compareOfLessAndEq a b = .eq ↔ a = b) ∧ (compareOfLessAndEq a b = .lt ↔ a < b) ∧ (compareOfLessAndEq a b = .gt ↔ b < a)
  unfold compareOfLessAndEq
  by_cases h1 : a < b
  · rw [if_pos h1]; simp; omega
  · rw [if_neg h1]
    by_cases h2 : a = b
    · rw [if_pos h2]; simp; omega
    · rw [if_neg h2]; simp; omega
theorem some_beq (o p : Ordering) : (some o == some p) = decide (o = p) := by cases o <;> cases p <;> rfl
/-- a finite word's number -/
theorem read_fin {s : Bool} {E M : Nat} (hE : E < 2047) (hM : M < 4503599627370496) : ∃ m p, double.read (fw s E M) = .number s m p ∧ m < 9007199254740992 ∧ -1074 ≤ p ∧ p ≤ 971 ∧ (m = 0 ↔ E = 0 ∧ M = 0) ∧ (E = 0 → m = M ∧ p = -1074) ∧ (E ≠ 0 → m = 4503599627370496 + M ∧ p = (E : Int) - 1075) := by
  rw [read_fw (by omega) hM]
  by_cases h : E = 0
  · rw [if_pos h]
    exact ⟨M, -1074, rfl, by omega, by omega, by omega, by omega, fun _ => ⟨rfl, rfl⟩, fun q => absurd h q⟩
  · rw [if_neg h, if_pos hE]
    exact ⟨_, _, rfl, by omega, by omega, by omega, by omega, fun q => absurd q h, fun _ => ⟨rfl, rfl⟩⟩
theorem sgd (s : Bool) (m k : Nat) : signed s m k = (if s then -((m * 2 ^ k : Nat) : Int) else ((m * 2 ^ k : Nat) : Int)) := by unfold signed; rw [Nat.shiftLeft_eq]
theorem sgd_0 (s : Bool) (m k : Nat) : signed s m k = 0 ↔ m = 0 := by
  rw [sgd]
  have := Nat.two_pow_pos k
  have h : m * 2 ^ k = 0 ↔ m = 0 := by rw [Nat.mul_eq_zero]; omega
  generalize m * 2 ^ k = q at *
  rw [← h]
  cases s
  · simp only [Bool.false_eq_true, if_false]; omega
  · simp only [if_true]; omega
theorem ord_0 {s : Bool} {E M : Nat} (hE : E < 2047) (hM : M < 4503599627370496) : (FloatKind.f64.format.order (fw s E M) 0 == some .eq) = decide (E = 0 ∧ M = 0) := by
  obtain ⟨m, p, h1, h2, h3, h4, h5, _⟩ := read_fin (s := s) hE hM
  show ((double.read (fw s E M)).order (double.read 0) == some .eq) = _
  rw [h1, show double.read 0 = .number false 0 (-1074) from by decide]
  show (some (compare (signed s m (p - min p (-1074)).toNat) (signed false 0 (-1074 - min p (-1074)).toNat)) == some Ordering.eq) = _
  rw [some_beq, decide_eq_decide, (cmpI _ _).1, (sgd_0 false 0 _).2 rfl, sgd_0, h5]
theorem ord_self {s : Bool} {E M : Nat} (hE : E < 2048) (hM : M < 4503599627370496) : fNaN (fw s E M) = decide (E = 2047 ∧ M ≠ 0) := by
  show ((double.read (fw s E M)).order (double.read (fw s E M)) != some .eq) = _
  rw [read_fw hE hM]
  by_cases h0 : E = 0
  · rw [if_pos h0, decide_eq_false (by omega)]
    show (some (compare (signed s M _) (signed s M _)) != some Ordering.eq) = false
    rw [(cmpI _ _).1.2 rfl]; rfl
  · rw [if_neg h0]
    by_cases h1 : E < 2047
    · rw [if_pos h1, decide_eq_false (by omega)]
      show (some (compare (signed s _ _) (signed s _ _)) != some Ordering.eq) = false
      rw [(cmpI _ _).1.2 rfl]; rfl
    · rw [if_neg h1]
      by_cases h2 : M = 0
      · rw [if_pos h2, decide_eq_false (by omega)]
        cases s <;> rfl
      · rw [if_neg h2, decide_eq_true ⟨by omega, h2⟩]
        rfl
theorem ord_inf {E M : Nat} (hE : E < 2048) (hM : M < 4503599627370496) : fInf (fw false E M) = decide (E = 2047 ∧ M = 0) := by
  have hmx : double.read 9218868437227405311 = .number false 9007199254740991 971 := by decide
  by_cases h1 : E < 2047
  · obtain ⟨m, p, q1, q2, q3, q4, q5, _⟩ := read_fin (s := false) h1 hM
    show ((double.read (fw false E M)).order (double.read 9218868437227405311) == some .gt) = _
    rw [q1, hmx, decide_eq_false (by omega)]
    show (some (compare (signed false m (p - min p 971).toNat) (signed false 9007199254740991 (971 - min p 971).toNat)) == some Ordering.gt) = false
    rw [some_beq, decide_eq_false]
    rw [(cmpI _ _).2.2, sgd, sgd, show min p 971 = p by omega, show (p - p).toNat = 0 by omega]
    have := Nat.le_mul_of_pos_right 9007199254740991 (Nat.two_pow_pos (971 - p).toNat)
    simp only [Bool.false_eq_true, if_false, Nat.pow_zero, Nat.mul_one]
    omega
  · show ((double.read (fw false E M)).order (double.read 9218868437227405311) == some .gt) = _
    rw [read_fw hE hM, if_neg (by omega), if_neg h1, hmx]
    by_cases h2 : M = 0
    · rw [if_pos h2, decide_eq_true ⟨by omega, h2⟩]; rfl
    · rw [if_neg h2, decide_eq_false (fun q => h2 q.2)]; rfl
theorem ord_sub {E M : Nat} (hE : E < 2047) (hM : M < 4503599627370496) : (FloatKind.f64.format.order (fw false E M) 4503599627370496 == some .lt) = decide (E = 0) := by
  obtain ⟨m, p, q1, q2, q3, q4, q5, q6, q7⟩ := read_fin (s := false) hE hM
  show ((double.read (fw false E M)).order (double.read 4503599627370496) == some .lt) = _
  rw [q1, show double.read 4503599627370496 = .number false 4503599627370496 (-1074) from by decide]
  show (some (compare (signed false m (p - min p (-1074)).toNat) (signed false 4503599627370496 (-1074 - min p (-1074)).toNat)) == some Ordering.lt) = _
  rw [some_beq, decide_eq_decide, (cmpI _ _).2.1, sgd, sgd, show min p (-1074) = -1074 by omega, show (-1074 - (-1074) : Int).toNat = 0 from rfl]
  simp only [Bool.false_eq_true, if_false, Nat.pow_zero, Nat.mul_one]
  by_cases h : E = 0
  · obtain ⟨a1, a2⟩ := q6 h
    rw [a1, a2, show (-1074 - (-1074) : Int).toNat = 0 from rfl]
    simp only [Nat.pow_zero, Nat.mul_one]
    omega
  · obtain ⟨a1, a2⟩ := q7 h
    have := Nat.le_mul_of_pos_right m (Nat.two_pow_pos (p - -1074).toNat)
    omega
theorem ord_neg {s : Bool} {E M : Nat} (hE : E < 2047) (hM : M < 4503599627370496) : (FloatKind.f64.format.order (fw s E M) 0 == some .lt) = (s && !decide (E = 0 ∧ M = 0)) := by
  obtain ⟨m, p, h1, h2, h3, h4, h5, _⟩ := read_fin (s := s) hE hM
  show ((double.read (fw s E M)).order (double.read 0) == some .lt) = _
  rw [h1, show double.read 0 = .number false 0 (-1074) from by decide]
  show (some (compare (signed s m (p - min p (-1074)).toNat) (signed false 0 (-1074 - min p (-1074)).toNat)) == some Ordering.lt) = _
  rw [some_beq, ← decide_not, ← Bool.decide_eq_true (b := s), ← Bool.decide_and, decide_eq_decide, (cmpI _ _).2.1, (sgd_0 false 0 _).2 rfl, ← h5, sgd]
  have := Nat.two_pow_pos (p - min p (-1074)).toNat
  have hq : m * 2 ^ (p - min p (-1074)).toNat = 0 ↔ m = 0 := by rw [Nat.mul_eq_zero]; omega
  generalize m * 2 ^ (p - min p (-1074)).toNat = q at *
  rw [← hq]
  cases s <;> simp <;> omega
/-- once a number -/
theorem mul_1 {s : Bool} {E M : Nat} (h1 : 1 ≤ E) (hE : E < 2047) (hM : M < 4503599627370496) : floatBits .mul .f64 4607182418800017408 (fw s E M) = some (fw s E M) := by
  show ((double.read 4607182418800017408).product (double.read (fw s E M))).map double.write = _
  rw [show double.read 4607182418800017408 = .number false 4503599627370496 (-52) from by decide, read_fw (by omega) hM, if_neg (by omega), if_pos hE]
  show some (double.nearest (false ^^ s) (4503599627370496 * (4503599627370496 + M)) (-52 + ((E : Int) - 1075))) = _
  have e0 : 4503599627370496 * (4503599627370496 + M) = (4503599627370496 + M) * 2 ^ 52 := by rw [show (2 : Nat) ^ 52 = 4503599627370496 by decide, Nat.mul_comm]
  have h := near_dn (s := s) (K := 4503599627370496 + M) (j := 52) (p := -52 + ((E : Int) - 1075)) (by omega) (by omega) (by omega) (by omega)
  rw [Bool.false_xor, e0, h, show (-52 + ((E : Int) - 1075) + ((52 : Nat) : Int) + 1075).toNat = E by omega, show 4503599627370496 + M - 4503599627370496 = M by omega]
theorem mul_nn {a : Nat} {s : Bool} {E M : Nat} {s1 : Bool} {m1 : Nat} {p1 : Int} (ha : double.read a = .number s1 m1 p1) (hE : E < 2047) (hM : M < 4503599627370496) : ∃ s' E' M', E' < 2048 ∧ M' < 4503599627370496 ∧ floatBits .mul .f64 a (fw s E M) = some (fw s' E' M') ∧ (E' = 2047 → M' = 0) := by
  obtain ⟨m, p, h1, _⟩ := read_fin (s := s) hE hM
  obtain ⟨E', M', e1, e2, e3, e4⟩ := near_nn (s1 ^^ s) (m1 * m) (p1 + p)
  refine ⟨s1 ^^ s, E', M', e1, e2, ?_, e4⟩
  show ((double.read a).product (double.read (fw s E M))).map double.write = _
  rw [ha, h1]
  show some (double.nearest (s1 ^^ s) (m1 * m) (p1 + p)) = _
  rw [e3]
/-- a subnormal number made normal -/
theorem mul_sub {s : Bool} {M L : Nat} (hL : 2 ^ L ≤ M) (hL2 : M < 2 ^ (L + 1)) (h52 : L < 52) : floatBits .mul .f64 (fw s 0 M) 4841369599423283200 = some (fw s (L + 1) (M * 2 ^ (52 - L) - 4503599627370496)) ∧ 4503599627370496 ≤ M * 2 ^ (52 - L) ∧ M * 2 ^ (52 - L) < 9007199254740992 := by
  have hM : M < 4503599627370496 := Nat.lt_of_lt_of_le hL2 (Nat.pow_le_pow_right (by decide) (show L + 1 ≤ 52 by omega))
  have k1 : 4503599627370496 ≤ M * 2 ^ (52 - L) := by
    have := Nat.mul_le_mul_right (2 ^ (52 - L)) hL
    rw [← Nat.pow_add, show L + (52 - L) = 52 by omega] at this
    exact this
  have k2 : M * 2 ^ (52 - L) < 9007199254740992 := by
    have := Nat.mul_lt_mul_of_pos_right hL2 (Nat.two_pow_pos (52 - L))
    rw [← Nat.pow_add, show L + 1 + (52 - L) = 53 by omega] at this
    exact this
  refine ⟨?_, k1, k2⟩
  show ((double.read (fw s 0 M)).product (double.read 4841369599423283200)).map double.write = _
  rw [show double.read 4841369599423283200 = .number false 4503599627370496 0 from by decide, read_fw (by decide) hM, if_pos rfl]
  show some (double.nearest (s ^^ false) (M * 4503599627370496) (-1074 + 0)) = _
  have e : M * 4503599627370496 = M * 2 ^ (52 - L) * 2 ^ L := by rw [Nat.mul_assoc, ← Nat.pow_add, show 52 - L + L = 52 by omega]
  rw [Bool.xor_false, e, near_dn k1 k2 (by omega) (by omega)]
  congr 2
  omega
theorem to_int {s : Bool} {M : Nat} (hM : M < 4503599627370496) : floatToIntVal .f64 (fw s 1075 M) .i64 = some (if s then -((4503599627370496 + M : Nat) : Int) else ((4503599627370496 + M : Nat) : Int)) := by
  unfold floatToIntVal
  have e : (FloatKind.f64.decode (fw s 1075 M)).toInt .zero = some (if s then -((4503599627370496 + M : Nat) : Int) else ((4503599627370496 + M : Nat) : Int)) := by
    show ((double.read (fw s 1075 M)).toInt .zero) = _
    rw [read_fw (by decide) hM, if_neg (by decide), if_pos (by decide)]
    have c0 : Toward.zero.cut s (4503599627370496 + M) 0 = 4503599627370496 + M := by
      unfold Toward.cut
      simp
    show some (signed s (Toward.zero.cut s ((4503599627370496 + M) <<< ((1075 : Nat) - 1075 : Int).toNat) (-((1075 : Nat) - 1075 : Int)).toNat) 0) = _
    rw [show ((1075 : Nat) - 1075 : Int).toNat = 0 from rfl, show (-((1075 : Nat) - 1075 : Int)).toNat = 0 from rfl, Nat.shiftLeft_zero, c0, sgd]
    simp
  rw [e]
  have h1 : IntKind.i64.min = -9223372036854775808 := by decide
  have h2 : IntKind.i64.max = 9223372036854775807 := by decide
  simp only [h1, h2]
  rw [if_pos]
  cases s <;> simp <;> omega
end Go.Ab

set_option linter.unusedVariables false
set_option maxRecDepth 20000
set_option linter.unusedSimpArgs false
set_option linter.unusedSectionVars false
namespace Go.Ab
open Go.Proofs
attribute [-go_sem] appF newsF
/-! floats are told exactly -/
def sg' (s : Bool) (n : Nat) : Int := if s then -(n : Int) else (n : Int)
/-- the number that a finite float is -/
def fmg (E M : Nat) : Nat := if E = 0 then M else 4503599627370496 + M
def fpl (E : Nat) : Int := if E = 0 then -1074 else (E : Int) - 1075
def fv (s : Bool) (E M : Nat) : Dyadic := dv (sg' s (fmg E M)) (fpl E)
theorem sgf_mul (s : Bool) (n k : Nat) : sg' s (n * k) = sg' s n * (k : Int) := by unfold sg'; cases s <;> simp [Int.neg_mul]
theorem ld53 {s : Bool} {M : Nat} (hM : M < 4503599627370496) : Sat CT false 62 [F64 (fw s 1022 M), I64 53] (F64 (fw s 1075 M)) := by
  have e := fw_exp (s := s) (E := 1022) (by decide) hM
  have h0 := ord_0 (s := s) (E := 1022) (by decide) hM
  rw [decide_eq_false (by omega)] at h0
  have hi := ord_inf (E := 1022) (by decide) hM
  rw [decide_eq_false (by omega)] at hi
  have hn := ord_self (s := s) (E := 1022) (by decide) hM
  rw [decide_eq_false (by omega)] at hn
  have ho := ord_sub (E := 1022) (by decide) hM
  rw [decide_eq_false (by decide)] at ho
  exact ldexp_s (X := 52) (by decide) h0 (fw_abs (by decide) hM) hi hn (norm_s (fw_abs (by decide) hM) ho) (by decide) e.2.2.1 e.2.2.2 e.2.1 (by decide) (by decide) (by decide) (by decide) (fw_low (by decide) hM) (fw_or (E := 1075) (by decide) hM) (mul_1 (by decide) (by decide) hM)
theorem exact_n {s : Bool} {E M : Nat} (h1 : 1 ≤ E) (hE : E < 2047) (hM : M < 4503599627370496) : Sat CT false 38 [F64 (fw s E M)] (.tup [DI (fv s E M), Bo true]) := by
  have e := fw_exp (s := s) (E := E) (by omega) hM
  have h0 := ord_0 (s := s) hE hM
  rw [decide_eq_false (by omega)] at h0
  have hi := ord_inf (E := E) (by omega) hM
  rw [decide_eq_false (by omega)] at hi
  have hn := ord_self (s := s) (E := E) (by omega) hM
  rw [decide_eq_false (by omega)] at hn
  have ho := ord_sub hE hM
  rw [decide_eq_false (by omega)] at ho
  have ha := fw_abs (s := s) (E := E) (by omega) hM
  have fr := frexp_s (ne := 0) h0 ha hi hn (norm_s ha ho) (by decide) e.1 (by omega) (fw_low (by omega) hM) (fw_or (E := 1022) (by decide) hM)
  have g := gexact_s ha hi hn fr (ld53 hM) (to_int hM) (by cases s <;> simp <;> omega) (by omega)
  have ev : fv s E M = dv (if s then -((4503599627370496 + M : Nat) : Int) else ((4503599627370496 + M : Nat) : Int)) (0 + (E : Int) - 1022 - 53) := by
    unfold fv fmg fpl sg'
    rw [if_neg (show ¬ E = 0 by omega), if_neg (show ¬ E = 0 by omega), show (0 + (E : Int) - 1022 - 53) = (E : Int) - 1075 by omega]
  rw [ev]
  exact g
theorem exact_0 {s : Bool} : Sat CT false 38 [F64 (fw s 0 0)] (.tup [DI (fv s 0 0), Bo true]) := by
  have h0 := ord_0 (s := s) (E := 0) (M := 0) (by decide) (by decide)
  rw [decide_eq_true (by decide)] at h0
  have hi := ord_inf (E := 0) (M := 0) (by decide) (by decide)
  rw [decide_eq_false (by decide)] at hi
  have hn := ord_self (s := s) (E := 0) (M := 0) (by decide) (by decide)
  rw [decide_eq_false (by decide)] at hn
  have hv : floatToIntVal .f64 (fw s 0 0) .i64 = some 0 := by cases s <;> decide
  have g := gexact_s (fw_abs (s := s) (E := 0) (M := 0) (by decide) (by decide)) hi hn (frexp_0 h0) (ldexp_0 53 h0) hv (by decide) (by decide)
  have ev : fv s 0 0 = dv 0 (0 - 53) := by
    unfold fv fmg sg'
    rw [dv_zero]
    cases s <;> exact dv_zero _
  rw [ev]; exact g
theorem exact_d {s : Bool} {M : Nat} (h1 : M ≠ 0) (hM : M < 4503599627370496) : Sat CT false 38 [F64 (fw s 0 M)] (.tup [DI (fv s 0 M), Bo true]) := by
  obtain ⟨L, hL⟩ : ∃ L, M.log2 = L := ⟨_, rfl⟩
  have l1 : 2 ^ L ≤ M := (Nat.le_log2 h1).1 (by omega)
  have l2 : M < 2 ^ (L + 1) := (Nat.log2_lt h1).1 (by omega)
  have l3 : L < 52 := by
    have : M.log2 < 52 := (Nat.log2_lt h1).2 hM
    omega
  obtain ⟨m1, m2, m3⟩ := mul_sub (s := s) l1 l2 l3
  have hM' : M * 2 ^ (52 - L) - 4503599627370496 < 4503599627370496 := by omega
  have h0 := ord_0 (s := s) (E := 0) (by decide) hM
  rw [decide_eq_false (by omega)] at h0
  have hi := ord_inf (E := 0) (by decide) hM
  rw [decide_eq_false (by omega)] at hi
  have hn := ord_self (s := s) (E := 0) (by decide) hM
  rw [decide_eq_false (by omega)] at hn
  have ho := ord_sub (E := 0) (by decide) hM
  rw [decide_eq_true rfl] at ho
  have ha := fw_abs (s := s) (E := 0) (by decide) hM
  have e := fw_exp (s := s) (E := L + 1) (by omega) hM'
  have fr := frexp_s (ne := -52) h0 ha hi hn (norm_l ha ho m1) (by decide) e.1 (by omega) (fw_low (by omega) hM') (fw_or (E := 1022) (by decide) hM')
  have g := gexact_s ha hi hn fr (ld53 hM') (to_int hM') (by cases s <;> simp <;> omega) (by omega)
  have eq1 : 4503599627370496 + (M * 2 ^ (52 - L) - 4503599627370496) = M * 2 ^ (52 - L) := by omega
  have ev : fv s 0 M = dv (if s then -((4503599627370496 + (M * 2 ^ (52 - L) - 4503599627370496) : Nat) : Int) else ((4503599627370496 + (M * 2 ^ (52 - L) - 4503599627370496) : Nat) : Int)) (-52 + ((L + 1 : Nat) : Int) - 1022 - 53) := by
    rw [eq1]
    show dv (sg' s M) (-1074) = dv (sg' s (M * 2 ^ (52 - L))) (-52 + ((L + 1 : Nat) : Int) - 1022 - 53)
    rw [sgf_mul, show ((2 ^ (52 - L) : Nat) : Int) = 2 ^ (52 - L) by rw [Int.natCast_pow]; rfl, dv_shift, show (-52 + ((L + 1 : Nat) : Int) - 1022 - 53) + ((52 - L : Nat) : Int) = -1074 by omega]
  rw [ev]
  exact g
theorem exact_fw {s : Bool} {E M : Nat} (hE : E < 2047) (hM : M < 4503599627370496) : Sat CT false 38 [F64 (fw s E M)] (.tup [DI (fv s E M), Bo true]) := by
  by_cases h : E = 0
  · subst h
    by_cases h2 : M = 0
    · subst h2; exact exact_0
    · exact exact_d h2 hM
  · exact exact_n (by omega) hE hM
end Go.Ab

set_option linter.unusedVariables false
set_option maxRecDepth 20000
set_option linter.unusedSimpArgs false
set_option linter.unusedSectionVars false
namespace Go.Ab
open Go.Proofs
attribute [-go_sem] appF newsF
/-! floats are told again as floats -/
theorem fof_int {o : Int} (ho : o ≠ 0) {L : Nat} (hL : o.natAbs.log2 = L) (hL2 : L ≤ 52) : floatOfInt .f64 o = fw (decide (o < 0)) (L + 1023) (o.natAbs * 2 ^ (52 - L) - 4503599627370496) ∧ 4503599627370496 ≤ o.natAbs * 2 ^ (52 - L) ∧ o.natAbs * 2 ^ (52 - L) < 9007199254740992 := by
  have h0 : o.natAbs ≠ 0 := by omega
  have l1 : 2 ^ L ≤ o.natAbs := (Nat.le_log2 h0).1 (by omega)
  have l2 : o.natAbs < 2 ^ (L + 1) := (Nat.log2_lt h0).1 (by omega)
  obtain ⟨n1, n2, n3⟩ := near_up (s := decide (o < 0)) (p := 0) l1 l2 hL2 (by omega) (by omega)
  refine ⟨?_, n2, n3⟩
  show Ieee.double.nearest (decide (o < 0)) o.natAbs 0 = _
  rw [n1, show ((0 : Int) + (L : Int) + 1023).toNat = L + 1023 by omega]
theorem ldexp_any {s : Bool} {L M : Nat} (hL : L ≤ 52) (hM : M < 4503599627370496) (e : Int) (he : -5000 ≤ e ∧ e ≤ 5000) : ∃ r, Sat CT false 62 [F64 (fw s (L + 1023) M), I64 e] (F64 r) ∧ fNaN r = false ∧ (-1022 ≤ e + L → e + L ≤ 1023 → r = fw s (e + L + 1023).toNat M) := by
  have e1 := fw_exp (s := s) (E := L + 1023) (by omega) hM
  have h0 := ord_0 (s := s) (E := L + 1023) (by omega) hM
  rw [decide_eq_false (by omega)] at h0
  have hi := ord_inf (E := L + 1023) (by omega) hM
  rw [decide_eq_false (by omega)] at hi
  have hn := ord_self (s := s) (E := L + 1023) (by omega) hM
  rw [decide_eq_false (by omega)] at hn
  have ho := ord_sub (E := L + 1023) (by omega) hM
  rw [decide_eq_false (by omega)] at ho
  have hg := ord_neg (s := s) (E := L + 1023) (by omega) hM
  rw [decide_eq_false (by omega), Bool.not_false, Bool.and_true] at hg
  have ha := fw_abs (s := s) (E := L + 1023) (by omega) hM
  have hN := norm_s ha ho
  have hX : e + 0 + ((L + 1023 : Nat) : Int) - 1023 = e + L := by omega
  have he' : -100000 ≤ e ∧ e ≤ 100000 := by omega
  by_cases c1 : e + L < -1075
  · obtain ⟨g1, g2⟩ := fw_sgn (s := s) (E := L + 1023) (by omega) hM
    refine ⟨_, ldexp_lo he' h0 ha hi hn hN (by decide) e1.2.2.1 e1.2.2.2 e1.2.1 (by omega) hX c1 g1 g2, ?_, fun q => by omega⟩
    rw [ord_self (by decide) (by decide)]; decide
  · by_cases c2 : 1023 < e + L
    · cases s with
      | false => exact ⟨_, ldexp_hi he' h0 ha hi hn hN (by decide) e1.2.2.1 e1.2.2.2 e1.2.1 (by omega) hX c2 hg, by decide, fun _ q => by omega⟩
      | true => exact ⟨_, ldexp_hn he' h0 ha hi hn hN (by decide) e1.2.2.1 e1.2.2.2 e1.2.1 (by omega) hX c2 hg, by decide, fun _ q => by omega⟩
    · by_cases c3 : e + L < -1022
      · obtain ⟨E', hE'⟩ : ∃ E' : Nat, e + L + 53 + 1023 = (E' : Int) := ⟨(e + L + 53 + 1023).toNat, by omega⟩
        have hr := fw_or (s := s) (E := E') (by omega) hM
        rw [show ((E' * 4503599627370496 : Nat) : Int) = (e + L + 53 + 1023) * 2 ^ 52 by rw [hE']; omega] at hr
        obtain ⟨s', E'', M'', q1, q2, q3, q4⟩ := mul_nn (a := 4368491638549381120) (s := s) (E := E') (M := M) (s1 := false) (m1 := 4503599627370496) (p1 := -105) (by decide) (by omega) hM
        refine ⟨_, ldexp_d he' h0 ha hi hn hN (by decide) e1.2.2.1 e1.2.2.2 e1.2.1 (by omega) hX (by omega) c3 (fw_low (by omega) hM) hr q3, ?_, fun q => by omega⟩
        rw [ord_self q1 q2, decide_eq_false (fun q => q.2 (q4 q.1))]
      · obtain ⟨E', hE'⟩ : ∃ E' : Nat, e + L + 1023 = (E' : Int) := ⟨(e + L + 1023).toNat, by omega⟩
        have hr := fw_or (s := s) (E := E') (by omega) hM
        rw [show ((E' * 4503599627370496 : Nat) : Int) = (e + L + 1023) * 2 ^ 52 by rw [hE']; omega] at hr
        refine ⟨fw s E' M, ldexp_s he' h0 ha hi hn hN (by decide) e1.2.2.1 e1.2.2.2 e1.2.1 (by omega) hX (by omega) (by omega) (fw_low (by omega) hM) hr (mul_1 (by omega) (by omega) hM), ?_, fun _ _ => by rw [hE']; rfl⟩
        rw [ord_self (by omega) hM, decide_eq_false (by omega)]
theorem fof_0 : floatOfInt .f64 0 = 0 := by decide
theorem float_0 {x : Dyadic} (hx : x = 0) : Sat CT false 42 [DI x] (F64 0) := by
  subst hx
  refine gfloat_s (x := 0) (by decide) (by decide) ?_
  show Sat CT false _ [F64 (floatOfInt .f64 0), I64 0] (F64 0)
  rw [fof_0]
  exact ldexp_0 0 (by decide)
/-- a number's float; it is never none -/
theorem float_any {x : Dyadic} (h0 : x ≠ 0) (hb : bl (dnum x).natAbs ≤ 53) (he : -5000 ≤ dexp x ∧ dexp x ≤ 5000) : ∃ r, Sat CT false 42 [DI x] (F64 r) ∧ fNaN r = false ∧ (-1022 ≤ dtop x → dtop x ≤ 1023 → ∃ L, bl (dnum x).natAbs = L + 1 ∧ r = fw (decide (dnum x < 0)) (dtop x + 1023).toNat ((dnum x).natAbs * 2 ^ (52 - L) - 4503599627370496)) := by
  have hd : dnum x ≠ 0 := fun q => h0 (dnum_zero.1 q)
  have hd' : (dnum x).natAbs ≠ 0 := by omega
  obtain ⟨L, hL⟩ : ∃ L, (dnum x).natAbs.log2 = L := ⟨_, rfl⟩
  have hbl : bl (dnum x).natAbs = L + 1 := by unfold bl; rw [if_neg hd', hL]
  have ht : dtop x = L + dexp x := by unfold dtop; rw [if_neg h0, hbl]; omega
  obtain ⟨f1, f2, f3⟩ := fof_int hd hL (by omega)
  obtain ⟨r, r1, r2, r3⟩ := ldexp_any (s := decide (dnum x < 0)) (L := L) (M := (dnum x).natAbs * 2 ^ (52 - L) - 4503599627370496) (by omega) (by omega) (dexp x) he
  rw [← f1] at r1
  refine ⟨r, gfloat_s hb he r1, r2, fun g1 g2 => ⟨L, hbl, ?_⟩⟩
  rw [ht] at g1 g2 ⊢
  rw [r3 (by omega) (by omega), show dexp x + (L : Int) + 1023 = (L : Int) + dexp x + 1023 by omega]
end Go.Ab

set_option linter.unusedVariables false
set_option maxRecDepth 20000
set_option linter.unusedSimpArgs false
set_option linter.unusedSectionVars false
namespace Go.Ab
open Go.Proofs
open Cx (zero one)
attribute [-go_sem] appF newsF
/-! the law of floats -/
end Go.Ab
