/- Contracts of this seat's functions (of each call: what it answers), walked over the abstract machine, and the laws of numbers that they want. Conditions: those that each theorem states. -/
import Derived.Test.YthkpbnbbhlpkjaaGreatDoorN18
set_option linter.unusedVariables false
set_option maxRecDepth 20000
set_option linter.unusedSimpArgs false
namespace Go.Ab
open Go.Proofs

/-! contracts of canonical limbs -/
section
variable {a b : List Nat} {x y : Nat}
theorem add_v (ha : Lm a) (hb : Lm b) (hx : nv a = x) (hy : nv b = y) (la : a.length < 1099511627776) (lb : b.length < 1099511627776) : Sat CT false 169 [U32 a, U32 b] (U32 (lim (x + y))) := by
  subst hx hy; exact nat_add_sat a b ha hb la lb
theorem mul_v (ha : Lm a) (hb : Lm b) (hx : nv a = x) (hy : nv b = y) (la : a.length < 1099511627776) (lb : b.length < 1099511627776) : Sat CT false 147 [U32 a, U32 b] (U32 (lim (x * y))) := by
  subst hx hy; exact mul_sat a b ha hb la lb
theorem cmp_v (ha : Lm a) (hb : Lm b) (hx : nv a = x) (hy : nv b = y) (la : a.length < 1099511627776) (lb : b.length < 1099511627776) : Sat CT false 146 [U32 a, U32 b] (I64 (cmpN x y)) := by
  subst hx hy; exact cmp_sat a b ha hb la lb
theorem sub_v (ha : Lm a) (hb : Lm b) (hx : nv a = x) (hy : nv b = y) (la : a.length < 1099511627776) (lb : b.length < 1099511627776) (h : y ≤ x) : Sat CT false 170 [U32 a, U32 b] (.tup [U32 (lim (x - y)), Bo true]) := by
  subst hx hy; exact sub_ok a b ha hb la lb h
theorem shl_v {k : Nat} (ha : Lm a) (hx : nv a = x) (la : a.length < 1099511627776) (hk : k ≤ 100000) : Sat CT false 181 [U32 a, I64 (k : Nat)] (U32 (lim (x * 2 ^ k))) := by
  subst hx; have := shl_sat a (k : Int) ha la; rwa [shN_of hk] at this
theorem shr_v {k : Nat} (ha : Lm a) (hx : nv a = x) (la : a.length < 1099511627776) (hk : k ≤ 100000) : Sat CT false 183 [U32 a, I64 (k : Nat)] (U32 (lim (x / 2 ^ k))) := by
  subst hx; have := shr_sat a (k : Int) ha la; rwa [shN_of hk] at this
theorem div_v (ha : Lm a) (hb : Lm b) (hx : nv a = x) (hy : nv b = y) (la : a.length < 1099511627) (lb : b.length < 1099511627) (h : y ≠ 0) : Sat CT false 182 [U32 a, U32 b] (.tup [U32 (lim (x / y)), U32 (lim (x % y)), Bo true]) := by
  subst hx hy; exact div_sat a b ha hb la lb h
theorem bits_v (ha : Lm a) (hx : nv a = x) (la : a.length < 1099511627776) : Sat CT false 178 [U32 a] (I64 (bl x : Nat)) := by
  subst hx; exact bits_sat a ha la
theorem low_v (ha : Lm a) (hx : nv a = x) (la : a.length < 1099511627776) : Sat CT false 167 [U32 a] (I64 (tz x : Nat)) := by
  subst hx; exact low_sat a ha la
theorem root_v (ha : Lm a) (hx : nv a = x) (la : a.length ≤ 6000) : Sat CT false 145 [U32 a] (U32 (lim (isq x))) := by
  subst hx; exact root_sat a ha la
theorem trim_v (ha : Lm a) (hx : nv a = x) (la : a.length < 1099511627776) : Sat CT false 188 [U32 a] (U32 (lim x)) := by
  subst hx; have := trim_sat a la; rwa [cutL_lim ha] at this
theorem same_v (h : x = y) (lx : (lim x).length < 1099511627776) : Sat CT false 140 [U32 (lim x), U32 (lim y)] (Bo true) := same_yes _ _ (by rw [h]) lx
end
theorem cmpN_congr {a b c d : Nat} (h1 : a < b ↔ c < d) (h2 : b < a ↔ d < c) : cmpN a b = cmpN c d := by
  unfold cmpN; simp only [h1, h2]
theorem cmpN_swap (a b : Nat) : cmpN b a = - cmpN a b := by
  unfold cmpN
  (repeat' split) <;> omega
theorem cmpN_range (a b : Nat) : -1 ≤ cmpN a b ∧ cmpN a b ≤ 1 := by
  unfold cmpN; split
  · omega
  · split <;> omega
theorem cmpN_add (a b c : Nat) : cmpN (a + c) (b + c) = cmpN a b := cmpN_congr (by omega) (by omega)
theorem cmpN_mul (a b : Nat) {c : Nat} (h : 0 < c) : cmpN (a * c) (b * c) = cmpN a b := cmpN_congr (Nat.mul_lt_mul_right h) (Nat.mul_lt_mul_right h)
theorem cmpN_refl (a : Nat) : cmpN a a = 0 := cmpN_eq rfl
theorem cmpN_trans {a b c : Nat} (h : cmpN a b = cmpN b c) (h0 : cmpN a b ≠ 0) : cmpN a c = cmpN a b := by
  have e : ∀ x y : Nat, cmpN x y = -1 ↔ x < y := fun x y => by
    unfold cmpN
    by_cases q : x < y
    · simp [q]
    · rw [if_neg q]; split <;> simp [q]
  have e2 : ∀ x y : Nat, cmpN x y = 1 ↔ y < x := fun x y => by
    have := cmpN_posi (x := x) (y := y)
    have := cmpN_range x y
    omega
  have r := cmpN_range a b
  rcases Int.lt_or_gt_of_ne h0 with q | q
  · have h1 : cmpN a b = -1 := by omega
    rw [h1, (e a c)]
    rw [h1] at h
    have := (e a b).mp h1
    have := (e b c).mp h.symm
    omega
  · have h1 : cmpN a b = 1 := by omega
    rw [h1, (e2 a c)]
    rw [h1] at h
    have := (e2 a b).mp h1
    have := (e2 b c).mp h.symm
    omega
theorem neg_wrap {x : Int} (h1 : -1 ≤ x) (h2 : x ≤ 1) : IntKind.i64.wrap (0 - x) = -x := by rw [wrap_i64 (by omega) (by omega)]; omega
theorem beq_dec {m n : Nat} : (decide (m = n) == decide ((m : Int) = (n : Int))) = true := by
  by_cases h : m = n
  · simp [h]
  · have : ¬ (m : Int) = (n : Int) := by omega
    have e1 : decide (m = n) = false := decide_eq_false h
    have e2 : decide ((m : Int) = (n : Int)) = false := decide_eq_false this
    rw [e1, e2]; rfl
end Go.Ab
