/- Contracts of this seat's functions (of each call: what it answers), walked over the abstract machine, and the laws of numbers that they want. Conditions: those that each theorem states. -/
import Derived.Test.YthkpbnbbhlpkjaaDoorW3
set_option linter.unusedVariables false
set_option maxRecDepth 20000
set_option linter.unusedSimpArgs false
namespace Go.Ab
open Go.Proofs

theorem tr_iv (n m : Bool) {l k : List Nat} : iv n l = iv m k * iv (!(n == m)) (lim (nv l / nv k)) + iv n (lim (nv l % nv k)) := by
  have e := Nat.div_add_mod (nv l) (nv k)
  rw [iv_lim, iv_lim]
  unfold iv
  generalize nv l / nv k = Q at *
  generalize nv l % nv k = R at *
  generalize nv k = y at *
  rw [← e]
  have e2 : ((y * Q : Nat) : Int) = (y : Int) * (Q : Int) := by simp
  cases n <;> cases m <;> simp [Int.mul_neg, Int.neg_mul] <;> omega
theorem iv_ne {m : Bool} {k : List Nat} (h : nv k ≠ 0) : iv m k ≠ 0 := by unfold iv; cases m <;> simp <;> omega
theorem rd_a {m : Bool} {l k : List Nat} (hk : nv k ≠ 0) : iv (!(m == m)) (lim (nv l / nv k)) = fq (iv m l) (iv m k) ∧ iv m (lim (nv l % nv k)) = fr (iv m l) (iv m k) := by
  refine fl_unique (tr_iv m m) ?_
  have := Nat.mod_lt (nv l) (show 0 < nv k by omega)
  rw [iv_lim]
  unfold iv
  cases m <;> simp <;> omega
theorem rd_b {n m : Bool} {l k : List Nat} (hk : nv k ≠ 0) (hR : nv l % nv k = 0) : iv (!(n == m)) (lim (nv l / nv k)) = fq (iv n l) (iv m k) ∧ iv m (lim (nv l % nv k)) = fr (iv n l) (iv m k) := by
  have e : iv m (lim (nv l % nv k)) = iv n (lim (nv l % nv k)) := by rw [hR, lim_zero]; unfold iv; cases m <;> cases n <;> simp [nv]
  rw [e]
  refine fl_unique (tr_iv n m) ?_
  rw [hR, iv_lim]
  unfold iv
  cases n <;> cases m <;> simp <;> omega
theorem rd_c {n m : Bool} {l k : List Nat} (hn : ¬ n = m) (hk : nv k ≠ 0) (hR : nv l % nv k ≠ 0) : iv (!(n == m)) (lim (nv l / nv k + 1)) = fq (iv n l) (iv m k) ∧ iv m (lim (nv k - nv l % nv k)) = fr (iv n l) (iv m k) := by
  have h1 := tr_iv n m (l := l) (k := k)
  have h2 := Nat.mod_lt (nv l) (show 0 < nv k by omega)
  rw [iv_lim, iv_lim] at h1
  rw [iv_lim, iv_lim]
  refine fl_unique ?_ ?_
  · rw [h1, cell_ne hn]
    simp only [Bool.not_false, if_true]
    unfold iv
    cases n <;> cases m <;> simp at hn ⊢ <;> simp [Int.mul_add, Int.neg_mul, Int.mul_neg] <;> omega
  · unfold iv
    cases m <;> simp <;> omega
def NI : AV := .agg [Bo false, .v (.slice none 0 0)]
theorem iv_len {n : Bool} {x : Nat} : (iv n (lim x)).natAbs = x := by rw [abs_iv, nv_lim]

end Go.Ab
