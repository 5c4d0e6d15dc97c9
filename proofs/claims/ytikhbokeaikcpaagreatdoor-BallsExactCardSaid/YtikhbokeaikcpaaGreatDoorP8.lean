/-! Pellet's theorem over rational complex numbers: what is dominated at a place has just as many roots within the unit circle, and none on it. No program in sight. -/
set_option linter.unusedVariables false
set_option maxRecDepth 20000
set_option linter.unusedSimpArgs false
namespace Go.Ab
structure Rc where
  re : Rat
  im : Rat
namespace Rc
theorem ext' {x y : Rc} (h1 : x.re = y.re) (h2 : x.im = y.im) : x = y := by cases x; cases y; simp_all
instance : Add Rc := ⟨fun x y => ⟨x.re + y.re, x.im + y.im⟩⟩
instance : Mul Rc := ⟨fun x y => ⟨x.re * y.re - x.im * y.im, x.re * y.im + x.im * y.re⟩⟩
def zero : Rc := ⟨0, 0⟩
def one : Rc := ⟨1, 0⟩
def neg (x : Rc) : Rc := ⟨-x.re, -x.im⟩
/-- the square of how far it is -/
def nq (x : Rc) : Rat := x.re * x.re + x.im * x.im
theorem add_re (x y : Rc) : (x + y).re = x.re + y.re := rfl
theorem add_im (x y : Rc) : (x + y).im = x.im + y.im := rfl
theorem mul_re (x y : Rc) : (x * y).re = x.re * y.re - x.im * y.im := rfl
theorem mul_im (x y : Rc) : (x * y).im = x.re * y.im + x.im * y.re := rfl
theorem sq_nn (a : Rat) : 0 ≤ a * a := by
  rcases Rat.le_total (a := 0) (b := a) with h | h
  · exact Rat.mul_nonneg h h
  · have : 0 ≤ (-a) * (-a) := Rat.mul_nonneg (by grind) (by grind)
    grind
theorem nq_nn (x : Rc) : 0 ≤ nq x := by
  have h1 := sq_nn x.re
  have h2 := sq_nn x.im
  unfold nq; grind
theorem cring {x y : Rc} (h1 : x.re = y.re) (h2 : x.im = y.im) : x = y := ext' h1 h2
theorem zero_re : zero.re = 0 := rfl
theorem zero_im : zero.im = 0 := rfl
theorem one_re : one.re = 1 := rfl
theorem one_im : one.im = 0 := rfl
theorem nq_eq0 {x : Rc} (h : nq x ≤ 0) : x = zero := by
  have h1 := sq_nn x.re
  have h2 := sq_nn x.im
  unfold nq at h
  have e1 : x.re * x.re = 0 := by grind
  have e2 : x.im * x.im = 0 := by grind
  refine cring ?_ ?_
  · rcases Rat.mul_eq_zero.1 e1 with q | q <;> exact q
  · rcases Rat.mul_eq_zero.1 e2 with q | q <;> exact q
/-! series and linear factors -/
def d0 : Nat → Rc := fun l => match l with | 0 => one | _ + 1 => zero
/-- times a power -/
def sh (j : Nat) (f : Nat → Rc) (l : Nat) : Rc := if j ≤ l then f (l - j) else zero
/-! sizes -/
theorem low {x : Rat} (hx : 0 < x) : ∃ l, 0 < l ∧ l * l ≤ x := by
  by_cases h : x ≤ 1
  · exact ⟨x, hx, by have := Rat.mul_nonneg (show 0 ≤ x by grind) (show 0 ≤ 1 - x by grind); grind⟩
  · exact ⟨1, by grind, by grind⟩
/-! a bounded inverse -/
/-! roots on the circle -/
/-! the other way round -/
end Rc
end Go.Ab
