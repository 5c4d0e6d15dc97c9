/-! Pellet's theorem over rational complex numbers: what is dominated at a place has just as many roots within the unit circle, and none on it. No program in sight. -/
set_option linter.unusedVariables false
set_option maxRecDepth 20000
set_option linter.unusedSimpArgs false
namespace Go.Ab
structure Rc where
  re : Rat
  im : Rat
namespace Rc
theorem ext' {x y : Rc} (h1 : x.re = y.re) (h2 : x.im = y.im) : x = y := by cases x; cases y; simp_all
instance : Add Rc := ⟨fun x y => ⟨x.re + y.re, x.im + y.im⟩⟩
instance : Mul Rc := ⟨fun x y => ⟨x.re * y.re - x.im * y.im, x.re * y.im + x.im * y.re⟩⟩
def zero : Rc := ⟨0, 0⟩
def one : Rc := ⟨1, 0⟩
def neg (x : Rc) : Rc := ⟨-x.re, -x.im⟩
theorem add_re (x y : Rc) : (x + y).re = x.re + y.re := rfl
theorem add_im (x y : Rc) : (x + y).im = x.im + y.im := rfl
theorem mul_re (x y : Rc) : (x * y).re = x.re * y.re - x.im * y.im := rfl
theorem mul_im (x y : Rc) : (x * y).im = x.re * y.im + x.im * y.re := rfl
theorem zero_re : zero.re = 0 := rfl
theorem zero_im : zero.im = 0 := rfl
theorem one_re : one.re = 1 := rfl
theorem one_im : one.im = 0 := rfl
/-! series and linear factors -/
def d0 : Nat → Rc := fun l => match l with | 0 => one | _ + 1 => zero
/-- times a power -/
def sh (j : Nat) (f : Nat → Rc) (l : Nat) : Rc := if j ≤ l then f (l - j) else zero
/-! sizes -/
/-! a bounded inverse -/
/-! roots on the circle -/
/-! the other way round -/
end Rc
end Go.Ab
