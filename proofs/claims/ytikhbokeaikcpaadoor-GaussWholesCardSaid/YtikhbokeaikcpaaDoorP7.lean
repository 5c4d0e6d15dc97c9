/- Contracts of this seat's functions (of each call: what it answers), walked over the abstract machine, and the laws of numbers that they want. Conditions: those that each theorem states. -/
import Derived.Test.YtikhbokeaikcpaaDoorPP
import Derived.Test.YtikhbokeaikcpaaDoorA3
/-! rounding: quotients and roots to so many bits -/
set_option linter.unusedVariables false
set_option maxRecDepth 20000
set_option linter.unusedSimpArgs false
namespace Go.Ab

/-- a floor, or one more where that is asked and something is left -/
def RF (a : Int) (d : Nat) (up : Bool) : Int := a / (d : Int) + if up = true ∧ a % (d : Int) ≠ 0 then 1 else 0
theorem bl_up {x : Nat} (h : x ≠ 0) (n : Nat) : bl (x * 2 ^ n) = bl x + n := by
  have h1 := bl_pos h
  refine bl_eq ?_ ?_ (by omega)
  · rw [show bl x + n - 1 = bl x - 1 + n by omega, Nat.pow_add]; exact Nat.mul_le_mul_right _ (bl_le h)
  · rw [Nat.pow_add]; exact Nat.mul_lt_mul_of_pos_right (bl_lt x) (Nat.two_pow_pos n)
/-! rounding a number -/
/-- the place of the topmost bit -/
def dtop (d : Dyadic) : Int := if d = 0 then 0 else (bl (dnum d).natAbs : Int) - 1 + dexp d
theorem odd_part {m : Int} (h : m ≠ 0) : ∃ (o : Int) (z : Nat), m = o * 2 ^ z ∧ o % 2 = 1 := by
  have key : ∀ n : Nat, ∀ m : Int, m ≠ 0 → m.natAbs = n → ∃ (o : Int) (z : Nat), m = o * 2 ^ z ∧ o % 2 = 1 := by
    intro n
    induction n using Nat.strongRecOn with
    | _ n ih =>
      intro m h hn
      by_cases q : m % 2 = 1
      · exact ⟨m, 0, by simp, q⟩
      · obtain ⟨k, rfl⟩ : ∃ k, m = k * 2 := ⟨m / 2, by omega⟩
        obtain ⟨o, z, rfl, ho⟩ := ih k.natAbs (by omega) k (by omega) rfl
        exact ⟨o, z + 1, by rw [Int.pow_succ, Int.mul_assoc], ho⟩
  exact key _ m h rfl
/-! roots -/
/-- the root with a bit for what is left -/
def rsticky (X : Nat) : Nat := 2 * isq X + if isq X * isq X = X then 0 else 1
abbrev mvX (A : Nat) (sh : Int) : Prop := A % 2 ^ (-sh).toNat = 0
end Go.Ab
