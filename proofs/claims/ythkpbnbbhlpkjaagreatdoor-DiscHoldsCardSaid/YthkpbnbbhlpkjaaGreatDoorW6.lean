/- Contracts of this seat's functions (of each call: what it answers), walked over the abstract machine, and the laws of numbers that they want. Conditions: those that each theorem states. -/
import Derived.Test.YthkpbnbbhlpkjaaGreatDoorW5
set_option linter.unusedVariables false
set_option maxRecDepth 20000
set_option linter.unusedSimpArgs false
namespace Go.Ab
open Go.Proofs

section
variable {a b : AV} {x y : Int} {L M : Nat}
theorem nv_zero {m : Bool} {k : List Nat} (h : iv m k = 0) : nv k = 0 := by rw [← abs_iv m k, h]; rfl
end
theorem ri1 {z : Int} (h : z.natAbs < 4294967296) : RI (WI z) z 1 := RI_W (lim_length_le (k := 1) (by rw [Nat.pow_one]; exact h))
theorem ri_small {z : Int} (h : z.natAbs < 18446744073709551616) : RI (WI z) z 2 := RI_W (lim_length_le (k := 2) h)
theorem ri0 : RI (IA false []) 0 0 := ⟨false, [], rfl, (fun x hx => by cases hx), by simp [iv, nv], Nat.le_refl _⟩
theorem Lz1 {z : Int} (h : z.natAbs < 18446744073709551616) : Lz z < 1099511627 := Nat.lt_of_le_of_lt (lim_length_le (k := 2) h) (by omega)
end Go.Ab
