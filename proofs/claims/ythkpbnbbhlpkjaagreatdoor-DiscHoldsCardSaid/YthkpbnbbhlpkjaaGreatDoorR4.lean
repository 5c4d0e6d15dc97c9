/- Contracts of this seat's functions (of each call: what it answers), walked over the abstract machine, and the laws of numbers that they want. Conditions: those that each theorem states. -/
import Derived.Test.YthkpbnbbhlpkjaaGreatDoorR3
set_option linter.unusedVariables false
set_option maxRecDepth 20000
set_option linter.unusedSimpArgs false
set_option linter.unusedSectionVars false
namespace Go.Ab
open Go.Proofs

theorem le_lt {a b c : Nat} (h : a ≤ b) (g : b < c) : a < c := Nat.lt_of_le_of_lt h g
theorem rdiv4_num {a c P N mq : Nat} {ex ey : Int} (ha : a ≤ 1300) (hc : c ≤ 1300) (hex : ex.natAbs ≤ 3000) (hey : ey.natAbs ≤ 3000) (hP : P ≤ 400) (hN : N = P + 3 + c - a) (f4 : mq ≤ N + a + 2) :
    IntKind.i64.wrap ((P : Int) + 3) = ((P + 3 : Nat) : Int) ∧ IntKind.i64.wrap (((P + 3 : Nat) : Int) + (c : Nat)) = ((P + 3 + c : Nat) : Int) ∧
    IntKind.i64.wrap (((P + 3 + c : Nat) : Int) - (a : Nat)) = ((P + 3 + c : Nat) : Int) - (a : Nat) ∧ max 0 (((P + 3 + c : Nat) : Int) - (a : Nat)) = (N : Int) ∧
    N ≤ 1703 ∧ IntKind.i64.wrap (ex - ey) = ex - ey ∧ IntKind.i64.wrap (ex - ey - (N : Int)) = ex - ey - N ∧ IntKind.i64.wrap (ex - ey - (N : Int) - 1) = ex - ey - N - 1 ∧
    (ex - ey - N - 1).natAbs ≤ 10000 ∧ mq ≤ 4000 := by
  refine ⟨?_, ?_, ?_, ?_, ?_, ?_, ?_, ?_, ?_, ?_⟩
  · rw [wrap_id (by omega)]; omega
  · rw [wrap_id (by omega)]; omega
  · exact wrap_id (by omega)
  · omega
  · omega
  · exact wrap_id (by omega)
  · exact wrap_id (by omega)
  · exact wrap_id (by omega)
  · omega
  · omega
theorem sticky_blq {X C : Nat} : bl (X / C) ≤ bl (sticky X C) := bl_mono (by unfold sticky; omega)
theorem sticky_0 {X C : Nat} (h : X % C = 0) : X / C * 2 = sticky X C := by unfold sticky; rw [if_pos h]; omega
theorem sticky_1 {X C : Nat} (h : ¬ X % C = 0) : X / C * 2 + 1 = sticky X C := by unfold sticky; rw [if_neg h]; omega
theorem heldP_held (p : Int) : heldP ((heldP p : Nat) : Int) = heldP p := by unfold heldP; omega
theorem m01 (m : Int) : (if m = 1 then (1 : Int) else 0) = 0 ∨ (if m = 1 then (1 : Int) else 0) = 1 := by split <;> simp
theorem m01d (m : Int) : decide ((if m = 1 then (1 : Int) else 0) = 1) = decide (m = 1) := by by_cases q : m = 1 <;> simp [q]
theorem len_pos {n : Nat} (h : n ≠ 0) : 0 < ((lim n).length : Int) := by have := lim_nz h; omega
theorem len_0 {n : Nat} (h : n = 0) : ((lim n).length : Int) = 0 := by rw [h, lim_zero]; rfl
theorem limit_1 : Lm [1] := fun x hx => by simp at hx; rw [hx]; decide
section
variable {a b : AV} {x y : Dyadic} {B C : Nat}
end
end Go.Ab
