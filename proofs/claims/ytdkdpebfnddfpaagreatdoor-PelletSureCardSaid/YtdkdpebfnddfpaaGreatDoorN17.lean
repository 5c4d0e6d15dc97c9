/- Contracts of this seat's functions (of each call: what it answers), walked over the abstract machine, and the laws of numbers that they want. Conditions: those that each theorem states. -/
import Derived.Test.YtdkdpebfnddfpaaGreatDoorN16
set_option linter.unusedVariables false
set_option maxRecDepth 20000
set_option linter.unusedSimpArgs false
namespace Go.Ab
open Go.Proofs

section
variable {C : Ctx} {N : Nat} {d : Bool}
theorem x_app {all : Array Oper} {l1 l2 : List Oper} {KS : AState → Prop} {σ : AState} : opsW C N d all (l1.append l2) KS σ = opsW C N d all l1 (fun σ => opsW C N d all l2 KS σ) σ := by
  show opsW C N d all (l1 ++ l2) KS σ = _
  induction l1 generalizing σ with
  | nil => rfl
  | cons o r ih => simp only [List.cons_append, opsW, ih]
theorem x_ga0 {α : Type} {x : α} {l m : List α} : ((x :: l).append m)[0]? = some x := rfl
theorem x_gas {α : Type} {x : α} {l m : List α} {n : Nat} : ((x :: l).append m)[n + 1]? = (l.append m)[n]? := rfl
theorem x_gan {α : Type} {m : List α} {n : Nat} : (([] : List α).append m)[n]? = m[n]? := rfl
end
theorem lim_small {n : Nat} (h0 : n ≠ 0) (h : n < 4294967296) : lim n = [n] := by
  rw [lim_pos h0, Nat.mod_eq_of_lt h, Nat.div_eq_of_lt h, lim_zero]
theorem Lm01 : Lm [0, 1] := by intro x hx; simp at hx; omega
theorem Lm5 : Lm [5] := by intro x hx; simp at hx; omega
theorem Lm1 : Lm [1] := by intro x hx; simp at hx; omega
theorem nv01 : nv [0, 1] = 4294967296 := rfl
theorem nv5 : nv [5] = 5 := rfl
theorem nv1 : nv [1] = 1 := rfl

theorem same_yes (a b : List Nat) (h : a = b) (hla : a.length < 1099511627776) : Sat CT false 51 [U32 a, U32 b] (Bo true) := by
  have := same_sat a b hla (by rw [← h]; exact hla)
  rwa [decide_eq_true h] at this
theorem shN_of {k : Nat} (h : k ≤ 100000) : shN (k : Int) = k := by unfold shN; omega
end Go.Ab
