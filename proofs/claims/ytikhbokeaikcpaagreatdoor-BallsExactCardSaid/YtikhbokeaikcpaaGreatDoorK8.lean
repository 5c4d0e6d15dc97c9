/- Contracts of this seat's functions (of each call: what it answers), walked over the abstract machine, and the laws of numbers that they want. Conditions: those that each theorem states. -/
import Derived.Test.YtikhbokeaikcpaaGreatDoorKK
set_option linter.unusedVariables false
set_option maxRecDepth 20000
set_option linter.unusedSimpArgs false
set_option linter.unusedSectionVars false
namespace Go.Ab
open Go.Proofs
open Cx (zero one)
attribute [-go_sem] appF newsF
variable {a b : AV} {x y r s t : Dyadic} {z w c d e : Cx} {B C B' C' n m P : Nat} {cs ds : List AV} {u u' : Nat → Cx} {v v' : Nat → Dyadic} {f g : Po}
/-! the law of what is told of balls -/
def mayQ (i n : Nat) (u : Nat → Cx) (v : Nat → Dyadic) (d : Nat) (f : Po) : Prop := d ≤ n ∧ ∀ j, j < i → hasP (u j) (v j) (f j)
instance (i n : Nat) (u : Nat → Cx) (v : Nat → Dyadic) (d : Nat) (f : Po) : Decidable (mayQ i n u v d f) := by unfold mayQ; exact inferInstance
/-- three cells that read as a number -/
def Bld (l : List AV) (x : Dyadic) : Prop := l = dcl x ∨ (x = 0 ∧ l = zc3)
theorem Bld.plr {l : List AV} (h : Bld l x) : PlR (.agg l) (DI x) := by
  rcases h with rfl | ⟨rfl, rfl⟩
  · exact (pld_DI x).r
  · refine ⟨(pld_DI 0).isd, fun H => by rw [DI_0]; rfl, fun H c hc => ?_, fun H l => rfl⟩
    simp only [zc3, List.mem_cons, List.not_mem_nil, or_false] at hc
    rcases hc with rfl | rfl | rfl <;> trivial
theorem Bld.len {l : List AV} (h : Bld l x) : l.length = 3 := by rcases h with rfl | ⟨_, rfl⟩ <;> rfl
theorem Bld.take {l : List AV} (h : Bld l x) : l.take 3 = l := List.take_of_length_le (Nat.le_of_eq h.len)
section
attribute [local go_sem] x_takeT x_lenT x_leafT x_hget2 x_hget3 x_hget4 x_zerA9 x_hset2 x_hset3 x_hget5 x_hset4 x_hset5 x_hget6
end
end Go.Ab
