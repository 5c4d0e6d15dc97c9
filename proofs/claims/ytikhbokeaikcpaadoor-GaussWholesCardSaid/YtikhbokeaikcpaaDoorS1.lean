/- Contracts of this seat's functions (of each call: what it answers), walked over the abstract machine, and the laws of numbers that they want. Conditions: those that each theorem states. -/
import Derived.Test.YtikhbokeaikcpaaDoorRR
set_option linter.unusedVariables false
set_option maxRecDepth 20000
set_option linter.unusedSimpArgs false
set_option linter.unusedSectionVars false
namespace Go.Ab
open Go.Proofs
open Cx (zero one)
attribute [-go_sem] appF newsF
variable {a b : AV} {z w : Cx} {B C n m : Nat} {cs ds : List AV} {f g : Po}

/-- the norm -/
def nrm (z : Cx) : Dyadic := z.re * z.re + z.im * z.im
/-- how far a point is -/
def far (z : Cx) (P : Nat) (up : Bool) : Dyadic := droot (nrm z) P up
theorem gnorm_r (hz : RC a z B) (hB : B ≤ 12045) : Sat CT false 24 [a] (DI (nrm z)) := by
  refine sat_of gauss_Norm.ok (by simp) ?_
  have DD := gauss_Norm.dr
  simp only [drP, drPx, drPt, drR, drS, drT, bodyOf, Tryd.f24, Nat.reduceEqDiff, reduceIte, true_and, and_true] at DD
  unfold nrm
  obtain ⟨n, l, e, m, k, g, rfl, h1, h2⟩ := hz
  have u1 := dmul_r h1 h1 (by omega) (by omega)
  have u2 := dmul_r h2 h2 (by omega) (by omega)
  have u3 := dadd_w (RD_D (h1.db.mul h1.db)) (RD_D (h2.db.mul h2.db)) (by omega) (by omega)
  simp -implicitDefEqProofs only [go_sem, simprocAttr, -Int.reducePow, Tryd.f24, DD]
  refine callK_q dyad_Mul.call (u1) rfl rfl ?_
  simp -implicitDefEqProofs only [go_sem, simprocAttr, -Int.reducePow, DD]
  refine callK_q dyad_Mul.call (u2) rfl rfl ?_
  simp -implicitDefEqProofs only [go_sem, simprocAttr, -Int.reducePow, DD]
  refine callK_q dyad_Add.call (u3) rfl rfl ?_
  simp -implicitDefEqProofs only [go_sem, simprocAttr, -Int.reducePow, DD]
end Go.Ab
