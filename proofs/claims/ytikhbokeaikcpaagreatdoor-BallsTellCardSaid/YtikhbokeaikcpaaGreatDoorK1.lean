/- Contracts of this seat's functions (of each call: what it answers), walked over the abstract machine, and the laws of numbers that they want. Conditions: those that each theorem states. -/
import Derived.Test.YtikhbokeaikcpaaGreatDoorK0
import Derived.Test.YtikhbokeaikcpaaGreatDoorE1
set_option linter.unusedVariables false
set_option maxRecDepth 20000
set_option linter.unusedSimpArgs false
set_option linter.unusedSectionVars false
namespace Go.Ab
open Go.Proofs
open Cx (zero one)
attribute [-go_sem] appF newsF
variable {a b : AV} {x y r s t : Dyadic} {z w c d e : Cx} {B C B' C' n m P : Nat} {cs : List AV} {u u' : Nat → Cx} {v v' : Nat → Dyadic} {f g : Po}
/-! balls: plain -/
/-- Horner's, of discs -/
def atC (n : Nat) (u : Nat → Cx) (c : Cx) : Nat → Cx
  | 0 => zero
  | j + 1 => atC n u c j * c + u (n - 1 - j)
def atR (n : Nat) (u : Nat → Cx) (v : Nat → Dyadic) (c : Cx) (r : Dyadic) (P : Nat) : Nat → Dyadic
  | 0 => 0
  | j + 1 => mrad (atC n u c j) (atR n u v c r P j) c r P + v (n - 1 - j)
theorem atR_nn (hv : ∀ i, 0 ≤ (v i).toRat) (hr : 0 ≤ r.toRat) (hP : 1 ≤ P) : ∀ j, 0 ≤ (atR n u v c r P j).toRat
  | 0 => by show 0 ≤ (0 : Dyadic).toRat; rw [Dyadic.toRat_zero]; exact Rat.le_refl
  | j + 1 => nn_add (upr_nn hP (mra_nn (atR_nn hv hr hP j) hr hP)) (hv _)
theorem atC_cb (hu : ∀ i, i < n → CB (u i) 296) (hc : CB c 296) : ∀ j, j ≤ n → CB (atC n u c j) (j * 298)
  | 0, _ => CB.zero _
  | j + 1, hj => by
    have ih := atC_cb hu hc j (by omega)
    have h1 := hu (n - 1 - j) (by omega)
    have h2 := ih.mul hc
    have e : (j + 1) * 298 = j * 298 + 298 := Nat.succ_mul ..
    exact ⟨((h2.1.mono (C := j * 298 + 297) (by omega)).add (h1.1.mono (by omega))).mono (by omega), ((h2.2.mono (C := j * 298 + 297) (by omega)).add (h1.2.mono (by omega))).mono (by omega)⟩
theorem atR_db (hu : ∀ i, i < n → CB (u i) 296) (hv : ∀ i, i < n → DB (v i) 296) (hc : CB c 296) (hr : DB r 296) (hP : 1 ≤ P) : ∀ j, j ≤ n → DB (atR n u v c r P j) (j * (P + 601))
  | 0, _ => DB.zero _
  | j + 1, hj => by
    have ih := atR_db hu hv hc hr hP j (by omega)
    have ic := atC_cb hu hc j (by omega)
    have h1 := hv (n - 1 - j) (by omega)
    have e : (j + 1) * (P + 601) = j * (P + 601) + (P + 601) := Nat.succ_mul ..
    have e2 : j * 298 ≤ j * (P + 601) := Nat.mul_le_mul_left j (by omega)
    have := mrad_db ic ih hc hr hP (K := j * (P + 601) + P + 299) (by omega) (by omega) (by omega)
    exact ((this.mono (C := j * (P + 601) + P + 302) (by omega)).add (h1.mono (by omega))).mono (by omega)
/-- whether it may be a polynomial -/
def mayP (n : Nat) (u : Nat → Cx) (v : Nat → Dyadic) (d : Nat) (f : Po) : Prop := d ≤ n ∧ ∀ i, i < n → hasP (u i) (v i) (f i)
/-- the greatest radius -/
def wide (v : Nat → Dyadic) : Nat → Dyadic
  | 0 => 0
  | i + 1 => dmx (wide v i) (v i)
/-- times a number -/
def tmz (z : Cx) (x : Dyadic) : Cx := ⟨z.re * x, z.im * x⟩
theorem nat_nn (k : Nat) : 0 ≤ (dv (k : Int) 0).toRat := by
  rw [dv_rat, Rat.zpow_zero, Rat.mul_one]
  exact_mod_cast Int.natCast_nonneg k
end Go.Ab
