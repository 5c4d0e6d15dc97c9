/- Contracts of this seat's functions (of each call: what it answers), walked over the abstract machine, and the laws of numbers that they want. Conditions: those that each theorem states. -/
import Derived.Test.YtikhbokeaikcpaaDoorFacts
import Derived.Test.YtikhbokeaikcpaaDoorL0
import Derived.Test.YtikhbokeaikcpaaDoorRows
import Derived.ProofKit
import Derived.LaidMore
import Derived.OpenShut
import Derived.ShutString
import Derived.ChangeOld
import Derived.Stop.Joined
set_option linter.unusedVariables false
set_option maxRecDepth 20000
set_option linter.unusedSimpArgs false
/-! How the row's premises and arguments read to the abstract machine. -/
namespace Go.Ab
open Go.Proofs Go.Proofs.YtikhbokeaikcpaaDoor Go.ChangeShapes Go.WideShapes Go.ChangeAt Go.WideMaps Go.WideElems Go.RowKit

def laid1 : List (String × DataW Unit) := [("math/bits.deBruijn32tab", Rows.laid_math_bits_deBruijn32tab)]
theorem gTab : Tryd.prog.globalNamed "math/bits.deBruijn32tab" = some 1 := by kernel_rfl
theorem tTab : (Tryd.prog.globals[1]?).map (·.type) = some 96 := by kernel_rfl
theorem uTab : Tryd.prog.underlying 96 = some (.array 32 5) := by kernel_rfl
theorem uTab8 : Tryd.prog.underlying 5 = some (.int .u8) := by kernel_rfl
theorem cTab8 : Tryd.prog.cellsOf 5 = 1 := by kernel_rfl
def deTab : List Int := [0, 1, 28, 2, 29, 14, 24, 3, 30, 22, 20, 15, 25, 17, 4, 8, 31, 27, 13, 23, 21, 19, 16, 7, 26, 12, 18, 6, 11, 5, 10, 9]
theorem deTab_datum : (Rows.laid_math_bits_deBruijn32tab : DataW Unit) = .agg (deTab.map fun n => .lit (.int .u8 n)) := rfl
theorem deTab_value : tab32 = deTab.map fun n => Value.int .u8 n := rfl

theorem door_met (os : Os) (args : Array Value) : laidMetH Tryd.prog laid1 ((World.doorLaid Tryd.prog 14 os).forCall (fun _ _ => 0) ⟨#[], args, []⟩).memory :=
  laidMetH_of_parts3 (fuel := 8) (laidMet_of_run' 8 (by kernel_rfl) (by kernel_rfl)) (by kernel_rfl) (by kernel_rfl)

/-- WHAT THE CONDITION GIVES: the table's cells. -/
theorem glob_of {W : World} (h : laidMetH Tryd.prog laid1 W) : GlobOK CT.G W := by
  rw [MakeChecks.laidMetH_plain _ _ _ (by kernel_rfl)] at h
  obtain ⟨ps, ⟨g0, t0, cs0, f0, p0, q0, hg0, ht0, hv0, hd0, _, _⟩, _, _⟩ := h
  obtain rfl := Option.some.inj (gTab.symm.trans hg0)
  obtain rfl := Option.some.inj (tTab.symm.trans ht0)
  obtain ⟨xs, m1, rfl, hx1, hlen, hn3, hel⟩ := DataW.trod_array uTab hd0
  rw [deTab_datum] at hx1
  simp only [Prod.mk.injEq, DataW.agg.injEq] at hx1
  have hcell : ∀ i, i < 32 → W.cell? ⟨1, i, none⟩ = some (.int .u8 (deTab.getD i 0)) := by
    intro i hi
    have h0 := hel i hi
    rw [cTab8, Nat.mul_one, List.getElem?_eq_getElem (by omega)] at h0
    obtain ⟨k, e1, e2, _⟩ := DataW.trod_int uTab8 h0
    have hk : (xs.map (·.1))[i]? = some (.lit (.int .u8 k)) := by
      rw [List.getElem?_map, List.getElem?_eq_getElem (by omega), e2]; rfl
    rw [← hx1.1, List.getElem?_map] at hk
    have hl : deTab.length = 32 := rfl
    rw [List.getElem?_eq_getElem (by omega)] at hk
    simp only [Option.map_some, Option.some.injEq, DataW.lit.injEq, Lit.int.injEq, true_and] at hk
    rw [World.var?_cell hg0 hv0 i]
    have e3 : cs0.toList[i]? = some (.int .u8 k) := by
      have := congrArg (fun l : List Value => l[0]?) e1
      simpa [List.getElem?_take, List.getElem?_drop] using this
    rw [← Array.getElem?_toList, e3, ← hk]
    simp [List.getD_eq_getElem?_getD, hl, hi]
  intro g cs hg
  have hG : g = 1 ∧ cs = tab32 := by
    have : (if g = 1 then some tab32 else none) = some cs := hg
    by_cases e : g = 1
    · rw [if_pos e] at this; exact ⟨e, (Option.some.inj this).symm⟩
    · rw [if_neg e] at this; cases this
  obtain ⟨rfl, rfl⟩ := hG
  have hl : tab32.length = 32 := rfl
  refine ⟨cell_lt (hcell 0 (by omega)), fun i hi => ?_⟩
  rw [hl] at hi
  rw [hcell i hi, deTab_value]
  have hl2 : deTab.length = 32 := rfl
  simp [List.getD_eq_getElem?_getD, hl2, hi]
end Go.Ab
