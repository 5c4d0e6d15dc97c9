import Derived.Test.YtchgjgffikdcnaaDoorN7
import Derived.Shelf.Lay
import Derived.Shelf.Small.Bits
set_option linter.unusedVariables false
set_option linter.unusedSimpArgs false
namespace Go.Ab
open Go.Proofs
open Go.Shelf

shelf_lay Lays.n128 Nm 128 at Tryd as lays128
shelf_lay Lays.n133 Nm 133 at Tryd as lays133
/-- A contract of the kit's shelf, of one word. -/
theorem sat_word {f : FuncId} {x y : Value} (h : ∀ w, Calls CT.P f #[x] w fun e w' => e = .returned y ∧ w' = w) : Sat CT false f [.v x] (.v y) := by
  intro w S xs hg hS hl hr
  match xs, hl with
  | [z], _ =>
    have hz := hr 0 (by simp)
    cases hz
    refine (h w).mono ?_
    rintro e w' ⟨rfl, rfl⟩
    exact ⟨y, rfl, .v y, .refl _ _⟩
theorem len32_sat {x : Nat} (hx : x < 4294967296) : Sat CT false 42 [W32 (x : Nat)] (I64 (bl x : Nat)) := by
  refine sat_word fun w => ?_
  have := Any.bits_Len32 lays128 (x : Int) w (by omega) (by omega)
  rw [Int.toNat_natCast, libBl (by omega)] at this
  exact this
theorem lz32_sat {x : Nat} (hx : x < 4294967296) : Sat CT false 48 [W32 (x : Nat)] (I64 ((32 - bl x : Nat) : Int)) := by
  refine sat_word fun w => ?_
  have := Any.bits_LeadingZeros32 lays133 (x : Int) w (by omega) (by omega)
  rw [Int.toNat_natCast, libBl (by omega)] at this
  have hb : bl x ≤ 32 := bl_le_of (by omega)
  rw [show ((32 - bl x : Nat) : Int) = 32 - ((bl x : Nat) : Int) by omega]
  exact this
end Go.Ab
