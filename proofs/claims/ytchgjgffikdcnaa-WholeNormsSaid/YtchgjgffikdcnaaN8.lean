/- Contracts of this seat's functions (of each call: what it answers), walked over the abstract machine, and the laws of numbers that they want. Conditions: those that each theorem states. -/
import Derived.Test.YtchgjgffikdcnaaN7
import Derived.Shelf.Small.Bits
set_option linter.unusedVariables false
set_option maxRecDepth 20000
set_option linter.unusedSimpArgs false
namespace Go.Ab
open Go.Proofs
open Go.Shelf

/-- The shelf's numbers of functions and types, and this program's. -/
def shelfRen : Ren := {
  f := fun x => match x with
    | 128 => 69
    | 133 => 63
    | n => n
  t := fun x => match x with
    | 3 => 3
    | 4 => 4
    | 5 => 5
    | 9 => 9
    | 46 => 41
    | 51 => 45
    | n => n
  g := fun n => n }
theorem lays128 : Lays.n128 Try.prog shelfRen := {
  mixed := by kernel_rfl
  f128 := Try.func69.trans (congrArg some (by kernel_rfl))
  t3 := Try.underlying3
  a3 := Try.isAgg3
  z3 := Try.sizeOf3
  v3 := Try.zeroValue3
  t4 := Try.underlying4
  a4 := Try.isAgg4
  z4 := Try.sizeOf4
  v4 := Try.zeroValue4
  t5 := Try.underlying5
  a5 := Try.isAgg5
  z5 := Try.sizeOf5
  v5 := Try.zeroValue5
  t9 := Try.underlying9
  a9 := Try.isAgg9
  z9 := Try.sizeOf9
  v9 := Try.zeroValue9
  t46 := Try.underlying41
  a46 := Try.isAgg41
  z46 := Try.sizeOf41
  v46 := Try.zeroValue41
  t51 := Try.underlying45
  a51 := Try.isAgg45
  z51 := Try.sizeOf45
  v51 := Try.zeroValue45 }
theorem lays133 : Lays.n133 Try.prog shelfRen := {
  mixed := by kernel_rfl
  f128 := Try.func69.trans (congrArg some (by kernel_rfl))
  f133 := Try.func63.trans (congrArg some (by kernel_rfl))
  t3 := Try.underlying3
  a3 := Try.isAgg3
  z3 := Try.sizeOf3
  v3 := Try.zeroValue3
  t4 := Try.underlying4
  a4 := Try.isAgg4
  z4 := Try.sizeOf4
  v4 := Try.zeroValue4
  t5 := Try.underlying5
  a5 := Try.isAgg5
  z5 := Try.sizeOf5
  v5 := Try.zeroValue5
  t9 := Try.underlying9
  a9 := Try.isAgg9
  z9 := Try.sizeOf9
  v9 := Try.zeroValue9
  t46 := Try.underlying41
  a46 := Try.isAgg41
  z46 := Try.sizeOf41
  v46 := Try.zeroValue41
  t51 := Try.underlying45
  a51 := Try.isAgg45
  z51 := Try.sizeOf45
  v51 := Try.zeroValue45 }
/-- A contract of the kit's shelf, of one word. -/
theorem sat_word {f : FuncId} {x y : Value} (h : ∀ w, Calls CT.P f #[x] w fun e w' => e = .returned y ∧ w' = w) : Sat CT false f [.v x] (.v y) := by
  intro w S xs hg hS hl hr
  match xs, hl with
  | [z], _ =>
    have hz := hr 0 (by simp)
    cases hz
    refine (h w).mono ?_
    rintro e w' ⟨rfl, rfl⟩
    exact ⟨y, rfl, .v y, .refl _ _⟩
theorem len32_sat {x : Nat} (hx : x < 4294967296) : Sat CT false 69 [W32 (x : Nat)] (I64 (bl x : Nat)) := by
  refine sat_word fun w => ?_
  have := Any.bits_Len32 lays128 (x : Int) w (by omega) (by omega)
  rw [Int.toNat_natCast, libBl (by omega)] at this
  exact this
theorem lz32_sat {x : Nat} (hx : x < 4294967296) : Sat CT false 63 [W32 (x : Nat)] (I64 ((32 - bl x : Nat) : Int)) := by
  refine sat_word fun w => ?_
  have := Any.bits_LeadingZeros32 lays133 (x : Int) w (by omega) (by omega)
  rw [Int.toNat_natCast, libBl (by omega)] at this
  have hb : bl x ≤ 32 := bl_le_of (by omega)
  rw [show ((32 - bl x : Nat) : Int) = 32 - ((bl x : Nat) : Int) by omega]
  exact this
end Go.Ab
