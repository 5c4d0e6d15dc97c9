/- Contracts of this seat's functions (of each call: what it answers), walked over the abstract machine, and the laws of numbers that they want. Conditions: those that each theorem states. -/
import Derived.Test.YtdkdpebfnddfpaaGreatDoorN7
import Derived.Shelf.Small.Bits
set_option linter.unusedVariables false
set_option maxRecDepth 20000
set_option linter.unusedSimpArgs false
namespace Go.Ab
open Go.Proofs
open Go.Shelf

/-- The shelf's numbers of functions and types, and this program's. -/
def shelfRen : Ren := {
  f := fun x => match x with
    | 128 => 110
    | 133 => 115
    | n => n
  t := fun x => match x with
    | 3 => 3
    | 4 => 4
    | 5 => 5
    | 9 => 9
    | 46 => 70
    | 51 => 80
    | n => n
  g := fun n => n }
theorem lays128 : Lays.n128 Tryz.prog shelfRen := {
  mixed := by kernel_rfl
  f128 := Tryz.func110.trans (congrArg some (by kernel_rfl))
  t3 := Tryz.underlying3
  a3 := Tryz.isAgg3
  z3 := Tryz.sizeOf3
  v3 := Tryz.zeroValue3
  t4 := Tryz.underlying4
  a4 := Tryz.isAgg4
  z4 := Tryz.sizeOf4
  v4 := Tryz.zeroValue4
  t5 := Tryz.underlying5
  a5 := Tryz.isAgg5
  z5 := Tryz.sizeOf5
  v5 := Tryz.zeroValue5
  t9 := Tryz.underlying9
  a9 := Tryz.isAgg9
  z9 := Tryz.sizeOf9
  v9 := Tryz.zeroValue9
  t46 := Tryz.underlying70
  a46 := Tryz.isAgg70
  z46 := Tryz.sizeOf70
  v46 := Tryz.zeroValue70
  t51 := Tryz.underlying80
  a51 := Tryz.isAgg80
  z51 := Tryz.sizeOf80
  v51 := Tryz.zeroValue80 }
theorem lays133 : Lays.n133 Tryz.prog shelfRen := {
  mixed := by kernel_rfl
  f128 := Tryz.func110.trans (congrArg some (by kernel_rfl))
  f133 := Tryz.func115.trans (congrArg some (by kernel_rfl))
  t3 := Tryz.underlying3
  a3 := Tryz.isAgg3
  z3 := Tryz.sizeOf3
  v3 := Tryz.zeroValue3
  t4 := Tryz.underlying4
  a4 := Tryz.isAgg4
  z4 := Tryz.sizeOf4
  v4 := Tryz.zeroValue4
  t5 := Tryz.underlying5
  a5 := Tryz.isAgg5
  z5 := Tryz.sizeOf5
  v5 := Tryz.zeroValue5
  t9 := Tryz.underlying9
  a9 := Tryz.isAgg9
  z9 := Tryz.sizeOf9
  v9 := Tryz.zeroValue9
  t46 := Tryz.underlying70
  a46 := Tryz.isAgg70
  z46 := Tryz.sizeOf70
  v46 := Tryz.zeroValue70
  t51 := Tryz.underlying80
  a51 := Tryz.isAgg80
  z51 := Tryz.sizeOf80
  v51 := Tryz.zeroValue80 }
/-- A contract of the kit's shelf, of one word. -/
theorem sat_word {f : FuncId} {x y : Value} (h : ∀ w, Calls CT.P f #[x] w fun e w' => e = .returned y ∧ w' = w) : Sat CT false f [.v x] (.v y) := by
  intro w S xs hg hS hl hr
  match xs, hl with
  | [z], _ =>
    have hz := hr 0 (by simp)
    cases hz
    refine (h w).mono ?_
    rintro e w' ⟨rfl, rfl⟩
    exact ⟨y, rfl, .v y, .refl _ _⟩
theorem len32_sat {x : Nat} (hx : x < 4294967296) : Sat CT false 110 [W32 (x : Nat)] (I64 (bl x : Nat)) := by
  refine sat_word fun w => ?_
  have := Any.bits_Len32 lays128 (x : Int) w (by omega) (by omega)
  rw [Int.toNat_natCast, libBl (by omega)] at this
  exact this
theorem lz32_sat {x : Nat} (hx : x < 4294967296) : Sat CT false 115 [W32 (x : Nat)] (I64 ((32 - bl x : Nat) : Int)) := by
  refine sat_word fun w => ?_
  have := Any.bits_LeadingZeros32 lays133 (x : Int) w (by omega) (by omega)
  rw [Int.toNat_natCast, libBl (by omega)] at this
  have hb : bl x ≤ 32 := bl_le_of (by omega)
  rw [show ((32 - bl x : Nat) : Int) = 32 - ((bl x : Nat) : Int) by omega]
  exact this
end Go.Ab
