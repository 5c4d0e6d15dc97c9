/- Contracts of this seat's functions (of each call: what it answers), walked over the abstract machine, and the laws of numbers that they want. Conditions: those that each theorem states. -/
import Derived.Test.YtdkdpebfnddfpaaDoorN7
import Derived.Shelf.Small.Bits
set_option linter.unusedVariables false
set_option maxRecDepth 20000
set_option linter.unusedSimpArgs false
namespace Go.Ab
open Go.Proofs
open Go.Shelf

/-- The shelf's numbers of functions and types, and this program's. -/
def shelfRen : Ren := {
  f := fun x => match x with
    | 128 => 87
    | 133 => 113
    | n => n
  t := fun x => match x with
    | 3 => 3
    | 4 => 4
    | 5 => 5
    | 9 => 9
    | 46 => 77
    | 51 => 75
    | n => n
  g := fun n => n }
theorem lays128 : Lays.n128 Tryd.prog shelfRen := {
  mixed := by kernel_rfl
  f128 := Tryd.func87.trans (congrArg some (by kernel_rfl))
  t3 := Tryd.underlying3
  a3 := Tryd.isAgg3
  z3 := Tryd.sizeOf3
  v3 := Tryd.zeroValue3
  t4 := Tryd.underlying4
  a4 := Tryd.isAgg4
  z4 := Tryd.sizeOf4
  v4 := Tryd.zeroValue4
  t5 := Tryd.underlying5
  a5 := Tryd.isAgg5
  z5 := Tryd.sizeOf5
  v5 := Tryd.zeroValue5
  t9 := Tryd.underlying9
  a9 := Tryd.isAgg9
  z9 := Tryd.sizeOf9
  v9 := Tryd.zeroValue9
  t46 := Tryd.underlying77
  a46 := Tryd.isAgg77
  z46 := Tryd.sizeOf77
  v46 := Tryd.zeroValue77
  t51 := Tryd.underlying75
  a51 := Tryd.isAgg75
  z51 := Tryd.sizeOf75
  v51 := Tryd.zeroValue75 }
theorem lays133 : Lays.n133 Tryd.prog shelfRen := {
  mixed := by kernel_rfl
  f128 := Tryd.func87.trans (congrArg some (by kernel_rfl))
  f133 := Tryd.func113.trans (congrArg some (by kernel_rfl))
  t3 := Tryd.underlying3
  a3 := Tryd.isAgg3
  z3 := Tryd.sizeOf3
  v3 := Tryd.zeroValue3
  t4 := Tryd.underlying4
  a4 := Tryd.isAgg4
  z4 := Tryd.sizeOf4
  v4 := Tryd.zeroValue4
  t5 := Tryd.underlying5
  a5 := Tryd.isAgg5
  z5 := Tryd.sizeOf5
  v5 := Tryd.zeroValue5
  t9 := Tryd.underlying9
  a9 := Tryd.isAgg9
  z9 := Tryd.sizeOf9
  v9 := Tryd.zeroValue9
  t46 := Tryd.underlying77
  a46 := Tryd.isAgg77
  z46 := Tryd.sizeOf77
  v46 := Tryd.zeroValue77
  t51 := Tryd.underlying75
  a51 := Tryd.isAgg75
  z51 := Tryd.sizeOf75
  v51 := Tryd.zeroValue75 }
/-- A contract of the kit's shelf, of one word. -/
theorem sat_word {f : FuncId} {x y : Value} (h : ∀ w, Calls CT.P f #[x] w fun e w' => e = .returned y ∧ w' = w) : Sat CT false f [.v x] (.v y) := by
  intro w S xs hg hS hl hr
  match xs, hl with
  | [z], _ =>
    have hz := hr 0 (by simp)
    cases hz
    refine (h w).mono ?_
    rintro e w' ⟨rfl, rfl⟩
    exact ⟨y, rfl, .v y, .refl _ _⟩
theorem len32_sat {x : Nat} (hx : x < 4294967296) : Sat CT false 87 [W32 (x : Nat)] (I64 (bl x : Nat)) := by
  refine sat_word fun w => ?_
  have := Any.bits_Len32 lays128 (x : Int) w (by omega) (by omega)
  rw [Int.toNat_natCast, libBl (by omega)] at this
  exact this
theorem lz32_sat {x : Nat} (hx : x < 4294967296) : Sat CT false 113 [W32 (x : Nat)] (I64 ((32 - bl x : Nat) : Int)) := by
  refine sat_word fun w => ?_
  have := Any.bits_LeadingZeros32 lays133 (x : Int) w (by omega) (by omega)
  rw [Int.toNat_natCast, libBl (by omega)] at this
  have hb : bl x ≤ 32 := bl_le_of (by omega)
  rw [show ((32 - bl x : Nat) : Int) = 32 - ((bl x : Nat) : Int) by omega]
  exact this
end Go.Ab
