/- Contracts of this seat's functions (of each call: what it answers), walked over the abstract machine, and the laws of numbers that they want. Conditions: those that each theorem states. -/
import Derived.Test.YtikhbokeaikcpaaGreatDoorD17
set_option linter.unusedVariables false
set_option maxRecDepth 20000
set_option linter.unusedSimpArgs false
set_option linter.unusedSectionVars false
namespace Go.Ab
open Go.Proofs
open Cx (zero one)
attribute [-go_sem] appF newsF
variable {a b : AV} {z w : Cx} {B C n m : Nat} {cs ds : List AV} {f g : Po}
theorem qcl_lo {n i : Nat} (F : Nat → Raw) (h : i < n) : ((qcl n F).drop (i * 6)).take 3 = [Bo (F i).n, U32 (F i).l, I64 (F i).e] := by
  have := congrArg (List.take 3) (qcl_el F h)
  rw [List.take_take] at this
  exact this
theorem qcl_hi {n i : Nat} (F : Nat → Raw) (h : i < n) : ((qcl n F).drop (i * 6 + 3)).take 3 = [Bo (F i).m, U32 (F i).k, I64 (F i).f] := by
  have := congrArg (List.drop 3) (qcl_el F h)
  rw [List.drop_take, List.drop_drop] at this
  exact this
theorem pld_dy (b : Bool) (l : List Nat) (e : Int) : PlD (.agg [Bo b, U32 l, I64 e]) := pld_agg (fun c hc => by
  simp only [List.mem_cons, List.not_mem_nil, or_false] at hc
  rcases hc with rfl | rfl | rfl <;> first | exact lf_bool | exact lf_int | exact lf_u32 _)
end Go.Ab
