/- How a whole number that came in reads to the abstract machine. -/
import Derived.Test.YtchgjgffikdcnaaW1
import Derived.Test.YtchgjgffikdcnaaL0
import Derived.Lib.SmallJoins
set_option linter.unusedVariables false
set_option maxRecDepth 20000
set_option linter.unusedSimpArgs false
namespace Go.Ab
open Go.Proofs Go.Proofs.Ytchgjgffikdcnaa Go.ChangeShapes Go.WideShapes Go.ChangeAt Go.WideMaps Go.WideElems Go.RowKit Go.Joins

theorem cInt : Try.prog.cellsOf 24 = 2 := by kernel_rfl
theorem read_int {H : Type} {enc : TypeId × Value → H} {W : World} {spare : Nat → Bool} {held : Bool} {v : Value} {d : DataW H} {p : List MemPlace} {r : Reach} {b0 : Nat}
    (hv : Value.okWide Try.prog W r b0 24 v) (h : DataW.Trod enc Try.prog W 0 spare held 24 v d p) : ∃ (n : Bool) (l : List Nat), Lm l ∧ DRep (fun _ => True) W (IA n l) v := by
  obtain ⟨v0, v1, y0, y1, m, rfl, _, _, h0, h1⟩ := open_agg2 Try.underlying24 (by kernel_rfl) cInt hv h
  obtain ⟨b, e0, _⟩ := DataW.trod_bool Try.underlying4 h0
  simp only [List.cons.injEq, and_true] at e0
  subst e0
  have hs : ∃ a len cap, v1 = .slice a len cap := by
    rcases open_ints Try.underlying22 Try.underlying45 (by kernel_rfl) h1 with ⟨hcs, _⟩ | ⟨ad, l, c, zs, hcs, _⟩
    · simp at hcs; exact ⟨_, _, _, hcs⟩
    · simp at hcs; exact ⟨_, _, _, hcs⟩
  obtain ⟨a, len, cap, rfl⟩ := hs
  obtain ⟨l, hl, hr⟩ := read_u32 h1
  refine ⟨b, l, hl, .agg _ _ rfl (fun i hi => ?_)⟩
  match i, hi with
  | 0, _ => exact .v _
  | 1, _ => exact hr
end Go.Ab
