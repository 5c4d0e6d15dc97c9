/- How discs and rectangles that came in read to the abstract machine. -/
import Derived.Test.YtikhbokeaikcpaaGreatDoorMM
import Derived.Test.YtikhbokeaikcpaaGreatDoorLC
set_option linter.unusedVariables false
set_option maxRecDepth 20000
set_option linter.unusedSimpArgs false
namespace Go.Ab
open Go.Proofs Go.Proofs.YtikhbokeaikcpaaGreatDoor Go.ChangeShapes Go.WideShapes Go.ChangeAt Go.WideMaps Go.WideElems Go.RowKit Go.Joins

section
variable {H : Type} {enc : TypeId × Value → H} {W : World} {spare : Nat → Bool} {held : Bool}
theorem trod_disc {fuel : Nat} {cs : List Value} {x : DataW H × List MemPlace} (h : DataW.trod enc Tryz.prog W 0 spare held fuel 47 cs = some x) :
    ∃ r : RawT, r.ok ∧ (-9223372036854775808 ≤ r.q ∧ r.q ≤ 9223372036854775807) ∧ cs.length = 9 ∧ ∀ i, i < 9 → DT W (r.cells.getD i .bad) (cs.getD i undef) := by
  obtain ⟨y0, y1, m, _, hl, h0, h1⟩ := trod_struct2 Tryz.underlying47 h
  have hc : Tryz.prog.cellsOf 47 = 9 := by kernel_rfl
  rw [hc] at hl
  match cs, hl with
  | [c0, c1, c2, c3, c4, c5, c6, c7, c8], _ =>
    have e0 : Tryz.prog.cellsOf 28 = 6 := by kernel_rfl
    have e1 : Tryz.prog.cellsOf 26 = 3 := by kernel_rfl
    simp only [e0, e1, List.drop_zero, List.take_succ_cons, List.take_zero, List.drop_succ_cons, List.take_nil] at h0 h1
    obtain ⟨r, hr, _, hi⟩ := trod_cplx h0
    obtain ⟨o, p, q, b, u, i, hl', hq, he, hb, hu, hei⟩ := trod_dyad h1
    simp only [List.cons.injEq, and_true] at he
    obtain ⟨rfl, rfl, rfl⟩ := he
    refine ⟨⟨r, o, p, q⟩, ⟨hr, hl'⟩, hq, rfl, fun i h9 => ?_⟩
    match i, h9 with
    | 0, _ => exact hi 0 (by decide)
    | 1, _ => exact hi 1 (by decide)
    | 2, _ => exact hi 2 (by decide)
    | 3, _ => exact hi 3 (by decide)
    | 4, _ => exact hi 4 (by decide)
    | 5, _ => exact hi 5 (by decide)
    | 6, _ => exact hb
    | 7, _ => exact hu
    | 8, _ => exact hei
/-- A disc that came in. -/
theorem read_disc {r : Reach} {b0 : Nat} {v : Value} {d : DataW H} {p : List MemPlace} (hv : Value.okWide Tryz.prog W r b0 47 v) (h : DataW.Trod enc Tryz.prog W 0 spare held 47 v d p) :
    ∃ r : RawT, (r.ok ∧ (-9223372036854775808 ≤ r.q ∧ r.q ≤ 9223372036854775807)) ∧ DT W (.agg r.cells) v := by
  obtain ⟨cs, rfl, hsz⟩ := okWide_struct Tryz.underlying47 hv
  obtain ⟨fuel, hf⟩ := h
  obtain ⟨r, hr, hq, hl, hi⟩ := trod_disc hf
  refine ⟨r, ⟨hr, hq⟩, .agg _ _ (by simpa [Value.cells, RawT.cells] using hl.symm) (fun i h9 => ?_)⟩
  have := hi i h9
  simpa [Value.cells, Array.getD_eq_getD_getElem?, List.getD_eq_getElem?_getD] using this
end
end Go.Ab
