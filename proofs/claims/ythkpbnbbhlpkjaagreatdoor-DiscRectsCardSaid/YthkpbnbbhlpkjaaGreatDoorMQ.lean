/- How rectangles that came in read to the abstract machine. -/
import Derived.Test.YthkpbnbbhlpkjaaGreatDoorML
set_option linter.unusedVariables false
set_option maxRecDepth 20000
set_option linter.unusedSimpArgs false
namespace Go.Ab
open Go.Proofs Go.Proofs.YthkpbnbbhlpkjaaGreatDoor Go.ChangeShapes Go.WideShapes Go.ChangeAt Go.WideMaps Go.WideElems Go.RowKit Go.Joins
/-- a rectangle that came in -/
structure RawQ where
  a : Raw
  b : Raw
def RawQ.cells (t : RawQ) : List AV := [Bo t.a.n, U32 t.a.l, I64 t.a.e, Bo t.a.m, U32 t.a.k, I64 t.a.f, Bo t.b.n, U32 t.b.l, I64 t.b.e, Bo t.b.m, U32 t.b.k, I64 t.b.f]
section
variable {H : Type} {enc : TypeId × Value → H} {W : World} {spare : Nat → Bool} {held : Bool}
theorem trod_real {fuel : Nat} {cs : List Value} {x : DataW H × List MemPlace} (h : DataW.trod enc Tryz.prog W 0 spare held fuel 57 cs = some x) :
    ∃ r : Raw, r.ok ∧ cs.length = 6 ∧ ∀ i, i < 6 → DT W (r.cells.getD i .bad) (cs.getD i undef) := by
  obtain ⟨y0, y1, m, _, hl, h0, h1⟩ := trod_struct2 Tryz.underlying57 h
  have hc : Tryz.prog.cellsOf 57 = 6 := by kernel_rfl
  rw [hc] at hl
  match cs, hl with
  | [c0, c1, c2, c3, c4, c5], _ =>
    have e0 : Tryz.prog.cellsOf 28 = 3 := by kernel_rfl
    simp only [e0, List.drop_zero, List.take_succ_cons, List.take_zero, List.drop_succ_cons, List.take_nil] at h0 h1
    obtain ⟨n, l, e, b, u, i, hl, hr, he, hb, hu, hei⟩ := trod_dyad h0
    obtain ⟨m, k, f, b', u', i', hl', hr', he', hb', hu', hei'⟩ := trod_dyad h1
    simp only [List.cons.injEq, and_true] at he he'
    obtain ⟨rfl, rfl, rfl⟩ := he
    obtain ⟨rfl, rfl, rfl⟩ := he'
    refine ⟨⟨n, l, e, m, k, f⟩, ⟨hl, hl', hr, hr'⟩, rfl, fun i hi => ?_⟩
    match i, hi with
    | 0, _ => exact hb
    | 1, _ => exact hu
    | 2, _ => exact hei
    | 3, _ => exact hb'
    | 4, _ => exact hu'
    | 5, _ => exact hei'
theorem trod_rect {fuel : Nat} {cs : List Value} {x : DataW H × List MemPlace} (h : DataW.trod enc Tryz.prog W 0 spare held fuel 59 cs = some x) :
    ∃ r : RawQ, r.a.ok ∧ r.b.ok ∧ cs.length = 12 ∧ ∀ i, i < 12 → DT W (r.cells.getD i .bad) (cs.getD i undef) := by
  obtain ⟨y0, y1, m, _, hl, h0, h1⟩ := trod_struct2 Tryz.underlying59 h
  have hc : Tryz.prog.cellsOf 59 = 12 := by kernel_rfl
  rw [hc] at hl
  match cs, hl with
  | [c0, c1, c2, c3, c4, c5, c6, c7, c8, c9, c10, c11], _ =>
    have e0 : Tryz.prog.cellsOf 57 = 6 := by kernel_rfl
    simp only [e0, List.drop_zero, List.take_succ_cons, List.take_zero, List.drop_succ_cons, List.take_nil] at h0 h1
    obtain ⟨r, hr, _, hi⟩ := trod_real h0
    obtain ⟨s, hs, _, hj⟩ := trod_real h1
    refine ⟨⟨r, s⟩, hr, hs, rfl, fun i h12 => ?_⟩
    match i, h12 with
    | 0, _ => exact hi 0 (by decide)
    | 1, _ => exact hi 1 (by decide)
    | 2, _ => exact hi 2 (by decide)
    | 3, _ => exact hi 3 (by decide)
    | 4, _ => exact hi 4 (by decide)
    | 5, _ => exact hi 5 (by decide)
    | 6, _ => exact hj 0 (by decide)
    | 7, _ => exact hj 1 (by decide)
    | 8, _ => exact hj 2 (by decide)
    | 9, _ => exact hj 3 (by decide)
    | 10, _ => exact hj 4 (by decide)
    | 11, _ => exact hj 5 (by decide)
/-- A rectangle that came in. -/
theorem read_rect {r : Reach} {b0 : Nat} {v : Value} {d : DataW H} {p : List MemPlace} (hv : Value.okWide Tryz.prog W r b0 59 v) (h : DataW.Trod enc Tryz.prog W 0 spare held 59 v d p) :
    ∃ r : RawQ, (r.a.ok ∧ r.b.ok) ∧ DT W (.agg r.cells) v := by
  obtain ⟨cs, rfl, hsz⟩ := okWide_struct Tryz.underlying59 hv
  obtain ⟨fuel, hf⟩ := h
  obtain ⟨r, hr, hs, hl, hi⟩ := trod_rect hf
  refine ⟨r, ⟨hr, hs⟩, .agg _ _ (by simpa [Value.cells, RawQ.cells] using hl.symm) (fun i h9 => ?_)⟩
  have := hi i h9
  simpa [Value.cells, Array.getD_eq_getD_getElem?, List.getD_eq_getElem?_getD] using this
end
end Go.Ab
