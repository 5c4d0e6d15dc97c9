/- How points, and rows of points, that came in read to the abstract machine. -/
import Derived.Test.YtikhbokeaikcpaaGreatDoorDS
import Derived.Test.YtikhbokeaikcpaaGreatDoorL0
import Derived.Lib.SmallJoins
set_option linter.unusedVariables false
set_option maxRecDepth 20000
set_option linter.unusedSimpArgs false
namespace Go.Ab
open Go.Proofs Go.Proofs.YtikhbokeaikcpaaGreatDoor Go.ChangeShapes Go.WideShapes Go.ChangeAt Go.WideMaps Go.WideElems Go.RowKit Go.Joins

section
variable {H : Type} {enc : TypeId × Value → H} {W : World} {spare : Nat → Bool} {held : Bool}
abbrev DT (W : World) (a : AV) (v : Value) : Prop := DRep (fun _ => True) W a v
theorem trod_int2 {fuel : Nat} {cs : List Value} {x : DataW H × List MemPlace} (h : DataW.trod enc Tryz.prog W 0 spare held fuel 24 cs = some x) :
    ∃ (n : Bool) (l : List Nat) (b u : Value), Lm l ∧ cs = [b, u] ∧ DT W (Bo n) b ∧ DT W (U32 l) u := by
  obtain ⟨y0, y1, m, _, hl, h0, h1⟩ := trod_struct2 Tryz.underlying24 h
  have hc : Tryz.prog.cellsOf 24 = 2 := by kernel_rfl
  rw [hc] at hl
  match cs, hl with
  | [b, u], _ =>
    have e0 : Tryz.prog.cellsOf 4 = 1 := by kernel_rfl
    have e1 : Tryz.prog.cellsOf 22 = 1 := by kernel_rfl
    simp only [e0, e1, List.drop_zero, List.take_succ_cons, List.take_zero, List.drop_succ_cons, List.take_nil] at h0 h1
    obtain ⟨n, e, _⟩ := DataW.trod_bool Tryz.underlying4 h0
    simp only [List.cons.injEq, and_true] at e
    subst e
    have hs : ∃ a len cap, u = .slice a len cap := by
      rcases open_ints Tryz.underlying22 Tryz.underlying100 (by kernel_rfl) h1 with ⟨hcs, _⟩ | ⟨ad, l, c, zs, hcs, _⟩
      · simp at hcs; exact ⟨_, _, _, hcs⟩
      · simp at hcs; exact ⟨_, _, _, hcs⟩
    obtain ⟨a, len, cap, rfl⟩ := hs
    obtain ⟨l, hl, hr⟩ := read_u32 h1
    exact ⟨n, l, _, _, hl, rfl, .v _, hr⟩
theorem trod_dyad {fuel : Nat} {cs : List Value} {x : DataW H × List MemPlace} (h : DataW.trod enc Tryz.prog W 0 spare held fuel 26 cs = some x) :
    ∃ (n : Bool) (l : List Nat) (e : Int) (b u i : Value), Lm l ∧ (-9223372036854775808 ≤ e ∧ e ≤ 9223372036854775807) ∧ cs = [b, u, i] ∧ DT W (Bo n) b ∧ DT W (U32 l) u ∧ DT W (I64 e) i := by
  obtain ⟨y0, y1, m, _, hl, h0, h1⟩ := trod_struct2 Tryz.underlying26 h
  have hc : Tryz.prog.cellsOf 26 = 3 := by kernel_rfl
  rw [hc] at hl
  match cs, hl with
  | [b, u, i], _ =>
    have e0 : Tryz.prog.cellsOf 24 = 2 := by kernel_rfl
    have e1 : Tryz.prog.cellsOf 3 = 1 := by kernel_rfl
    simp only [e0, e1, List.drop_zero, List.take_succ_cons, List.take_zero, List.drop_succ_cons, List.take_nil] at h0 h1
    obtain ⟨n, l, b', u', hl, he, hb, hu⟩ := trod_int2 h0
    simp only [List.cons.injEq, and_true] at he
    obtain ⟨rfl, rfl⟩ := he
    obtain ⟨e, he, _, hw⟩ := DataW.trod_int Tryz.underlying3 h1
    simp only [List.cons.injEq, and_true] at he
    subst he
    exact ⟨n, l, e, _, _, _, hl, i64_of hw, rfl, hb, hu, .v _⟩
theorem trod_cplx {fuel : Nat} {cs : List Value} {x : DataW H × List MemPlace} (h : DataW.trod enc Tryz.prog W 0 spare held fuel 28 cs = some x) :
    ∃ r : Raw, r.ok ∧ cs.length = 6 ∧ ∀ i, i < 6 → DT W (r.cells.getD i .bad) (cs.getD i undef) := by
  obtain ⟨y0, y1, m, _, hl, h0, h1⟩ := trod_struct2 Tryz.underlying28 h
  have hc : Tryz.prog.cellsOf 28 = 6 := by kernel_rfl
  rw [hc] at hl
  match cs, hl with
  | [c0, c1, c2, c3, c4, c5], _ =>
    have e0 : Tryz.prog.cellsOf 26 = 3 := by kernel_rfl
    simp only [e0, List.drop_zero, List.take_succ_cons, List.take_zero, List.drop_succ_cons, List.take_nil] at h0 h1
    obtain ⟨n, l, e, b, u, i, hl, hr, he, hb, hu, hei⟩ := trod_dyad h0
    obtain ⟨m, k, f, b', u', i', hl', hr', he', hb', hu', hei'⟩ := trod_dyad h1
    simp only [List.cons.injEq, and_true] at he he'
    obtain ⟨rfl, rfl, rfl⟩ := he
    obtain ⟨rfl, rfl, rfl⟩ := he'
    refine ⟨⟨n, l, e, m, k, f⟩, ⟨hl, hl', hr, hr'⟩, rfl, fun i hi => ?_⟩
    match i, hi with
    | 0, _ => exact hb
    | 1, _ => exact hu
    | 2, _ => exact hei
    | 3, _ => exact hb'
    | 4, _ => exact hu'
    | 5, _ => exact hei'
/-- A point that came in. -/
theorem read_cplx {r : Reach} {b0 : Nat} {v : Value} {d : DataW H} {p : List MemPlace} (hv : Value.okWide Tryz.prog W r b0 28 v) (h : DataW.Trod enc Tryz.prog W 0 spare held 28 v d p) : ∃ r : Raw, r.ok ∧ DT W (.agg r.cells) v := by
  obtain ⟨cs, rfl, hsz⟩ := okWide_struct Tryz.underlying28 hv
  obtain ⟨fuel, hf⟩ := h
  obtain ⟨r, hr, hl, hi⟩ := trod_cplx hf
  refine ⟨r, hr, .agg _ _ (by simpa [Value.cells, Raw.cells] using hl.symm) (fun i h6 => ?_)⟩
  have := hi i h6
  simpa [Value.cells, Array.getD_eq_getD_getElem?, List.getD_eq_getElem?_getD] using this
/-- A dyadic number that came in. -/
theorem read_dyad {r : Reach} {b0 : Nat} {v : Value} {d : DataW H} {p : List MemPlace} (hv : Value.okWide Tryz.prog W r b0 26 v) (h : DataW.Trod enc Tryz.prog W 0 spare held 26 v d p) :
    ∃ (n : Bool) (l : List Nat) (e : Int), Lm l ∧ DT W (DA n l e) v := by
  obtain ⟨cs, rfl, hsz⟩ := okWide_struct Tryz.underlying26 hv
  obtain ⟨fuel, hf⟩ := h
  obtain ⟨n, l, e, b, u, i, hl, _, hcs, hb, hu, hi⟩ := trod_dyad hf
  have hcs2 : cs.toList = [b, u, i] := by simpa [Value.cells] using hcs
  refine ⟨n, l, e, hl, .agg _ _ (by rw [← Array.length_toList, hcs2]; rfl) (fun j h3 => ?_)⟩
  have e2 : cs.getD j undef = [b, u, i].getD j undef := by rw [← hcs2]; simp [Array.getD_eq_getD_getElem?, List.getD_eq_getElem?_getD]
  rw [e2]
  match j, h3 with
  | 0, _ => exact hb
  | 1, _ => exact hu
  | 2, _ => exact hi
end
end Go.Ab
