/- How points, and rows of points, that came in read to the abstract machine. -/
import Derived.Test.YtikhbokeaikcpaaGreatDoorDS
import Derived.Test.YtikhbokeaikcpaaGreatDoorL0
import Derived.Lib.SmallJoins
set_option linter.unusedVariables false
set_option maxRecDepth 20000
set_option linter.unusedSimpArgs false
namespace Go.Ab
open Go.Proofs Go.Proofs.YtikhbokeaikcpaaGreatDoor Go.ChangeShapes Go.WideShapes Go.ChangeAt Go.WideMaps Go.WideElems Go.RowKit Go.Joins

section
variable {H : Type} {enc : TypeId × Value → H} {W : World} {spare : Nat → Bool} {held : Bool}
abbrev DT (W : World) (a : AV) (v : Value) : Prop := DRep (fun _ => True) W a v
theorem trod_int2 {fuel : Nat} {cs : List Value} {x : DataW H × List MemPlace} (h : DataW.trod enc Tryz.prog W 0 spare held fuel 24 cs = some x) :
    ∃ (n : Bool) (l : List Nat) (b u : Value), Lm l ∧ cs = [b, u] ∧ DT W (Bo n) b ∧ DT W (U32 l) u := by
  obtain ⟨y0, y1, m, _, hl, h0, h1⟩ := trod_struct2 Tryz.underlying24 h
  have hc : Tryz.prog.cellsOf 24 = 2 := by kernel_rfl
  rw [hc] at hl
  match cs, hl with
  | [b, u], _ =>
    have e0 : Tryz.prog.cellsOf 4 = 1 := by kernel_rfl
    have e1 : Tryz.prog.cellsOf 22 = 1 := by kernel_rfl
    simp only [e0, e1, List.drop_zero, List.take_succ_cons, List.take_zero, List.drop_succ_cons, List.take_nil] at h0 h1
    obtain ⟨n, e, _⟩ := DataW.trod_bool Tryz.underlying4 h0
    simp only [List.cons.injEq, and_true] at e
    subst e
    have hs : ∃ a len cap, u = .slice a len cap := by
      rcases open_ints Tryz.underlying22 Tryz.underlying100 (by kernel_rfl) h1 with ⟨hcs, _⟩ | ⟨ad, l, c, zs, hcs, _⟩
      · simp at hcs; exact ⟨_, _, _, hcs⟩
      · simp at hcs; exact ⟨_, _, _, hcs⟩
    obtain ⟨a, len, cap, rfl⟩ := hs
    obtain ⟨l, hl, hr⟩ := read_u32 h1
    exact ⟨n, l, _, _, hl, rfl, .v _, hr⟩
theorem trod_dyad {fuel : Nat} {cs : List Value} {x : DataW H × List MemPlace} (h : DataW.trod enc Tryz.prog W 0 spare held fuel 26 cs = some x) :
    ∃ (n : Bool) (l : List Nat) (e : Int) (b u i : Value), Lm l ∧ (-9223372036854775808 ≤ e ∧ e ≤ 9223372036854775807) ∧ cs = [b, u, i] ∧ DT W (Bo n) b ∧ DT W (U32 l) u ∧ DT W (I64 e) i := by
  obtain ⟨y0, y1, m, _, hl, h0, h1⟩ := trod_struct2 Tryz.underlying26 h
  have hc : Tryz.prog.cellsOf 26 = 3 := by kernel_rfl
  rw [hc] at hl
  match cs, hl with
  | [b, u, i], _ =>
    have e0 : Tryz.prog.cellsOf 24 = 2 := by kernel_rfl
    have e1 : Tryz.prog.cellsOf 3 = 1 := by kernel_rfl
    simp only [e0, e1, List.drop_zero, List.take_succ_cons, List.take_zero, List.drop_succ_cons, List.take_nil] at h0 h1
    obtain ⟨n, l, b', u', hl, he, hb, hu⟩ := trod_int2 h0
    simp only [List.cons.injEq, and_true] at he
    obtain ⟨rfl, rfl⟩ := he
    obtain ⟨e, he, _, hw⟩ := DataW.trod_int Tryz.underlying3 h1
    simp only [List.cons.injEq, and_true] at he
    subst he
    exact ⟨n, l, e, _, _, _, hl, i64_of hw, rfl, hb, hu, .v _⟩
theorem trod_cplx {fuel : Nat} {cs : List Value} {x : DataW H × List MemPlace} (h : DataW.trod enc Tryz.prog W 0 spare held fuel 28 cs = some x) :
    ∃ r : Raw, r.ok ∧ cs.length = 6 ∧ ∀ i, i < 6 → DT W (r.cells.getD i .bad) (cs.getD i undef) := by
  obtain ⟨y0, y1, m, _, hl, h0, h1⟩ := trod_struct2 Tryz.underlying28 h
  have hc : Tryz.prog.cellsOf 28 = 6 := by kernel_rfl
  rw [hc] at hl
  match cs, hl with
  | [c0, c1, c2, c3, c4, c5], _ =>
    have e0 : Tryz.prog.cellsOf 26 = 3 := by kernel_rfl
    simp only [e0, List.drop_zero, List.take_succ_cons, List.take_zero, List.drop_succ_cons, List.take_nil] at h0 h1
    obtain ⟨n, l, e, b, u, i, hl, hr, he, hb, hu, hei⟩ := trod_dyad h0
    obtain ⟨m, k, f, b', u', i', hl', hr', he', hb', hu', hei'⟩ := trod_dyad h1
    simp only [List.cons.injEq, and_true] at he he'
    obtain ⟨rfl, rfl, rfl⟩ := he
    obtain ⟨rfl, rfl, rfl⟩ := he'
    refine ⟨⟨n, l, e, m, k, f⟩, ⟨hl, hl', hr, hr'⟩, rfl, fun i hi => ?_⟩
    match i, hi with
    | 0, _ => exact hb
    | 1, _ => exact hu
    | 2, _ => exact hei
    | 3, _ => exact hb'
    | 4, _ => exact hu'
    | 5, _ => exact hei'
/-- A point that came in. -/
theorem read_cplx {r : Reach} {b0 : Nat} {v : Value} {d : DataW H} {p : List MemPlace} (hv : Value.okWide Tryz.prog W r b0 28 v) (h : DataW.Trod enc Tryz.prog W 0 spare held 28 v d p) : ∃ r : Raw, r.ok ∧ DT W (.agg r.cells) v := by
  obtain ⟨cs, rfl, hsz⟩ := okWide_struct Tryz.underlying28 hv
  obtain ⟨fuel, hf⟩ := h
  obtain ⟨r, hr, hl, hi⟩ := trod_cplx hf
  refine ⟨r, hr, .agg _ _ (by simpa [Value.cells, Raw.cells] using hl.symm) (fun i h6 => ?_)⟩
  have := hi i h6
  simpa [Value.cells, Array.getD_eq_getD_getElem?, List.getD_eq_getElem?_getD] using this
/-- A row of points that came in. -/
theorem read_cplxs {r : Reach} {b0 : Nat} {v : Value} {d : DataW H} {p : List MemPlace} (hv : Value.okWide Tryz.prog W r b0 45 v) (h : DataW.Trod enc Tryz.prog W 0 spare held 45 v d p) :
    ∃ (n : Nat) (F : Nat → Raw), (∀ i, (F i).ok) ∧ n ≤ 9223372036854775807 ∧ DT W (.sl n (qcl n F)) v := by
  obtain ⟨a0, len, cap, rfl⟩ := okWide_slice Tryz.underlying45 hv
  obtain ⟨fuel, hf⟩ := h
  have hz : Raw.ok ⟨false, [], 0, false, [], 0⟩ := ⟨fun x hx => (by cases hx), fun x hx => (by cases hx), by decide, by decide⟩
  have hc : Tryz.prog.cellsOf 28 = 6 := by kernel_rfl
  rcases DataW.trod_slice Tryz.underlying45 hf with ⟨hcs, _⟩ | ⟨a, len', cap', elems, rest, m, _, hcs, _, _, hle, hcap, hlen, hel, _, _⟩
  · simp only [Value.cells, List.cons.injEq, Value.slice.injEq, and_true] at hcs
    obtain ⟨rfl, rfl, rfl⟩ := hcs
    exact ⟨0, fun _ => ⟨false, [], 0, false, [], 0⟩, fun _ => hz, by decide, .sl 0 _ none 0 (fun _ => undef) (Nat.le_refl _) (fun i hi => by rw [qcl0] at hi; simp at hi) (fun i hi => by rw [qcl0] at hi; simp at hi)⟩
  · simp only [Value.cells, List.cons.injEq, Value.slice.injEq, and_true] at hcs
    obtain ⟨rfl, rfl, rfl⟩ := hcs
    have key : ∀ i, ∃ (r : Raw) (cs : List Value), r.ok ∧ (i < len → cs.length = 6 ∧ (∀ j, j < 6 → W.cell? ((a.add (i * 6)).add j) = cs[j]?) ∧ ∀ j, j < 6 → DT W (r.cells.getD j .bad) (cs.getD j undef)) := by
      intro i
      by_cases hi : i < len
      · have h0 := hel i hi
        rw [hc] at h0
        have hE : elems[i]? = some elems[i] := List.getElem?_eq_getElem (by omega)
        rw [hE] at h0
        obtain ⟨cs, hcs, hd⟩ := Option.bind_eq_some_iff.mp h0
        obtain ⟨_, h6, hcell⟩ := World.cells?_some hcs
        obtain ⟨r, hr, _, hrep⟩ := trod_cplx hd
        exact ⟨r, cs, hr, fun _ => ⟨h6, hcell, hrep⟩⟩
      · exact ⟨⟨false, [], 0, false, [], 0⟩, [], hz, fun q => absurd q hi⟩
    let F : Nat → Raw := fun i => Classical.choose (key i)
    have hF : ∀ i, ∃ cs : List Value, (F i).ok ∧ (i < len → cs.length = 6 ∧ (∀ j, j < 6 → W.cell? ((a.add (i * 6)).add j) = cs[j]?) ∧ ∀ j, j < 6 → DT W ((F i).cells.getD j .bad) (cs.getD j undef)) := fun i => Classical.choose_spec (key i)
    have spot : ∀ {ad : Addr} {v : Value} {j : Nat}, W.cell? (ad.add j) = some v → (ad.add j).spot = none := by
      intro ad v j hh
      unfold World.cell? at hh
      split at hh
      · split at hh
        · cases hh
        · rename_i q; simpa using q
      · cases hh
    refine ⟨len, F, fun i => (hF i).choose_spec.1, by unfold maxLen at hcap; omega, ?_⟩
    have hsp : 0 < len → a.spot = none := fun h0 => by
      obtain ⟨cs, _, hh⟩ := hF 0
      obtain ⟨h6, hcell, _⟩ := hh h0
      have hc0 := hcell 0 (by decide)
      rw [List.getElem?_eq_getElem (by omega)] at hc0
      have := spot hc0
      unfold Addr.add at this
      rwa [if_pos rfl, if_pos (Nat.zero_mul 6)] at this
    have cellAt : ∀ s, s < len * 6 → ∃ v, (a.spot = none) ∧ W.cell? ⟨a.block, a.off + s, none⟩ = some v ∧ DT W ((qcl len F).getD s .bad) v := by
      intro s hs
      have hi : s / 6 < len := by omega
      obtain ⟨cs, _, hh⟩ := hF (s / 6)
      obtain ⟨h6, hcell, hrep⟩ := hh hi
      have hj : s % 6 < 6 := Nat.mod_lt _ (by decide)
      have hc1 := hcell (s % 6) hj
      rw [List.getElem?_eq_getElem (by omega)] at hc1
      have hsp := hsp (by omega)
      refine ⟨cs[s % 6], hsp, ?_, ?_⟩
      · rw [← hc1]
        congr 1
        cases a with
        | mk b o sp =>
          simp only at hsp
          subst hsp
          unfold Addr.add
          by_cases e1 : s / 6 * 6 = 0
          · rw [if_pos e1]
            by_cases e2 : s % 6 = 0
            · rw [if_pos e2]; show Addr.mk b (o + s) none = Addr.mk b o none; rw [show s = 0 by omega]; rfl
            · rw [if_neg e2]; show Addr.mk b (o + s) none = Addr.mk b (o + s % 6) none; rw [show o + s = o + s % 6 by omega]
          · rw [if_neg e1]
            by_cases e2 : s % 6 = 0
            · rw [if_pos e2]; show Addr.mk b (o + s) none = Addr.mk b (o + s / 6 * 6) none; rw [show o + s = o + s / 6 * 6 by omega]
            · rw [if_neg e2]; show Addr.mk b (o + s) none = Addr.mk b (o + s / 6 * 6 + s % 6) none; rw [show o + s = o + s / 6 * 6 + s % 6 by omega]
      · have := hrep (s % 6) hj
        have e2 : cs.getD (s % 6) undef = cs[s % 6] := by rw [List.getD_eq_getElem?_getD, List.getElem?_eq_getElem (by omega), Option.getD_some]
        rw [e2] at this
        have e : (qcl len F).getD s .bad = (F (s / 6)).cells.getD (s % 6) .bad := by
          rw [← qcl_el F hi, List.getD_eq_getElem?_getD, List.getD_eq_getElem?_getD, List.getElem?_take, if_pos hj, List.getElem?_drop, show s / 6 * 6 + s % 6 = s by omega]
        rw [e]; exact this
    refine .sl len _ (some a) cap (fun s => if h : s < len * 6 then (cellAt s h).choose else undef) hle (fun s hs => ?_) (fun s hs => ?_)
    · rw [qcl_len] at hs
      have q := (cellAt s hs).choose_spec
      exact ⟨a, rfl, q.1, trivial, by rw [dif_pos hs]; exact q.2.1⟩
    · rw [qcl_len] at hs
      have q := (cellAt s hs).choose_spec
      rw [dif_pos hs]; exact q.2.2
end
end Go.Ab
