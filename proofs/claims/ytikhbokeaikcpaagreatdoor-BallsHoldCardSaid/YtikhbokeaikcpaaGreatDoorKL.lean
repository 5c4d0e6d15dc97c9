/- How rows of discs that came in read to the abstract machine. -/
import Derived.Test.YtikhbokeaikcpaaGreatDoorML
import Derived.Test.YtikhbokeaikcpaaGreatDoorKK
set_option linter.unusedVariables false
set_option maxRecDepth 20000
set_option linter.unusedSimpArgs false
namespace Go.Ab
open Go.Proofs Go.Proofs.YtikhbokeaikcpaaGreatDoor Go.ChangeShapes Go.WideShapes Go.ChangeAt Go.WideMaps Go.WideElems Go.RowKit Go.Joins
def rok (r : RawT) : Prop := r.ok ∧ (-9223372036854775808 ≤ r.q ∧ r.q ≤ 9223372036854775807)
section
variable {H : Type} {enc : TypeId × Value → H} {W : World} {spare : Nat → Bool} {held : Bool}
theorem read_discs {r : Reach} {b0 : Nat} {v : Value} {d : DataW H} {p : List MemPlace} (hv : Value.okWide Tryz.prog W r b0 44 v) (h : DataW.Trod enc Tryz.prog W 0 spare held 44 v d p) :
    ∃ (n : Nat) (F : Nat → RawT), (∀ i, rok (F i)) ∧ n ≤ 9223372036854775807 ∧ DT W (.sl n (tql n F)) v := by
  obtain ⟨a0, len, cap, rfl⟩ := okWide_slice Tryz.underlying44 hv
  obtain ⟨fuel, hf⟩ := h
  have hz : rok ⟨⟨false, [], 0, false, [], 0⟩, false, [], 0⟩ := ⟨⟨⟨fun x hx => (by cases hx), fun x hx => (by cases hx), by decide, by decide⟩, fun x hx => (by cases hx)⟩, by decide⟩
  have hc : Tryz.prog.cellsOf 47 = 9 := by kernel_rfl
  rcases DataW.trod_slice Tryz.underlying44 hf with ⟨hcs, _⟩ | ⟨a, len', cap', elems, rest, m, _, hcs, _, _, hle, hcap, hlen, hel, _, _⟩
  · simp only [Value.cells, List.cons.injEq, Value.slice.injEq, and_true] at hcs
    obtain ⟨rfl, rfl, rfl⟩ := hcs
    exact ⟨0, fun _ => ⟨⟨false, [], 0, false, [], 0⟩, false, [], 0⟩, fun _ => hz, by decide, .sl 0 _ none 0 (fun _ => undef) (Nat.le_refl _) (fun i hi => by rw [tql0] at hi; simp at hi) (fun i hi => by rw [tql0] at hi; simp at hi)⟩
  · simp only [Value.cells, List.cons.injEq, Value.slice.injEq, and_true] at hcs
    obtain ⟨rfl, rfl, rfl⟩ := hcs
    have key : ∀ i, ∃ (r : RawT) (cs : List Value), rok r ∧ (i < len → cs.length = 9 ∧ (∀ j, j < 9 → W.cell? ((a.add (i * 9)).add j) = cs[j]?) ∧ ∀ j, j < 9 → DT W (r.cells.getD j .bad) (cs.getD j undef)) := by
      intro i
      by_cases hi : i < len
      · have h0 := hel i hi
        rw [hc] at h0
        have hE : elems[i]? = some elems[i] := List.getElem?_eq_getElem (by omega)
        rw [hE] at h0
        obtain ⟨cs, hcs, hd⟩ := Option.bind_eq_some_iff.mp h0
        obtain ⟨_, h6, hcell⟩ := World.cells?_some hcs
        obtain ⟨r, hr, hq, _, hrep⟩ := trod_disc hd
        exact ⟨r, cs, ⟨hr, hq⟩, fun _ => ⟨h6, hcell, hrep⟩⟩
      · exact ⟨⟨⟨false, [], 0, false, [], 0⟩, false, [], 0⟩, [], hz, fun q => absurd q hi⟩
    let F : Nat → RawT := fun i => Classical.choose (key i)
    have hF : ∀ i, ∃ cs : List Value, rok (F i) ∧ (i < len → cs.length = 9 ∧ (∀ j, j < 9 → W.cell? ((a.add (i * 9)).add j) = cs[j]?) ∧ ∀ j, j < 9 → DT W ((F i).cells.getD j .bad) (cs.getD j undef)) := fun i => Classical.choose_spec (key i)
    have spot : ∀ {ad : Addr} {v : Value} {j : Nat}, W.cell? (ad.add j) = some v → (ad.add j).spot = none := by
      intro ad v j hh
      unfold World.cell? at hh
      split at hh
      · split at hh
        · cases hh
        · rename_i q; simpa using q
      · cases hh
    refine ⟨len, F, fun i => (hF i).choose_spec.1, by unfold maxLen at hcap; omega, ?_⟩
    have hsp : 0 < len → a.spot = none := fun h0 => by
      obtain ⟨cs, _, hh⟩ := hF 0
      obtain ⟨h6, hcell, _⟩ := hh h0
      have hc0 := hcell 0 (by decide)
      rw [List.getElem?_eq_getElem (by omega)] at hc0
      have := spot hc0
      unfold Addr.add at this
      rwa [if_pos rfl, if_pos (Nat.zero_mul 9)] at this
    have cellAt : ∀ s, s < len * 9 → ∃ v, (a.spot = none) ∧ W.cell? ⟨a.block, a.off + s, none⟩ = some v ∧ DT W ((tql len F).getD s .bad) v := by
      intro s hs
      have hi : s / 9 < len := by omega
      obtain ⟨cs, _, hh⟩ := hF (s / 9)
      obtain ⟨h6, hcell, hrep⟩ := hh hi
      have hj : s % 9 < 9 := Nat.mod_lt _ (by decide)
      have hc1 := hcell (s % 9) hj
      rw [List.getElem?_eq_getElem (by omega)] at hc1
      have hsp := hsp (by omega)
      refine ⟨cs[s % 9], hsp, ?_, ?_⟩
      · rw [← hc1]
        congr 1
        cases a with
        | mk b o sp =>
          simp only at hsp
          subst hsp
          unfold Addr.add
          by_cases e1 : s / 9 * 9 = 0
          · rw [if_pos e1]
            by_cases e2 : s % 9 = 0
            · rw [if_pos e2]; show Addr.mk b (o + s) none = Addr.mk b o none; rw [show s = 0 by omega]; rfl
            · rw [if_neg e2]; show Addr.mk b (o + s) none = Addr.mk b (o + s % 9) none; rw [show o + s = o + s % 9 by omega]
          · rw [if_neg e1]
            by_cases e2 : s % 9 = 0
            · rw [if_pos e2]; show Addr.mk b (o + s) none = Addr.mk b (o + s / 9 * 9) none; rw [show o + s = o + s / 9 * 9 by omega]
            · rw [if_neg e2]; show Addr.mk b (o + s) none = Addr.mk b (o + s / 9 * 9 + s % 9) none; rw [show o + s = o + s / 9 * 9 + s % 9 by omega]
      · have := hrep (s % 9) hj
        have e2 : cs.getD (s % 9) undef = cs[s % 9] := by rw [List.getD_eq_getElem?_getD, List.getElem?_eq_getElem (by omega), Option.getD_some]
        rw [e2] at this
        have e : (tql len F).getD s .bad = (F (s / 9)).cells.getD (s % 9) .bad := by
          rw [← tql_el F hi, List.getD_eq_getElem?_getD, List.getD_eq_getElem?_getD, List.getElem?_take, if_pos hj, List.getElem?_drop, show s / 9 * 9 + s % 9 = s by omega]
        rw [e]; exact this
    refine .sl len _ (some a) cap (fun s => if h : s < len * 9 then (cellAt s h).choose else undef) hle (fun s hs => ?_) (fun s hs => ?_)
    · rw [tql_len] at hs
      have q := (cellAt s hs).choose_spec
      exact ⟨a, rfl, q.1, trivial, by rw [dif_pos hs]; exact q.2.1⟩
    · rw [tql_len] at hs
      have q := (cellAt s hs).choose_spec
      rw [dif_pos hs]; exact q.2.2
end
end Go.Ab
