/- How a row of int8 that came in reads to the abstract machine. -/
import Derived.Test.YtdkdpebfnddfpaaDoorU1
import Derived.Test.YtdkdpebfnddfpaaDoorL0
import Derived.Lib.SmallJoins
set_option linter.unusedVariables false
set_option maxRecDepth 20000
set_option linter.unusedSimpArgs false
namespace Go.Ab
open Go.Proofs Go.Proofs.YtdkdpebfnddfpaaDoor Go.ChangeShapes Go.WideShapes Go.ChangeAt Go.WideMaps Go.WideElems Go.RowKit Go.Joins
theorem read_i8s {H : Type} {enc : TypeId × Value → H} {W : World} {spare : Nat → Bool} {held : Bool} {r : Reach} {b0 : Nat} {v : Value} {d : DataW H} {p : List MemPlace} (hv : Value.okWide Tryd.prog W r b0 54 v) (h : DataW.Trod enc Tryd.prog W 0 spare held 54 v d p) :
    ∃ (n : Nat) (u : Nat → Int), (∀ i, -128 ≤ u i ∧ u i ≤ 127) ∧ DRep (fun _ => True) W (.sl n (icl u n)) v := by
  obtain ⟨a0, len, cap, rfl⟩ := okWide_slice Tryd.underlying54 hv
  obtain ⟨fuel, hf⟩ := h
  rcases open_ints Tryd.underlying54 Tryd.underlying42 (by kernel_rfl) hf with ⟨hcs, _⟩ | ⟨ad, l, c, zs, hcs, _, hl, hm, hz, _, hcell, hwz⟩
  · simp only [Value.cells, List.cons.injEq, Value.slice.injEq, and_true] at hcs
    obtain ⟨rfl, rfl, rfl⟩ := hcs
    exact ⟨0, fun _ => 0, fun _ => (show (-128 : Int) ≤ 0 ∧ (0 : Int) ≤ 127 by decide), ARep.sl 0 [] none 0 (fun _ => undef) (Nat.le_refl _) (fun i hi => by simp at hi) (fun i hi => by simp at hi)⟩
  · simp only [Value.cells, List.cons.injEq, Value.slice.injEq, and_true] at hcs
    obtain ⟨rfl, rfl, rfl⟩ := hcs
    have hzl : len ≤ zs.length := by rw [hz]; split <;> omega
    have hwf : ∀ n ∈ zs, -128 ≤ n ∧ n ≤ 127 := by
      intro n hn
      have := hwz n hn
      simp only [Lit.wf, Bool.and_eq_true, decide_eq_true_eq, IntKind.min, IntKind.max, IntKind.signed, IntKind.bits] at this
      simp at this
      omega
    have hspot : 0 < zs.length → ad.spot = none := by
      intro h
      have := hcell 0 h
      unfold Addr.add at this
      rw [if_pos rfl] at this
      unfold World.cell? at this
      split at this
      · split at this
        · cases this
        · rename_i q; simpa using q
      · cases this
    have hu : ∀ i, -128 ≤ zs.getD i 0 ∧ zs.getD i 0 ≤ 127 := fun i => by
      rw [List.getD_eq_getElem?_getD]
      by_cases hi : i < zs.length
      · rw [List.getElem?_eq_getElem hi]; exact hwf _ (List.getElem_mem hi)
      · rw [List.getElem?_eq_none (by omega)]; exact ⟨by decide, by decide⟩
    refine ⟨len, fun i => zs.getD i 0, hu, ?_⟩
    refine .sl len _ (some ad) cap (fun i => .int .i8 (zs.getD i 0)) hl (fun i hi => ?_) (fun i hi => ?_)
    · rw [icl_len] at hi
      refine ⟨ad, rfl, hspot (by omega), trivial, ?_⟩
      have h1 := hcell i (by omega)
      rw [← h1]
      have hs := hspot (by omega)
      unfold Addr.add
      by_cases e : i = 0
      · subst e
        rw [if_pos rfl, Nat.add_zero]
        cases ad; simp at hs; subst hs; rfl
      · rw [if_neg e]
    · rw [icl_len] at hi
      rw [icl_get _ hi]
      exact .v _
end Go.Ab
