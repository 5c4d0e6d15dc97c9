/- How a row of uint8 that came in reads to the abstract machine. -/
import Derived.Test.YtcnhnabmkfagbaaGreatDoorCC
import Derived.Test.YtcnhnabmkfagbaaGreatDoorL0
import Derived.Lib.SmallJoins
set_option linter.unusedVariables false
set_option maxRecDepth 20000
set_option linter.unusedSimpArgs false
namespace Go.Ab
open Go.Proofs Go.Proofs.YtcnhnabmkfagbaaGreatDoor Go.ChangeShapes Go.WideShapes Go.ChangeAt Go.WideMaps Go.WideElems Go.RowKit Go.Joins
theorem read_u8s {H : Type} {enc : TypeId × Value → H} {W : World} {spare : Nat → Bool} {held : Bool} {r : Reach} {b0 : Nat} {v : Value} {d : DataW H} {p : List MemPlace} (hv : Value.okWide Tryz.prog W r b0 47 v) (h : DataW.Trod enc Tryz.prog W 0 spare held 47 v d p) :
    ∃ (n : Nat) (u : Nat → Nat), (∀ i, u i < 256) ∧ DRep (fun _ => True) W (.sl n (ucl u n)) v := by
  obtain ⟨a0, len, cap, rfl⟩ := okWide_slice Tryz.underlying47 hv
  obtain ⟨fuel, hf⟩ := h
  rcases open_ints Tryz.underlying47 Tryz.underlying5 (by kernel_rfl) hf with ⟨hcs, _⟩ | ⟨ad, l, c, zs, hcs, _, hl, hm, hz, _, hcell, hwz⟩
  · simp only [Value.cells, List.cons.injEq, Value.slice.injEq, and_true] at hcs
    obtain ⟨rfl, rfl, rfl⟩ := hcs
    exact ⟨0, fun _ => 0, fun _ => (show (0 : Nat) < 256 by decide), ARep.sl 0 [] none 0 (fun _ => undef) (Nat.le_refl _) (fun i hi => by simp at hi) (fun i hi => by simp at hi)⟩
  · simp only [Value.cells, List.cons.injEq, Value.slice.injEq, and_true] at hcs
    obtain ⟨rfl, rfl, rfl⟩ := hcs
    have hzl : len ≤ zs.length := by rw [hz]; split <;> omega
    have hwf : ∀ n ∈ zs, 0 ≤ n ∧ n ≤ 255 := by
      intro n hn
      have := hwz n hn
      simp only [Lit.wf, Bool.and_eq_true, decide_eq_true_eq, IntKind.min, IntKind.max, IntKind.signed, IntKind.bits] at this
      simp at this
      omega
    have hspot : 0 < zs.length → ad.spot = none := by
      intro h
      have := hcell 0 h
      unfold Addr.add at this
      rw [if_pos rfl] at this
      unfold World.cell? at this
      split at this
      · split at this
        · cases this
        · rename_i q; simpa using q
      · cases this
    have hu : ∀ i, 0 ≤ zs.getD i 0 ∧ zs.getD i 0 ≤ 255 := fun i => by
      rw [List.getD_eq_getElem?_getD]
      by_cases hi : i < zs.length
      · rw [List.getElem?_eq_getElem hi]; exact hwf _ (List.getElem_mem hi)
      · rw [List.getElem?_eq_none (by omega)]; exact ⟨by decide, by decide⟩
    have hz2 : ∀ i, (((zs.getD i 0).toNat : Nat) : Int) = zs.getD i 0 := fun i => Int.toNat_of_nonneg (hu i).1
    refine ⟨len, fun i => (zs.getD i 0).toNat, fun i => by have := hu i; show (zs.getD i 0).toNat < 256; omega, ?_⟩
    refine .sl len _ (some ad) cap (fun i => .int .u8 (zs.getD i 0)) hl (fun i hi => ?_) (fun i hi => ?_)
    · rw [ucl_len] at hi
      refine ⟨ad, rfl, hspot (by omega), trivial, ?_⟩
      have h1 := hcell i (by omega)
      rw [← h1]
      have hs := hspot (by omega)
      unfold Addr.add
      by_cases e : i = 0
      · subst e
        rw [if_pos rfl, Nat.add_zero]
        cases ad; simp at hs; subst hs; rfl
      · rw [if_neg e]
    · rw [ucl_len] at hi
      rw [ucl_get _ hi, hz2]
      exact .v _
end Go.Ab
