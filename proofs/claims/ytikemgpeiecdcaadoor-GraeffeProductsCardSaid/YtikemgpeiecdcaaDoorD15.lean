/- Contracts of this seat's functions (of each call: what it answers), walked over the abstract machine, and the laws of numbers that they want. Conditions: those that each theorem states. -/
import Derived.Test.YtikemgpeiecdcaaDoorD14
set_option linter.unusedVariables false
set_option maxRecDepth 20000
set_option linter.unusedSimpArgs false
set_option linter.unusedSectionVars false
namespace Go.Ab
open Go.Proofs
open Cx (zero one)
attribute [-go_sem] appF newsF
variable {a b : AV} {z w : Cx} {B C n m : Nat} {cs ds : List AV} {f g : Po}
theorem pcl_set {N i : Nat} {F : Po} (hi : i < N) (v : Cx) : spl (pcl N F) (i * 6) (CIc v) = pcl N (fun s => if s = i then v else F s) := by
  have h := (show MR (pcl N F) N F from ⟨pcl_len N F, fun s hs => .inl (pcl_el F hs)⟩).set hi v
  apply List.ext_getElem?
  intro j
  by_cases hj : j < N * 6
  · have h1 : ((spl (pcl N F) (i * 6) (CIc v)).drop (j / 6 * 6)).take 6 = ((pcl N (fun s => if s = i then v else F s)).drop (j / 6 * 6)).take 6 := by
      rw [pcl_el _ (show j / 6 < N by omega), blk_spl (pcl_len N F) rfl hi]
      by_cases e : j / 6 = i
      · rw [if_pos e, if_pos e]
      · rw [if_neg e, if_neg e, pcl_el F (by omega)]
    have h2 := congrArg (fun l => l[j % 6]?) h1
    simp only [List.getElem?_take, List.getElem?_drop] at h2
    rw [if_pos (by omega), if_pos (by omega), show j / 6 * 6 + j % 6 = j by omega] at h2
    simpa using h2
  · rw [List.getElem?_eq_none (by rw [h.1]; omega), List.getElem?_eq_none (by rw [pcl_len]; omega)]
/-- the first i mirrored -/
def mxi (i : Nat) (f : Po) : Po := fun s => if s < i then mir f s else f s
theorem mxi_0 (f : Po) : mxi 0 f = f := by funext s; exact if_neg (by omega)
theorem mxi_at (i : Nat) (f : Po) : mxi i f i = f i := if_neg (by omega)
theorem mxi_S (i : Nat) (f : Po) (v : Cx) (h : v = mir f i) : (fun s => if s = i then v else mxi i f s) = mxi (i + 1) f := by
  funext s
  show (if s = i then v else if s < i then mir f s else f s) = if s < i + 1 then mir f s else f s
  by_cases e : s = i
  · rw [if_pos e, if_pos (by omega), h, e]
  · rw [if_neg e]
    by_cases e2 : s < i
    · rw [if_pos e2, if_pos (by omega)]
    · rw [if_neg e2, if_neg (by omega)]
theorem mxi_end (n : Nat) (f : Po) : pcl n (mxi n f) = pcl n (mir f) := pcl_congr (fun k hk => if_pos hk)
theorem gmirror_h (h : RP cs n f B) (hB : B ≤ 20000) : HSat CT 21 [.sl n cs] [] (fun a H => ASl 6 a H (pcl (dg n f) (mir f)) (dg n f)) := by
  refine hsat_of graeffe_Mirror.ok graeffe_Mirror.call (by simp) ?_
  have DD := graeffe_Mirror.dr
  simp only [drP, drPx, drR, drS, bodyOf, Tryd.f21, Nat.reduceEqDiff, reduceIte, true_and, and_true] at DD
  have hsm := h.small
  have q0 := ptrim_h h hB
  have hle := dg_le n f
  have hpb := h.pb
  generalize dg n f = d at *
  simp -implicitDefEqProofs only [go_sem, Nat.reduceAdd, Nat.reduceEqDiff, Nat.reduceLT, reduceIte, reduceCtorEq, Int.reduceLE, Int.reduceLT, Int.reduceEq, Int.reduceAdd, Int.reduceMul, Int.reduceSub, Nat.reduceMul, Nat.reduceSub, Nat.reducePow, Nat.reduceLeDiff, Int.reduceToNat, Tryd.f21, DD, x_app, x_ga0, x_gas, x_gan, Int.cast_ofNat_Int, eq_self, Int.zero_lt_one, Bool.not_false, Bool.not_true, beq_self_eq_true]
  refine callK_own q0 (fun r H hr => ?_)
  rcases hr with ⟨rfl, rfl, _⟩ | ⟨k, rfl, hg, hk, hcl⟩
  · simp -implicitDefEqProofs only [go_sem, Nat.reduceAdd, Nat.reduceEqDiff, Nat.reduceLT, reduceIte, reduceCtorEq, Int.reduceLE, Int.reduceLT, Int.reduceEq, Int.reduceAdd, Int.reduceMul, Int.reduceSub, Nat.reduceMul, Nat.reduceSub, Nat.reducePow, Nat.reduceLeDiff, Int.reduceToNat, DD, x_app, x_ga0, x_gas, x_gan, Int.cast_ofNat_Int, eq_self, Int.zero_lt_one, Bool.not_false, Bool.not_true, beq_self_eq_true]
    refine loop_of aW0_mono (fun q σ => ∃ sl, σ = ⟨sl, H⟩ ∧ look sl 3 = .v (.slice none 0 0) ∧ look sl 9 = I64 0 ∧ look sl 10 = I64 0) ?_ (n := 0) ⟨_, rfl, by simp [x_look], by simp [x_look], by simp [x_look]⟩
    rintro q _ ⟨sl, rfl, k3, k9, k10⟩
    simp -implicitDefEqProofs only [go_sem, Nat.reduceAdd, Nat.reduceEqDiff, Nat.reduceLT, reduceIte, reduceCtorEq, Int.reduceLE, Int.reduceLT, Int.reduceEq, Int.reduceAdd, Int.reduceMul, Int.reduceSub, Nat.reduceMul, Nat.reduceSub, Nat.reducePow, Nat.reduceLeDiff, Int.reduceToNat, DD, x_app, x_ga0, x_gas, x_gan, Int.cast_ofNat_Int, eq_self, Int.zero_lt_one, Bool.not_false, Bool.not_true, beq_self_eq_true, k3, k9, k10]
    rw [pcl0]; exact ASl.nil _ _
  · simp -implicitDefEqProofs only [go_sem, Nat.reduceAdd, Nat.reduceEqDiff, Nat.reduceLT, reduceIte, reduceCtorEq, Int.reduceLE, Int.reduceLT, Int.reduceEq, Int.reduceAdd, Int.reduceMul, Int.reduceSub, Nat.reduceMul, Nat.reduceSub, Nat.reducePow, Nat.reduceLeDiff, Int.reduceToNat, DD, x_app, x_ga0, x_gas, x_gan, Int.cast_ofNat_Int, eq_self, Int.zero_lt_one, Bool.not_false, Bool.not_true, beq_self_eq_true]
    refine loop_of aW0_mono (fun q σ => ∃ sl H i, σ = ⟨sl, H⟩ ∧ q = d - i ∧ i ≤ d ∧ look sl 3 = .own 6 k 0 d ∧ look sl 8 = .own 6 k 0 d ∧ look sl 9 = I64 (d : Nat) ∧ look sl 10 = I64 (i : Nat) ∧ k < H.length ∧ H.getD k ⟨[], false, false⟩ = ⟨pcl d (mxi i f), true, true⟩) ?_ (n := d)
      ⟨_, _, 0, rfl, rfl, Nat.zero_le _, by simp [x_look], by simp [x_look], by simp [x_look], by simp [x_look], hk, by rw [mxi_0]; exact hg⟩
    clear hg hk
    rintro q _ ⟨sl, H, i, rfl, rfl, hi, k3, k8, k9, k10, hk, hg⟩
    by_cases hid : i = d
    · subst hid
      simp -implicitDefEqProofs only [go_sem, Nat.reduceAdd, Nat.reduceEqDiff, Nat.reduceLT, reduceIte, reduceCtorEq, Int.reduceLE, Int.reduceLT, Int.reduceEq, Int.reduceAdd, Int.reduceMul, Int.reduceSub, Nat.reduceMul, Nat.reduceSub, Nat.reducePow, Nat.reduceLeDiff, Int.reduceToNat, DD, x_app, x_ga0, x_gas, x_gan, Int.cast_ofNat_Int, eq_self, Int.zero_lt_one, Bool.not_false, Bool.not_true, beq_self_eq_true, k3, k8, k9, k10, Int.lt_irrefl]
      rw [mxi_end] at hg
      exact .inr ⟨k, rfl, hg, hk, pcl_len _ _⟩
    · have c1 : (i : Int) < (d : Int) := by omega
      have ci : IntKind.i64.wrap ((i : Int) + 1) = ((i + 1 : Nat) : Int) := by rw [wrap_id (by omega)]; omega
      have c2 : (0 : Int) ≤ (i : Int) := by omega
      have c4 : i * 6 < d * 6 := by omega
      have c5 : i * 6 + 6 ≤ d * 6 := by omega
      have hL := pcl_len d (mxi i f)
      have hc := pcl_el (mxi i f) (show i < d by omega)
      rw [mxi_at] at hc
      have c6 : ¬ (2 : Int) = 0 := by decide
      have g0 : ∀ y, (H ++ [y]).getD k ⟨[], false, false⟩ = ⟨pcl d (mxi i f), true, true⟩ := fun y => by rw [getD_hp hk]; exact hg
      by_cases he : i % 2 = 1
      · have c7 : ((i % 2 : Nat) : Int) = 1 := by omega
        simp -implicitDefEqProofs only [go_sem, Nat.reduceAdd, Nat.reduceEqDiff, Nat.reduceLT, reduceIte, reduceCtorEq, Int.reduceLE, Int.reduceLT, Int.reduceEq, Int.reduceAdd, Int.reduceMul, Int.reduceSub, Nat.reduceMul, Nat.reduceSub, Nat.reducePow, Nat.reduceLeDiff, Int.reduceToNat, DD, x_app, x_ga0, x_gas, x_gan, Int.cast_ofNat_Int, eq_self, Int.zero_lt_one, Bool.not_false, Bool.not_true, beq_self_eq_true, k3, k8, k9, k10, ci, c1, c2, c4, c5, hL, hc, x_tmod2, c6, hg, g0, c7]
        refine callK_pl gauss_Neg.call (gneg_r (RC_C (hpb i)) hB) (pl1 (pld_CI _)) ?_
        simp -implicitDefEqProofs only [go_sem, Nat.reduceAdd, Nat.reduceEqDiff, Nat.reduceLT, reduceIte, reduceCtorEq, Int.reduceLE, Int.reduceLT, Int.reduceEq, Int.reduceAdd, Int.reduceMul, Int.reduceSub, Nat.reduceMul, Nat.reduceSub, Nat.reducePow, Nat.reduceLeDiff, Int.reduceToNat, DD, x_app, x_ga0, x_gas, x_gan, Int.cast_ofNat_Int, eq_self, Int.zero_lt_one, Bool.not_false, Bool.not_true, beq_self_eq_true, k3, k8, k9, k10, ci, c1, c2, c4, c5, hL, hc, x_tmod2, c6, hg, g0, c7]
        have em : - f i = mir f i := (if_pos he).symm
        exact ⟨d - (i + 1), by omega, _, _, i + 1, rfl, rfl, by omega, by simp [x_look, k3], by simp [x_look, k8], by simp [x_look, k9], by simp [x_look], by simp; omega, by rw [getD_set (by simp; omega), if_pos rfl, pcl_set (by omega), mxi_S i f _ em]⟩
      · have c7 : ¬ ((i % 2 : Nat) : Int) = 1 := by omega
        simp -implicitDefEqProofs only [go_sem, Nat.reduceAdd, Nat.reduceEqDiff, Nat.reduceLT, reduceIte, reduceCtorEq, Int.reduceLE, Int.reduceLT, Int.reduceEq, Int.reduceAdd, Int.reduceMul, Int.reduceSub, Nat.reduceMul, Nat.reduceSub, Nat.reducePow, Nat.reduceLeDiff, Int.reduceToNat, DD, x_app, x_ga0, x_gas, x_gan, Int.cast_ofNat_Int, eq_self, Int.zero_lt_one, Bool.not_false, Bool.not_true, beq_self_eq_true, k3, k8, k9, k10, ci, c1, c2, c4, c5, hL, hc, x_tmod2, c6, hg, g0, c7]
        have em : mxi i f = mxi (i + 1) f := by rw [← mxi_S i f (f i) (if_neg he).symm]; funext s; by_cases e : s = i; rw [if_pos e, e, mxi_at]; rw [if_neg e]
        exact ⟨d - (i + 1), by omega, _, _, i + 1, rfl, rfl, by omega, by simp [x_look, k3], by simp [x_look, k8], by simp [x_look, k9], by simp [x_look], by simp; omega, by rw [← em]; exact g0 _⟩
theorem gmirror_s (h : RP cs n f B) (hB : B ≤ 20000) : Sat CT false 21 [.sl n cs] (PA (dg n f) (mir f)) := sat_of_hsat (gmirror_h h hB) (fun a H' q => ret_ASl q)
end Go.Ab
