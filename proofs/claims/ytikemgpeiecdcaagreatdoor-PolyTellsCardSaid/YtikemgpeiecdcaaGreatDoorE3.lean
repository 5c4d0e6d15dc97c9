/- Contracts of this seat's functions (of each call: what it answers), walked over the abstract machine, and the laws of numbers that they want. Conditions: those that each theorem states. -/
import Derived.Test.YtikemgpeiecdcaaGreatDoorE2
set_option linter.unusedVariables false
set_option maxRecDepth 20000
set_option linter.unusedSimpArgs false
set_option linter.unusedSectionVars false
namespace Go.Ab
open Go.Proofs
open Cx (zero one)
attribute [-go_sem] appF newsF
variable {a b : AV} {z w : Cx} {B C n m : Nat} {cs ds : List AV} {f g : Po}
theorem x_zI1 {a : Value} : zerosA [a] 1 = [.v a] := rfl
theorem x_zI2 {a : Value} : zerosA [a] 2 = [.v a, .v a] := by simp [zerosA, List.range_succ, Nat.mod_one]
theorem x_zI3 {a : Value} : zerosA [a] 3 = [.v a, .v a, .v a] := by simp [zerosA, List.range_succ, Nat.mod_one]
theorem x_zI4 {a : Value} : zerosA [a] 4 = [.v a, .v a, .v a, .v a] := by simp [zerosA, List.range_succ, Nat.mod_one]
attribute [go_sem] x_zI1 x_zI2 x_zI3 x_zI4
def i64s (L : List Int) : List AV := L.map fun v => .v (.int .i64 v)
theorem i64s_get {L : List Int} {i : Nat} (h : i < L.length) : (i64s L).getD i .bad = I64 (L.getD i 0) := by
  simp [i64s, List.getD_eq_getElem?_getD, h]
theorem isD_i64s (L : List Int) : ∀ c ∈ i64s L, IsD c := fun c hc => by
  simp only [i64s, List.mem_map] at hc
  obtain ⟨v, _, rfl⟩ := hc
  exact .v _
theorem of_h (L : List Int) (hv : ∀ v ∈ L, v.natAbs < 128) (hl : n ≤ 100) (hn : L.length = n) : HSat CT 31 [.sl n (i64s L)] [] (fun a H => ASl 6 a H (pcl n (lpo L)) n) := by
  refine hsat_of annuluslaw11_of.ok annuluslaw11_of.call (by simp) ?_
  have DD := annuluslaw11_of.dr
  simp only [drP, drPx, drR, drS, bodyOf, Tryz.f31, Nat.reduceEqDiff, reduceIte, true_and, and_true] at DD
  have hL : (i64s L).length = n := by simp [i64s, hn]
  simp -implicitDefEqProofs only [go_sem, Nat.reduceAdd, Nat.reduceEqDiff, Nat.reduceLT, reduceIte, reduceCtorEq, Int.reduceLE, Int.reduceLT, Int.reduceEq, Int.reduceAdd, Int.reduceMul, Int.reduceSub, Nat.reduceMul, Nat.reduceSub, Nat.reducePow, Nat.reduceLeDiff, Int.reduceToNat, Tryz.f31, DD, x_app, x_ga0, x_gas, x_gan, Int.cast_ofNat_Int, eq_self, Int.zero_lt_one, Bool.not_false, Bool.not_true, beq_self_eq_true]
  refine loop_of aW0_mono (fun q σ => ∃ sl H i, σ = ⟨sl, H⟩ ∧ q = n - i ∧ i ≤ n ∧ look sl 0 = .sl n (i64s L) ∧ look sl 4 = I64 (i : Nat) ∧ ASl 6 (look sl 3) H (pcl i (lpo L)) i) ?_ (n := n) ⟨_, _, 0, rfl, rfl, Nat.zero_le _, by simp [x_look], by simp [x_look], by simp [x_look, pcl0, ASl.nil]⟩
  rintro q _ ⟨sl, H, i, rfl, rfl, hi, k0, k4, hA⟩
  by_cases hid : i = n
  · subst hid
    simp -implicitDefEqProofs only [go_sem, Nat.reduceAdd, Nat.reduceEqDiff, Nat.reduceLT, reduceIte, reduceCtorEq, Int.reduceLE, Int.reduceLT, Int.reduceEq, Int.reduceAdd, Int.reduceMul, Int.reduceSub, Nat.reduceMul, Nat.reduceSub, Nat.reducePow, Nat.reduceLeDiff, Int.reduceToNat, DD, x_app, x_ga0, x_gas, x_gan, Int.cast_ofNat_Int, eq_self, Int.zero_lt_one, Bool.not_false, Bool.not_true, beq_self_eq_true, k0, k4, Int.lt_irrefl]
    exact hA
  · have c1 : (i : Int) < (n : Int) := by omega
    have ci : IntKind.i64.wrap ((i : Int) + 1) = ((i + 1 : Nat) : Int) := by rw [wrap_id (by omega)]; omega
    have c2 : (0 : Int) ≤ (i : Int) := by omega
    have c3 : i < L.length := by omega
    have hc := i64s_get c3
    have c3' : i < n := by omega
    have hm : L.getD i 0 ∈ L := by rw [List.getD_eq_getElem?_getD, List.getElem?_eq_getElem c3]; exact List.getElem_mem c3
    have q1 := rof_c (L.getD i 0) (hv _ hm)
    have q1 : Sat CT false 32 [I64 (L.getD i 0), I64 0] (CI (lpo L i)) := q1
    simp -implicitDefEqProofs only [go_sem, Nat.reduceAdd, Nat.reduceEqDiff, Nat.reduceLT, reduceIte, reduceCtorEq, Int.reduceLE, Int.reduceLT, Int.reduceEq, Int.reduceAdd, Int.reduceMul, Int.reduceSub, Nat.reduceMul, Nat.reduceSub, Nat.reducePow, Nat.reduceLeDiff, Int.reduceToNat, DD, x_app, x_ga0, x_gas, x_gan, Int.cast_ofNat_Int, eq_self, Int.zero_lt_one, Bool.not_false, Bool.not_true, beq_self_eq_true, k0, k4, ci, c1, c2, c3', hc, hL]
    refine callK_pl annulusref8_Of.call (q1) (pl2 pld_int pld_int) ?_
    simp -implicitDefEqProofs only [go_sem, Nat.reduceAdd, Nat.reduceEqDiff, Nat.reduceLT, reduceIte, reduceCtorEq, Int.reduceLE, Int.reduceLT, Int.reduceEq, Int.reduceAdd, Int.reduceMul, Int.reduceSub, Nat.reduceMul, Nat.reduceSub, Nat.reducePow, Nat.reduceLeDiff, Int.reduceToNat, DD, x_app, x_ga0, x_gas, x_gan, Int.cast_ofNat_Int, eq_self, Int.zero_lt_one, Bool.not_false, Bool.not_true, beq_self_eq_true, k0, k4, ci, c1, c2, c3', hc, hL]
    refine app_step (P := Tryz.prog) tk22 rfl tk29 tk22 rfl rfl (by decide) (n := i) (m := 1) (hA.ext _) (.inl ⟨rfl, x_hget⟩) rfl (by decide) rfl (Nat.le_trans (Nat.mul_le_mul_right _ (show i + 1 ≤ 1000001 by omega)) (by decide)) (by omega) ?_
    intro H' hg hl' hk'
    simp -implicitDefEqProofs only [go_sem, Nat.reduceAdd, Nat.reduceEqDiff, Nat.reduceLT, reduceIte, reduceCtorEq, Int.reduceLE, Int.reduceLT, Int.reduceEq, Int.reduceAdd, Int.reduceMul, Int.reduceSub, Nat.reduceMul, Nat.reduceSub, Nat.reducePow, Nat.reduceLeDiff, Int.reduceToNat, DD, x_app, x_ga0, x_gas, x_gan, Int.cast_ofNat_Int, eq_self, Int.zero_lt_one, Bool.not_false, Bool.not_true, beq_self_eq_true, k0, k4, ci, c1, c2, c3', hc, hL]
    exact ⟨n - (i + 1), by omega, _, _, i + 1, rfl, rfl, by omega, by simp [x_look, k0], by simp [x_look], by simp only [x_look, reduceIte, Nat.reduceEqDiff]; exact ASl.lastP (g := lpo L) hg hl'⟩
theorem of_s (L : List Int) (hv : ∀ v ∈ L, v.natAbs < 128) (hl : n ≤ 100) (hn : L.length = n) : Sat CT false 31 [.sl n (i64s L)] (PA n (lpo L)) := sat_of_hsat (of_h L hv hl hn) (fun a H' q => ret_ASl q)
theorem lpo_at (L : List Int) (k : Nat) : lpo L k = cst (L.getD k 0) := rfl
theorem ev_lpo3 (a b c u : Int) : ev 3 (lpo [a, b, c]) (cst u) = cst ((c * u + b) * u + a) := by
  rw [evS, evS, evS, ev0, Cx.zero_mul, Cx.zero_add]
  show (cst c * cst u + cst b) * cst u + cst a = _
  rw [cst_mul, cst_add, cst_mul, cst_add]
theorem nt_cst (k : Nat) : nt k = cst (k : Int) := nt_dv k
def pK : Po := lpo [-1, 0, 1]
theorem pK_conv : conv (lin (cst 1)) (lin (cst (-1))) = pK := two_roots 1 (-1)
theorem pK_frm : frm (lpo [1, -1]) 2 = pK := by rw [frm_2]; exact pK_conv
theorem pK_4 : pK = lpo [-1, 0, 1, 0] := po_ext (N := 4) ((Sp.lpo [-1, 0, 1]).mono (by decide)) (Sp.lpo [-1, 0, 1, 0]) (fun k hk => by
  match k, hk with
  | 0, _ => rfl
  | 1, _ => rfl
  | 2, _ => rfl
  | 3, _ => rfl)
theorem pK_pq : pq 3 pK (cst 1) = lpo [1, 1] := by
  rw [← pK_conv, conv_fun]
  exact (pq_lin (Sp.lin _) (cst 1)).trans (lin_lpo (-1))
theorem pK_der : der pK = lpo [0, 2] := po_ext (N := 2) ((Sp.lpo [-1, 0, 1]).der) (Sp.lpo [0, 2]) (fun k hk => by
  match k, hk with
  | 0, _ => show nt 1 * cst 0 = cst 0; rw [nt_cst, cst_mul]; rfl
  | 1, _ => show nt 2 * cst 1 = cst 2; rw [nt_cst, cst_mul]; rfl)
theorem pK_shf : shf 3 pK (cst 1) = lpo [0, 2, 1] := by
  rw [← pK_frm, shf_frm, frm_2]
  show conv (lin (cst 1 - cst 1)) (lin (cst (-1) - cst 1)) = _
  rw [cst_sub, cst_sub]
  exact two_roots 0 (-2)
theorem pK_dg : dg 3 pK = 3 := by rw [← pK_frm]; exact dg_frm _ 2
theorem lpo11_dg : dg 3 (lpo [1, 1]) = 2 := by
  rw [dgS, if_pos (show lpo [1, 1] 2 = zero from rfl), dgS, if_neg (show ¬ lpo [1, 1] 1 = zero from cst_ne (by decide))]
theorem lpo00_dg : dg 2 (lpo [0, 0]) = 0 := by
  rw [dgS, if_pos (show lpo [0, 0] 1 = zero from rfl), dgS, if_pos (show lpo [0, 0] 0 = zero from rfl), dg0]
set_option maxRecDepth 100000 in
theorem known11_s  : Sat CT false 4 [] (Bo true) := by
  refine sat_of annuluslaw11_known.ok (by simp) ?_
  have DD := annuluslaw11_known.dr
  simp only [drP, drPx, drR, drS, bodyOf, Tryz.f4, Nat.reduceEqDiff, reduceIte, true_and, and_true] at DD
  have o1 := of_s (n := 2) [1, -1] (by decide) (by decide) rfl
  have o2 := of_s (n := 4) [-1, 0, 1, 0] (by decide) (by decide) rfl
  have o3 := of_s (n := 2) [1, 1] (by decide) (by decide) rfl
  have o4 := of_s (n := 2) [0, 2] (by decide) (by decide) rfl
  have o5 := of_s (n := 3) [0, 2, 1] (by decide) (by decide) rfl
  have o6 := of_s (n := 2) [0, 0] (by decide) (by decide) rfl
  have b1 : PB (lpo [1, -1]) 20 := PB.lpo (by decide)
  have b2 : PB (lpo [-1, 0, 1, 0]) 20 := PB.lpo (by decide)
  have b3 : PB (lpo [1, 1]) 20 := PB.lpo (by decide)
  have b4 : PB (lpo [0, 2]) 20 := PB.lpo (by decide)
  have b5 : PB (lpo [0, 2, 1]) 20 := PB.lpo (by decide)
  have b6 : PB (lpo [0, 0]) 20 := PB.lpo (by decide)
  have bK : PB pK 20 := PB.lpo (by decide)
  have sK : Sp 3 pK := Sp.lpo [-1, 0, 1]
  have rK := RP_P bK sK (by decide)
  have r2 := RP_P (n := 4) b2 (Sp.lpo [-1, 0, 1, 0]) (by decide)
  have r3 := RP_P (n := 2) b3 (Sp.lpo [1, 1]) (by decide)
  have r4 := RP_P (n := 2) b4 (Sp.lpo [0, 2]) (by decide)
  have r5 := RP_P (n := 3) b5 (Sp.lpo [0, 2, 1]) (by decide)
  have r6 := RP_P (n := 2) b6 (Sp.lpo [0, 0]) (by decide)
  have f1 := pfrom_s (n := 2) (cs := pcl 2 (lpo [1, -1])) (B := 20) (lpo [1, -1]) (pcl_len _ _) (fun i hi => by rw [pcl_el _ hi]; exact RC_C (b1 i)) (by decide) (by decide) (by decide)
  rw [pK_frm] at f1
  have k1 := rof_c 1 (by decide)
  have k3 := rof_c 3 (by decide)
  have k8 := rof_c 8 (by decide)
  have c1 := cst_cb (v := 1) (by decide)
  have c3 := cst_cb (v := 3) (by decide)
  have c8 := cst_cb (v := 8) (by decide)
  have p1 := ppart_s rK (RC_C c1) (by decide) (by decide)
  rw [pK_pq, lpo11_dg, show ev 3 pK (cst 1) = cst 0 from ev_lpo3 (-1) 0 1 1] at p1
  have p2 := pdeg_s rK (by decide) (isD_pcl _ _)
  rw [pK_dg] at p2
  have p3 := pdeg_s (RP_P (n := 0) (f := pz) (B := 0) (fun _ => CB.zero 0) (fun _ _ => rfl) (by omega)) (by decide) (isD_pcl _ _)
  rw [dg0] at p3
  have p4 := psame_y rK r2 (by decide) (by decide) (isD_pcl _ _) (isD_pcl _ _) (pK_4)
  have p5 := pat11_s rK (RC_C c3) (by decide)
  rw [show ev 3 pK (cst 3) = cst 8 from ev_lpo3 (-1) 0 1 3] at p5
  have p6 := requal8 c8 (by decide)
  have p7 := psame_y r3 r3 (by decide) (by decide) (isD_pcl _ _) (isD_pcl _ _) (rfl)
  have p8 := rzero_r (RC_C (cst_cb (v := 0) (by decide))) (by decide)
  rw [decide_eq_true (show cst 0 = zero from rfl)] at p8
  have p9 := pderiv_s rK (by decide)
  rw [pK_der] at p9
  have l9 := dg_le 2 (lpo [0, 2])
  have p10 := psame_y (RP_P b4 (dg_sp (n := 2) (Sp.lpo [0, 2])) (by omega)) r4 (by decide) (by decide) (isD_pcl _ _) (isD_pcl _ _) (rfl)
  have p9 : Sat CT false 21 [PA 3 pK] (PA (dg 2 (lpo [0, 2])) (lpo [0, 2])) := p9
  generalize dg 2 (lpo [0, 2]) = D at *
  have p11 := pshift_s rK (RC_C c1) (by decide) (isD_pcl _ _) (by decide)
  rw [pK_dg, pK_shf] at p11
  have p12 := psame_y r5 r5 (by decide) (by decide) (isD_pcl _ _) (isD_pcl _ _) (rfl)
  have p13 := ptrim_s r6 (by decide)
  rw [lpo00_dg, PA_0] at p13
  have w1 : IntKind.i64.wrap ((3 : Int) - 1) = 2 := by decide
  simp -implicitDefEqProofs only [go_sem, Nat.reduceAdd, Nat.reduceEqDiff, Nat.reduceLT, reduceIte, reduceCtorEq, Int.reduceLE, Int.reduceLT, Int.reduceEq, Int.reduceAdd, Int.reduceMul, Int.reduceSub, Nat.reduceMul, Nat.reduceSub, Nat.reducePow, Nat.reduceLeDiff, Int.reduceToNat, Tryz.f4, DD, x_app, x_ga0, x_gas, x_gan, Int.cast_ofNat_Int, eq_self, Int.zero_lt_one, Bool.not_false, Bool.not_true, beq_self_eq_true]
  refine callK_ar annuluslaw11_of.call o1 (.cons (.row (sz := 1) (cs := i64s [1, -1]) (.inr ⟨0, true, rfl, rfl, by simp, rfl⟩) rfl (isD_i64s _)) .nil) rfl ?_
  intro H1 hk1
  have hl1 : H1.length = 1 := hk1.1
  simp -implicitDefEqProofs only [go_sem, Nat.reduceAdd, Nat.reduceEqDiff, Nat.reduceLT, reduceIte, reduceCtorEq, Int.reduceLE, Int.reduceLT, Int.reduceEq, Int.reduceAdd, Int.reduceMul, Int.reduceSub, Nat.reduceMul, Nat.reduceSub, Nat.reducePow, Nat.reduceLeDiff, Int.reduceToNat, DD, x_app, x_ga0, x_gas, x_gan, Int.cast_ofNat_Int, eq_self, Int.zero_lt_one, Bool.not_false, Bool.not_true, beq_self_eq_true]
  refine callK_pl poly_From.call (f1) (pl1 (pld_PA _ _)) ?_
  simp -implicitDefEqProofs only [go_sem, Nat.reduceAdd, Nat.reduceEqDiff, Nat.reduceLT, reduceIte, reduceCtorEq, Int.reduceLE, Int.reduceLT, Int.reduceEq, Int.reduceAdd, Int.reduceMul, Int.reduceSub, Nat.reduceMul, Nat.reduceSub, Nat.reducePow, Nat.reduceLeDiff, Int.reduceToNat, DD, x_app, x_ga0, x_gas, x_gan, Int.cast_ofNat_Int, eq_self, Int.zero_lt_one, Bool.not_false, Bool.not_true, beq_self_eq_true]
  refine callK_pl annulusref8_Of.call (k1) (pl2 pld_int pld_int) ?_
  simp -implicitDefEqProofs only [go_sem, Nat.reduceAdd, Nat.reduceEqDiff, Nat.reduceLT, reduceIte, reduceCtorEq, Int.reduceLE, Int.reduceLT, Int.reduceEq, Int.reduceAdd, Int.reduceMul, Int.reduceSub, Nat.reduceMul, Nat.reduceSub, Nat.reducePow, Nat.reduceLeDiff, Int.reduceToNat, DD, x_app, x_ga0, x_gas, x_gan, Int.cast_ofNat_Int, eq_self, Int.zero_lt_one, Bool.not_false, Bool.not_true, beq_self_eq_true]
  refine callK_pl poly_Part.call (p1) (pl2 (pld_PA _ _) (pld_CI _)) ?_
  simp -implicitDefEqProofs only [go_sem, Nat.reduceAdd, Nat.reduceEqDiff, Nat.reduceLT, reduceIte, reduceCtorEq, Int.reduceLE, Int.reduceLT, Int.reduceEq, Int.reduceAdd, Int.reduceMul, Int.reduceSub, Nat.reduceMul, Nat.reduceSub, Nat.reducePow, Nat.reduceLeDiff, Int.reduceToNat, DD, x_app, x_ga0, x_gas, x_gan, Int.cast_ofNat_Int, eq_self, Int.zero_lt_one, Bool.not_false, Bool.not_true, beq_self_eq_true]
  have g3 : RSl 6 (.own 6 H1.length 0 1) (H1 ++ [⟨CIc (cst 0), true, true⟩]) (CIc (cst 0)) 1 := .inr ⟨_, true, rfl, x_hget, by simp, rfl⟩
  refine callK_pl poly_Degree.call (p2) (pl1 (pld_PA _ _)) ?_
  simp -implicitDefEqProofs only [go_sem, Nat.reduceAdd, Nat.reduceEqDiff, Nat.reduceLT, reduceIte, reduceCtorEq, Int.reduceLE, Int.reduceLT, Int.reduceEq, Int.reduceAdd, Int.reduceMul, Int.reduceSub, Nat.reduceMul, Nat.reduceSub, Nat.reducePow, Nat.reduceLeDiff, Int.reduceToNat, DD, x_app, x_ga0, x_gas, x_gan, Int.cast_ofNat_Int, eq_self, Int.zero_lt_one, Bool.not_false, Bool.not_true, beq_self_eq_true]
  refine callK_ar poly_Degree.call p3 (.cons .none .nil) rfl ?_
  intro H2 hk2
  have g3 := hk2.2 _ _ _ _ g3
  simp -implicitDefEqProofs only [go_sem, Nat.reduceAdd, Nat.reduceEqDiff, Nat.reduceLT, reduceIte, reduceCtorEq, Int.reduceLE, Int.reduceLT, Int.reduceEq, Int.reduceAdd, Int.reduceMul, Int.reduceSub, Nat.reduceMul, Nat.reduceSub, Nat.reducePow, Nat.reduceLeDiff, Int.reduceToNat, DD, x_app, x_ga0, x_gas, x_gan, Int.cast_ofNat_Int, eq_self, Int.zero_lt_one, Bool.not_false, Bool.not_true, beq_self_eq_true]
  refine callK_ar annuluslaw11_of.call o2 (.cons (.row (sz := 1) (cs := i64s [-1, 0, 1, 0]) (.inr ⟨_, true, rfl, x_hget, by simp, rfl⟩) rfl (isD_i64s _)) .nil) rfl ?_
  intro H3 hk3
  have g3 := hk3.2 _ _ _ _ (g3.ext _)
  simp -implicitDefEqProofs only [go_sem, Nat.reduceAdd, Nat.reduceEqDiff, Nat.reduceLT, reduceIte, reduceCtorEq, Int.reduceLE, Int.reduceLT, Int.reduceEq, Int.reduceAdd, Int.reduceMul, Int.reduceSub, Nat.reduceMul, Nat.reduceSub, Nat.reducePow, Nat.reduceLeDiff, Int.reduceToNat, DD, x_app, x_ga0, x_gas, x_gan, Int.cast_ofNat_Int, eq_self, Int.zero_lt_one, Bool.not_false, Bool.not_true, beq_self_eq_true]
  refine callK_pl poly_Same.call (p4) (pl2 (pld_PA _ _) (pld_PA _ _)) ?_
  simp -implicitDefEqProofs only [go_sem, Nat.reduceAdd, Nat.reduceEqDiff, Nat.reduceLT, reduceIte, reduceCtorEq, Int.reduceLE, Int.reduceLT, Int.reduceEq, Int.reduceAdd, Int.reduceMul, Int.reduceSub, Nat.reduceMul, Nat.reduceSub, Nat.reducePow, Nat.reduceLeDiff, Int.reduceToNat, DD, x_app, x_ga0, x_gas, x_gan, Int.cast_ofNat_Int, eq_self, Int.zero_lt_one, Bool.not_false, Bool.not_true, beq_self_eq_true]
  refine callK_pl annulusref8_Of.call (k3) (pl2 pld_int pld_int) ?_
  simp -implicitDefEqProofs only [go_sem, Nat.reduceAdd, Nat.reduceEqDiff, Nat.reduceLT, reduceIte, reduceCtorEq, Int.reduceLE, Int.reduceLT, Int.reduceEq, Int.reduceAdd, Int.reduceMul, Int.reduceSub, Nat.reduceMul, Nat.reduceSub, Nat.reducePow, Nat.reduceLeDiff, Int.reduceToNat, DD, x_app, x_ga0, x_gas, x_gan, Int.cast_ofNat_Int, eq_self, Int.zero_lt_one, Bool.not_false, Bool.not_true, beq_self_eq_true]
  refine callK_pl poly_At.call (p5) (pl2 (pld_PA _ _) (pld_CI _)) ?_
  simp -implicitDefEqProofs only [go_sem, Nat.reduceAdd, Nat.reduceEqDiff, Nat.reduceLT, reduceIte, reduceCtorEq, Int.reduceLE, Int.reduceLT, Int.reduceEq, Int.reduceAdd, Int.reduceMul, Int.reduceSub, Nat.reduceMul, Nat.reduceSub, Nat.reducePow, Nat.reduceLeDiff, Int.reduceToNat, DD, x_app, x_ga0, x_gas, x_gan, Int.cast_ofNat_Int, eq_self, Int.zero_lt_one, Bool.not_false, Bool.not_true, beq_self_eq_true]
  refine callK_pl annulusref8_Of.call (k8) (pl2 pld_int pld_int) ?_
  simp -implicitDefEqProofs only [go_sem, Nat.reduceAdd, Nat.reduceEqDiff, Nat.reduceLT, reduceIte, reduceCtorEq, Int.reduceLE, Int.reduceLT, Int.reduceEq, Int.reduceAdd, Int.reduceMul, Int.reduceSub, Nat.reduceMul, Nat.reduceSub, Nat.reducePow, Nat.reduceLeDiff, Int.reduceToNat, DD, x_app, x_ga0, x_gas, x_gan, Int.cast_ofNat_Int, eq_self, Int.zero_lt_one, Bool.not_false, Bool.not_true, beq_self_eq_true]
  refine callK_pl annulusref8_Equal.call (p6) (pl2 (pld_CI _) (pld_CI _)) ?_
  simp -implicitDefEqProofs only [go_sem, Nat.reduceAdd, Nat.reduceEqDiff, Nat.reduceLT, reduceIte, reduceCtorEq, Int.reduceLE, Int.reduceLT, Int.reduceEq, Int.reduceAdd, Int.reduceMul, Int.reduceSub, Nat.reduceMul, Nat.reduceSub, Nat.reducePow, Nat.reduceLeDiff, Int.reduceToNat, DD, x_app, x_ga0, x_gas, x_gan, Int.cast_ofNat_Int, eq_self, Int.zero_lt_one, Bool.not_false, Bool.not_true, beq_self_eq_true]
  refine callK_ar annuluslaw11_of.call o3 (.cons (.row (sz := 1) (cs := i64s [1, 1]) (.inr ⟨_, true, rfl, x_hget, by simp, rfl⟩) rfl (isD_i64s _)) .nil) rfl ?_
  intro H4 hk4
  have g3 := hk4.2 _ _ _ _ (g3.ext _)
  obtain ⟨w3, g3⟩ : ∃ wr, H4.getD H1.length ⟨[], false, false⟩ = ⟨CIc (cst 0), true, wr⟩ := by
    rcases g3 with ⟨e, _⟩ | ⟨k, wr, e, g, _⟩
    · cases e
    · cases e; exact ⟨wr, g⟩
  simp -implicitDefEqProofs only [go_sem, Nat.reduceAdd, Nat.reduceEqDiff, Nat.reduceLT, reduceIte, reduceCtorEq, Int.reduceLE, Int.reduceLT, Int.reduceEq, Int.reduceAdd, Int.reduceMul, Int.reduceSub, Nat.reduceMul, Nat.reduceSub, Nat.reducePow, Nat.reduceLeDiff, Int.reduceToNat, DD, x_app, x_ga0, x_gas, x_gan, Int.cast_ofNat_Int, eq_self, Int.zero_lt_one, Bool.not_false, Bool.not_true, beq_self_eq_true, g3]
  refine callK_pl poly_Same.call (p7) (pl2 (pld_PA _ _) (pld_PA _ _)) ?_
  simp -implicitDefEqProofs only [go_sem, Nat.reduceAdd, Nat.reduceEqDiff, Nat.reduceLT, reduceIte, reduceCtorEq, Int.reduceLE, Int.reduceLT, Int.reduceEq, Int.reduceAdd, Int.reduceMul, Int.reduceSub, Nat.reduceMul, Nat.reduceSub, Nat.reducePow, Nat.reduceLeDiff, Int.reduceToNat, DD, x_app, x_ga0, x_gas, x_gan, Int.cast_ofNat_Int, eq_self, Int.zero_lt_one, Bool.not_false, Bool.not_true, beq_self_eq_true, g3]
  refine callK_pl annulusref8_Zero.call (p8) (pl1 (pld_CI _)) ?_
  simp -implicitDefEqProofs only [go_sem, Nat.reduceAdd, Nat.reduceEqDiff, Nat.reduceLT, reduceIte, reduceCtorEq, Int.reduceLE, Int.reduceLT, Int.reduceEq, Int.reduceAdd, Int.reduceMul, Int.reduceSub, Nat.reduceMul, Nat.reduceSub, Nat.reducePow, Nat.reduceLeDiff, Int.reduceToNat, DD, x_app, x_ga0, x_gas, x_gan, Int.cast_ofNat_Int, eq_self, Int.zero_lt_one, Bool.not_false, Bool.not_true, beq_self_eq_true]
  refine callK_pl poly_Deriv.call (p9) (pl1 (pld_PA _ _)) ?_
  simp -implicitDefEqProofs only [go_sem, Nat.reduceAdd, Nat.reduceEqDiff, Nat.reduceLT, reduceIte, reduceCtorEq, Int.reduceLE, Int.reduceLT, Int.reduceEq, Int.reduceAdd, Int.reduceMul, Int.reduceSub, Nat.reduceMul, Nat.reduceSub, Nat.reducePow, Nat.reduceLeDiff, Int.reduceToNat, DD, x_app, x_ga0, x_gas, x_gan, Int.cast_ofNat_Int, eq_self, Int.zero_lt_one, Bool.not_false, Bool.not_true, beq_self_eq_true]
  refine callK_ar annuluslaw11_of.call o4 (.cons (.row (sz := 1) (cs := i64s [0, 2]) (.inr ⟨_, true, rfl, x_hget, by simp, rfl⟩) rfl (isD_i64s _)) .nil) rfl ?_
  intro H5 _
  simp -implicitDefEqProofs only [go_sem, Nat.reduceAdd, Nat.reduceEqDiff, Nat.reduceLT, reduceIte, reduceCtorEq, Int.reduceLE, Int.reduceLT, Int.reduceEq, Int.reduceAdd, Int.reduceMul, Int.reduceSub, Nat.reduceMul, Nat.reduceSub, Nat.reducePow, Nat.reduceLeDiff, Int.reduceToNat, DD, x_app, x_ga0, x_gas, x_gan, Int.cast_ofNat_Int, eq_self, Int.zero_lt_one, Bool.not_false, Bool.not_true, beq_self_eq_true]
  refine callK_pl poly_Same.call (p10) (pl2 (pld_PA _ _) (pld_PA _ _)) ?_
  simp -implicitDefEqProofs only [go_sem, Nat.reduceAdd, Nat.reduceEqDiff, Nat.reduceLT, reduceIte, reduceCtorEq, Int.reduceLE, Int.reduceLT, Int.reduceEq, Int.reduceAdd, Int.reduceMul, Int.reduceSub, Nat.reduceMul, Nat.reduceSub, Nat.reducePow, Nat.reduceLeDiff, Int.reduceToNat, DD, x_app, x_ga0, x_gas, x_gan, Int.cast_ofNat_Int, eq_self, Int.zero_lt_one, Bool.not_false, Bool.not_true, beq_self_eq_true]
  refine callK_pl annulusref8_Of.call (k1) (pl2 pld_int pld_int) ?_
  simp -implicitDefEqProofs only [go_sem, Nat.reduceAdd, Nat.reduceEqDiff, Nat.reduceLT, reduceIte, reduceCtorEq, Int.reduceLE, Int.reduceLT, Int.reduceEq, Int.reduceAdd, Int.reduceMul, Int.reduceSub, Nat.reduceMul, Nat.reduceSub, Nat.reducePow, Nat.reduceLeDiff, Int.reduceToNat, DD, x_app, x_ga0, x_gas, x_gan, Int.cast_ofNat_Int, eq_self, Int.zero_lt_one, Bool.not_false, Bool.not_true, beq_self_eq_true]
  refine callK_pl poly_Shift.call (p11) (pl2 (pld_PA _ _) (pld_CI _)) ?_
  simp -implicitDefEqProofs only [go_sem, Nat.reduceAdd, Nat.reduceEqDiff, Nat.reduceLT, reduceIte, reduceCtorEq, Int.reduceLE, Int.reduceLT, Int.reduceEq, Int.reduceAdd, Int.reduceMul, Int.reduceSub, Nat.reduceMul, Nat.reduceSub, Nat.reducePow, Nat.reduceLeDiff, Int.reduceToNat, DD, x_app, x_ga0, x_gas, x_gan, Int.cast_ofNat_Int, eq_self, Int.zero_lt_one, Bool.not_false, Bool.not_true, beq_self_eq_true]
  refine callK_ar annuluslaw11_of.call o5 (.cons (.row (sz := 1) (cs := i64s [0, 2, 1]) (.inr ⟨_, true, rfl, x_hget, by simp, rfl⟩) rfl (isD_i64s _)) .nil) rfl ?_
  intro H6 _
  simp -implicitDefEqProofs only [go_sem, Nat.reduceAdd, Nat.reduceEqDiff, Nat.reduceLT, reduceIte, reduceCtorEq, Int.reduceLE, Int.reduceLT, Int.reduceEq, Int.reduceAdd, Int.reduceMul, Int.reduceSub, Nat.reduceMul, Nat.reduceSub, Nat.reducePow, Nat.reduceLeDiff, Int.reduceToNat, DD, x_app, x_ga0, x_gas, x_gan, Int.cast_ofNat_Int, eq_self, Int.zero_lt_one, Bool.not_false, Bool.not_true, beq_self_eq_true]
  refine callK_pl poly_Same.call (p12) (pl2 (pld_PA _ _) (pld_PA _ _)) ?_
  simp -implicitDefEqProofs only [go_sem, Nat.reduceAdd, Nat.reduceEqDiff, Nat.reduceLT, reduceIte, reduceCtorEq, Int.reduceLE, Int.reduceLT, Int.reduceEq, Int.reduceAdd, Int.reduceMul, Int.reduceSub, Nat.reduceMul, Nat.reduceSub, Nat.reducePow, Nat.reduceLeDiff, Int.reduceToNat, DD, x_app, x_ga0, x_gas, x_gan, Int.cast_ofNat_Int, eq_self, Int.zero_lt_one, Bool.not_false, Bool.not_true, beq_self_eq_true]
  refine callK_ar annuluslaw11_of.call o6 (.cons (.row (sz := 1) (cs := i64s [0, 0]) (.inr ⟨_, true, rfl, x_hget, by simp, rfl⟩) rfl (isD_i64s _)) .nil) rfl ?_
  intro H7 _
  simp -implicitDefEqProofs only [go_sem, Nat.reduceAdd, Nat.reduceEqDiff, Nat.reduceLT, reduceIte, reduceCtorEq, Int.reduceLE, Int.reduceLT, Int.reduceEq, Int.reduceAdd, Int.reduceMul, Int.reduceSub, Nat.reduceMul, Nat.reduceSub, Nat.reducePow, Nat.reduceLeDiff, Int.reduceToNat, DD, x_app, x_ga0, x_gas, x_gan, Int.cast_ofNat_Int, eq_self, Int.zero_lt_one, Bool.not_false, Bool.not_true, beq_self_eq_true]
  refine callK_pl poly_Trim.call (p13) (pl1 (pld_PA _ _)) ?_
  simp -implicitDefEqProofs only [go_sem, Nat.reduceAdd, Nat.reduceEqDiff, Nat.reduceLT, reduceIte, reduceCtorEq, Int.reduceLE, Int.reduceLT, Int.reduceEq, Int.reduceAdd, Int.reduceMul, Int.reduceSub, Nat.reduceMul, Nat.reduceSub, Nat.reducePow, Nat.reduceLeDiff, Int.reduceToNat, DD, x_app, x_ga0, x_gas, x_gan, Int.cast_ofNat_Int, eq_self, Int.zero_lt_one, Bool.not_false, Bool.not_true, beq_self_eq_true]
end Go.Ab
