/- Contracts of this seat's functions (of each call: what it answers), walked over the abstract machine, and the laws of numbers that they want. Conditions: those that each theorem states. -/
import Derived.Test.YtikhbokeaikcpaaGreatDoorK3
import Derived.Test.YtikhbokeaikcpaaGreatDoorE1
set_option linter.unusedVariables false
set_option maxRecDepth 20000
set_option linter.unusedSimpArgs false
set_option linter.unusedSectionVars false
namespace Go.Ab
open Go.Proofs
open Cx (zero one)
attribute [-go_sem] appF newsF
variable {a b : AV} {x y r s t : Dyadic} {z w c d e : Cx} {B C B' C' n m P : Nat} {cs ds : List AV} {u u' : Nat → Cx} {v v' : Nat → Dyadic} {f g : Po}
/-! balls: of the code, the rest; of the document -/
def dvC (u : Nat → Cx) (i : Nat) : Cx := tmz (u (i + 1)) (dv ((i + 1 : Nat) : Int) 0)
def dvR (v : Nat → Dyadic) (i : Nat) : Dyadic := rp (v (i + 1)) * dv ((i + 1 : Nat) : Int) 0
section
attribute [local go_sem] x_takeT x_lenT x_leafT x_cellsTI x_hget2 x_hget3 x_hget4 x_zerA9
set_option maxHeartbeats 1000000 in
theorem bderiv_s (h : RTs cs n u v 296 296) (hcs : ∀ c ∈ cs, IsD c) (hn : n ≤ 1000000) :
    Sat CT false 56 [.sl n cs] (TA (n - 1) (dvC u) (dvR v)) := by
  refine sat_of balls_Deriv.ok (by simp) ?_
  have DD := balls_Deriv.dr
  simp only [drP, drPx, drPt, drR, drS, drT, bodyOf, Tryz.f56, Nat.reduceEqDiff, reduceIte, true_and, and_true] at DD
  have hlen := h.len
  simp -implicitDefEqProofs only [go_sem, simprocAttr, -Int.reducePow, Tryz.f56, DD, x_app, x_ga0, x_gas, x_gan, Int.cast_ofNat_Int, eq_self, Int.zero_lt_one, Bool.not_false, Bool.not_true, beq_self_eq_true]
  refine loop_of aW0_mono (fun q σ => ∃ sl H i, σ = ⟨sl, H⟩ ∧ q = n - i ∧ i ≤ n ∧ look sl 7 = .sl n cs ∧ look sl 8 = I64 (n : Nat) ∧ look sl 9 = I64 (i : Nat) ∧ ASl 9 (look sl 3) H (tls (i - 1) (dvC u) (dvR v)) (i - 1)) ?_ (n := n)
    ⟨_, _, 0, rfl, rfl, Nat.zero_le _, by simp [x_look], by simp [x_look], by simp [x_look], by simp [x_look, tls0, ASl.nil]⟩
  rintro q _ ⟨sl, H, i, rfl, rfl, hi, k7, k8, k9, hA⟩
  by_cases hid : i = n
  · subst hid
    simp -implicitDefEqProofs only [go_sem, simprocAttr, -Int.reducePow, DD, x_app, x_ga0, x_gas, x_gan, Int.cast_ofNat_Int, eq_self, Int.zero_lt_one, Bool.not_false, Bool.not_true, beq_self_eq_true, k7, k8, k9, Int.lt_irrefl]
    have hr := ret_ASt hA
    refine ⟨?_, hr.2⟩
    have h1 := hr.1
    clear hr hA k7 k8 k9
    generalize look sl 3 = av at *
    cases av <;> simp_all [ownOK, own1, hd]
  · have c1 : (i : Int) < (n : Int) := by omega
    have ci : IntKind.i64.wrap ((i : Int) + 1) = ((i + 1 : Nat) : Int) := by rw [wrap_id (by omega)]; omega
    have c2 : (0 : Int) ≤ (i : Int) := by omega
    have c4 : i * 9 < cs.length := by omega
    have c5 : i * 9 + 9 ≤ cs.length := by omega
    obtain ⟨s, l, e, t, kk, gg, o, p, qq, hc, hr⟩ := h.cells (i := i) (by omega)
    by_cases hi0 : i = 0
    · have c6 : ¬ (0 : Int) < (i : Int) := by omega
      simp -implicitDefEqProofs only [go_sem, simprocAttr, -Int.reducePow, DD, x_app, x_ga0, x_gas, x_gan, Int.cast_ofNat_Int, eq_self, Int.zero_lt_one, Bool.not_false, Bool.not_true, beq_self_eq_true, k7, k8, k9, ci, c1, c2, c4, c5, hc, c6, gt_iff_lt]
      exact ⟨n - (i + 1), by omega, _, _, i + 1, rfl, rfl, by omega, by simp [x_look, k7], by simp [x_look, k8], by simp [x_look], by simp only [x_look, reduceIte, Nat.reduceEqDiff]; subst hi0; exact (hA.ext _)⟩
    · have c6 : (0 : Int) < (i : Int) := by omega
      obtain ⟨j, rfl⟩ := pos_of hi0
      have q1 := dofn_sat ((j + 1 : Nat) : Int) (by omega) (by omega)
      obtain ⟨_, _, _, _, _, _, _, _, _, e0, hrc, hrr⟩ := hr.ex
      simp only [AV.agg.injEq, List.cons.injEq, and_true] at e0
      have hrc' : RC (.agg [Bo s, U32 l, I64 e, Bo t, U32 kk, I64 gg]) (u (j + 1)) 296 := by
        obtain ⟨e1, e2, e3, e4, e5, e6, _⟩ := e0
        rw [e1, e2, e3, e4, e5, e6]; exact hrc
      have q2 : Sat CT false 29 [.agg [Bo s, U32 l, I64 e, Bo t, U32 kk, I64 gg], DI (dv ((j + 1 : Nat) : Int) 0)] (CI (dvC u j)) := gtimes_r hrc' (RD_D (dv_small (v := ((j + 1 : Nat) : Int)) (by omega))) (by omega)
      have q3 := dgrow_s hr (by omega) (by omega) ((j + 1 : Nat) : Int) (by omega) (by omega)
      rw [rp_id (nn_mul (rp_nn _) (nat_nn (j + 1))), show rp (v (j + 1)) * dv ((j + 1 : Nat) : Int) 0 = dvR v j from rfl] at q3
      rw [Nat.add_sub_cancel] at hA
      simp -implicitDefEqProofs only [go_sem, simprocAttr, -Int.reducePow, DD, x_app, x_ga0, x_gas, x_gan, Int.cast_ofNat_Int, eq_self, Int.zero_lt_one, Bool.not_false, Bool.not_true, beq_self_eq_true, k7, k8, k9, ci, c1, c2, c4, c5, hc, c6, gt_iff_lt]
      refine callK_pl dyad_Of.call (q1) (pl1 pld_int) ?_
      simp -implicitDefEqProofs only [go_sem, simprocAttr, -Int.reducePow, DD, x_app, x_ga0, x_gas, x_gan, Int.cast_ofNat_Int, eq_self, Int.zero_lt_one, Bool.not_false, Bool.not_true, beq_self_eq_true, k7, k8, k9, ci, c1, c2, c4, c5, hc, c6, gt_iff_lt]
      refine callK_pl gauss_Times.call (q2) (pl2 (pld_RC hrc') (pld_DI _)) ?_
      simp -implicitDefEqProofs only [go_sem, simprocAttr, -Int.reducePow, DD, x_app, x_ga0, x_gas, x_gan, Int.cast_ofNat_Int, eq_self, Int.zero_lt_one, Bool.not_false, Bool.not_true, beq_self_eq_true, k7, k8, k9, ci, c1, c2, c4, c5, hc, c6, gt_iff_lt]
      refine callK_pl disc_Grow.call (q3) (pl2 (pld_RT hr) pld_int) ?_
      simp -implicitDefEqProofs only [go_sem, simprocAttr, -Int.reducePow, DD, x_app, x_ga0, x_gas, x_gan, Int.cast_ofNat_Int, eq_self, Int.zero_lt_one, Bool.not_false, Bool.not_true, beq_self_eq_true, WI, IA, DI, DA, CI, TI, List.take_succ_cons, List.drop_succ_cons, List.drop_zero, List.take_zero, k7, k8, k9, ci, c1, c2, c4, c5, hc, c6, gt_iff_lt]
      refine app_step (P := Tryz.prog) tk44 rfl tk47 tk44 rfl rfl (by decide) (n := j) (m := 1) ((hA.ext _).ext _) (.inl ⟨rfl, x_hget⟩) rfl (by decide) rfl (Nat.le_trans (Nat.mul_le_mul_right _ (show j + 1 ≤ 1000001 by omega)) (by decide)) (by omega) ?_
      intro H' hg hl' hk'
      simp -implicitDefEqProofs only [go_sem, simprocAttr, -Int.reducePow, DD, x_app, x_ga0, x_gas, x_gan, Int.cast_ofNat_Int, eq_self, Int.zero_lt_one, Bool.not_false, Bool.not_true, beq_self_eq_true, k7, k8, k9, ci, c1, c2, c4, c5, hc, c6]
      exact ⟨n - (j + 1 + 1), by omega, _, _, j + 1 + 1, rfl, rfl, by omega, by simp [x_look, k7], by simp [x_look, k8], by simp [x_look], by simp only [x_look, reduceIte, Nat.reduceEqDiff]; exact ASl.lastT (u := dvC u) (v := dvR v) hg hl'⟩
theorem bwide_s (h : RTs cs n u v B 296) (hn : n ≤ 1000000) : Sat CT false 47 [.sl n cs] (DI (wide v n)) := by
  refine sat_of balls_Wide.ok (by simp) ?_
  have DD := balls_Wide.dr
  simp only [drP, drPx, drPt, drR, drS, drT, bodyOf, Tryz.f47, Nat.reduceEqDiff, reduceIte, true_and, and_true] at DD
  have hlen := h.len
  have hvb : ∀ i, i < n → DB (v i) 296 := fun i hi => (h.el i hi).db
  have hwb : ∀ i, i ≤ n → DB (wide v i) 296 := by
    intro i
    induction i with
    | zero => intro _; exact DB.zero _
    | succ i ih =>
      intro hi
      show DB (dmx (wide v i) (v i)) 296
      unfold dmx
      split
      · exact ih (by omega)
      · exact hvb i (by omega)
  simp -implicitDefEqProofs only [go_sem, simprocAttr, -Int.reducePow, Tryz.f47, DD]
  refine loop_of aW0_mono (fun q σ => ∃ sl H i oc, σ = ⟨sl, H⟩ ∧ q = n - i ∧ i ≤ n ∧ look sl 2 = .ptr 0 0 ∧ look sl 3 = .ptr 1 0 ∧ look sl 6 = .sl n cs ∧ look sl 7 = I64 (n : Nat) ∧ look sl 8 = I64 (i : Nat) ∧ 1 < H.length ∧ H.getD 0 ⟨[], false, false⟩ = ⟨zc3, true, true⟩ ∧ H.getD 1 ⟨[], false, false⟩ = ⟨oc, true, true⟩ ∧ (oc = zc3 ∧ wide v i = 0 ∨ oc = dcl (wide v i))) ?_ (n := n)
    ⟨_, _, 0, zc3, rfl, rfl, Nat.zero_le _, by simp [x_look], by simp [x_look], by simp [x_look], by simp [x_look], by simp [x_look], by simp, rfl, rfl, .inl ⟨rfl, rfl⟩⟩
  rintro q _ ⟨sl, H, i, oc, rfl, rfl, hi, k2, k3, k6, k7, k8, hH, hg0, hg1, ho⟩
  by_cases hid : i = n
  · subst hid
    have gs : ∀ x, (H.set 0 x).getD 0 ⟨[], false, false⟩ = x := fun x => by rw [getD_set (by omega), if_pos rfl]
    rcases ho with ⟨rfl, e0⟩ | rfl
    · rw [e0]
      simp -implicitDefEqProofs only [go_sem, simprocAttr, -Int.reducePow, DD, k2, k3, k6, k7, k8, hg0, hg1, Int.lt_irrefl, zc3, gs, z0a, z0b, de0]
      rfl
    · simp -implicitDefEqProofs only [go_sem, simprocAttr, -Int.reducePow, DD, k2, k3, k6, k7, k8, hg0, hg1, Int.lt_irrefl, zc3, dcl, gs]
  · have c1 : (i : Int) < (n : Int) := by omega
    have ci : IntKind.i64.wrap ((i : Int) + 1) = ((i + 1 : Nat) : Int) := by rw [wrap_id (by omega)]; omega
    have c2 : (0 : Int) ≤ (i : Int) := by omega
    have c4 : i * 9 < cs.length := by omega
    have c5 : i * 9 + 9 ≤ cs.length := by omega
    obtain ⟨s, l, e, t, kk, gg, o, p, qq, hc, hr⟩ := h.cells (i := i) (by omega)
    obtain ⟨_, _, _, _, _, _, _, _, _, e0, hrc, hrr⟩ := hr.ex
    simp only [AV.agg.injEq, List.cons.injEq, and_true] at e0
    have hrr' : RD (DA o p qq) (v i) 296 := by
      obtain ⟨e1, e2, e3, e4, e5, e6, e7, e8, e9⟩ := e0
      unfold DA
      rw [e7, e8, e9]; exact hrr
    have g0 : ∀ y, (H ++ [y]).getD 0 ⟨[], false, false⟩ = ⟨zc3, true, true⟩ := fun y => by rw [getD_hp (by omega)]; exact hg0
    have g1 : ∀ y, (H ++ [y]).getD 1 ⟨[], false, false⟩ = ⟨oc, true, true⟩ := fun y => by rw [getD_hp hH]; exact hg1
    have a1 := dmax_r (RD_D (hwb i hi)) hrr' (by decide) (by decide)
    rw [show dmx (wide v i) (v i) = wide v (i + 1) from rfl] at a1
    rcases ho with ⟨rfl, e0⟩ | rfl
    · rw [e0, DI_0] at a1
      simp -implicitDefEqProofs only [go_sem, simprocAttr, -Int.reducePow, DD, k2, k3, k6, k7, k8, c1, c2, c4, c5, ci, hc, g0, g1, zc3, List.take_succ_cons, List.drop_succ_cons, List.drop_zero, List.take_zero]
      refine callK_q dyad_Max.call (a1) rfl rfl ?_
      simp -implicitDefEqProofs only [go_sem, simprocAttr, -Int.reducePow, DD, k2, k3, k6, k7, k8, c1, c2, c4, c5, ci, hc, g0, g1, zc3, List.take_succ_cons, List.drop_succ_cons, List.drop_zero, List.take_zero]
      exact ⟨n - (i + 1), by omega, _, _, i + 1, _, rfl, rfl, by omega, by simp [x_look, k2], by simp [x_look, k3], by simp [x_look, k6], by simp [x_look, k7], by simp [x_look], by simp <;> omega, by rw [getD_set (by simp <;> omega), if_neg (by decide)]; exact g0 _, by (rw [getD_set (by simp <;> omega), if_pos rfl]) <;> rfl, .inr rfl⟩
    · simp -implicitDefEqProofs only [go_sem, simprocAttr, -Int.reducePow, DD, k2, k3, k6, k7, k8, c1, c2, c4, c5, ci, hc, g0, g1, dcl, List.take_succ_cons, List.drop_succ_cons, List.drop_zero, List.take_zero]
      refine callK_q dyad_Max.call (a1) rfl rfl ?_
      simp -implicitDefEqProofs only [go_sem, simprocAttr, -Int.reducePow, DD, k2, k3, k6, k7, k8, c1, c2, c4, c5, ci, hc, g0, g1, dcl, List.take_succ_cons, List.drop_succ_cons, List.drop_zero, List.take_zero]
      exact ⟨n - (i + 1), by omega, _, _, i + 1, _, rfl, rfl, by omega, by simp [x_look, k2], by simp [x_look, k3], by simp [x_look, k6], by simp [x_look, k7], by simp [x_look], by simp <;> omega, by rw [getD_set (by simp <;> omega), if_neg (by decide)]; exact g0 _, by (rw [getD_set (by simp <;> omega), if_pos rfl]) <;> rfl, .inr rfl⟩
theorem fmax_s (hx : DB x B) (hy : DB y C) (hB : B ≤ 19000) (hC : C ≤ 19000) : Sat CT false 44 [DI x, DI y] (DI (dmx x y)) := by
  refine sat_of annulusref4_Max.ok (by simp) ?_
  have DD := annulusref4_Max.dr
  simp only [drP, drPx, drPt, drR, drS, drT, bodyOf, Tryz.f44, Nat.reduceEqDiff, reduceIte, true_and, and_true] at DD
  have k1 := fcmp_s hx hy hB hC
  by_cases h : 0 ≤ (dnum (x - y)).sign
  · rw [show dmx x y = x from if_pos h]
    simp -implicitDefEqProofs only [go_sem, simprocAttr, -Int.reducePow, Tryz.f44, DD, h, ge_iff_le, List.take_succ_cons, List.drop_succ_cons]
    refine callK_q annulusref4_Cmp.call (k1) rfl rfl ?_
    simp -implicitDefEqProofs only [go_sem, simprocAttr, -Int.reducePow, DD, h, ge_iff_le, List.take_succ_cons, List.drop_succ_cons]
  · rw [show dmx x y = y from if_neg h]
    simp -implicitDefEqProofs only [go_sem, simprocAttr, -Int.reducePow, Tryz.f44, DD, h, ge_iff_le, List.take_succ_cons, List.drop_succ_cons]
    refine callK_q annulusref4_Cmp.call (k1) rfl rfl ?_
    simp -implicitDefEqProofs only [go_sem, simprocAttr, -Int.reducePow, DD, h, ge_iff_le, List.take_succ_cons, List.drop_succ_cons]
theorem x_bld9 : (List.map AV.v [Value.bool false, .slice none 0 0, .int .i64 0, .bool false, .slice none 0 0, .int .i64 0, .bool false, .slice none 0 0, .int .i64 0]) = zc9 := rfl
set_option maxHeartbeats 1000000 in
theorem fat_s (h : RTs cs n u v 296 296) (hn : n ≤ 10) (hcb : CB c 296) (hrb : DB r 296) (hrn : 0 ≤ r.toRat) (p : Int) (hp : heldP p ≤ 260) :
    Sat CT false 50 [.sl n cs, TI c r, I64 p] (TI (atC n u c n) (atR n u (fun i => rp (v i)) c r (heldP p) n)) := by
  refine sat_of annulusref11_AtBalls.ok (by simp) ?_
  have DD := annulusref11_AtBalls.dr
  simp only [drP, drPx, drPt, drR, drS, drT, bodyOf, Tryz.f50, Nat.reduceEqDiff, reduceIte, true_and, and_true] at DD
  have hlen := h.len
  have hP1 := (heldP_v p).2.2.1
  have hub : ∀ i, i < n → CB (u i) 296 := fun i hi => (h.el i hi).cb
  have hvb : ∀ i, i < n → DB (rp (v i)) 296 := fun i hi => rp_db (h.el i hi).db
  have hvn : ∀ i, 0 ≤ (rp (v i)).toRat := fun i => rp_nn _
  obtain ⟨P, hPe⟩ : ∃ P, heldP p = P := ⟨_, rfl⟩
  have hp' := hp
  rw [hPe] at hp hP1 ⊢
  have aC : ∀ j, j ≤ n → CB (atC n u c j) 2980 := fun j hj => (atC_cb hub hcb j hj).mono (by omega)
  have aR : ∀ j, j ≤ n → DB (atR n u (fun i => rp (v i)) c r P j) (j * 861) := fun j hj => (atR_db hub hvb hcb hrb hP1 j hj).mono (Nat.mul_le_mul_left j (by omega))
  have aN := atR_nn (n := n) (u := u) (c := c) (v := fun i => rp (v i)) hvn hrn hP1
  have step : ∀ k, k < n → Sat CT false 92 [TI (atC n u c (n - (k + 1))) (atR n u (fun i => rp (v i)) c r P (n - (k + 1))), TI c r, I64 p] (TI (atC n u c (n - (k + 1)) * c) (mrad (atC n u c (n - (k + 1))) (atR n u (fun i => rp (v i)) c r P (n - (k + 1))) c r P)) ∧ Sat CT false 91 [TI (atC n u c (n - (k + 1)) * c) (mrad (atC n u c (n - (k + 1))) (atR n u (fun i => rp (v i)) c r P (n - (k + 1))) c r P), TI (u k) (rp (v k))] (TI (atC n u c (n - k)) (atR n u (fun i => rp (v i)) c r P (n - k))) := by
    intro k hk
    have b1 := aC (n - (k + 1)) (by omega)
    have b2 := (aR (n - (k + 1)) (by omega)).mono (C := 7749) (Nat.le_trans (Nat.mul_le_mul_right _ (show n - (k + 1) ≤ 9 by omega)) (by decide))
    have q1 := fmul_s b1 b2 hcb hrb (by decide) (by decide) (by decide) (by decide) p (by omega) (K := 9000) (by omega) (by omega) (by decide) (by decide)
    have b3 := mrad_db b1 b2 hcb hrb hP1 (K := 9000) (by omega) (by omega) (by decide)
    have b4 := b1.mul hcb
    have q2 := fadd_s (B := 3300) ⟨b4.1.mono (by omega), b4.2.mono (by omega)⟩ b3 (hub k hk) (hvb k hk) (by decide) (by decide) (by decide) (by decide)
    rw [hPe] at q1
    refine ⟨q1, ?_⟩
    have e1 : n - k = n - (k + 1) + 1 := by omega
    have e2 : n - 1 - (n - (k + 1)) = k := by omega
    have e3 : atC n u c (n - k) = atC n u c (n - (k + 1)) * c + u k := by rw [e1]; show _ * c + u (n - 1 - (n - (k + 1))) = _; rw [e2]
    have e4 : atR n u (fun i => rp (v i)) c r P (n - k) = mrad (atC n u c (n - (k + 1))) (atR n u (fun i => rp (v i)) c r P (n - (k + 1))) c r P + rp (v k) := by rw [e1]; show mrad _ _ c r P + rp (v (n - 1 - (n - (k + 1)))) = _; rw [e2]
    rw [e3, e4]
    exact q2
  have cn : IntKind.i64.wrap ((n : Int) - 1) = (n : Int) - 1 := wrap_id (by omega)
  simp -implicitDefEqProofs only [go_sem, simprocAttr, -Int.reducePow, Tryz.f50, DD, x_app, x_ga0, x_gas, x_gan, Int.cast_ofNat_Int, eq_self, Int.zero_lt_one, Bool.not_false, Bool.not_true, beq_self_eq_true, cn, TI_c, x_bld9]
  refine ⟨⟨rfl, rfl⟩, ?_⟩
  refine loop_of aW0_mono (fun q σ => ∃ sl l2, σ = ⟨sl, [⟨tcl c r, true, true⟩, ⟨zc9, true, true⟩, ⟨l2, true, true⟩]⟩ ∧ q ≤ n ∧ look sl 0 = .sl n cs ∧ look sl 2 = I64 p ∧ look sl 4 = .ptr 0 0 ∧ look sl 6 = .ptr 1 0 ∧ look sl 7 = .ptr 2 0 ∧ look sl 8 = I64 ((q : Int) - 1) ∧ Blt l2 (atC n u c (n - q)) (atR n u (fun i => rp (v i)) c r P (n - q))) ?_ (n := n)
    ⟨_, zc9, rfl, Nat.le_refl _, by simp [x_look], by simp [x_look], by simp [x_look], by simp [x_look], by simp [x_look], by simp [x_look], .inr ⟨by rw [Nat.sub_self]; rfl, by rw [Nat.sub_self]; rfl, rfl⟩⟩
  rintro q _ ⟨sl, l2, rfl, hq, k0, k2, k4, k6, k7, k8, hb⟩
  by_cases hr0 : q = 0
  · subst hr0
    rw [Nat.sub_zero] at hb
    have c1 : ¬ (0 : Int) ≤ ((0 : Nat) : Int) - 1 := by omega
    rcases hb with rfl | ⟨h1, h2, rfl⟩
    · simp -implicitDefEqProofs only [go_sem, simprocAttr, -Int.reducePow, DD, x_app, x_ga0, x_gas, x_gan, Int.cast_ofNat_Int, eq_self, Int.zero_lt_one, Bool.not_false, Bool.not_true, beq_self_eq_true, WI, IA, DI, DA, CI, k0, k2, k4, k6, k7, k8, c1, zc9, tcl, TI, ge_iff_le]
    · rw [h1, h2, tcl_0]
      simp -implicitDefEqProofs only [go_sem, simprocAttr, -Int.reducePow, DD, x_app, x_ga0, x_gas, x_gan, Int.cast_ofNat_Int, eq_self, Int.zero_lt_one, Bool.not_false, Bool.not_true, beq_self_eq_true, WI, IA, DI, DA, CI, k0, k2, k4, k6, k7, k8, c1, zc9, ge_iff_le]
  · obtain ⟨k, rfl⟩ := pos_of hr0
    have c1 : ((k + 1 : Nat) : Int) - 1 = (k : Int) := by omega
    rw [c1] at k8
    obtain ⟨s', l', e', t', k', gg', o', p', qq', hc, hr⟩ := h.cells (i := k) (by omega)
    obtain ⟨q1, q2⟩ := step k (by omega)
    have q3 := fdisc_s hr (by decide) (by decide)
    have c2 : (0 : Int) ≤ (k : Int) := by omega
    have c3 : (k : Int) < (n : Int) := by omega
    have c4 : k * 9 < cs.length := by omega
    have c5 : k * 9 + 9 ≤ cs.length := by omega
    have cw : IntKind.i64.wrap ((k : Int) - 1) = (k : Int) - 1 := wrap_id (by omega)
    have hl2 := hb.len
    have ht2 := hb.take
    simp -implicitDefEqProofs only [go_sem, simprocAttr, -Int.reducePow, DD, x_app, x_ga0, x_gas, x_gan, Int.cast_ofNat_Int, eq_self, Int.zero_lt_one, Bool.not_false, Bool.not_true, beq_self_eq_true, k0, k2, k4, k6, k7, k8, c2, c3, c4, c5, cw, hl2, ht2, hc, ge_iff_le]
    refine callK_pr annulusref8_MulDisc.call q1 (.cons hb.plr (.cons (pld_TI _ _).r (.cons pld_int.r .nil))) ?_
    simp -implicitDefEqProofs only [go_sem, simprocAttr, -Int.reducePow, DD, x_app, x_ga0, x_gas, x_gan, Int.cast_ofNat_Int, eq_self, Int.zero_lt_one, Bool.not_false, Bool.not_true, beq_self_eq_true, k0, k2, k4, k6, k7, k8, c2, c3, c4, c5, cw, hl2, ht2, hc, ge_iff_le]
    refine callK_pl annulusref8_Disc.call (q3) (pl1 (pld_RT hr)) ?_
    simp -implicitDefEqProofs only [go_sem, simprocAttr, -Int.reducePow, DD, x_app, x_ga0, x_gas, x_gan, Int.cast_ofNat_Int, eq_self, Int.zero_lt_one, Bool.not_false, Bool.not_true, beq_self_eq_true, k0, k2, k4, k6, k7, k8, c2, c3, c4, c5, cw, hl2, ht2, hc, ge_iff_le]
    refine callK_pl annulusref8_AddDisc.call (q2) (pl2 (pld_TI _ _) (pld_TI _ _)) ?_
    simp -implicitDefEqProofs only [go_sem, simprocAttr, -Int.reducePow, DD, x_app, x_ga0, x_gas, x_gan, Int.cast_ofNat_Int, eq_self, Int.zero_lt_one, Bool.not_false, Bool.not_true, beq_self_eq_true, TI_c, k0, k2, k4, k6, k7, k8, c2, c3, c4, c5, cw, hl2, ht2, hc, ge_iff_le]
    exact ⟨k, by omega, _, _, rfl, by omega, by simp [x_look, k0], by simp [x_look, k2], by simp [x_look, k4], by simp [x_look, k6], by simp [x_look, k7], by simp [x_look], .inl rfl⟩
end
end Go.Ab
