/- Contracts of this seat's functions (of each call: what it answers), walked over the abstract machine, and the laws of numbers that they want. Conditions: those that each theorem states. -/
import Derived.Test.YtikhbokeaikcpaaGreatDoorK7
set_option linter.unusedVariables false
set_option maxRecDepth 20000
set_option linter.unusedSimpArgs false
set_option linter.unusedSectionVars false
namespace Go.Ab
open Go.Proofs
open Cx (zero one)
attribute [-go_sem] appF newsF
variable {a b : AV} {x y r s t : Dyadic} {z w c d e : Cx} {B C B' C' n m P : Nat} {cs ds : List AV} {u u' : Nat → Cx} {v v' : Nat → Dyadic} {f g : Po}
/-! the law of what is told of balls -/
def mayQ (i n : Nat) (u : Nat → Cx) (v : Nat → Dyadic) (d : Nat) (f : Po) : Prop := d ≤ n ∧ ∀ j, j < i → hasP (u j) (v j) (f j)
instance (i n : Nat) (u : Nat → Cx) (v : Nat → Dyadic) (d : Nat) (f : Po) : Decidable (mayQ i n u v d f) := by unfold mayQ; exact inferInstance
theorem mq_t {i d : Nat} (h : mayQ i n u v d f) : decide (mayQ (i + 1) n u v d f) = decide (hasP (u i) (v i) (f i)) := decide_eq_decide.2 ⟨fun q => q.2 i (by omega), fun q => ⟨h.1, fun j hj => by
  by_cases e : j = i
  · rw [e]; exact q
  · exact h.2 j (by omega)⟩⟩
theorem mq_f {i d : Nat} (h : ¬ mayQ i n u v d f) : ¬ mayQ (i + 1) n u v d f := fun q => h ⟨q.1, fun j hj => q.2 j (by omega)⟩
theorem mq_end {d : Nat} : decide (mayQ n n u v d f) = decide (mayP n u v d f) := decide_eq_decide.2 Iff.rfl
/-- three cells that read as a number -/
def Bld (l : List AV) (x : Dyadic) : Prop := l = dcl x ∨ (x = 0 ∧ l = zc3)
theorem Bld.plr {l : List AV} (h : Bld l x) : PlR (.agg l) (DI x) := by
  rcases h with rfl | ⟨rfl, rfl⟩
  · exact (pld_DI x).r
  · refine ⟨(pld_DI 0).isd, fun H => by rw [DI_0]; rfl, fun H c hc => ?_, fun H l => rfl⟩
    simp only [zc3, List.mem_cons, List.not_mem_nil, or_false] at hc
    rcases hc with rfl | rfl | rfl <;> trivial
theorem Bld.len {l : List AV} (h : Bld l x) : l.length = 3 := by rcases h with rfl | ⟨_, rfl⟩ <;> rfl
theorem Bld.take {l : List AV} (h : Bld l x) : l.take 3 = l := List.take_of_length_le (Nat.le_of_eq h.len)
theorem dmx_nn (hw : 0 ≤ y.toRat) : 0 ≤ (dmx y x).toRat := by
  unfold dmx
  split
  · exact hw
  · rename_i h
    have h := mt sgn_ge0.2 h
    rw [sgn_nn, Dyadic.toRat_sub] at h
    grind
theorem dmx_rp (hw : 0 ≤ y.toRat) : dmx y (rp x) = dmx y x := by
  by_cases h : (dnum x).sign < 0
  · have e1 : rp x = 0 := if_pos h
    have hx : ¬ 0 ≤ x.toRat := fun q => by
      have := sgn_ge0.2 (sgn_nn.2 q)
      omega
    rw [e1, rp_dmx, rp_id hw]
    unfold dmx
    rw [if_pos]
    rw [sgn_ge0, sgn_nn, Dyadic.toRat_sub]
    grind
  · rw [show rp x = x from if_neg h]
theorem wide_rp (n : Nat) : wide (fun i => rp (v i)) n = wide v n ∧ 0 ≤ (wide v n).toRat := by
  induction n with
  | zero => exact ⟨rfl, by show 0 ≤ (0 : Dyadic).toRat; rw [Dyadic.toRat_zero]; exact Rat.le_refl⟩
  | succ n ih =>
    refine ⟨?_, dmx_nn ih.2⟩
    show dmx (wide (fun i => rp (v i)) n) (rp (v n)) = dmx (wide v n) (v n)
    rw [ih.1, dmx_rp ih.2]
section
attribute [local go_sem] x_takeT x_lenT x_leafT x_hget2 x_hget3 x_hget4 x_zerA9 x_hset2 x_hset3 x_hget5 x_hset4 x_hset5 x_hget6
set_option maxHeartbeats 8000000 in
theorem btell_main {es xc : List AV} {k : Nat} (h : RTs cs n u v 296 296) (hcs : ∀ c ∈ cs, IsD c) (hn : n ≤ 10) (g : RTs ds m u' v' 296 296) (hds : ∀ c ∈ ds, IsD c) (hm : m ≤ 10) (q : RP es k f 296) (hes : ∀ c ∈ es, IsD c) (hk : k ≤ 14) (tX : RT (.agg xc) c r 296 296)
    (f1 : Sat CT false 38 [.sl n cs] (Bo true)) (f2 : Sat CT false 38 [.sl m ds] (Bo true)) (f3 : Sat CT false 39 [.sl k es] (Bo true)) (f4 : Sat CT false 40 [.agg xc] (Bo true)) (b : Int) (hb : ¬ (100 < b ∧ b ≤ 4000)) :
    Sat CT false 4 [.sl n cs, .sl m ds, .sl k es, .agg xc, I64 b] (Bo true) := by
  refine sat_of annuluslaw12_BallsTell.ok (by simp) ?_
  have DD := annuluslaw12_BallsTell.dr
  simp only [drP, drPx, drPt, drR, drS, drT, bodyOf, Tryz.f4, Nat.reduceEqDiff, reduceIte, true_and, and_true] at DD
  have k0 := known12_s
  have qt := rtrim_s q (by decide)
  have hle := dg_le k f
  have hP : heldP (min b 100) ≤ 260 := by unfold heldP; omega
  have r1 := bhas_s h hcs (by omega) q hes (by decide) (by decide) (by decide)
  have r2 := bzero_s h hcs (by omega) (by decide) (by decide)
  have r3 := bwide_s h (by omega)
  have r4 := bat_s h hn tX (min b 100) hP
  have r5 := fdisc_s tX (by decide) (by decide)
  have r6 := fat_s h hn tX.cb (rp_db tX.db) (rp_nn r) (min b 100) hP
  have r7 := sums_s h hcs (by omega) g hds (by omega)
  have r8 := derives_s h hcs (by omega)
  have r9 := ofs_s q hes (by omega)
  have hub : ∀ i, i < n → CB (u i) 296 := fun i hi => (h.el i hi).cb
  have hvb : ∀ i, i < n → DB (rp (v i)) 296 := fun i hi => rp_db (h.el i hi).db
  have hP1 := (heldP_v (min b 100)).2.2.1
  have rA := fequal_y ((atC_cb hub tX.cb n (Nat.le_refl n)).mono (C := 2980) (by omega)) ((atR_db hub hvb tX.cb (rp_db tX.db) hP1 n (Nat.le_refl n)).mono (C := 9000) (Nat.le_trans (Nat.mul_le_mul hn (show heldP (min b 100) + 601 ≤ 861 by omega)) (by decide))) (by decide) (by decide)
  generalize atC n u c n = aC at *
  generalize atR n u (fun i => rp (v i)) c (rp r) (heldP (min b 100)) n = aR at *
  have hwb : ∀ i, i ≤ n → DB (wide (fun i => rp (v i)) i) 296 := by
    intro i
    induction i with
    | zero => intro _; exact DB.zero _
    | succ i ih =>
      intro hi
      show DB (dmx (wide (fun i => rp (v i)) i) (rp (v i))) 296
      unfold dmx
      split
      · exact ih (by omega)
      · exact hvb i (by omega)
  have rB := requal4d (hwb n (Nat.le_refl n)) (hwb n (Nat.le_refl n)) (by decide) (by decide)
  rw [decide_eq_true rfl] at rB
  rw [← (wide_rp n).1] at r3
  have hfb := q.pb
  have hfs := dg_sp q.sp
  have hlen := h.len
  generalize dg k f = d at *
  have hL := pcl_len d f
  have c13 : decide ((d : Int) ≤ (n : Int)) = decide (mayQ 0 n u (fun i => rp (v i)) d f) := decide_eq_decide.2 ⟨fun h => ⟨by omega, fun j hj => by omega⟩, fun h => by have := h.1; omega⟩
  have c14 : true = decide (mayQ 0 n u (fun i => rp (v i)) 0 (fun _ => zero)) := (decide_eq_true ⟨Nat.zero_le n, fun j hj => by omega⟩).symm
  have hpx := pld_RT tX
  obtain ⟨s, l, e, t, kk, gg, o, p, qq, e0, _⟩ := id tX
  obtain rfl := AV.agg.inj e0
  have hq : (100 < b ∧ ¬ b ≤ 4000) ∨ ¬ 100 < b := by omega
  rcases hq with ⟨q41, q42⟩ | q41
  focus
    simp -implicitDefEqProofs only [go_sem, simprocAttr, -Int.reducePow, Tryz.f4, DD, x_app, x_ga0, x_gas, x_gan, Int.cast_ofNat_Int, eq_self, Int.zero_lt_one, Bool.not_false, Bool.not_true, beq_self_eq_true, q41, q42, gt_iff_lt]
    refine callK_q annuluslaw12_known.call (k0) rfl rfl ?_
    simp -implicitDefEqProofs only [go_sem, simprocAttr, -Int.reducePow, DD, x_app, x_ga0, x_gas, x_gan, Int.cast_ofNat_Int, eq_self, Int.zero_lt_one, Bool.not_false, Bool.not_true, beq_self_eq_true, q41, q42, gt_iff_lt]
    refine callK_pl annuluslaw12_fewBalls.call (f1) (pl1 (pld_sl hcs)) ?_
    simp -implicitDefEqProofs only [go_sem, simprocAttr, -Int.reducePow, DD, x_app, x_ga0, x_gas, x_gan, Int.cast_ofNat_Int, eq_self, Int.zero_lt_one, Bool.not_false, Bool.not_true, beq_self_eq_true, q41, q42, gt_iff_lt]
    refine callK_pl annuluslaw12_fewBalls.call (f2) (pl1 (pld_sl hds)) ?_
    simp -implicitDefEqProofs only [go_sem, simprocAttr, -Int.reducePow, DD, x_app, x_ga0, x_gas, x_gan, Int.cast_ofNat_Int, eq_self, Int.zero_lt_one, Bool.not_false, Bool.not_true, beq_self_eq_true, q41, q42, gt_iff_lt]
    refine callK_pl annuluslaw12_few.call (f3) (pl1 (pld_sl hes)) ?_
    simp -implicitDefEqProofs only [go_sem, simprocAttr, -Int.reducePow, DD, x_app, x_ga0, x_gas, x_gan, Int.cast_ofNat_Int, eq_self, Int.zero_lt_one, Bool.not_false, Bool.not_true, beq_self_eq_true, q41, q42, gt_iff_lt]
    refine callK_pl annuluslaw12_fewDisc.call (f4) (pl1 hpx) ?_
    simp -implicitDefEqProofs only [go_sem, simprocAttr, -Int.reducePow, DD, x_app, x_ga0, x_gas, x_gan, Int.cast_ofNat_Int, eq_self, Int.zero_lt_one, Bool.not_false, Bool.not_true, beq_self_eq_true, q41, q42, gt_iff_lt]
    refine callK_pl annulusref11_Trim.call (qt) (pl1 (pld_sl hes)) ?_
    simp -implicitDefEqProofs only [go_sem, simprocAttr, -Int.reducePow, DD, x_app, x_ga0, x_gas, x_gan, Int.cast_ofNat_Int, eq_self, Int.zero_lt_one, Bool.not_false, Bool.not_true, beq_self_eq_true, PA]
  rotate_left
  focus
    simp -implicitDefEqProofs only [go_sem, simprocAttr, -Int.reducePow, Tryz.f4, DD, x_app, x_ga0, x_gas, x_gan, Int.cast_ofNat_Int, eq_self, Int.zero_lt_one, Bool.not_false, Bool.not_true, beq_self_eq_true, q41, gt_iff_lt]
    refine callK_q annuluslaw12_known.call (k0) rfl rfl ?_
    simp -implicitDefEqProofs only [go_sem, simprocAttr, -Int.reducePow, DD, x_app, x_ga0, x_gas, x_gan, Int.cast_ofNat_Int, eq_self, Int.zero_lt_one, Bool.not_false, Bool.not_true, beq_self_eq_true, q41, gt_iff_lt]
    refine callK_pl annuluslaw12_fewBalls.call (f1) (pl1 (pld_sl hcs)) ?_
    simp -implicitDefEqProofs only [go_sem, simprocAttr, -Int.reducePow, DD, x_app, x_ga0, x_gas, x_gan, Int.cast_ofNat_Int, eq_self, Int.zero_lt_one, Bool.not_false, Bool.not_true, beq_self_eq_true, q41, gt_iff_lt]
    refine callK_pl annuluslaw12_fewBalls.call (f2) (pl1 (pld_sl hds)) ?_
    simp -implicitDefEqProofs only [go_sem, simprocAttr, -Int.reducePow, DD, x_app, x_ga0, x_gas, x_gan, Int.cast_ofNat_Int, eq_self, Int.zero_lt_one, Bool.not_false, Bool.not_true, beq_self_eq_true, q41, gt_iff_lt]
    refine callK_pl annuluslaw12_few.call (f3) (pl1 (pld_sl hes)) ?_
    simp -implicitDefEqProofs only [go_sem, simprocAttr, -Int.reducePow, DD, x_app, x_ga0, x_gas, x_gan, Int.cast_ofNat_Int, eq_self, Int.zero_lt_one, Bool.not_false, Bool.not_true, beq_self_eq_true, q41, gt_iff_lt]
    refine callK_pl annuluslaw12_fewDisc.call (f4) (pl1 hpx) ?_
    simp -implicitDefEqProofs only [go_sem, simprocAttr, -Int.reducePow, DD, x_app, x_ga0, x_gas, x_gan, Int.cast_ofNat_Int, eq_self, Int.zero_lt_one, Bool.not_false, Bool.not_true, beq_self_eq_true, q41, gt_iff_lt]
    refine callK_pl annulusref11_Trim.call (qt) (pl1 (pld_sl hes)) ?_
    simp -implicitDefEqProofs only [go_sem, simprocAttr, -Int.reducePow, DD, x_app, x_ga0, x_gas, x_gan, Int.cast_ofNat_Int, eq_self, Int.zero_lt_one, Bool.not_false, Bool.not_true, beq_self_eq_true, PA]
  all_goals
    refine loop_of aW0_mono (fun kq σ => ∃ sl H i oc, σ = ⟨sl, H⟩ ∧ kq = n - i ∧ i ≤ n ∧ look sl 0 = .sl n cs ∧ look sl 1 = .sl m ds ∧ look sl 2 = .sl k es ∧ look sl 8 = .ptr 0 0 ∧ look sl 11 = I64 (min b 100) ∧ look sl 12 = .sl d (pcl d f) ∧ look sl 13 = Bo (decide (mayQ i n u (fun i => rp (v i)) d f)) ∧ look sl 14 = Bo (decide (mayQ i n u (fun i => rp (v i)) 0 (fun _ => zero))) ∧ look sl 15 = .ptr 1 0 ∧ look sl 16 = I64 (i : Nat) ∧ 1 < H.length ∧ H.getD 0 ⟨[], false, false⟩ = ⟨[Bo s, U32 l, I64 e, Bo t, U32 kk, I64 gg, Bo o, U32 p, I64 qq], true, true⟩ ∧ H.getD 1 ⟨[], false, false⟩ = ⟨oc, true, true⟩ ∧ Bld oc (wide (fun i => rp (v i)) i)) ?_ (n := n)
      ⟨_, _, 0, zc3, rfl, rfl, Nat.zero_le _, by simp [x_look], by simp [x_look], by simp [x_look], by simp [x_look], by simp [x_look], by simp [x_look], by simp only [x_look, reduceIte, Nat.reduceEqDiff]; rw [← c13], by simp only [x_look, reduceIte, Nat.reduceEqDiff]; rw [← c14], by simp [x_look], by simp [x_look], by simp, rfl, rfl, .inr ⟨rfl, rfl⟩⟩
    rintro kq _ ⟨sl, H, i, oc, rfl, rfl, hi, k0, k1, k2, k8, k11, k12, k13, k14, k15, k16, hH, hg0, hg1, hoc⟩
    by_cases hid : i = n
    · subst hid
      rw [mq_end] at k13 k14
      have hl3 := hoc.len
      have ht3 := hoc.take
      simp -implicitDefEqProofs only [go_sem, simprocAttr, -Int.reducePow, DD, x_app, x_ga0, x_gas, x_gan, Int.cast_ofNat_Int, eq_self, Int.zero_lt_one, Bool.not_false, Bool.not_true, beq_self_eq_true, k0, k1, k2, k8, k11, k12, k13, k14, k15, k16, Int.lt_irrefl, hg0, hg1, hl3, ht3]
      refine callK_pl balls_Has.call (r1) (pl2 (pld_sl hcs) (pld_sl hes)) ?_
      simp -implicitDefEqProofs only [go_sem, simprocAttr, -Int.reducePow, DD, x_app, x_ga0, x_gas, x_gan, Int.cast_ofNat_Int, eq_self, Int.zero_lt_one, Bool.not_false, Bool.not_true, beq_self_eq_true, k0, k1, k2, k8, k11, k12, k13, k14, k15, k16, hg0, hg1, hl3, ht3, bne_self_eq_false]
      refine callK_pl balls_Zero.call (r2) (pl1 (pld_sl hcs)) ?_
      simp -implicitDefEqProofs only [go_sem, simprocAttr, -Int.reducePow, DD, x_app, x_ga0, x_gas, x_gan, Int.cast_ofNat_Int, eq_self, Int.zero_lt_one, Bool.not_false, Bool.not_true, beq_self_eq_true, k0, k1, k2, k8, k11, k12, k13, k14, k15, k16, hg0, hg1, hl3, ht3, bne_self_eq_false]
      refine callK_pl balls_Wide.call (r3) (pl1 (pld_sl hcs)) ?_
      simp -implicitDefEqProofs only [go_sem, simprocAttr, -Int.reducePow, DD, x_app, x_ga0, x_gas, x_gan, Int.cast_ofNat_Int, eq_self, Int.zero_lt_one, Bool.not_false, Bool.not_true, beq_self_eq_true, k0, k1, k2, k8, k11, k12, k13, k14, k15, k16, hg0, hg1, hl3, ht3, bne_self_eq_false]
      refine callK_pr annulusref4_Equal.call rB (.cons (pld_DI _).r (.cons hoc.plr .nil)) ?_
      simp -implicitDefEqProofs only [go_sem, simprocAttr, -Int.reducePow, DD, x_app, x_ga0, x_gas, x_gan, Int.cast_ofNat_Int, eq_self, Int.zero_lt_one, Bool.not_false, Bool.not_true, beq_self_eq_true, k0, k1, k2, k8, k11, k12, k13, k14, k15, k16, hg0, hg1, hl3, ht3, bne_self_eq_false]
      refine callK_pl balls_At.call (r4) (pl3 (pld_sl hcs) hpx pld_int) ?_
      simp -implicitDefEqProofs only [go_sem, simprocAttr, -Int.reducePow, DD, x_app, x_ga0, x_gas, x_gan, Int.cast_ofNat_Int, eq_self, Int.zero_lt_one, Bool.not_false, Bool.not_true, beq_self_eq_true, k0, k1, k2, k8, k11, k12, k13, k14, k15, k16, hg0, hg1, hl3, ht3]
      refine callK_pl annulusref8_Disc.call (r5) (pl1 hpx) ?_
      simp -implicitDefEqProofs only [go_sem, simprocAttr, -Int.reducePow, DD, x_app, x_ga0, x_gas, x_gan, Int.cast_ofNat_Int, eq_self, Int.zero_lt_one, Bool.not_false, Bool.not_true, beq_self_eq_true, k0, k1, k2, k8, k11, k12, k13, k14, k15, k16, hg0, hg1, hl3, ht3]
      refine callK_pl annulusref11_AtBalls.call (r6) (pl3 (pld_sl hcs) (pld_TI _ _) pld_int) ?_
      simp -implicitDefEqProofs only [go_sem, simprocAttr, -Int.reducePow, DD, x_app, x_ga0, x_gas, x_gan, Int.cast_ofNat_Int, eq_self, Int.zero_lt_one, Bool.not_false, Bool.not_true, beq_self_eq_true, k0, k1, k2, k8, k11, k12, k13, k14, k15, k16, hg0, hg1, hl3, ht3]
      refine callK_pl annulusref8_EqualDisc.call (rA) (pl2 (pld_TI _ _) (pld_TI _ _)) ?_
      simp -implicitDefEqProofs only [go_sem, simprocAttr, -Int.reducePow, DD, x_app, x_ga0, x_gas, x_gan, Int.cast_ofNat_Int, eq_self, Int.zero_lt_one, Bool.not_false, Bool.not_true, beq_self_eq_true, k0, k1, k2, k8, k11, k12, k13, k14, k15, k16, hg0, hg1, hl3, ht3]
      refine callK_pl annuluslaw12_sums.call (r7) (pl2 (pld_sl hcs) (pld_sl hds)) ?_
      simp -implicitDefEqProofs only [go_sem, simprocAttr, -Int.reducePow, DD, x_app, x_ga0, x_gas, x_gan, Int.cast_ofNat_Int, eq_self, Int.zero_lt_one, Bool.not_false, Bool.not_true, beq_self_eq_true, k0, k1, k2, k8, k11, k12, k13, k14, k15, k16, hg0, hg1, hl3, ht3]
      refine callK_pl annuluslaw12_derives.call (r8) (pl1 (pld_sl hcs)) ?_
      simp -implicitDefEqProofs only [go_sem, simprocAttr, -Int.reducePow, DD, x_app, x_ga0, x_gas, x_gan, Int.cast_ofNat_Int, eq_self, Int.zero_lt_one, Bool.not_false, Bool.not_true, beq_self_eq_true, k0, k1, k2, k8, k11, k12, k13, k14, k15, k16, hg0, hg1, hl3, ht3]
      refine callK_pl annuluslaw12_ofs.call (r9) (pl1 (pld_sl hes)) ?_
      simp -implicitDefEqProofs only [go_sem, simprocAttr, -Int.reducePow, DD, x_app, x_ga0, x_gas, x_gan, Int.cast_ofNat_Int, eq_self, Int.zero_lt_one, Bool.not_false, Bool.not_true, beq_self_eq_true, k0, k1, k2, k8, k11, k12, k13, k14, k15, k16, hg0, hg1, hl3, ht3]
    · have c1 : (i : Int) < (n : Int) := by omega
      have c2 : (0 : Int) ≤ (i : Int) := by omega
      have c3 : IntKind.i64.wrap ((i : Int) + 1) = ((i + 1 : Nat) : Int) := by rw [wrap_id (by omega)]; omega
      have c4 : i * 9 < cs.length := by omega
      have c5 : i * 9 + 9 ≤ cs.length := by omega
      obtain ⟨s', l', e', t', kk', gg', o', p', qq', hc, hr⟩ := h.cells (i := i) (by omega)
      have q1 := fdisc_s hr (by decide) (by decide)
      have q2 := fholds_s (hub i (by omega)) (hvb i (by omega)) (hfb i) (by decide) (by decide) (by decide)
      have q3 := fholds_s (hub i (by omega)) (hvb i (by omega)) (CB.zero 0) (by decide) (by decide) (by decide)
      have q4 : Sat CT false 44 [DI (wide (fun i => rp (v i)) i), DI (rp (v i))] (DI (wide (fun i => rp (v i)) (i + 1))) := fmax_s (hwb i (by omega)) (hvb i (by omega)) (by decide) (by decide)
      have g0 : ∀ x y, ((H ++ [x]) ++ [y]).getD 0 ⟨[], false, false⟩ = ⟨[Bo s, U32 l, I64 e, Bo t, U32 kk, I64 gg, Bo o, U32 p, I64 qq], true, true⟩ := fun x y => by rw [getD_hp (by simp), getD_hp (by omega)]; exact hg0
      have g1 : ∀ x y, ((H ++ [x]) ++ [y]).getD 1 ⟨[], false, false⟩ = ⟨oc, true, true⟩ := fun x y => by rw [getD_hp (by simp; omega), getD_hp (by omega)]; exact hg1
      have hl3 := hoc.len
      have ht3 := hoc.take
      by_cases m13 : mayQ i n u (fun i => rp (v i)) d f
      · by_cases m14 : mayQ i n u (fun i => rp (v i)) 0 (fun _ => zero)
        · by_cases hid2 : i < d
          · rw [decide_eq_true m13] at k13
            rw [decide_eq_true m14] at k14
            have d1 : (i : Int) < (d : Int) := by omega
            have d4 : i * 6 < d * 6 := by omega
            have d5 : i * 6 + 6 ≤ d * 6 := by omega
            have hc2 := pcl_el f hid2
            simp -implicitDefEqProofs only [go_sem, simprocAttr, -Int.reducePow, DD, x_app, x_ga0, x_gas, x_gan, Int.cast_ofNat_Int, eq_self, Int.zero_lt_one, Bool.not_false, Bool.not_true, beq_self_eq_true, k0, k1, k2, k8, k11, k12, k13, k14, k15, k16, c1, c2, c3, c4, c5, hc, g0, g1, hl3, ht3, d1, hL, d4, d5, hc2]
            refine callK_pl annulusref8_Disc.call (q1) (pl1 (pld_RT hr)) ?_
            simp -implicitDefEqProofs only [go_sem, simprocAttr, -Int.reducePow, DD, x_app, x_ga0, x_gas, x_gan, Int.cast_ofNat_Int, eq_self, Int.zero_lt_one, Bool.not_false, Bool.not_true, beq_self_eq_true, k0, k1, k2, k8, k11, k12, k13, k14, k15, k16, c1, c2, c3, c4, c5, hc, g0, g1, hl3, ht3, d1, hL, d4, d5, hc2, TI_c]
            refine callK_pr annulusref8_Holds.call q2 (.cons (pld_TI _ _).r (.cons (pld_CI _).r .nil)) ?_
            simp -implicitDefEqProofs only [go_sem, simprocAttr, -Int.reducePow, DD, x_app, x_ga0, x_gas, x_gan, Int.cast_ofNat_Int, eq_self, Int.zero_lt_one, Bool.not_false, Bool.not_true, beq_self_eq_true, k0, k1, k2, k8, k11, k12, k13, k14, k15, k16, c1, c2, c3, c4, c5, hc, g0, g1, hl3, ht3, d1, hL, d4, d5, hc2]
            refine callK_pr annulusref8_Holds.call q3 (.cons (pld_TI _ _).r (.cons (Blk.plr (.inr ⟨rfl, rfl⟩)) .nil)) ?_
            simp -implicitDefEqProofs only [go_sem, simprocAttr, -Int.reducePow, DD, x_app, x_ga0, x_gas, x_gan, Int.cast_ofNat_Int, eq_self, Int.zero_lt_one, Bool.not_false, Bool.not_true, beq_self_eq_true, k0, k1, k2, k8, k11, k12, k13, k14, k15, k16, c1, c2, c3, c4, c5, hc, g0, g1, hl3, ht3, d1, hL, d4, d5, hc2, tcl, List.take_succ_cons, List.drop_succ_cons, List.take_zero, List.drop_zero]
            refine callK_pr annulusref4_Max.call q4 (.cons hoc.plr (.cons (pld_DI (rp (v i))).r .nil)) ?_
            simp -implicitDefEqProofs only [go_sem, simprocAttr, -Int.reducePow, DD, x_app, x_ga0, x_gas, x_gan, Int.cast_ofNat_Int, eq_self, Int.zero_lt_one, Bool.not_false, Bool.not_true, beq_self_eq_true, k0, k1, k2, k8, k11, k12, k13, k14, k15, k16, c1, c2, c3, c4, c5, hc, g0, g1, hl3, ht3, d1, hL, d4, d5, hc2, DI, DA]
            exact ⟨n - (i + 1), by omega, _, _, i + 1, _, rfl, rfl, by omega, by simp [x_look, k0], by simp [x_look, k1], by simp [x_look, k2], by simp [x_look, k8], by simp [x_look, k11], by simp [x_look, k12], by simp only [x_look, reduceIte, Nat.reduceEqDiff]; rw [mq_t m13], by simp only [x_look, reduceIte, Nat.reduceEqDiff]; rw [mq_t m14], by simp [x_look, k15], by simp [x_look], by simp <;> omega, by rw [getD_set (by simp <;> omega), if_neg (by decide)]; exact g0 _ _, by (rw [getD_set (by simp <;> omega), if_pos rfl]) <;> rfl, .inl rfl⟩
          · rw [decide_eq_true m13] at k13
            rw [decide_eq_true m14] at k14
            have d1 : ¬ (i : Int) < (d : Int) := by omega
            have e0 : f i = zero := hfs i (by omega)
            simp -implicitDefEqProofs only [go_sem, simprocAttr, -Int.reducePow, DD, x_app, x_ga0, x_gas, x_gan, Int.cast_ofNat_Int, eq_self, Int.zero_lt_one, Bool.not_false, Bool.not_true, beq_self_eq_true, k0, k1, k2, k8, k11, k12, k13, k14, k15, k16, c1, c2, c3, c4, c5, hc, g0, g1, hl3, ht3, d1, hL]
            refine callK_pl annulusref8_Disc.call (q1) (pl1 (pld_RT hr)) ?_
            simp -implicitDefEqProofs only [go_sem, simprocAttr, -Int.reducePow, DD, x_app, x_ga0, x_gas, x_gan, Int.cast_ofNat_Int, eq_self, Int.zero_lt_one, Bool.not_false, Bool.not_true, beq_self_eq_true, k0, k1, k2, k8, k11, k12, k13, k14, k15, k16, c1, c2, c3, c4, c5, hc, g0, g1, hl3, ht3, d1, hL, TI_c]
            refine callK_pr annulusref8_Holds.call q2 (.cons (pld_TI _ _).r (.cons (Blk.plr (.inr ⟨e0, rfl⟩)) .nil)) ?_
            simp -implicitDefEqProofs only [go_sem, simprocAttr, -Int.reducePow, DD, x_app, x_ga0, x_gas, x_gan, Int.cast_ofNat_Int, eq_self, Int.zero_lt_one, Bool.not_false, Bool.not_true, beq_self_eq_true, k0, k1, k2, k8, k11, k12, k13, k14, k15, k16, c1, c2, c3, c4, c5, hc, g0, g1, hl3, ht3, d1, hL]
            refine callK_pr annulusref8_Holds.call q3 (.cons (pld_TI _ _).r (.cons (Blk.plr (.inr ⟨rfl, rfl⟩)) .nil)) ?_
            simp -implicitDefEqProofs only [go_sem, simprocAttr, -Int.reducePow, DD, x_app, x_ga0, x_gas, x_gan, Int.cast_ofNat_Int, eq_self, Int.zero_lt_one, Bool.not_false, Bool.not_true, beq_self_eq_true, k0, k1, k2, k8, k11, k12, k13, k14, k15, k16, c1, c2, c3, c4, c5, hc, g0, g1, hl3, ht3, d1, hL, tcl, List.take_succ_cons, List.drop_succ_cons, List.take_zero, List.drop_zero]
            refine callK_pr annulusref4_Max.call q4 (.cons hoc.plr (.cons (pld_DI (rp (v i))).r .nil)) ?_
            simp -implicitDefEqProofs only [go_sem, simprocAttr, -Int.reducePow, DD, x_app, x_ga0, x_gas, x_gan, Int.cast_ofNat_Int, eq_self, Int.zero_lt_one, Bool.not_false, Bool.not_true, beq_self_eq_true, k0, k1, k2, k8, k11, k12, k13, k14, k15, k16, c1, c2, c3, c4, c5, hc, g0, g1, hl3, ht3, d1, hL, DI, DA]
            exact ⟨n - (i + 1), by omega, _, _, i + 1, _, rfl, rfl, by omega, by simp [x_look, k0], by simp [x_look, k1], by simp [x_look, k2], by simp [x_look, k8], by simp [x_look, k11], by simp [x_look, k12], by simp only [x_look, reduceIte, Nat.reduceEqDiff]; rw [mq_t m13], by simp only [x_look, reduceIte, Nat.reduceEqDiff]; rw [mq_t m14], by simp [x_look, k15], by simp [x_look], by simp <;> omega, by rw [getD_set (by simp <;> omega), if_neg (by decide)]; exact g0 _ _, by (rw [getD_set (by simp <;> omega), if_pos rfl]) <;> rfl, .inl rfl⟩
        · by_cases hid2 : i < d
          · rw [decide_eq_true m13] at k13
            rw [decide_eq_false m14] at k14
            have d1 : (i : Int) < (d : Int) := by omega
            have d4 : i * 6 < d * 6 := by omega
            have d5 : i * 6 + 6 ≤ d * 6 := by omega
            have hc2 := pcl_el f hid2
            simp -implicitDefEqProofs only [go_sem, simprocAttr, -Int.reducePow, DD, x_app, x_ga0, x_gas, x_gan, Int.cast_ofNat_Int, eq_self, Int.zero_lt_one, Bool.not_false, Bool.not_true, beq_self_eq_true, k0, k1, k2, k8, k11, k12, k13, k14, k15, k16, c1, c2, c3, c4, c5, hc, g0, g1, hl3, ht3, d1, hL, d4, d5, hc2]
            refine callK_pl annulusref8_Disc.call (q1) (pl1 (pld_RT hr)) ?_
            simp -implicitDefEqProofs only [go_sem, simprocAttr, -Int.reducePow, DD, x_app, x_ga0, x_gas, x_gan, Int.cast_ofNat_Int, eq_self, Int.zero_lt_one, Bool.not_false, Bool.not_true, beq_self_eq_true, k0, k1, k2, k8, k11, k12, k13, k14, k15, k16, c1, c2, c3, c4, c5, hc, g0, g1, hl3, ht3, d1, hL, d4, d5, hc2, TI_c]
            refine callK_pr annulusref8_Holds.call q2 (.cons (pld_TI _ _).r (.cons (pld_CI _).r .nil)) ?_
            simp -implicitDefEqProofs only [go_sem, simprocAttr, -Int.reducePow, DD, x_app, x_ga0, x_gas, x_gan, Int.cast_ofNat_Int, eq_self, Int.zero_lt_one, Bool.not_false, Bool.not_true, beq_self_eq_true, k0, k1, k2, k8, k11, k12, k13, k14, k15, k16, c1, c2, c3, c4, c5, hc, g0, g1, hl3, ht3, d1, hL, d4, d5, hc2]
            try simp -implicitDefEqProofs only [go_sem, simprocAttr, -Int.reducePow, DD, x_app, x_ga0, x_gas, x_gan, Int.cast_ofNat_Int, eq_self, Int.zero_lt_one, Bool.not_false, Bool.not_true, beq_self_eq_true, k0, k1, k2, k8, k11, k12, k13, k14, k15, k16, c1, c2, c3, c4, c5, hc, g0, g1, hl3, ht3, d1, hL, d4, d5, hc2, tcl, List.take_succ_cons, List.drop_succ_cons, List.take_zero, List.drop_zero]
            refine callK_pr annulusref4_Max.call q4 (.cons hoc.plr (.cons (pld_DI (rp (v i))).r .nil)) ?_
            simp -implicitDefEqProofs only [go_sem, simprocAttr, -Int.reducePow, DD, x_app, x_ga0, x_gas, x_gan, Int.cast_ofNat_Int, eq_self, Int.zero_lt_one, Bool.not_false, Bool.not_true, beq_self_eq_true, k0, k1, k2, k8, k11, k12, k13, k14, k15, k16, c1, c2, c3, c4, c5, hc, g0, g1, hl3, ht3, d1, hL, d4, d5, hc2, DI, DA]
            exact ⟨n - (i + 1), by omega, _, _, i + 1, _, rfl, rfl, by omega, by simp [x_look, k0], by simp [x_look, k1], by simp [x_look, k2], by simp [x_look, k8], by simp [x_look, k11], by simp [x_look, k12], by simp only [x_look, reduceIte, Nat.reduceEqDiff]; rw [mq_t m13], by simp only [x_look, reduceIte, Nat.reduceEqDiff]; rw [decide_eq_false (mq_f m14)], by simp [x_look, k15], by simp [x_look], by simp <;> omega, by rw [getD_set (by simp <;> omega), if_neg (by decide)]; exact g0 _ _, by (rw [getD_set (by simp <;> omega), if_pos rfl]) <;> rfl, .inl rfl⟩
          · rw [decide_eq_true m13] at k13
            rw [decide_eq_false m14] at k14
            have d1 : ¬ (i : Int) < (d : Int) := by omega
            have e0 : f i = zero := hfs i (by omega)
            simp -implicitDefEqProofs only [go_sem, simprocAttr, -Int.reducePow, DD, x_app, x_ga0, x_gas, x_gan, Int.cast_ofNat_Int, eq_self, Int.zero_lt_one, Bool.not_false, Bool.not_true, beq_self_eq_true, k0, k1, k2, k8, k11, k12, k13, k14, k15, k16, c1, c2, c3, c4, c5, hc, g0, g1, hl3, ht3, d1, hL]
            refine callK_pl annulusref8_Disc.call (q1) (pl1 (pld_RT hr)) ?_
            simp -implicitDefEqProofs only [go_sem, simprocAttr, -Int.reducePow, DD, x_app, x_ga0, x_gas, x_gan, Int.cast_ofNat_Int, eq_self, Int.zero_lt_one, Bool.not_false, Bool.not_true, beq_self_eq_true, k0, k1, k2, k8, k11, k12, k13, k14, k15, k16, c1, c2, c3, c4, c5, hc, g0, g1, hl3, ht3, d1, hL, TI_c]
            refine callK_pr annulusref8_Holds.call q2 (.cons (pld_TI _ _).r (.cons (Blk.plr (.inr ⟨e0, rfl⟩)) .nil)) ?_
            simp -implicitDefEqProofs only [go_sem, simprocAttr, -Int.reducePow, DD, x_app, x_ga0, x_gas, x_gan, Int.cast_ofNat_Int, eq_self, Int.zero_lt_one, Bool.not_false, Bool.not_true, beq_self_eq_true, k0, k1, k2, k8, k11, k12, k13, k14, k15, k16, c1, c2, c3, c4, c5, hc, g0, g1, hl3, ht3, d1, hL]
            try simp -implicitDefEqProofs only [go_sem, simprocAttr, -Int.reducePow, DD, x_app, x_ga0, x_gas, x_gan, Int.cast_ofNat_Int, eq_self, Int.zero_lt_one, Bool.not_false, Bool.not_true, beq_self_eq_true, k0, k1, k2, k8, k11, k12, k13, k14, k15, k16, c1, c2, c3, c4, c5, hc, g0, g1, hl3, ht3, d1, hL, tcl, List.take_succ_cons, List.drop_succ_cons, List.take_zero, List.drop_zero]
            refine callK_pr annulusref4_Max.call q4 (.cons hoc.plr (.cons (pld_DI (rp (v i))).r .nil)) ?_
            simp -implicitDefEqProofs only [go_sem, simprocAttr, -Int.reducePow, DD, x_app, x_ga0, x_gas, x_gan, Int.cast_ofNat_Int, eq_self, Int.zero_lt_one, Bool.not_false, Bool.not_true, beq_self_eq_true, k0, k1, k2, k8, k11, k12, k13, k14, k15, k16, c1, c2, c3, c4, c5, hc, g0, g1, hl3, ht3, d1, hL, DI, DA]
            exact ⟨n - (i + 1), by omega, _, _, i + 1, _, rfl, rfl, by omega, by simp [x_look, k0], by simp [x_look, k1], by simp [x_look, k2], by simp [x_look, k8], by simp [x_look, k11], by simp [x_look, k12], by simp only [x_look, reduceIte, Nat.reduceEqDiff]; rw [mq_t m13], by simp only [x_look, reduceIte, Nat.reduceEqDiff]; rw [decide_eq_false (mq_f m14)], by simp [x_look, k15], by simp [x_look], by simp <;> omega, by rw [getD_set (by simp <;> omega), if_neg (by decide)]; exact g0 _ _, by (rw [getD_set (by simp <;> omega), if_pos rfl]) <;> rfl, .inl rfl⟩
      · by_cases m14 : mayQ i n u (fun i => rp (v i)) 0 (fun _ => zero)
        · by_cases hid2 : i < d
          · rw [decide_eq_false m13] at k13
            rw [decide_eq_true m14] at k14
            have d1 : (i : Int) < (d : Int) := by omega
            have d4 : i * 6 < d * 6 := by omega
            have d5 : i * 6 + 6 ≤ d * 6 := by omega
            have hc2 := pcl_el f hid2
            simp -implicitDefEqProofs only [go_sem, simprocAttr, -Int.reducePow, DD, x_app, x_ga0, x_gas, x_gan, Int.cast_ofNat_Int, eq_self, Int.zero_lt_one, Bool.not_false, Bool.not_true, beq_self_eq_true, k0, k1, k2, k8, k11, k12, k13, k14, k15, k16, c1, c2, c3, c4, c5, hc, g0, g1, hl3, ht3, d1, hL, d4, d5, hc2]
            refine callK_pl annulusref8_Disc.call (q1) (pl1 (pld_RT hr)) ?_
            simp -implicitDefEqProofs only [go_sem, simprocAttr, -Int.reducePow, DD, x_app, x_ga0, x_gas, x_gan, Int.cast_ofNat_Int, eq_self, Int.zero_lt_one, Bool.not_false, Bool.not_true, beq_self_eq_true, k0, k1, k2, k8, k11, k12, k13, k14, k15, k16, c1, c2, c3, c4, c5, hc, g0, g1, hl3, ht3, d1, hL, d4, d5, hc2, TI_c]
            refine callK_pr annulusref8_Holds.call q3 (.cons (pld_TI _ _).r (.cons (Blk.plr (.inr ⟨rfl, rfl⟩)) .nil)) ?_
            simp -implicitDefEqProofs only [go_sem, simprocAttr, -Int.reducePow, DD, x_app, x_ga0, x_gas, x_gan, Int.cast_ofNat_Int, eq_self, Int.zero_lt_one, Bool.not_false, Bool.not_true, beq_self_eq_true, k0, k1, k2, k8, k11, k12, k13, k14, k15, k16, c1, c2, c3, c4, c5, hc, g0, g1, hl3, ht3, d1, hL, d4, d5, hc2, tcl, List.take_succ_cons, List.drop_succ_cons, List.take_zero, List.drop_zero]
            refine callK_pr annulusref4_Max.call q4 (.cons hoc.plr (.cons (pld_DI (rp (v i))).r .nil)) ?_
            simp -implicitDefEqProofs only [go_sem, simprocAttr, -Int.reducePow, DD, x_app, x_ga0, x_gas, x_gan, Int.cast_ofNat_Int, eq_self, Int.zero_lt_one, Bool.not_false, Bool.not_true, beq_self_eq_true, k0, k1, k2, k8, k11, k12, k13, k14, k15, k16, c1, c2, c3, c4, c5, hc, g0, g1, hl3, ht3, d1, hL, d4, d5, hc2, DI, DA]
            exact ⟨n - (i + 1), by omega, _, _, i + 1, _, rfl, rfl, by omega, by simp [x_look, k0], by simp [x_look, k1], by simp [x_look, k2], by simp [x_look, k8], by simp [x_look, k11], by simp [x_look, k12], by simp only [x_look, reduceIte, Nat.reduceEqDiff]; rw [decide_eq_false (mq_f m13)], by simp only [x_look, reduceIte, Nat.reduceEqDiff]; rw [mq_t m14], by simp [x_look, k15], by simp [x_look], by simp <;> omega, by rw [getD_set (by simp <;> omega), if_neg (by decide)]; exact g0 _ _, by (rw [getD_set (by simp <;> omega), if_pos rfl]) <;> rfl, .inl rfl⟩
          · rw [decide_eq_false m13] at k13
            rw [decide_eq_true m14] at k14
            have d1 : ¬ (i : Int) < (d : Int) := by omega
            have e0 : f i = zero := hfs i (by omega)
            simp -implicitDefEqProofs only [go_sem, simprocAttr, -Int.reducePow, DD, x_app, x_ga0, x_gas, x_gan, Int.cast_ofNat_Int, eq_self, Int.zero_lt_one, Bool.not_false, Bool.not_true, beq_self_eq_true, k0, k1, k2, k8, k11, k12, k13, k14, k15, k16, c1, c2, c3, c4, c5, hc, g0, g1, hl3, ht3, d1, hL]
            refine callK_pl annulusref8_Disc.call (q1) (pl1 (pld_RT hr)) ?_
            simp -implicitDefEqProofs only [go_sem, simprocAttr, -Int.reducePow, DD, x_app, x_ga0, x_gas, x_gan, Int.cast_ofNat_Int, eq_self, Int.zero_lt_one, Bool.not_false, Bool.not_true, beq_self_eq_true, k0, k1, k2, k8, k11, k12, k13, k14, k15, k16, c1, c2, c3, c4, c5, hc, g0, g1, hl3, ht3, d1, hL, TI_c]
            refine callK_pr annulusref8_Holds.call q3 (.cons (pld_TI _ _).r (.cons (Blk.plr (.inr ⟨rfl, rfl⟩)) .nil)) ?_
            simp -implicitDefEqProofs only [go_sem, simprocAttr, -Int.reducePow, DD, x_app, x_ga0, x_gas, x_gan, Int.cast_ofNat_Int, eq_self, Int.zero_lt_one, Bool.not_false, Bool.not_true, beq_self_eq_true, k0, k1, k2, k8, k11, k12, k13, k14, k15, k16, c1, c2, c3, c4, c5, hc, g0, g1, hl3, ht3, d1, hL, tcl, List.take_succ_cons, List.drop_succ_cons, List.take_zero, List.drop_zero]
            refine callK_pr annulusref4_Max.call q4 (.cons hoc.plr (.cons (pld_DI (rp (v i))).r .nil)) ?_
            simp -implicitDefEqProofs only [go_sem, simprocAttr, -Int.reducePow, DD, x_app, x_ga0, x_gas, x_gan, Int.cast_ofNat_Int, eq_self, Int.zero_lt_one, Bool.not_false, Bool.not_true, beq_self_eq_true, k0, k1, k2, k8, k11, k12, k13, k14, k15, k16, c1, c2, c3, c4, c5, hc, g0, g1, hl3, ht3, d1, hL, DI, DA]
            exact ⟨n - (i + 1), by omega, _, _, i + 1, _, rfl, rfl, by omega, by simp [x_look, k0], by simp [x_look, k1], by simp [x_look, k2], by simp [x_look, k8], by simp [x_look, k11], by simp [x_look, k12], by simp only [x_look, reduceIte, Nat.reduceEqDiff]; rw [decide_eq_false (mq_f m13)], by simp only [x_look, reduceIte, Nat.reduceEqDiff]; rw [mq_t m14], by simp [x_look, k15], by simp [x_look], by simp <;> omega, by rw [getD_set (by simp <;> omega), if_neg (by decide)]; exact g0 _ _, by (rw [getD_set (by simp <;> omega), if_pos rfl]) <;> rfl, .inl rfl⟩
        · by_cases hid2 : i < d
          · rw [decide_eq_false m13] at k13
            rw [decide_eq_false m14] at k14
            have d1 : (i : Int) < (d : Int) := by omega
            have d4 : i * 6 < d * 6 := by omega
            have d5 : i * 6 + 6 ≤ d * 6 := by omega
            have hc2 := pcl_el f hid2
            simp -implicitDefEqProofs only [go_sem, simprocAttr, -Int.reducePow, DD, x_app, x_ga0, x_gas, x_gan, Int.cast_ofNat_Int, eq_self, Int.zero_lt_one, Bool.not_false, Bool.not_true, beq_self_eq_true, k0, k1, k2, k8, k11, k12, k13, k14, k15, k16, c1, c2, c3, c4, c5, hc, g0, g1, hl3, ht3, d1, hL, d4, d5, hc2]
            refine callK_pl annulusref8_Disc.call (q1) (pl1 (pld_RT hr)) ?_
            simp -implicitDefEqProofs only [go_sem, simprocAttr, -Int.reducePow, DD, x_app, x_ga0, x_gas, x_gan, Int.cast_ofNat_Int, eq_self, Int.zero_lt_one, Bool.not_false, Bool.not_true, beq_self_eq_true, k0, k1, k2, k8, k11, k12, k13, k14, k15, k16, c1, c2, c3, c4, c5, hc, g0, g1, hl3, ht3, d1, hL, d4, d5, hc2, TI_c]
            try simp -implicitDefEqProofs only [go_sem, simprocAttr, -Int.reducePow, DD, x_app, x_ga0, x_gas, x_gan, Int.cast_ofNat_Int, eq_self, Int.zero_lt_one, Bool.not_false, Bool.not_true, beq_self_eq_true, k0, k1, k2, k8, k11, k12, k13, k14, k15, k16, c1, c2, c3, c4, c5, hc, g0, g1, hl3, ht3, d1, hL, d4, d5, hc2, tcl, List.take_succ_cons, List.drop_succ_cons, List.take_zero, List.drop_zero]
            refine callK_pr annulusref4_Max.call q4 (.cons hoc.plr (.cons (pld_DI (rp (v i))).r .nil)) ?_
            simp -implicitDefEqProofs only [go_sem, simprocAttr, -Int.reducePow, DD, x_app, x_ga0, x_gas, x_gan, Int.cast_ofNat_Int, eq_self, Int.zero_lt_one, Bool.not_false, Bool.not_true, beq_self_eq_true, k0, k1, k2, k8, k11, k12, k13, k14, k15, k16, c1, c2, c3, c4, c5, hc, g0, g1, hl3, ht3, d1, hL, d4, d5, hc2, DI, DA]
            exact ⟨n - (i + 1), by omega, _, _, i + 1, _, rfl, rfl, by omega, by simp [x_look, k0], by simp [x_look, k1], by simp [x_look, k2], by simp [x_look, k8], by simp [x_look, k11], by simp [x_look, k12], by simp only [x_look, reduceIte, Nat.reduceEqDiff]; rw [decide_eq_false (mq_f m13)], by simp only [x_look, reduceIte, Nat.reduceEqDiff]; rw [decide_eq_false (mq_f m14)], by simp [x_look, k15], by simp [x_look], by simp <;> omega, by rw [getD_set (by simp <;> omega), if_neg (by decide)]; exact g0 _ _, by (rw [getD_set (by simp <;> omega), if_pos rfl]) <;> rfl, .inl rfl⟩
          · rw [decide_eq_false m13] at k13
            rw [decide_eq_false m14] at k14
            have d1 : ¬ (i : Int) < (d : Int) := by omega
            have e0 : f i = zero := hfs i (by omega)
            simp -implicitDefEqProofs only [go_sem, simprocAttr, -Int.reducePow, DD, x_app, x_ga0, x_gas, x_gan, Int.cast_ofNat_Int, eq_self, Int.zero_lt_one, Bool.not_false, Bool.not_true, beq_self_eq_true, k0, k1, k2, k8, k11, k12, k13, k14, k15, k16, c1, c2, c3, c4, c5, hc, g0, g1, hl3, ht3, d1, hL]
            refine callK_pl annulusref8_Disc.call (q1) (pl1 (pld_RT hr)) ?_
            simp -implicitDefEqProofs only [go_sem, simprocAttr, -Int.reducePow, DD, x_app, x_ga0, x_gas, x_gan, Int.cast_ofNat_Int, eq_self, Int.zero_lt_one, Bool.not_false, Bool.not_true, beq_self_eq_true, k0, k1, k2, k8, k11, k12, k13, k14, k15, k16, c1, c2, c3, c4, c5, hc, g0, g1, hl3, ht3, d1, hL, TI_c]
            try simp -implicitDefEqProofs only [go_sem, simprocAttr, -Int.reducePow, DD, x_app, x_ga0, x_gas, x_gan, Int.cast_ofNat_Int, eq_self, Int.zero_lt_one, Bool.not_false, Bool.not_true, beq_self_eq_true, k0, k1, k2, k8, k11, k12, k13, k14, k15, k16, c1, c2, c3, c4, c5, hc, g0, g1, hl3, ht3, d1, hL, tcl, List.take_succ_cons, List.drop_succ_cons, List.take_zero, List.drop_zero]
            refine callK_pr annulusref4_Max.call q4 (.cons hoc.plr (.cons (pld_DI (rp (v i))).r .nil)) ?_
            simp -implicitDefEqProofs only [go_sem, simprocAttr, -Int.reducePow, DD, x_app, x_ga0, x_gas, x_gan, Int.cast_ofNat_Int, eq_self, Int.zero_lt_one, Bool.not_false, Bool.not_true, beq_self_eq_true, k0, k1, k2, k8, k11, k12, k13, k14, k15, k16, c1, c2, c3, c4, c5, hc, g0, g1, hl3, ht3, d1, hL, DI, DA]
            exact ⟨n - (i + 1), by omega, _, _, i + 1, _, rfl, rfl, by omega, by simp [x_look, k0], by simp [x_look, k1], by simp [x_look, k2], by simp [x_look, k8], by simp [x_look, k11], by simp [x_look, k12], by simp only [x_look, reduceIte, Nat.reduceEqDiff]; rw [decide_eq_false (mq_f m13)], by simp only [x_look, reduceIte, Nat.reduceEqDiff]; rw [decide_eq_false (mq_f m14)], by simp [x_look, k15], by simp [x_look], by simp <;> omega, by rw [getD_set (by simp <;> omega), if_neg (by decide)]; exact g0 _ _, by (rw [getD_set (by simp <;> omega), if_pos rfl]) <;> rfl, .inl rfl⟩
end
end Go.Ab
