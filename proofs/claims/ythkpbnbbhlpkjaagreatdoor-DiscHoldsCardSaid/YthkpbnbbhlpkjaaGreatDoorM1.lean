/- Contracts of this seat's functions (of each call: what it answers), walked over the abstract machine, and the laws of numbers that they want. Conditions: those that each theorem states. -/
import Derived.Test.YthkpbnbbhlpkjaaGreatDoorM0
import Derived.Test.YthkpbnbbhlpkjaaGreatDoorS1
import Derived.Test.YthkpbnbbhlpkjaaGreatDoorP9
set_option linter.unusedVariables false
set_option maxRecDepth 20000
set_option linter.unusedSimpArgs false
set_option linter.unusedSectionVars false
namespace Go.Ab
open Go.Proofs
open Cx (zero one)
attribute [-go_sem] appF newsF
variable {a b : AV} {x y r s : Dyadic} {z w c d : Cx} {B C B' C' n m : Nat}
/-! rounding upwards, the greater one, discs: of the code -/
theorem rup_s (q v sh : Int) (hl : Lz v < 1099511627) : Sat CT false 174 [WI q, WI v, I64 sh, I64 1] (Bo (decide (0 < v.sign))) := by
  refine sat_of round_up.ok (by simp) ?_
  have DD := round_up.dr
  simp only [drP, drPx, drPt, drR, drS, drT, bodyOf, Tryz.f174, Nat.reduceEqDiff, reduceIte, true_and, and_true] at DD
  have s1 := sign_r (RI_W (z := v) (Nat.le_refl _)) hl
  simp -implicitDefEqProofs only [go_sem, simprocAttr, -Int.reducePow, Tryz.f174, DD, gt_iff_lt, List.take_succ_cons, List.drop_succ_cons]
  refine callK_q whole_Sign.call (s1) rfl rfl ?_
  simp -implicitDefEqProofs only [go_sem, simprocAttr, -Int.reducePow, DD, gt_iff_lt, List.take_succ_cons, List.drop_succ_cons]
theorem RF_pos (A k : Nat) : RF (A : Int) (2 ^ k) true = ((A / 2 ^ k : Nat) : Int) + if A % 2 ^ k = 0 then 0 else 1 := by
  unfold RF
  have e : ((A : Int) % ((2 ^ k : Nat) : Int) = 0) ↔ A % 2 ^ k = 0 := by rw [← Int.natCast_emod]; omega
  simp only [true_and, ne_eq, e, Int.natCast_ediv]
  by_cases h : A % 2 ^ k = 0
  · rw [if_neg (fun q => q h), if_pos h]
  · rw [if_pos h, if_neg h]
theorem rest_nat (A k : Nat) : (A : Int) - ((A / 2 ^ k : Nat) : Int) * 2 ^ k = ((A % 2 ^ k : Nat) : Int) := by
  have h := Nat.div_add_mod A (2 ^ k)
  have e : ((A / 2 ^ k : Nat) : Int) * 2 ^ k = ((2 ^ k * (A / 2 ^ k) : Nat) : Int) := by rw [Int.natCast_mul, Int.mul_comm, Int.natCast_pow]; rfl
  rw [e]; omega
theorem nat_lim {A L : Nat} (h : Lt2 A (32 * L)) : (lim A).length ≤ L := lim_length_le (by
  rw [show (4294967296 : Nat) = 2 ^ 32 from rfl, ← Nat.pow_mul]; exact h)
theorem natAbs_succ (q : Nat) : ((q : Int) + 1).natAbs ≤ q + 1 := by omega
theorem WI_pos (A : Nat) : WI (A : Int) = IA false (lim A) := by unfold WI; rw [Int.natAbs_natCast, decide_eq_false (by omega)]
set_option maxHeartbeats 1000000 in
theorem grid_up (hx : DB x B) (hB : B ≤ 19000) (h0 : 0 < dnum x) (e : Int) (he : ¬ e ≤ dexp x) (hk : e.natAbs ≤ 70000) : Sat CT false 136 [DI x, I64 e, I64 1] (DI (gfl x e true)) := by
  refine sat_of round_grid.ok (by simp) ?_
  have DD := round_grid.dr
  simp only [drP, drPx, drPt, drR, drS, drT, bodyOf, Tryz.f136, Nat.reduceEqDiff, reduceIte, true_and, and_true] at DD
  have n1 := dnorm_r (RD_D hx) (by omega)
  have hxe := hx.num.2
  have hxn := hx.num.1
  have x0 : x ≠ 0 := fun q => by rw [q] at h0; exact absurd h0 (by decide)
  have hg : gfl x e true = dv (RF (dnum x) (2 ^ (e - dexp x).toNat) true) e := if_neg (fun q => q.elim x0 he)
  rw [hg]
  have hdx : decide (dnum x < 0) = false := decide_eq_false (by omega)
  obtain ⟨A, hA⟩ : ∃ A : Nat, dnum x = A := ⟨(dnum x).toNat, by omega⟩
  obtain ⟨k, hk2⟩ : ∃ k, (e - dexp x).toNat = k := ⟨_, rfl⟩
  have w1 : IntKind.i64.wrap (e - dexp x) = (k : Int) := by rw [wrap_id (by omega)]; omega
  rw [hk2, hA, RF_pos]
  have eDI : DI x = DA false (lim A) (dexp x) := by unfold DI; rw [hdx, hA]; rfl
  rw [eDI] at n1 ⊢
  have bA : Lt2 A (32 * 1300) := Lt2.mono (show Lt2 A (2 * B) by rw [hA] at hxn; exact hxn) (by omega)
  have lA : (lim A).length ≤ 1300 := nat_lim bA
  have bq : Lt2 (A / 2 ^ k) (32 * 1300) := Lt2.low (Nat.div_le_self _ _) bA
  have br : Lt2 (A % 2 ^ k) (32 * 1300) := Lt2.low (Nat.mod_le _ _) bA
  have lq : Lz ((A / 2 ^ k : Nat) : Int) ≤ 1300 := nat_lim bq
  have lr : Lz ((A % 2 ^ k : Nat) : Int) ≤ 1300 := nat_lim br
  have d1 := wdown_pos A k (Nat.lt_of_le_of_lt lA (by decide)) (by omega)
  have u1 := wup_W ((A / 2 ^ k : Nat) : Int) k (Nat.lt_of_le_of_lt lq (by decide)) (by omega)
  have lu : Lz (((A / 2 ^ k : Nat) : Int) * 2 ^ k) ≤ 1300 := by
    have e1 : ((A / 2 ^ k : Nat) : Int) * 2 ^ k = ((A / 2 ^ k * 2 ^ k : Nat) : Int) := by rw [Int.natCast_mul, Int.natCast_pow]; rfl
    rw [e1]
    exact nat_lim (Lt2.low (Nat.div_mul_le_self _ _) bA)
  have s1 := sub_r (RI_W (z := (A : Int)) (L := 1300) lA) (RI_W (L := 1300) lu) (by decide) (by decide)
  rw [rest_nat, WI_pos] at s1
  have p1 := rup_s ((A / 2 ^ k : Nat) : Int) ((A % 2 ^ k : Nat) : Int) k (Nat.lt_of_le_of_lt lr (by decide))
  have o1 := wof_sat 1 (by decide) (by decide)
  have a1 := add_r (RI_W (z := ((A / 2 ^ k : Nat) : Int)) (L := 1300) lq) (RI_W (z := 1) (L := 1) (lim_length_le (by decide))) (by decide) (by decide)
  by_cases hr : A % 2 ^ k = 0
  · rw [if_pos hr, Int.add_zero]
    rw [decide_eq_false (show ¬ 0 < (((A % 2 ^ k : Nat) : Int)).sign by rw [hr]; decide)] at p1
    have r1 := raw_W ((A / 2 ^ k : Nat) : Int) e (Lt2.mono (show Lt2 _ _ from bq) (by decide)) (Nat.lt_of_le_of_lt lq (by decide)) (by omega)
    simp -implicitDefEqProofs only [go_sem, simprocAttr, -Int.reducePow, Tryz.f136, DD, he, ge_iff_le, w1, List.take_succ_cons, List.drop_succ_cons]
    refine callK_q dyad_Norm.call (n1) rfl rfl ?_
    simp -implicitDefEqProofs only [go_sem, simprocAttr, -Int.reducePow, DD, he, ge_iff_le, w1, List.take_succ_cons, List.drop_succ_cons]
    refine callK_q whole_Downwards.call (d1) rfl rfl ?_
    simp -implicitDefEqProofs only [go_sem, simprocAttr, -Int.reducePow, DD, he, ge_iff_le, w1, List.take_succ_cons, List.drop_succ_cons]
    refine callK_q whole_Up.call (u1) rfl rfl ?_
    simp -implicitDefEqProofs only [go_sem, simprocAttr, -Int.reducePow, DD, he, ge_iff_le, w1, List.take_succ_cons, List.drop_succ_cons]
    refine callK_q whole_Sub.call (s1) rfl rfl ?_
    simp -implicitDefEqProofs only [go_sem, simprocAttr, -Int.reducePow, DD, he, ge_iff_le, w1, List.take_succ_cons, List.drop_succ_cons]
    refine callK_q round_up.call (p1) rfl rfl ?_
    simp -implicitDefEqProofs only [go_sem, simprocAttr, -Int.reducePow, DD, he, ge_iff_le, w1, List.take_succ_cons, List.drop_succ_cons]
    refine callK_q dyad_Raw.call (r1) rfl rfl ?_
    simp -implicitDefEqProofs only [go_sem, simprocAttr, -Int.reducePow, DD, he, ge_iff_le, w1, List.take_succ_cons, List.drop_succ_cons]
  · rw [if_neg hr]
    rw [decide_eq_true (show 0 < (((A % 2 ^ k : Nat) : Int)).sign by rw [Int.sign_eq_one_of_pos (by omega)]; decide)] at p1
    have r1 := raw_W (((A / 2 ^ k : Nat) : Int) + 1) e (Lt2.mono (Lt2.succ (natAbs_succ _) (show Lt2 (A / 2 ^ k) (32 * 1300) from bq)) (by decide)) (Nat.lt_of_le_of_lt (Lz_add lq (Nat.le_trans (lim_length_le (k := 1) (by decide)) (by decide))) (by decide)) (by omega)
    simp -implicitDefEqProofs only [go_sem, simprocAttr, -Int.reducePow, Tryz.f136, DD, he, ge_iff_le, w1, List.take_succ_cons, List.drop_succ_cons]
    refine callK_q dyad_Norm.call (n1) rfl rfl ?_
    simp -implicitDefEqProofs only [go_sem, simprocAttr, -Int.reducePow, DD, he, ge_iff_le, w1, List.take_succ_cons, List.drop_succ_cons]
    refine callK_q whole_Downwards.call (d1) rfl rfl ?_
    simp -implicitDefEqProofs only [go_sem, simprocAttr, -Int.reducePow, DD, he, ge_iff_le, w1, List.take_succ_cons, List.drop_succ_cons]
    refine callK_q whole_Up.call (u1) rfl rfl ?_
    simp -implicitDefEqProofs only [go_sem, simprocAttr, -Int.reducePow, DD, he, ge_iff_le, w1, List.take_succ_cons, List.drop_succ_cons]
    refine callK_q whole_Sub.call (s1) rfl rfl ?_
    simp -implicitDefEqProofs only [go_sem, simprocAttr, -Int.reducePow, DD, he, ge_iff_le, w1, List.take_succ_cons, List.drop_succ_cons]
    refine callK_q round_up.call (p1) rfl rfl ?_
    simp -implicitDefEqProofs only [go_sem, simprocAttr, -Int.reducePow, DD, he, ge_iff_le, w1, List.take_succ_cons, List.drop_succ_cons]
    refine callK_q whole_Of.call (o1) rfl rfl ?_
    simp -implicitDefEqProofs only [go_sem, simprocAttr, -Int.reducePow, DD, he, ge_iff_le, w1, List.take_succ_cons, List.drop_succ_cons]
    refine callK_q whole_Add.call (a1) rfl rfl ?_
    simp -implicitDefEqProofs only [go_sem, simprocAttr, -Int.reducePow, DD, he, ge_iff_le, w1, List.take_succ_cons, List.drop_succ_cons]
    refine callK_q dyad_Raw.call (r1) rfl rfl ?_
    simp -implicitDefEqProofs only [go_sem, simprocAttr, -Int.reducePow, DD, he, ge_iff_le, w1, List.take_succ_cons, List.drop_succ_cons]
theorem to_up1 (hx : DB x B) (hB : B ≤ 19000) (hp : 0 < dnum x) (p : Int) : Sat CT false 95 [DI x, I64 p, I64 1] (DI (gfl x (dtop x - heldP p + 1) true)) := by
  refine sat_of round_To.ok (by simp) ?_
  have DD := round_To.dr
  simp only [drP, drPx, drPt, drR, drS, drT, bodyOf, Tryz.f95, Nat.reduceEqDiff, reduceIte, true_and, and_true] at DD
  have q : x ≠ 0 := fun e => by rw [e] at hp; exact absurd hp (by decide)
  have s1 := dsign_r (RD_D hx) (by omega)
  have u1 := unit5 (RD_D hx) (by omega) p
  have c1 := sg_ne q
  have hP := (heldP_v p).2.2.2
  obtain ⟨t1, t2⟩ := hx.top q
  have ht : dtop x = (bl (dnum x).natAbs : Int) - 1 + dexp x := if_neg q
  have hex := hx.num.2
  by_cases he : dtop x - heldP p + 1 ≤ dexp x
  · have g1 := grid5 (RD_D hx) (by omega) (dtop x - heldP p + 1) 1 he
    rw [show gfl x (dtop x - heldP p + 1) true = x from if_pos (.inr he)]
    simp -implicitDefEqProofs only [go_sem, simprocAttr, -Int.reducePow, Tryz.f95, DD, c1, List.take_succ_cons, List.drop_succ_cons]
    refine callK_q dyad_Sign.call (s1) rfl rfl ?_
    simp -implicitDefEqProofs only [go_sem, simprocAttr, -Int.reducePow, DD, c1, List.take_succ_cons, List.drop_succ_cons]
    refine callK_q round_unit.call (u1) rfl rfl ?_
    simp -implicitDefEqProofs only [go_sem, simprocAttr, -Int.reducePow, DD, c1, List.take_succ_cons, List.drop_succ_cons]
    refine callK_q round_grid.call (g1) rfl rfl ?_
    simp -implicitDefEqProofs only [go_sem, simprocAttr, -Int.reducePow, DD, c1, List.take_succ_cons, List.drop_succ_cons]
  · have g1 := grid_up hx hB hp (dtop x - heldP p + 1) he (by omega)
    simp -implicitDefEqProofs only [go_sem, simprocAttr, -Int.reducePow, Tryz.f95, DD, c1, List.take_succ_cons, List.drop_succ_cons]
    refine callK_q dyad_Sign.call (s1) rfl rfl ?_
    simp -implicitDefEqProofs only [go_sem, simprocAttr, -Int.reducePow, DD, c1, List.take_succ_cons, List.drop_succ_cons]
    refine callK_q round_unit.call (u1) rfl rfl ?_
    simp -implicitDefEqProofs only [go_sem, simprocAttr, -Int.reducePow, DD, c1, List.take_succ_cons, List.drop_succ_cons]
    refine callK_q round_grid.call (g1) rfl rfl ?_
    simp -implicitDefEqProofs only [go_sem, simprocAttr, -Int.reducePow, DD, c1, List.take_succ_cons, List.drop_succ_cons]
theorem to_up (hx : DB x B) (hB : B ≤ 19000) (h0 : 0 ≤ dnum x) (p : Int) : Sat CT false 95 [DI x, I64 p, I64 1] (DI (upr x (heldP p))) := by
  by_cases q : x = 0
  · have t := to5_0 (RD_D hx) (by omega) p 1 q
    unfold upr
    rw [if_pos q, DI_0]
    exact t
  · have hp : 0 < dnum x := by
      have : dnum x ≠ 0 := fun e => q (dnum_zero.1 e)
      omega
    have e0 : upr x (heldP p) = gfl x (dtop x - heldP p + 1) true := if_neg q
    rw [e0]
    exact to_up1 hx hB hp p
theorem dmax_r (ha : RD a x B) (hb : RD b y C) (hB : B ≤ 19000) (hC : C ≤ 19000) : Sat CT false 107 [a, b] (DI (dmx x y)) := by
  refine sat_of dyad_Max.ok (by simp) ?_
  have DD := dyad_Max.dr
  simp only [drP, drPx, drPt, drR, drS, drT, bodyOf, Tryz.f107, Nat.reduceEqDiff, reduceIte, true_and, and_true] at DD
  have k1 := dcmp_r ha hb hB hC
  have o1 := dof_r ha (by omega)
  have o2 := dof_r hb (by omega)
  obtain ⟨n, l, e, rfl, _⟩ := ha
  obtain ⟨n', l', e', rfl, _⟩ := hb
  by_cases h : 0 ≤ (dnum (x - y)).sign
  · rw [show dmx x y = x from if_pos h]
    simp -implicitDefEqProofs only [go_sem, simprocAttr, -Int.reducePow, Tryz.f107, DD, h, ge_iff_le, List.take_succ_cons, List.drop_succ_cons]
    refine callK_q dyad_Cmp.call (k1) rfl rfl ?_
    simp -implicitDefEqProofs only [go_sem, simprocAttr, -Int.reducePow, DD, h, ge_iff_le, List.take_succ_cons, List.drop_succ_cons]
    refine callK_q dyad_of.call (o1) rfl rfl ?_
    simp -implicitDefEqProofs only [go_sem, simprocAttr, -Int.reducePow, DD, h, ge_iff_le, List.take_succ_cons, List.drop_succ_cons]
  · rw [show dmx x y = y from if_neg h]
    simp -implicitDefEqProofs only [go_sem, simprocAttr, -Int.reducePow, Tryz.f107, DD, h, ge_iff_le, List.take_succ_cons, List.drop_succ_cons]
    refine callK_q dyad_Cmp.call (k1) rfl rfl ?_
    simp -implicitDefEqProofs only [go_sem, simprocAttr, -Int.reducePow, DD, h, ge_iff_le, List.take_succ_cons, List.drop_succ_cons]
    refine callK_q dyad_of.call (o2) rfl rfl ?_
    simp -implicitDefEqProofs only [go_sem, simprocAttr, -Int.reducePow, DD, h, ge_iff_le, List.take_succ_cons, List.drop_succ_cons]
theorem dmin_r (ha : RD a x B) (hb : RD b y C) (hB : B ≤ 19000) (hC : C ≤ 19000) : Sat CT false 187 [a, b] (DI (dmn x y)) := by
  refine sat_of dyad_Min.ok (by simp) ?_
  have DD := dyad_Min.dr
  simp only [drP, drPx, drPt, drR, drS, drT, bodyOf, Tryz.f187, Nat.reduceEqDiff, reduceIte, true_and, and_true] at DD
  have k1 := dcmp_r ha hb hB hC
  have o1 := dof_r ha (by omega)
  have o2 := dof_r hb (by omega)
  obtain ⟨n, l, e, rfl, _⟩ := ha
  obtain ⟨n', l', e', rfl, _⟩ := hb
  by_cases h : (dnum (x - y)).sign ≤ 0
  · rw [show dmn x y = x from if_pos h]
    simp -implicitDefEqProofs only [go_sem, simprocAttr, -Int.reducePow, Tryz.f187, DD, h, List.take_succ_cons, List.drop_succ_cons]
    refine callK_q dyad_Cmp.call (k1) rfl rfl ?_
    simp -implicitDefEqProofs only [go_sem, simprocAttr, -Int.reducePow, DD, h, List.take_succ_cons, List.drop_succ_cons]
    refine callK_q dyad_of.call (o1) rfl rfl ?_
    simp -implicitDefEqProofs only [go_sem, simprocAttr, -Int.reducePow, DD, h, List.take_succ_cons, List.drop_succ_cons]
  · rw [show dmn x y = y from if_neg h]
    simp -implicitDefEqProofs only [go_sem, simprocAttr, -Int.reducePow, Tryz.f187, DD, h, List.take_succ_cons, List.drop_succ_cons]
    refine callK_q dyad_Cmp.call (k1) rfl rfl ?_
    simp -implicitDefEqProofs only [go_sem, simprocAttr, -Int.reducePow, DD, h, List.take_succ_cons, List.drop_succ_cons]
    refine callK_q dyad_of.call (o2) rfl rfl ?_
    simp -implicitDefEqProofs only [go_sem, simprocAttr, -Int.reducePow, DD, h, List.take_succ_cons, List.drop_succ_cons]
/-- a disc as it must be; one that comes in -/
def TI (c : Cx) (r : Dyadic) : AV := .agg [Bo (decide (dnum c.re < 0)), U32 (lim (dnum c.re).natAbs), I64 (dexp c.re), Bo (decide (dnum c.im < 0)), U32 (lim (dnum c.im).natAbs), I64 (dexp c.im), Bo (decide (dnum r < 0)), U32 (lim (dnum r).natAbs), I64 (dexp r)]
def RT (a : AV) (c : Cx) (r : Dyadic) (B B' : Nat) : Prop := ∃ n l e m k f o p q, a = .agg [Bo n, U32 l, I64 e, Bo m, U32 k, I64 f, Bo o, U32 p, I64 q] ∧ RD (DA n l e) c.re B ∧ RD (DA m k f) c.im B ∧ RD (DA o p q) r B'
theorem RT.ex (h : RT a c r B B') : ∃ n l e m k f o p q, a = .agg [Bo n, U32 l, I64 e, Bo m, U32 k, I64 f, Bo o, U32 p, I64 q] ∧ RC (.agg [Bo n, U32 l, I64 e, Bo m, U32 k, I64 f]) c B ∧ RD (DA o p q) r B' := by
  obtain ⟨n, l, e, m, k, f, o, p, q, h0, h1, h2, h3⟩ := h
  exact ⟨n, l, e, m, k, f, o, p, q, h0, ⟨n, l, e, m, k, f, rfl, h1, h2⟩, h3⟩
theorem RT_T (hc : CB c B) (hr : DB r B') : RT (TI c r) c r B B' := ⟨_, _, _, _, _, _, _, _, _, rfl, RD_D hc.1, RD_D hc.2, RD_D hr⟩
theorem RT.cb (h : RT a c r B B') : CB c B := by obtain ⟨_, _, _, _, _, _, _, _, _, _, h, _⟩ := h.ex; exact h.cb
theorem RT.db (h : RT a c r B B') : DB r B' := by obtain ⟨_, _, _, _, _, _, _, _, _, _, _, h⟩ := h.ex; exact h.db
theorem RT.mono (h : RT a c r B B') (hC : B ≤ C) (hC' : B' ≤ C') : RT a c r C C' := by
  obtain ⟨n, l, e, m, k, f, o, p, q, h0, h1, h2, h3⟩ := h
  exact ⟨n, l, e, m, k, f, o, p, q, h0, h1.mono hC, h2.mono hC, h3.mono hC'⟩
theorem dfar_s (ha : RD a x B) (hB : B ≤ 19000) : Sat CT false 72 [a] (DI (rp x)) := by
  refine sat_of disc_far.ok (by simp) ?_
  have DD := disc_far.dr
  simp only [drP, drPx, drPt, drR, drS, drT, bodyOf, Tryz.f72, Nat.reduceEqDiff, reduceIte, true_and, and_true] at DD
  have k1 := dmax_r ha rd0 hB (by decide)
  rw [rp_dmx] at k1
  obtain ⟨n, l, e, rfl, _⟩ := ha
  simp -implicitDefEqProofs only [go_sem, simprocAttr, -Int.reducePow, Tryz.f72, DD, List.take_succ_cons, List.drop_succ_cons]
  refine callK_q dyad_Max.call (k1) rfl rfl ?_
  simp -implicitDefEqProofs only [go_sem, simprocAttr, -Int.reducePow, DD, List.take_succ_cons, List.drop_succ_cons]
theorem dwith_s (hc : RC a z B) (hr : RD b r C) (hB : B ≤ 19000) (hC : C ≤ 19000) : Sat CT false 75 [a, b] (TI z (rp r)) := by
  refine sat_of disc_with.ok (by simp) ?_
  have DD := disc_with.dr
  simp only [drP, drPx, drPt, drR, drS, drT, bodyOf, Tryz.f75, Nat.reduceEqDiff, reduceIte, true_and, and_true] at DD
  have g1 := gscale0_r hc (by omega)
  have k1 := dfar_s hr hC
  obtain ⟨n, l, e, m, k, f, rfl, _⟩ := hc
  obtain ⟨n', l', e', rfl, _⟩ := hr
  simp -implicitDefEqProofs only [go_sem, simprocAttr, -Int.reducePow, Tryz.f75, DD, TI, List.take_succ_cons, List.drop_succ_cons]
  refine callK_q gauss_Scale.call (g1) rfl rfl ?_
  simp -implicitDefEqProofs only [go_sem, simprocAttr, -Int.reducePow, DD, TI, List.take_succ_cons, List.drop_succ_cons]
  refine callK_q disc_far.call (k1) rfl rfl ?_
  simp -implicitDefEqProofs only [go_sem, simprocAttr, -Int.reducePow, DD, TI, List.take_succ_cons, List.drop_succ_cons]
theorem rp0 : rp 0 = 0 := by unfold rp; split <;> rfl
theorem dis_s (h : RT a c r B B') (hB : B' ≤ 19000) : Sat CT false 23 [a] (Bo (decide (0 ≤ (dnum r).sign))) := by
  refine sat_of disc_Is.ok (by simp) ?_
  have DD := disc_Is.dr
  simp only [drP, drPx, drPt, drR, drS, drT, bodyOf, Tryz.f23, Nat.reduceEqDiff, reduceIte, true_and, and_true] at DD
  obtain ⟨n, l, e, m, k, f, o, p, q, rfl, hc, hr⟩ := h.ex
  have s1 := dsign_r hr (by omega)
  simp -implicitDefEqProofs only [go_sem, simprocAttr, -Int.reducePow, Tryz.f23, DD, ge_iff_le, List.take_succ_cons, List.drop_succ_cons]
  refine callK_q dyad_Sign.call (s1) rfl rfl ?_
  simp -implicitDefEqProofs only [go_sem, simprocAttr, -Int.reducePow, DD, ge_iff_le, List.take_succ_cons, List.drop_succ_cons]
theorem dofc_s (hc : RC a z B) (hB : B ≤ 19000) : Sat CT false 17 [a] (TI z 0) := by
  refine sat_of disc_Of.ok (by simp) ?_
  have DD := disc_Of.dr
  simp only [drP, drPx, drPt, drR, drS, drT, bodyOf, Tryz.f17, Nat.reduceEqDiff, reduceIte, true_and, and_true] at DD
  have k1 := dwith_s hc rd0 hB (by decide)
  rw [rp0] at k1
  obtain ⟨n, l, e, m, k, f, rfl, _⟩ := hc
  simp -implicitDefEqProofs only [go_sem, simprocAttr, -Int.reducePow, Tryz.f17, DD, TI, List.take_succ_cons, List.drop_succ_cons]
  refine callK_q disc_with.call (k1) rfl rfl ?_
  simp -implicitDefEqProofs only [go_sem, simprocAttr, -Int.reducePow, DD, TI, List.take_succ_cons, List.drop_succ_cons]
theorem dsq_s (ha : RD a x B) (hB : B ≤ 19000) : Sat CT false 71 [a] (DI (x * x)) := by
  refine sat_of disc_square.ok (by simp) ?_
  have DD := disc_square.dr
  simp only [drP, drPx, drPt, drR, drS, drT, bodyOf, Tryz.f71, Nat.reduceEqDiff, reduceIte, true_and, and_true] at DD
  have k1 := dmul_r ha ha (by omega) (by omega)
  obtain ⟨n, l, e, rfl, _⟩ := ha
  simp -implicitDefEqProofs only [go_sem, simprocAttr, -Int.reducePow, Tryz.f71, DD, List.take_succ_cons, List.drop_succ_cons]
  refine callK_q dyad_Mul.call (k1) rfl rfl ?_
  simp -implicitDefEqProofs only [go_sem, simprocAttr, -Int.reducePow, DD, List.take_succ_cons, List.drop_succ_cons]
/-- who has whom -/
def hasP (c : Cx) (r : Dyadic) (w : Cx) : Prop := (dnum (nrm (w - c) - r * r)).sign ≤ 0
def inP (c : Cx) (r : Dyadic) (d : Cx) (s : Dyadic) : Prop := 0 ≤ (dnum (s - r)).sign ∧ (dnum (nrm (c - d) - (s - r) * (s - r))).sign ≤ 0
def apP (c : Cx) (r : Dyadic) (d : Cx) (s : Dyadic) : Prop := 0 < (dnum (nrm (c - d) - (r + s) * (r + s))).sign
instance (c : Cx) (r : Dyadic) (w : Cx) : Decidable (hasP c r w) := by unfold hasP; exact inferInstance
instance (c : Cx) (r : Dyadic) (d : Cx) (s : Dyadic) : Decidable (inP c r d s) := by unfold inP; exact inferInstance
instance (c : Cx) (r : Dyadic) (d : Cx) (s : Dyadic) : Decidable (apP c r d s) := by unfold apP; exact inferInstance
theorem CB.sub' (h : CB z B) (g : CB w C) : CB (z - w) (max B C + 1) := ⟨(h.1.mono (Nat.le_max_left B C)).sub (g.1.mono (Nat.le_max_right B C)), (h.2.mono (Nat.le_max_left B C)).sub (g.2.mono (Nat.le_max_right B C))⟩
theorem DB.sub' (h : DB x B) (g : DB y C) : DB (x - y) (max B C + 1) := (h.mono (Nat.le_max_left B C)).sub (g.mono (Nat.le_max_right B C))
theorem DB.add' (h : DB x B) (g : DB y C) : DB (x + y) (max B C + 1) := (h.mono (Nat.le_max_left B C)).add (g.mono (Nat.le_max_right B C))
theorem dhas_s (h : RT a c r B B') (g : RC b w C) (hB : B ≤ 8000) (hC : C ≤ 8000) (hB' : B' ≤ 9000) : Sat CT false 15 [a, b] (Bo (decide (hasP c (rp r) w))) := by
  refine sat_of disc_Has.ok (by simp) ?_
  have DD := disc_Has.dr
  simp only [drP, drPx, drPt, drR, drS, drT, bodyOf, Tryz.f15, Nat.reduceEqDiff, reduceIte, true_and, and_true] at DD
  unfold hasP
  obtain ⟨n, l, e, m, k, f, o, p, q, rfl, hc, hr⟩ := h.ex
  have u1 := gsub_r g hc (by omega) (by omega)
  have b1 := CB.sub' g.cb hc.cb
  have u2 := gnorm_r (RC_C b1) (by omega)
  have u3 := dfar_s hr (by omega)
  have u4 := dsq_s (RD_D (rp_db hr.db)) (by omega)
  have b4 := (rp_db hr.db).mul (rp_db hr.db)
  have u5 := dcmp_r (RD_D (nrm_db b1)) (RD_D b4) (by omega) (by omega)
  obtain ⟨n', l', e', m', k', f', rfl, _⟩ := g
  simp -implicitDefEqProofs only [go_sem, simprocAttr, -Int.reducePow, Tryz.f15, DD, List.take_succ_cons, List.drop_succ_cons]
  refine callK_q gauss_Sub.call (u1) rfl rfl ?_
  simp -implicitDefEqProofs only [go_sem, simprocAttr, -Int.reducePow, DD, List.take_succ_cons, List.drop_succ_cons]
  refine callK_q gauss_Norm.call (u2) rfl rfl ?_
  simp -implicitDefEqProofs only [go_sem, simprocAttr, -Int.reducePow, DD, List.take_succ_cons, List.drop_succ_cons]
  refine callK_q disc_far.call (u3) rfl rfl ?_
  simp -implicitDefEqProofs only [go_sem, simprocAttr, -Int.reducePow, DD, List.take_succ_cons, List.drop_succ_cons]
  refine callK_q disc_square.call (u4) rfl rfl ?_
  simp -implicitDefEqProofs only [go_sem, simprocAttr, -Int.reducePow, DD, List.take_succ_cons, List.drop_succ_cons]
  refine callK_q dyad_Cmp.call (u5) rfl rfl ?_
  simp -implicitDefEqProofs only [go_sem, simprocAttr, -Int.reducePow, DD, List.take_succ_cons, List.drop_succ_cons]
theorem din_s (h : RT a c r B B') (g : RT b d s C C') (hB : B ≤ 8000) (hC : C ≤ 8000) (hB' : B' ≤ 9000) (hC' : C' ≤ 9000) : Sat CT false 16 [a, b] (Bo (decide (inP c (rp r) d (rp s)))) := by
  refine sat_of disc_In.ok (by simp) ?_
  have DD := disc_In.dr
  simp only [drP, drPx, drPt, drR, drS, drT, bodyOf, Tryz.f16, Nat.reduceEqDiff, reduceIte, true_and, and_true] at DD
  obtain ⟨n, l, e, m, k, f, o, p, q, rfl, hc, hr⟩ := h.ex
  obtain ⟨n', l', e', m', k', f', o', p', q', rfl, gc, gr⟩ := g.ex
  have v1 := dfar_s gr (by omega)
  have v2 := dfar_s hr (by omega)
  have v3 := dsub_r (RD_D (rp_db gr.db)) (RD_D (rp_db hr.db)) (by omega) (by omega)
  have b3 := DB.sub' (rp_db gr.db) (rp_db hr.db)
  have v4 := dsign_r (RD_D b3) (by omega)
  have u1 := gsub_r hc gc (by omega) (by omega)
  have b1 := CB.sub' hc.cb gc.cb
  have u2 := gnorm_r (RC_C b1) (by omega)
  have u4 := dsq_s (RD_D b3) (by omega)
  have u5 := dcmp_r (RD_D (nrm_db b1)) (RD_D (b3.mul b3)) (by omega) (by omega)
  by_cases h1 : 0 ≤ (dnum (rp s - rp r)).sign
  · have e : decide (inP c (rp r) d (rp s)) = decide ((dnum (nrm (c - d) - (rp s - rp r) * (rp s - rp r))).sign ≤ 0) := decide_eq_decide.2 ⟨fun h => h.2, fun h => ⟨h1, h⟩⟩
    rw [e]
    simp -implicitDefEqProofs only [go_sem, simprocAttr, -Int.reducePow, Tryz.f16, DD, h1, ge_iff_le, List.take_succ_cons, List.drop_succ_cons]
    refine callK_q disc_far.call (v1) rfl rfl ?_
    simp -implicitDefEqProofs only [go_sem, simprocAttr, -Int.reducePow, DD, h1, ge_iff_le, List.take_succ_cons, List.drop_succ_cons]
    refine callK_q disc_far.call (v2) rfl rfl ?_
    simp -implicitDefEqProofs only [go_sem, simprocAttr, -Int.reducePow, DD, h1, ge_iff_le, List.take_succ_cons, List.drop_succ_cons]
    refine callK_q dyad_Sub.call (v3) rfl rfl ?_
    simp -implicitDefEqProofs only [go_sem, simprocAttr, -Int.reducePow, DD, h1, ge_iff_le, List.take_succ_cons, List.drop_succ_cons]
    refine callK_q dyad_Sign.call (v4) rfl rfl ?_
    simp -implicitDefEqProofs only [go_sem, simprocAttr, -Int.reducePow, DD, h1, ge_iff_le, List.take_succ_cons, List.drop_succ_cons]
    refine callK_q gauss_Sub.call (u1) rfl rfl ?_
    simp -implicitDefEqProofs only [go_sem, simprocAttr, -Int.reducePow, DD, h1, ge_iff_le, List.take_succ_cons, List.drop_succ_cons]
    refine callK_q gauss_Norm.call (u2) rfl rfl ?_
    simp -implicitDefEqProofs only [go_sem, simprocAttr, -Int.reducePow, DD, h1, ge_iff_le, List.take_succ_cons, List.drop_succ_cons]
    refine callK_q disc_square.call (u4) rfl rfl ?_
    simp -implicitDefEqProofs only [go_sem, simprocAttr, -Int.reducePow, DD, h1, ge_iff_le, List.take_succ_cons, List.drop_succ_cons]
    refine callK_q dyad_Cmp.call (u5) rfl rfl ?_
    simp -implicitDefEqProofs only [go_sem, simprocAttr, -Int.reducePow, DD, h1, ge_iff_le, List.take_succ_cons, List.drop_succ_cons]
  · rw [decide_eq_false (show ¬ inP c (rp r) d (rp s) from fun h => h1 h.1)]
    simp -implicitDefEqProofs only [go_sem, simprocAttr, -Int.reducePow, Tryz.f16, DD, h1, ge_iff_le, List.take_succ_cons, List.drop_succ_cons]
    refine callK_q disc_far.call (v1) rfl rfl ?_
    simp -implicitDefEqProofs only [go_sem, simprocAttr, -Int.reducePow, DD, h1, ge_iff_le, List.take_succ_cons, List.drop_succ_cons]
    refine callK_q disc_far.call (v2) rfl rfl ?_
    simp -implicitDefEqProofs only [go_sem, simprocAttr, -Int.reducePow, DD, h1, ge_iff_le, List.take_succ_cons, List.drop_succ_cons]
    refine callK_q dyad_Sub.call (v3) rfl rfl ?_
    simp -implicitDefEqProofs only [go_sem, simprocAttr, -Int.reducePow, DD, h1, ge_iff_le, List.take_succ_cons, List.drop_succ_cons]
    refine callK_q dyad_Sign.call (v4) rfl rfl ?_
    simp -implicitDefEqProofs only [go_sem, simprocAttr, -Int.reducePow, DD, h1, ge_iff_le, List.take_succ_cons, List.drop_succ_cons]
theorem dapart_s (h : RT a c r B B') (g : RT b d s C C') (hB : B ≤ 8000) (hC : C ≤ 8000) (hB' : B' ≤ 9000) (hC' : C' ≤ 9000) : Sat CT false 18 [a, b] (Bo (decide (apP c (rp r) d (rp s)))) := by
  refine sat_of disc_Apart.ok (by simp) ?_
  have DD := disc_Apart.dr
  simp only [drP, drPx, drPt, drR, drS, drT, bodyOf, Tryz.f18, Nat.reduceEqDiff, reduceIte, true_and, and_true] at DD
  unfold apP
  obtain ⟨n, l, e, m, k, f, o, p, q, rfl, hc, hr⟩ := h.ex
  obtain ⟨n', l', e', m', k', f', o', p', q', rfl, gc, gr⟩ := g.ex
  have v1 := dfar_s gr (by omega)
  have v2 := dfar_s hr (by omega)
  have v3 := dadd_r (RD_D (rp_db hr.db)) (RD_D (rp_db gr.db)) (by omega) (by omega)
  have b3 := DB.add' (rp_db hr.db) (rp_db gr.db)
  have u1 := gsub_r hc gc (by omega) (by omega)
  have b1 := CB.sub' hc.cb gc.cb
  have u2 := gnorm_r (RC_C b1) (by omega)
  have u4 := dsq_s (RD_D b3) (by omega)
  have u5 := dcmp_r (RD_D (nrm_db b1)) (RD_D (b3.mul b3)) (by omega) (by omega)
  simp -implicitDefEqProofs only [go_sem, simprocAttr, -Int.reducePow, Tryz.f18, DD, gt_iff_lt, List.take_succ_cons, List.drop_succ_cons]
  refine callK_q gauss_Sub.call (u1) rfl rfl ?_
  simp -implicitDefEqProofs only [go_sem, simprocAttr, -Int.reducePow, DD, gt_iff_lt, List.take_succ_cons, List.drop_succ_cons]
  refine callK_q gauss_Norm.call (u2) rfl rfl ?_
  simp -implicitDefEqProofs only [go_sem, simprocAttr, -Int.reducePow, DD, gt_iff_lt, List.take_succ_cons, List.drop_succ_cons]
  refine callK_q disc_far.call (v2) rfl rfl ?_
  simp -implicitDefEqProofs only [go_sem, simprocAttr, -Int.reducePow, DD, gt_iff_lt, List.take_succ_cons, List.drop_succ_cons]
  refine callK_q disc_far.call (v1) rfl rfl ?_
  simp -implicitDefEqProofs only [go_sem, simprocAttr, -Int.reducePow, DD, gt_iff_lt, List.take_succ_cons, List.drop_succ_cons]
  refine callK_q dyad_Add.call (v3) rfl rfl ?_
  simp -implicitDefEqProofs only [go_sem, simprocAttr, -Int.reducePow, DD, gt_iff_lt, List.take_succ_cons, List.drop_succ_cons]
  refine callK_q disc_square.call (u4) rfl rfl ?_
  simp -implicitDefEqProofs only [go_sem, simprocAttr, -Int.reducePow, DD, gt_iff_lt, List.take_succ_cons, List.drop_succ_cons]
  refine callK_q dyad_Cmp.call (u5) rfl rfl ?_
  simp -implicitDefEqProofs only [go_sem, simprocAttr, -Int.reducePow, DD, gt_iff_lt, List.take_succ_cons, List.drop_succ_cons]
theorem dfarn_s (h : RT a c r B B') (hB : B ≤ 5290) (p : Int) : Sat CT false 40 [a, I64 p] (DI (far c (heldP p) true)) := by
  refine sat_of disc_Far.ok (by simp) ?_
  have DD := disc_Far.dr
  simp only [drP, drPx, drPt, drR, drS, drT, bodyOf, Tryz.f40, Nat.reduceEqDiff, reduceIte, true_and, and_true] at DD
  obtain ⟨n, l, e, m, k, f, o, p', q', rfl, hc, hr⟩ := h.ex
  have u1 := gnorm_r hc (by omega)
  have hn := nrm_db hc.cb
  by_cases q : dnum (nrm c) ≤ 0
  · have r1 := qroot_n (RD_D hn) q (by omega) p 1
    rw [show far c (heldP p) true = 0 from droot_0 q _ _, DI_0]
    simp -implicitDefEqProofs only [go_sem, simprocAttr, -Int.reducePow, Tryz.f40, DD, QZ, List.take_succ_cons, List.drop_succ_cons]
    refine callK_q gauss_Norm.call (u1) rfl rfl ?_
    simp -implicitDefEqProofs only [go_sem, simprocAttr, -Int.reducePow, DD, QZ, List.take_succ_cons, List.drop_succ_cons]
    refine callK_q quot_Root.call (r1) rfl rfl ?_
    simp -implicitDefEqProofs only [go_sem, simprocAttr, -Int.reducePow, DD, QZ, List.take_succ_cons, List.drop_succ_cons]
    rfl
  · have r1 := qroot_ok (RD_D hn) (Int.not_le.1 q) (by omega) p 1
    rw [show far c (heldP p) true = droot (nrm c) (heldP p) (decide ((1 : Int) = 1)) from rfl]
    simp -implicitDefEqProofs only [go_sem, simprocAttr, -Int.reducePow, Tryz.f40, DD, List.take_succ_cons, List.drop_succ_cons]
    refine callK_q gauss_Norm.call (u1) rfl rfl ?_
    simp -implicitDefEqProofs only [go_sem, simprocAttr, -Int.reducePow, DD, List.take_succ_cons, List.drop_succ_cons]
    refine callK_q quot_Root.call (r1) rfl rfl ?_
    simp -implicitDefEqProofs only [go_sem, simprocAttr, -Int.reducePow, DD, List.take_succ_cons, List.drop_succ_cons]
end Go.Ab
