/- Contracts of this seat's functions (of each call: what it answers), walked over the abstract machine, and the laws of numbers that they want. Conditions: those that each theorem states. -/
import Derived.Test.YtikhbokeaikcpaaGreatDoorRR
import Derived.Test.YtikhbokeaikcpaaGreatDoorS1
import Derived.Test.YtikhbokeaikcpaaGreatDoorP9
set_option linter.unusedVariables false
set_option maxRecDepth 20000
set_option linter.unusedSimpArgs false
set_option linter.unusedSectionVars false
namespace Go.Ab
open Go.Proofs

/-! bounds of roots and roundings by the place of the topmost bit -/
theorem droot_db2 {x : Dyadic} {B P : Nat} (h0 : 0 < dnum x) (h : DB x B) (hP1 : 1 ≤ P) (up : Bool) : DB (droot x P up) (B / 2 + P + 3) := by
  have x0 : x ≠ 0 := fun e => by rw [e] at h0; exact absurd h0 (by decide)
  obtain ⟨_, _, f3, _⟩ := droot_to h0 hP1 up rfl rfl
  obtain ⟨_, hn2, _⟩ := rbitsN_ok (A := (dnum x).natAbs) (P := P) (ex := dexp x)
  obtain ⟨t1, t2⟩ := h.top x0
  have hb : bl (rsticky ((dnum x).natAbs * 2 ^ rbitsN (dnum x).natAbs P (dexp x))) = (bl (dnum x).natAbs + rbitsN (dnum x).natAbs P (dexp x) + 1) / 2 + 1 := by
    rw [bl_rsticky (Nat.mul_ne_zero (by omega) (Nat.ne_of_gt (Nat.two_pow_pos _))), bl_up (by omega)]
  have hr := RF_bits (s := false) f3 up
  unfold droot
  rw [if_neg (Int.not_le.2 h0)]
  simp only
  generalize rbitsN (dnum x).natAbs P (dexp x) = n at *
  generalize rsticky ((dnum x).natAbs * 2 ^ n) = m at *
  refine DB.rng (L := P + 1) hr ?_ ?_
  · omega
  · omega
/-- rounded upwards to so many bits -/
def upr (x : Dyadic) (P : Nat) : Dyadic := if x = 0 then 0 else gfl x (dtop x - P + 1) true
theorem RF_bits' (a : Int) {P : Nat} (hP : P < bl a.natAbs) (up : Bool) : Lt2 (RF a (2 ^ (bl a.natAbs - P)) up).natAbs (P + 1) := by
  unfold Lt2
  refine Nat.lt_of_le_of_lt (RF_abs _ (Nat.two_pow_pos _) up) ?_
  have h : a.natAbs / 2 ^ (bl a.natAbs - P) < 2 ^ P := Nat.div_lt_of_lt_mul (by rw [← Nat.pow_add, show bl a.natAbs - P + P = bl a.natAbs by omega]; exact bl_lt _)
  rw [Nat.pow_succ]
  have := Nat.two_pow_pos P
  omega
theorem gfl_db {x : Dyadic} {B P : Nat} (h : DB x B) (h0 : x ≠ 0) (hP : 1 ≤ P) (up : Bool) : DB (gfl x (dtop x - P + 1) up) (B + 1) := by
  obtain ⟨t1, t2⟩ := h.top h0
  have he := h.num.2
  unfold gfl
  split
  · exact h.mono (by omega)
  · rename_i q
    have q1 : ¬ dtop x - P + 1 ≤ dexp x := fun e => q (.inr e)
    have ht : dtop x = (bl (dnum x).natAbs : Int) - 1 + dexp x := if_neg h0
    have e1 : (dtop x - P + 1 - dexp x).toNat = bl (dnum x).natAbs - P := by omega
    rw [e1]
    exact DB.rng (L := P + 1) (RF_bits' (dnum x) (by omega) up) (by omega) (by omega)
theorem upr_db {x : Dyadic} {B P : Nat} (h : DB x B) (hP : 1 ≤ P) : DB (upr x P) (B + 1) := by
  unfold upr
  split
  · exact DB.zero _
  · rename_i q
    exact gfl_db h q hP true
/-- a radius as it counts -/
def rp (r : Dyadic) : Dyadic := if (dnum r).sign < 0 then 0 else r
theorem rp_db {r : Dyadic} {B : Nat} (h : DB r B) : DB (rp r) B := by
  unfold rp
  split
  · exact DB.zero _
  · exact h
/-- the greater one, the lesser one -/
def dmx (x y : Dyadic) : Dyadic := if 0 ≤ (dnum (x - y)).sign then x else y
theorem dsub_0 (x : Dyadic) : x - 0 = x := by grind
theorem rp_dmx (x : Dyadic) : dmx x 0 = rp x := by
  unfold dmx rp
  rw [dsub_0]
  by_cases h : (dnum x).sign < 0
  · rw [if_pos h, if_neg (by omega)]
  · rw [if_neg h, if_pos (by omega)]
end Go.Ab

set_option linter.unusedVariables false
set_option maxRecDepth 20000
set_option linter.unusedSimpArgs false
set_option linter.unusedSectionVars false
namespace Go.Ab
open Go.Proofs
open Cx (zero one)
attribute [-go_sem] appF newsF
variable {a b : AV} {x y r s : Dyadic} {z w c d : Cx} {B C B' C' n m : Nat}
/-! rounding upwards, the greater one, discs: of the code -/
theorem rup_s (q v sh : Int) (hl : Lz v < 1099511627) : Sat CT false 175 [WI q, WI v, I64 sh, I64 1] (Bo (decide (0 < v.sign))) := by
  refine sat_of round_up.ok (by simp) ?_
  have DD := round_up.dr
  simp only [drP, drPx, drPt, drR, drS, drT, bodyOf, Tryz.f175, Nat.reduceEqDiff, reduceIte, true_and, and_true] at DD
  have s1 := sign_r (RI_W (z := v) (Nat.le_refl _)) hl
  simp -implicitDefEqProofs only [go_sem, simprocAttr, -Int.reducePow, Tryz.f175, DD, gt_iff_lt, List.take_succ_cons, List.drop_succ_cons]
  refine callK_q whole_Sign.call (s1) rfl rfl ?_
  simp -implicitDefEqProofs only [go_sem, simprocAttr, -Int.reducePow, DD, gt_iff_lt, List.take_succ_cons, List.drop_succ_cons]
theorem RF_pos (A k : Nat) : RF (A : Int) (2 ^ k) true = ((A / 2 ^ k : Nat) : Int) + if A % 2 ^ k = 0 then 0 else 1 := by
  unfold RF
  have e : ((A : Int) % ((2 ^ k : Nat) : Int) = 0) ↔ A % 2 ^ k = 0 := by rw [← Int.natCast_emod]; omega
  simp only [true_and, ne_eq, e, Int.natCast_ediv]
  by_cases h : A % 2 ^ k = 0
  · rw [if_neg (fun q => q h), if_pos h]
  · rw [if_pos h, if_neg h]
theorem rest_nat (A k : Nat) : (A : Int) - ((A / 2 ^ k : Nat) : Int) * 2 ^ k = ((A % 2 ^ k : Nat) : Int) := by
  have h := Nat.div_add_mod A (2 ^ k)
  have e : ((A / 2 ^ k : Nat) : Int) * 2 ^ k = ((2 ^ k * (A / 2 ^ k) : Nat) : Int) := by rw [Int.natCast_mul, Int.mul_comm, Int.natCast_pow]; rfl
  rw [e]; omega
theorem nat_lim {A L : Nat} (h : Lt2 A (32 * L)) : (lim A).length ≤ L := lim_length_le (by
  rw [show (4294967296 : Nat) = 2 ^ 32 from rfl, ← Nat.pow_mul]; exact h)
theorem natAbs_succ (q : Nat) : ((q : Int) + 1).natAbs ≤ q + 1 := by omega
theorem WI_pos (A : Nat) : WI (A : Int) = IA false (lim A) := by unfold WI; rw [Int.natAbs_natCast, decide_eq_false (by omega)]
set_option maxHeartbeats 1000000 in
theorem grid_up (hx : DB x B) (hB : B ≤ 19000) (h0 : 0 < dnum x) (e : Int) (he : ¬ e ≤ dexp x) (hk : e.natAbs ≤ 70000) : Sat CT false 148 [DI x, I64 e, I64 1] (DI (gfl x e true)) := by
  refine sat_of round_grid.ok (by simp) ?_
  have DD := round_grid.dr
  simp only [drP, drPx, drPt, drR, drS, drT, bodyOf, Tryz.f148, Nat.reduceEqDiff, reduceIte, true_and, and_true] at DD
  have n1 := dnorm_r (RD_D hx) (by omega)
  have hxe := hx.num.2
  have hxn := hx.num.1
  have x0 : x ≠ 0 := fun q => by rw [q] at h0; exact absurd h0 (by decide)
  have hg : gfl x e true = dv (RF (dnum x) (2 ^ (e - dexp x).toNat) true) e := if_neg (fun q => q.elim x0 he)
  rw [hg]
  have hdx : decide (dnum x < 0) = false := decide_eq_false (by omega)
  obtain ⟨A, hA⟩ : ∃ A : Nat, dnum x = A := ⟨(dnum x).toNat, by omega⟩
  obtain ⟨k, hk2⟩ : ∃ k, (e - dexp x).toNat = k := ⟨_, rfl⟩
  have w1 : IntKind.i64.wrap (e - dexp x) = (k : Int) := by rw [wrap_id (by omega)]; omega
  rw [hk2, hA, RF_pos]
  have eDI : DI x = DA false (lim A) (dexp x) := by unfold DI; rw [hdx, hA]; rfl
  rw [eDI] at n1 ⊢
  have bA : Lt2 A (32 * 1300) := Lt2.mono (show Lt2 A (2 * B) by rw [hA] at hxn; exact hxn) (by omega)
  have lA : (lim A).length ≤ 1300 := nat_lim bA
  have bq : Lt2 (A / 2 ^ k) (32 * 1300) := Lt2.low (Nat.div_le_self _ _) bA
  have br : Lt2 (A % 2 ^ k) (32 * 1300) := Lt2.low (Nat.mod_le _ _) bA
  have lq : Lz ((A / 2 ^ k : Nat) : Int) ≤ 1300 := nat_lim bq
  have lr : Lz ((A % 2 ^ k : Nat) : Int) ≤ 1300 := nat_lim br
  have d1 := wdown_pos A k (Nat.lt_of_le_of_lt lA (by decide)) (by omega)
  have u1 := wup_W ((A / 2 ^ k : Nat) : Int) k (Nat.lt_of_le_of_lt lq (by decide)) (by omega)
  have lu : Lz (((A / 2 ^ k : Nat) : Int) * 2 ^ k) ≤ 1300 := by
    have e1 : ((A / 2 ^ k : Nat) : Int) * 2 ^ k = ((A / 2 ^ k * 2 ^ k : Nat) : Int) := by rw [Int.natCast_mul, Int.natCast_pow]; rfl
    rw [e1]
    exact nat_lim (Lt2.low (Nat.div_mul_le_self _ _) bA)
  have s1 := sub_r (RI_W (z := (A : Int)) (L := 1300) lA) (RI_W (L := 1300) lu) (by decide) (by decide)
  rw [rest_nat, WI_pos] at s1
  have p1 := rup_s ((A / 2 ^ k : Nat) : Int) ((A % 2 ^ k : Nat) : Int) k (Nat.lt_of_le_of_lt lr (by decide))
  have o1 := wof_sat 1 (by decide) (by decide)
  have a1 := add_r (RI_W (z := ((A / 2 ^ k : Nat) : Int)) (L := 1300) lq) (RI_W (z := 1) (L := 1) (lim_length_le (by decide))) (by decide) (by decide)
  by_cases hr : A % 2 ^ k = 0
  · rw [if_pos hr, Int.add_zero]
    rw [decide_eq_false (show ¬ 0 < (((A % 2 ^ k : Nat) : Int)).sign by rw [hr]; decide)] at p1
    have r1 := raw_W ((A / 2 ^ k : Nat) : Int) e (Lt2.mono (show Lt2 _ _ from bq) (by decide)) (Nat.lt_of_le_of_lt lq (by decide)) (by omega)
    simp -implicitDefEqProofs only [go_sem, simprocAttr, -Int.reducePow, Tryz.f148, DD, he, ge_iff_le, w1, List.take_succ_cons, List.drop_succ_cons]
    refine callK_q dyad_Norm.call (n1) rfl rfl ?_
    simp -implicitDefEqProofs only [go_sem, simprocAttr, -Int.reducePow, DD, he, ge_iff_le, w1, List.take_succ_cons, List.drop_succ_cons]
    refine callK_q whole_Downwards.call (d1) rfl rfl ?_
    simp -implicitDefEqProofs only [go_sem, simprocAttr, -Int.reducePow, DD, he, ge_iff_le, w1, List.take_succ_cons, List.drop_succ_cons]
    refine callK_q whole_Up.call (u1) rfl rfl ?_
    simp -implicitDefEqProofs only [go_sem, simprocAttr, -Int.reducePow, DD, he, ge_iff_le, w1, List.take_succ_cons, List.drop_succ_cons]
    refine callK_q whole_Sub.call (s1) rfl rfl ?_
    simp -implicitDefEqProofs only [go_sem, simprocAttr, -Int.reducePow, DD, he, ge_iff_le, w1, List.take_succ_cons, List.drop_succ_cons]
    refine callK_q round_up.call (p1) rfl rfl ?_
    simp -implicitDefEqProofs only [go_sem, simprocAttr, -Int.reducePow, DD, he, ge_iff_le, w1, List.take_succ_cons, List.drop_succ_cons]
    refine callK_q dyad_Raw.call (r1) rfl rfl ?_
    simp -implicitDefEqProofs only [go_sem, simprocAttr, -Int.reducePow, DD, he, ge_iff_le, w1, List.take_succ_cons, List.drop_succ_cons]
  · rw [if_neg hr]
    rw [decide_eq_true (show 0 < (((A % 2 ^ k : Nat) : Int)).sign by rw [Int.sign_eq_one_of_pos (by omega)]; decide)] at p1
    have r1 := raw_W (((A / 2 ^ k : Nat) : Int) + 1) e (Lt2.mono (Lt2.succ (natAbs_succ _) (show Lt2 (A / 2 ^ k) (32 * 1300) from bq)) (by decide)) (Nat.lt_of_le_of_lt (Lz_add lq (Nat.le_trans (lim_length_le (k := 1) (by decide)) (by decide))) (by decide)) (by omega)
    simp -implicitDefEqProofs only [go_sem, simprocAttr, -Int.reducePow, Tryz.f148, DD, he, ge_iff_le, w1, List.take_succ_cons, List.drop_succ_cons]
    refine callK_q dyad_Norm.call (n1) rfl rfl ?_
    simp -implicitDefEqProofs only [go_sem, simprocAttr, -Int.reducePow, DD, he, ge_iff_le, w1, List.take_succ_cons, List.drop_succ_cons]
    refine callK_q whole_Downwards.call (d1) rfl rfl ?_
    simp -implicitDefEqProofs only [go_sem, simprocAttr, -Int.reducePow, DD, he, ge_iff_le, w1, List.take_succ_cons, List.drop_succ_cons]
    refine callK_q whole_Up.call (u1) rfl rfl ?_
    simp -implicitDefEqProofs only [go_sem, simprocAttr, -Int.reducePow, DD, he, ge_iff_le, w1, List.take_succ_cons, List.drop_succ_cons]
    refine callK_q whole_Sub.call (s1) rfl rfl ?_
    simp -implicitDefEqProofs only [go_sem, simprocAttr, -Int.reducePow, DD, he, ge_iff_le, w1, List.take_succ_cons, List.drop_succ_cons]
    refine callK_q round_up.call (p1) rfl rfl ?_
    simp -implicitDefEqProofs only [go_sem, simprocAttr, -Int.reducePow, DD, he, ge_iff_le, w1, List.take_succ_cons, List.drop_succ_cons]
    refine callK_q whole_Of.call (o1) rfl rfl ?_
    simp -implicitDefEqProofs only [go_sem, simprocAttr, -Int.reducePow, DD, he, ge_iff_le, w1, List.take_succ_cons, List.drop_succ_cons]
    refine callK_q whole_Add.call (a1) rfl rfl ?_
    simp -implicitDefEqProofs only [go_sem, simprocAttr, -Int.reducePow, DD, he, ge_iff_le, w1, List.take_succ_cons, List.drop_succ_cons]
    refine callK_q dyad_Raw.call (r1) rfl rfl ?_
    simp -implicitDefEqProofs only [go_sem, simprocAttr, -Int.reducePow, DD, he, ge_iff_le, w1, List.take_succ_cons, List.drop_succ_cons]
theorem to_up1 (hx : DB x B) (hB : B ≤ 19000) (hp : 0 < dnum x) (p : Int) : Sat CT false 124 [DI x, I64 p, I64 1] (DI (gfl x (dtop x - heldP p + 1) true)) := by
  refine sat_of round_To.ok (by simp) ?_
  have DD := round_To.dr
  simp only [drP, drPx, drPt, drR, drS, drT, bodyOf, Tryz.f124, Nat.reduceEqDiff, reduceIte, true_and, and_true] at DD
  have q : x ≠ 0 := fun e => by rw [e] at hp; exact absurd hp (by decide)
  have s1 := dsign_r (RD_D hx) (by omega)
  have u1 := unit5 (RD_D hx) (by omega) p
  have c1 := sg_ne q
  have hP := (heldP_v p).2.2.2
  obtain ⟨t1, t2⟩ := hx.top q
  have ht : dtop x = (bl (dnum x).natAbs : Int) - 1 + dexp x := if_neg q
  have hex := hx.num.2
  by_cases he : dtop x - heldP p + 1 ≤ dexp x
  · have g1 := grid5 (RD_D hx) (by omega) (dtop x - heldP p + 1) 1 he
    rw [show gfl x (dtop x - heldP p + 1) true = x from if_pos (.inr he)]
    simp -implicitDefEqProofs only [go_sem, simprocAttr, -Int.reducePow, Tryz.f124, DD, c1, List.take_succ_cons, List.drop_succ_cons]
    refine callK_q dyad_Sign.call (s1) rfl rfl ?_
    simp -implicitDefEqProofs only [go_sem, simprocAttr, -Int.reducePow, DD, c1, List.take_succ_cons, List.drop_succ_cons]
    refine callK_q round_unit.call (u1) rfl rfl ?_
    simp -implicitDefEqProofs only [go_sem, simprocAttr, -Int.reducePow, DD, c1, List.take_succ_cons, List.drop_succ_cons]
    refine callK_q round_grid.call (g1) rfl rfl ?_
    simp -implicitDefEqProofs only [go_sem, simprocAttr, -Int.reducePow, DD, c1, List.take_succ_cons, List.drop_succ_cons]
  · have g1 := grid_up hx hB hp (dtop x - heldP p + 1) he (by omega)
    simp -implicitDefEqProofs only [go_sem, simprocAttr, -Int.reducePow, Tryz.f124, DD, c1, List.take_succ_cons, List.drop_succ_cons]
    refine callK_q dyad_Sign.call (s1) rfl rfl ?_
    simp -implicitDefEqProofs only [go_sem, simprocAttr, -Int.reducePow, DD, c1, List.take_succ_cons, List.drop_succ_cons]
    refine callK_q round_unit.call (u1) rfl rfl ?_
    simp -implicitDefEqProofs only [go_sem, simprocAttr, -Int.reducePow, DD, c1, List.take_succ_cons, List.drop_succ_cons]
    refine callK_q round_grid.call (g1) rfl rfl ?_
    simp -implicitDefEqProofs only [go_sem, simprocAttr, -Int.reducePow, DD, c1, List.take_succ_cons, List.drop_succ_cons]
theorem to_up (hx : DB x B) (hB : B ≤ 19000) (h0 : 0 ≤ dnum x) (p : Int) : Sat CT false 124 [DI x, I64 p, I64 1] (DI (upr x (heldP p))) := by
  by_cases q : x = 0
  · have t := to5_0 (RD_D hx) (by omega) p 1 q
    unfold upr
    rw [if_pos q, DI_0]
    exact t
  · have hp : 0 < dnum x := by
      have : dnum x ≠ 0 := fun e => q (dnum_zero.1 e)
      omega
    have e0 : upr x (heldP p) = gfl x (dtop x - heldP p + 1) true := if_neg q
    rw [e0]
    exact to_up1 hx hB hp p
theorem dmax_r (ha : RD a x B) (hb : RD b y C) (hB : B ≤ 19000) (hC : C ≤ 19000) : Sat CT false 88 [a, b] (DI (dmx x y)) := by
  refine sat_of dyad_Max.ok (by simp) ?_
  have DD := dyad_Max.dr
  simp only [drP, drPx, drPt, drR, drS, drT, bodyOf, Tryz.f88, Nat.reduceEqDiff, reduceIte, true_and, and_true] at DD
  have k1 := dcmp_r ha hb hB hC
  have o1 := dof_r ha (by omega)
  have o2 := dof_r hb (by omega)
  obtain ⟨n, l, e, rfl, _⟩ := ha
  obtain ⟨n', l', e', rfl, _⟩ := hb
  by_cases h : 0 ≤ (dnum (x - y)).sign
  · rw [show dmx x y = x from if_pos h]
    simp -implicitDefEqProofs only [go_sem, simprocAttr, -Int.reducePow, Tryz.f88, DD, h, ge_iff_le, List.take_succ_cons, List.drop_succ_cons]
    refine callK_q dyad_Cmp.call (k1) rfl rfl ?_
    simp -implicitDefEqProofs only [go_sem, simprocAttr, -Int.reducePow, DD, h, ge_iff_le, List.take_succ_cons, List.drop_succ_cons]
    refine callK_q dyad_of.call (o1) rfl rfl ?_
    simp -implicitDefEqProofs only [go_sem, simprocAttr, -Int.reducePow, DD, h, ge_iff_le, List.take_succ_cons, List.drop_succ_cons]
  · rw [show dmx x y = y from if_neg h]
    simp -implicitDefEqProofs only [go_sem, simprocAttr, -Int.reducePow, Tryz.f88, DD, h, ge_iff_le, List.take_succ_cons, List.drop_succ_cons]
    refine callK_q dyad_Cmp.call (k1) rfl rfl ?_
    simp -implicitDefEqProofs only [go_sem, simprocAttr, -Int.reducePow, DD, h, ge_iff_le, List.take_succ_cons, List.drop_succ_cons]
    refine callK_q dyad_of.call (o2) rfl rfl ?_
    simp -implicitDefEqProofs only [go_sem, simprocAttr, -Int.reducePow, DD, h, ge_iff_le, List.take_succ_cons, List.drop_succ_cons]
/-- a disc as it must be; one that comes in -/
def TI (c : Cx) (r : Dyadic) : AV := .agg [Bo (decide (dnum c.re < 0)), U32 (lim (dnum c.re).natAbs), I64 (dexp c.re), Bo (decide (dnum c.im < 0)), U32 (lim (dnum c.im).natAbs), I64 (dexp c.im), Bo (decide (dnum r < 0)), U32 (lim (dnum r).natAbs), I64 (dexp r)]
def RT (a : AV) (c : Cx) (r : Dyadic) (B B' : Nat) : Prop := ∃ n l e m k f o p q, a = .agg [Bo n, U32 l, I64 e, Bo m, U32 k, I64 f, Bo o, U32 p, I64 q] ∧ RD (DA n l e) c.re B ∧ RD (DA m k f) c.im B ∧ RD (DA o p q) r B'
theorem RT.ex (h : RT a c r B B') : ∃ n l e m k f o p q, a = .agg [Bo n, U32 l, I64 e, Bo m, U32 k, I64 f, Bo o, U32 p, I64 q] ∧ RC (.agg [Bo n, U32 l, I64 e, Bo m, U32 k, I64 f]) c B ∧ RD (DA o p q) r B' := by
  obtain ⟨n, l, e, m, k, f, o, p, q, h0, h1, h2, h3⟩ := h
  exact ⟨n, l, e, m, k, f, o, p, q, h0, ⟨n, l, e, m, k, f, rfl, h1, h2⟩, h3⟩
theorem RT_T (hc : CB c B) (hr : DB r B') : RT (TI c r) c r B B' := ⟨_, _, _, _, _, _, _, _, _, rfl, RD_D hc.1, RD_D hc.2, RD_D hr⟩
theorem RT.cb (h : RT a c r B B') : CB c B := by obtain ⟨_, _, _, _, _, _, _, _, _, _, h, _⟩ := h.ex; exact h.cb
theorem RT.db (h : RT a c r B B') : DB r B' := by obtain ⟨_, _, _, _, _, _, _, _, _, _, _, h⟩ := h.ex; exact h.db
theorem RT.mono (h : RT a c r B B') (hC : B ≤ C) (hC' : B' ≤ C') : RT a c r C C' := by
  obtain ⟨n, l, e, m, k, f, o, p, q, h0, h1, h2, h3⟩ := h
  exact ⟨n, l, e, m, k, f, o, p, q, h0, h1.mono hC, h2.mono hC, h3.mono hC'⟩
theorem dfar_s (ha : RD a x B) (hB : B ≤ 19000) : Sat CT false 121 [a] (DI (rp x)) := by
  refine sat_of disc_far.ok (by simp) ?_
  have DD := disc_far.dr
  simp only [drP, drPx, drPt, drR, drS, drT, bodyOf, Tryz.f121, Nat.reduceEqDiff, reduceIte, true_and, and_true] at DD
  have k1 := dmax_r ha rd0 hB (by decide)
  rw [rp_dmx] at k1
  obtain ⟨n, l, e, rfl, _⟩ := ha
  simp -implicitDefEqProofs only [go_sem, simprocAttr, -Int.reducePow, Tryz.f121, DD, List.take_succ_cons, List.drop_succ_cons]
  refine callK_q dyad_Max.call (k1) rfl rfl ?_
  simp -implicitDefEqProofs only [go_sem, simprocAttr, -Int.reducePow, DD, List.take_succ_cons, List.drop_succ_cons]
theorem dwith_s (hc : RC a z B) (hr : RD b r C) (hB : B ≤ 19000) (hC : C ≤ 19000) : Sat CT false 122 [a, b] (TI z (rp r)) := by
  refine sat_of disc_with.ok (by simp) ?_
  have DD := disc_with.dr
  simp only [drP, drPx, drPt, drR, drS, drT, bodyOf, Tryz.f122, Nat.reduceEqDiff, reduceIte, true_and, and_true] at DD
  have g1 := gscale0_r hc (by omega)
  have k1 := dfar_s hr hC
  obtain ⟨n, l, e, m, k, f, rfl, _⟩ := hc
  obtain ⟨n', l', e', rfl, _⟩ := hr
  simp -implicitDefEqProofs only [go_sem, simprocAttr, -Int.reducePow, Tryz.f122, DD, TI, List.take_succ_cons, List.drop_succ_cons]
  refine callK_q gauss_Scale.call (g1) rfl rfl ?_
  simp -implicitDefEqProofs only [go_sem, simprocAttr, -Int.reducePow, DD, TI, List.take_succ_cons, List.drop_succ_cons]
  refine callK_q disc_far.call (k1) rfl rfl ?_
  simp -implicitDefEqProofs only [go_sem, simprocAttr, -Int.reducePow, DD, TI, List.take_succ_cons, List.drop_succ_cons]
theorem rp0 : rp 0 = 0 := by unfold rp; split <;> rfl
theorem dofc_s (hc : RC a z B) (hB : B ≤ 19000) : Sat CT false 94 [a] (TI z 0) := by
  refine sat_of disc_Of.ok (by simp) ?_
  have DD := disc_Of.dr
  simp only [drP, drPx, drPt, drR, drS, drT, bodyOf, Tryz.f94, Nat.reduceEqDiff, reduceIte, true_and, and_true] at DD
  have k1 := dwith_s hc rd0 hB (by decide)
  rw [rp0] at k1
  obtain ⟨n, l, e, m, k, f, rfl, _⟩ := hc
  simp -implicitDefEqProofs only [go_sem, simprocAttr, -Int.reducePow, Tryz.f94, DD, TI, List.take_succ_cons, List.drop_succ_cons]
  refine callK_q disc_with.call (k1) rfl rfl ?_
  simp -implicitDefEqProofs only [go_sem, simprocAttr, -Int.reducePow, DD, TI, List.take_succ_cons, List.drop_succ_cons]
theorem dsq_s (ha : RD a x B) (hB : B ≤ 19000) : Sat CT false 120 [a] (DI (x * x)) := by
  refine sat_of disc_square.ok (by simp) ?_
  have DD := disc_square.dr
  simp only [drP, drPx, drPt, drR, drS, drT, bodyOf, Tryz.f120, Nat.reduceEqDiff, reduceIte, true_and, and_true] at DD
  have k1 := dmul_r ha ha (by omega) (by omega)
  obtain ⟨n, l, e, rfl, _⟩ := ha
  simp -implicitDefEqProofs only [go_sem, simprocAttr, -Int.reducePow, Tryz.f120, DD, List.take_succ_cons, List.drop_succ_cons]
  refine callK_q dyad_Mul.call (k1) rfl rfl ?_
  simp -implicitDefEqProofs only [go_sem, simprocAttr, -Int.reducePow, DD, List.take_succ_cons, List.drop_succ_cons]
/-- who has whom -/
def hasP (c : Cx) (r : Dyadic) (w : Cx) : Prop := (dnum (nrm (w - c) - r * r)).sign ≤ 0
def inP (c : Cx) (r : Dyadic) (d : Cx) (s : Dyadic) : Prop := 0 ≤ (dnum (s - r)).sign ∧ (dnum (nrm (c - d) - (s - r) * (s - r))).sign ≤ 0
def apP (c : Cx) (r : Dyadic) (d : Cx) (s : Dyadic) : Prop := 0 < (dnum (nrm (c - d) - (r + s) * (r + s))).sign
instance (c : Cx) (r : Dyadic) (w : Cx) : Decidable (hasP c r w) := by unfold hasP; exact inferInstance
instance (c : Cx) (r : Dyadic) (d : Cx) (s : Dyadic) : Decidable (inP c r d s) := by unfold inP; exact inferInstance
instance (c : Cx) (r : Dyadic) (d : Cx) (s : Dyadic) : Decidable (apP c r d s) := by unfold apP; exact inferInstance
theorem CB.sub' (h : CB z B) (g : CB w C) : CB (z - w) (max B C + 1) := ⟨(h.1.mono (Nat.le_max_left B C)).sub (g.1.mono (Nat.le_max_right B C)), (h.2.mono (Nat.le_max_left B C)).sub (g.2.mono (Nat.le_max_right B C))⟩
theorem DB.sub' (h : DB x B) (g : DB y C) : DB (x - y) (max B C + 1) := (h.mono (Nat.le_max_left B C)).sub (g.mono (Nat.le_max_right B C))
theorem DB.add' (h : DB x B) (g : DB y C) : DB (x + y) (max B C + 1) := (h.mono (Nat.le_max_left B C)).add (g.mono (Nat.le_max_right B C))
theorem dhas_s (h : RT a c r B B') (g : RC b w C) (hB : B ≤ 8000) (hC : C ≤ 8000) (hB' : B' ≤ 9000) : Sat CT false 87 [a, b] (Bo (decide (hasP c (rp r) w))) := by
  refine sat_of disc_Has.ok (by simp) ?_
  have DD := disc_Has.dr
  simp only [drP, drPx, drPt, drR, drS, drT, bodyOf, Tryz.f87, Nat.reduceEqDiff, reduceIte, true_and, and_true] at DD
  unfold hasP
  obtain ⟨n, l, e, m, k, f, o, p, q, rfl, hc, hr⟩ := h.ex
  have u1 := gsub_r g hc (by omega) (by omega)
  have b1 := CB.sub' g.cb hc.cb
  have u2 := gnorm_r (RC_C b1) (by omega)
  have u3 := dfar_s hr (by omega)
  have u4 := dsq_s (RD_D (rp_db hr.db)) (by omega)
  have b4 := (rp_db hr.db).mul (rp_db hr.db)
  have u5 := dcmp_r (RD_D (nrm_db b1)) (RD_D b4) (by omega) (by omega)
  obtain ⟨n', l', e', m', k', f', rfl, _⟩ := g
  simp -implicitDefEqProofs only [go_sem, simprocAttr, -Int.reducePow, Tryz.f87, DD, List.take_succ_cons, List.drop_succ_cons]
  refine callK_q gauss_Sub.call (u1) rfl rfl ?_
  simp -implicitDefEqProofs only [go_sem, simprocAttr, -Int.reducePow, DD, List.take_succ_cons, List.drop_succ_cons]
  refine callK_q gauss_Norm.call (u2) rfl rfl ?_
  simp -implicitDefEqProofs only [go_sem, simprocAttr, -Int.reducePow, DD, List.take_succ_cons, List.drop_succ_cons]
  refine callK_q disc_far.call (u3) rfl rfl ?_
  simp -implicitDefEqProofs only [go_sem, simprocAttr, -Int.reducePow, DD, List.take_succ_cons, List.drop_succ_cons]
  refine callK_q disc_square.call (u4) rfl rfl ?_
  simp -implicitDefEqProofs only [go_sem, simprocAttr, -Int.reducePow, DD, List.take_succ_cons, List.drop_succ_cons]
  refine callK_q dyad_Cmp.call (u5) rfl rfl ?_
  simp -implicitDefEqProofs only [go_sem, simprocAttr, -Int.reducePow, DD, List.take_succ_cons, List.drop_succ_cons]
theorem dfarn_s (h : RT a c r B B') (hB : B ≤ 5290) (p : Int) : Sat CT false 123 [a, I64 p] (DI (far c (heldP p) true)) := by
  refine sat_of disc_Far.ok (by simp) ?_
  have DD := disc_Far.dr
  simp only [drP, drPx, drPt, drR, drS, drT, bodyOf, Tryz.f123, Nat.reduceEqDiff, reduceIte, true_and, and_true] at DD
  obtain ⟨n, l, e, m, k, f, o, p', q', rfl, hc, hr⟩ := h.ex
  have u1 := gnorm_r hc (by omega)
  have hn := nrm_db hc.cb
  by_cases q : dnum (nrm c) ≤ 0
  · have r1 := qroot_n (RD_D hn) q (by omega) p 1
    rw [show far c (heldP p) true = 0 from droot_0 q _ _, DI_0]
    simp -implicitDefEqProofs only [go_sem, simprocAttr, -Int.reducePow, Tryz.f123, DD, QZ, List.take_succ_cons, List.drop_succ_cons]
    refine callK_q gauss_Norm.call (u1) rfl rfl ?_
    simp -implicitDefEqProofs only [go_sem, simprocAttr, -Int.reducePow, DD, QZ, List.take_succ_cons, List.drop_succ_cons]
    refine callK_q quot_Root.call (r1) rfl rfl ?_
    simp -implicitDefEqProofs only [go_sem, simprocAttr, -Int.reducePow, DD, QZ, List.take_succ_cons, List.drop_succ_cons]
    rfl
  · have r1 := qroot_ok (RD_D hn) (Int.not_le.1 q) (by omega) p 1
    rw [show far c (heldP p) true = droot (nrm c) (heldP p) (decide ((1 : Int) = 1)) from rfl]
    simp -implicitDefEqProofs only [go_sem, simprocAttr, -Int.reducePow, Tryz.f123, DD, List.take_succ_cons, List.drop_succ_cons]
    refine callK_q gauss_Norm.call (u1) rfl rfl ?_
    simp -implicitDefEqProofs only [go_sem, simprocAttr, -Int.reducePow, DD, List.take_succ_cons, List.drop_succ_cons]
    refine callK_q quot_Root.call (r1) rfl rfl ?_
    simp -implicitDefEqProofs only [go_sem, simprocAttr, -Int.reducePow, DD, List.take_succ_cons, List.drop_succ_cons]
end Go.Ab

set_option linter.unusedVariables false
set_option maxRecDepth 20000
set_option linter.unusedSimpArgs false
set_option linter.unusedSectionVars false
namespace Go.Ab
open Go.Proofs
open Cx (zero one)
attribute [-go_sem] appF newsF
variable {a b : AV} {x y r s : Dyadic} {z w c d : Cx} {B C B' C' n m : Nat}
/-! more of discs: of the code -/
theorem sgn_nn {x : Dyadic} : 0 ≤ dnum x ↔ 0 ≤ x.toRat := by
  have h := (dsg_rat x).2
  unfold dsg at h
  have h1 := (dsg_rat (-x)).1
  have e : dsg (-x) = - dsg x := by unfold dsg; rw [(dneg_num x).1, Int.sign_neg]
  rw [e, Dyadic.toRat_neg] at h1
  have e2 : (- dsg x ≤ 0) ↔ 0 ≤ dnum x := by
    unfold dsg
    rw [← Int.sign_nonneg_iff]
    omega
  rw [← e2, h1]
  constructor <;> (intro; grind)
theorem rp_nn (r : Dyadic) : 0 ≤ (rp r).toRat := by
  rw [← sgn_nn]
  unfold rp
  split
  · exact Int.le_refl _
  · rename_i h
    have := Int.sign_nonneg_iff (x := dnum r)
    omega
theorem rp_id {r : Dyadic} (h : 0 ≤ r.toRat) : rp r = r := by
  rw [← sgn_nn] at h
  unfold rp
  have := Int.sign_nonneg_iff (x := dnum r)
  rw [if_neg (by omega)]
theorem nn_add (hx : 0 ≤ x.toRat) (hy : 0 ≤ y.toRat) : 0 ≤ (x + y).toRat := by rw [Dyadic.toRat_add]; grind
theorem nn_mul (hx : 0 ≤ x.toRat) (hy : 0 ≤ y.toRat) : 0 ≤ (x * y).toRat := by rw [Dyadic.toRat_mul]; exact Rat.mul_nonneg hx hy
/-- what a disc of products is as wide as, before it is rounded -/
def mra (c : Cx) (r : Dyadic) (d : Cx) (s : Dyadic) (P : Nat) : Dyadic := far c P true * s + far d P true * r + r * s
def mrad (c : Cx) (r : Dyadic) (d : Cx) (s : Dyadic) (P : Nat) : Dyadic := upr (mra c r d s P) P
theorem far_db2 (h : CB z B) {P : Nat} (hP1 : 1 ≤ P) (up : Bool) : DB (far z P up) (B + P + 3) := by
  unfold far
  have hn := nrm_db h
  by_cases q : dnum (nrm z) ≤ 0
  · rw [droot_0 q]; exact DB.zero _
  · exact (droot_db2 (Int.not_le.1 q) hn hP1 up).mono (by omega)
theorem far_nn (z : Cx) {P : Nat} (hP : 1 ≤ P) : 0 ≤ (far z P true).toRat := (far_rat z hP).1
theorem upr_nn {P : Nat} (hP : 1 ≤ P) (h : 0 ≤ x.toRat) : 0 ≤ (upr x P).toRat := by
  rw [← sgn_nn] at h ⊢
  unfold upr
  split
  · exact Int.le_refl _
  · unfold gfl
    split
    · exact h
    · have h2 : 0 ≤ RF (dnum x) (2 ^ (dtop x - P + 1 - dexp x).toNat) true := by
        unfold RF
        have : 0 ≤ dnum x / ((2 ^ (dtop x - P + 1 - dexp x).toNat : Nat) : Int) := Int.ediv_nonneg h (Int.natCast_nonneg _)
        split <;> omega
      have h3 := dnum_lt (m := RF (dnum x) (2 ^ (dtop x - P + 1 - dexp x).toNat) true) (e := dtop x - P + 1)
      omega
theorem mra_nn (hr : 0 ≤ r.toRat) (hs : 0 ≤ s.toRat) {P : Nat} (hP : 1 ≤ P) : 0 ≤ (mra c r d s P).toRat :=
  nn_add (nn_add (nn_mul (far_nn c hP) hs) (nn_mul (far_nn d hP) hr)) (nn_mul hr hs)
theorem mra_db (hc : CB c B) (hr : DB r B') (hd : CB d C) (hs : DB s C') {P K : Nat} (hP : 1 ≤ P) (h1 : B + P + 3 + C' ≤ K) (h2 : C + P + 3 + B' ≤ K) (h3 : B' + C' ≤ K) : DB (mra c r d s P) (K + 2) :=
  ((((far_db2 hc hP true).mul hs).mono h1).add (((far_db2 hd hP true).mul hr).mono h2)).add ((hr.mul hs).mono (by omega))
theorem mrad_db (hc : CB c B) (hr : DB r B') (hd : CB d C) (hs : DB s C') {P K : Nat} (hP : 1 ≤ P) (h1 : B + P + 3 + C' ≤ K) (h2 : C + P + 3 + B' ≤ K) (h3 : B' + C' ≤ K) : DB (mrad c r d s P) (K + 3) :=
  upr_db (mra_db hc hr hd hs hP h1 h2 h3) hP
theorem dadds_s (h : RT a c r B B') (g : RT b d s C C') (hB : B ≤ 10000) (hC : C ≤ 10000) (hB' : B' ≤ 10000) (hC' : C' ≤ 10000) : Sat CT false 89 [a, b] (TI (c + d) (rp r + rp s)) := by
  refine sat_of disc_Add.ok (by simp) ?_
  have DD := disc_Add.dr
  simp only [drP, drPx, drPt, drR, drS, drT, bodyOf, Tryz.f89, Nat.reduceEqDiff, reduceIte, true_and, and_true] at DD
  obtain ⟨n, l, e, m, k, f, o, p, q, rfl, hc, hr⟩ := h.ex
  obtain ⟨n', l', e', m', k', f', o', p', q', rfl, gc, gr⟩ := g.ex
  have u1 := gadd_r hc gc (by omega) (by omega)
  have v1 := dfar_s hr (by omega)
  have v2 := dfar_s gr (by omega)
  have v3 := dadd_r (RD_D (rp_db hr.db)) (RD_D (rp_db gr.db)) (by omega) (by omega)
  have b1 : CB (c + d) (max B C + 1) := ⟨DB.add' hc.cb.1 gc.cb.1, DB.add' hc.cb.2 gc.cb.2⟩
  have w1 := dwith_s (RC_C b1) (RD_D (DB.add' (rp_db hr.db) (rp_db gr.db))) (by omega) (by omega)
  rw [rp_id (nn_add (rp_nn r) (rp_nn s))] at w1
  simp -implicitDefEqProofs only [go_sem, simprocAttr, -Int.reducePow, Tryz.f89, DD, TI, List.take_succ_cons, List.drop_succ_cons]
  refine callK_q gauss_Add.call (u1) rfl rfl ?_
  simp -implicitDefEqProofs only [go_sem, simprocAttr, -Int.reducePow, DD, TI, List.take_succ_cons, List.drop_succ_cons]
  refine callK_q disc_far.call (v1) rfl rfl ?_
  simp -implicitDefEqProofs only [go_sem, simprocAttr, -Int.reducePow, DD, TI, List.take_succ_cons, List.drop_succ_cons]
  refine callK_q disc_far.call (v2) rfl rfl ?_
  simp -implicitDefEqProofs only [go_sem, simprocAttr, -Int.reducePow, DD, TI, List.take_succ_cons, List.drop_succ_cons]
  refine callK_q dyad_Add.call (v3) rfl rfl ?_
  simp -implicitDefEqProofs only [go_sem, simprocAttr, -Int.reducePow, DD, TI, List.take_succ_cons, List.drop_succ_cons]
  refine callK_q disc_with.call (w1) rfl rfl ?_
  simp -implicitDefEqProofs only [go_sem, simprocAttr, -Int.reducePow, DD, TI, List.take_succ_cons, List.drop_succ_cons]
theorem dmuls_s (h : RT a c r B B') (g : RT b d s C C') (hB : B ≤ 5290) (hC : C ≤ 5290) (hB' : B' ≤ 10000) (hC' : C' ≤ 10000) (p : Int) {K : Nat} (h1 : B + heldP p + 3 + C' ≤ K) (h2 : C + heldP p + 3 + B' ≤ K) (h3 : B' + C' ≤ K) (hK : K ≤ 15000) :
    Sat CT false 90 [a, b, I64 p] (TI (c * d) (mrad c (rp r) d (rp s) (heldP p))) := by
  refine sat_of disc_Mul.ok (by simp) ?_
  have DD := disc_Mul.dr
  simp only [drP, drPx, drPt, drR, drS, drT, bodyOf, Tryz.f90, Nat.reduceEqDiff, reduceIte, true_and, and_true] at DD
  have hP1 := (heldP_v p).2.2.1
  have f1 := dfarn_s h hB p
  have f2 := dfarn_s g hC p
  obtain ⟨n, l, e, m, k, f, o, p', q, rfl, hc, hr⟩ := h.ex
  obtain ⟨n', l', e', m', k', f', o', p'', q', rfl, gc, gr⟩ := g.ex
  have v1 := dfar_s hr (by omega)
  have v2 := dfar_s gr (by omega)
  have x1 := far_db2 hc.cb hP1 true
  have x2 := far_db2 gc.cb hP1 true
  have u1 := dmul_r (RD_D x1) (RD_D (rp_db gr.db)) (by omega) (by omega)
  have u2 := dmul_r (RD_D x2) (RD_D (rp_db hr.db)) (by omega) (by omega)
  have y1 := (x1.mul (rp_db gr.db)).mono h1
  have y2 := (x2.mul (rp_db hr.db)).mono h2
  have u3 := dadd_r (RD_D y1) (RD_D y2) (by omega) (by omega)
  have g1 := gmul_r hc gc (by omega)
  have u4 := dmul_r (RD_D (rp_db hr.db)) (RD_D (rp_db gr.db)) (by omega) (by omega)
  have u5 := dadd_r (RD_D (y1.add y2)) (RD_D ((rp_db hr.db).mul (rp_db gr.db))) (by omega) (by omega)
  have mb := mra_db hc.cb (rp_db hr.db) gc.cb (rp_db gr.db) hP1 h1 h2 h3
  have mn := mra_nn (c := c) (d := d) (rp_nn r) (rp_nn s) hP1
  have t1 := to_up mb (by omega) (sgn_nn.2 mn) p
  have w1 := dwith_s (RC_C (hc.cb.mul gc.cb)) (RD_D (upr_db mb hP1)) (by omega) (by omega)
  rw [rp_id (upr_nn hP1 mn)] at w1
  unfold mrad mra at *
  simp -implicitDefEqProofs only [go_sem, simprocAttr, -Int.reducePow, Tryz.f90, DD, TI, List.take_succ_cons, List.drop_succ_cons]
  refine callK_q disc_far.call (v1) rfl rfl ?_
  simp -implicitDefEqProofs only [go_sem, simprocAttr, -Int.reducePow, DD, TI, List.take_succ_cons, List.drop_succ_cons]
  refine callK_q disc_far.call (v2) rfl rfl ?_
  simp -implicitDefEqProofs only [go_sem, simprocAttr, -Int.reducePow, DD, TI, List.take_succ_cons, List.drop_succ_cons]
  refine callK_q disc_Far.call (f1) rfl rfl ?_
  simp -implicitDefEqProofs only [go_sem, simprocAttr, -Int.reducePow, DD, TI, List.take_succ_cons, List.drop_succ_cons]
  refine callK_q dyad_Mul.call (u1) rfl rfl ?_
  simp -implicitDefEqProofs only [go_sem, simprocAttr, -Int.reducePow, DD, TI, List.take_succ_cons, List.drop_succ_cons]
  refine callK_q disc_Far.call (f2) rfl rfl ?_
  simp -implicitDefEqProofs only [go_sem, simprocAttr, -Int.reducePow, DD, TI, List.take_succ_cons, List.drop_succ_cons]
  refine callK_q dyad_Mul.call (u2) rfl rfl ?_
  simp -implicitDefEqProofs only [go_sem, simprocAttr, -Int.reducePow, DD, TI, List.take_succ_cons, List.drop_succ_cons]
  refine callK_q dyad_Add.call (u3) rfl rfl ?_
  simp -implicitDefEqProofs only [go_sem, simprocAttr, -Int.reducePow, DD, TI, List.take_succ_cons, List.drop_succ_cons]
  refine callK_q gauss_Mul.call (g1) rfl rfl ?_
  simp -implicitDefEqProofs only [go_sem, simprocAttr, -Int.reducePow, DD, TI, List.take_succ_cons, List.drop_succ_cons]
  refine callK_q dyad_Mul.call (u4) rfl rfl ?_
  simp -implicitDefEqProofs only [go_sem, simprocAttr, -Int.reducePow, DD, TI, List.take_succ_cons, List.drop_succ_cons]
  refine callK_q dyad_Add.call (u5) rfl rfl ?_
  simp -implicitDefEqProofs only [go_sem, simprocAttr, -Int.reducePow, DD, TI, List.take_succ_cons, List.drop_succ_cons]
  refine callK_q round_To.call (t1) rfl rfl ?_
  simp -implicitDefEqProofs only [go_sem, simprocAttr, -Int.reducePow, DD, TI, List.take_succ_cons, List.drop_succ_cons]
  refine callK_q disc_with.call (w1) rfl rfl ?_
  simp -implicitDefEqProofs only [go_sem, simprocAttr, -Int.reducePow, DD, TI, List.take_succ_cons, List.drop_succ_cons]
theorem dgrow_s (h : RT a c r B B') (hB : B ≤ 10000) (hB' : B' ≤ 10000) (v : Int) (h1 : -9223372036854775808 ≤ v) (h2 : v ≤ 9223372036854775807) : Sat CT false 93 [a, I64 v] (TI c (rp (rp r * dv v 0))) := by
  refine sat_of disc_Grow.ok (by simp) ?_
  have DD := disc_Grow.dr
  simp only [drP, drPx, drPt, drR, drS, drT, bodyOf, Tryz.f93, Nat.reduceEqDiff, reduceIte, true_and, and_true] at DD
  obtain ⟨n, l, e, m, k, f, o, p, q, rfl, hc, hr⟩ := h.ex
  have v1 := dfar_s hr (by omega)
  have o1 := dofn_sat v h1 h2
  have bv : DB (dv v 0) 64 := DB.raw (L := 64) (E := 0) (by omega) (by decide) (by decide)
  have u1 := dmul_r (RD_D (rp_db hr.db)) (RD_D bv) (by omega) (by omega)
  have w1 := dwith_s hc (RD_D ((rp_db hr.db).mul bv)) (by omega) (by omega)
  simp -implicitDefEqProofs only [go_sem, simprocAttr, -Int.reducePow, Tryz.f93, DD, TI, List.take_succ_cons, List.drop_succ_cons]
  refine callK_q disc_far.call (v1) rfl rfl ?_
  simp -implicitDefEqProofs only [go_sem, simprocAttr, -Int.reducePow, DD, TI, List.take_succ_cons, List.drop_succ_cons]
  refine callK_q dyad_Of.call (o1) rfl rfl ?_
  simp -implicitDefEqProofs only [go_sem, simprocAttr, -Int.reducePow, DD, TI, List.take_succ_cons, List.drop_succ_cons]
  refine callK_q dyad_Mul.call (u1) rfl rfl ?_
  simp -implicitDefEqProofs only [go_sem, simprocAttr, -Int.reducePow, DD, TI, List.take_succ_cons, List.drop_succ_cons]
  refine callK_q disc_with.call (w1) rfl rfl ?_
  simp -implicitDefEqProofs only [go_sem, simprocAttr, -Int.reducePow, DD, TI, List.take_succ_cons, List.drop_succ_cons]
def RS (a : AV) (x y : Dyadic) (B : Nat) : Prop := ∃ n l e m k f, a = .agg [Bo n, U32 l, I64 e, Bo m, U32 k, I64 f] ∧ RD (DA n l e) x B ∧ RD (DA m k f) y B
theorem RS.db {a : AV} (h : RS a x y B) : DB x B ∧ DB y B := by obtain ⟨_, _, _, _, _, _, _, h1, h2⟩ := h; exact ⟨h1.db, h2.db⟩
end Go.Ab

set_option linter.unusedVariables false
set_option maxRecDepth 20000
set_option linter.unusedSimpArgs false
set_option linter.unusedSectionVars false
namespace Go.Ab
open Go.Proofs
open Cx (zero one)
attribute [-go_sem] appF newsF
variable {a b : AV} {x y r s : Dyadic} {z w c d : Cx} {B C B' C' n m : Nat}
/-! discs: of the document -/
theorem fdisc_s (h : RT a c r B B') (hB : B ≤ 19000) (hB' : B' ≤ 19000) : Sat CT false 42 [a] (TI c (rp r)) := by
  refine sat_of annulusref8_Disc.ok (by simp) ?_
  have DD := annulusref8_Disc.dr
  simp only [drP, drPx, drPt, drR, drS, drT, bodyOf, Tryz.f42, Nat.reduceEqDiff, reduceIte, true_and, and_true] at DD
  obtain ⟨n, l, e, m, k, f, o, p, q, rfl, hc, hr⟩ := h.ex
  have x1 := rexact_r hr (by omega)
  have s1 := rsign4_r (RD_D hr.db) (by omega)
  have u1 := rcplx_r hc (by omega)
  by_cases h1 : (dnum r).sign < 0
  · rw [show rp r = 0 from if_pos h1]
    simp -implicitDefEqProofs only [go_sem, simprocAttr, -Int.reducePow, Tryz.f42, DD, h1, TI, List.take_succ_cons, List.drop_succ_cons]
    refine callK_q annulusref4_Exact.call (x1) rfl rfl ?_
    simp -implicitDefEqProofs only [go_sem, simprocAttr, -Int.reducePow, DD, h1, TI, List.take_succ_cons, List.drop_succ_cons]
    refine callK_q annulusref4_Sign.call (s1) rfl rfl ?_
    simp -implicitDefEqProofs only [go_sem, simprocAttr, -Int.reducePow, DD, h1, TI, List.take_succ_cons, List.drop_succ_cons]
    refine callK_q annulusref8_Cplx.call (u1) rfl rfl ?_
    simp -implicitDefEqProofs only [go_sem, simprocAttr, -Int.reducePow, DD, h1, TI, List.take_succ_cons, List.drop_succ_cons]
    rw [z0a, z0b, de0]
    rfl
  · rw [show rp r = r from if_neg h1]
    simp -implicitDefEqProofs only [go_sem, simprocAttr, -Int.reducePow, Tryz.f42, DD, h1, TI, List.take_succ_cons, List.drop_succ_cons]
    refine callK_q annulusref4_Exact.call (x1) rfl rfl ?_
    simp -implicitDefEqProofs only [go_sem, simprocAttr, -Int.reducePow, DD, h1, TI, List.take_succ_cons, List.drop_succ_cons]
    refine callK_q annulusref4_Sign.call (s1) rfl rfl ?_
    simp -implicitDefEqProofs only [go_sem, simprocAttr, -Int.reducePow, DD, h1, TI, List.take_succ_cons, List.drop_succ_cons]
    refine callK_q annulusref8_Cplx.call (u1) rfl rfl ?_
    simp -implicitDefEqProofs only [go_sem, simprocAttr, -Int.reducePow, DD, h1, TI, List.take_succ_cons, List.drop_succ_cons]
theorem fequal_s (hc : CB c B) (hr : DB r B') (hd : CB d C) (hs : DB s C') (hB : B ≤ 20000) (hC : C ≤ 20000) (hB' : B' ≤ 20000) (hC' : C' ≤ 20000) : Sat CT false 48 [TI c r, TI d s] (Bo (decide (c = d ∧ r = s))) := by
  refine sat_of annulusref8_EqualDisc.ok (by simp) ?_
  have DD := annulusref8_EqualDisc.dr
  simp only [drP, drPx, drPt, drR, drS, drT, bodyOf, Tryz.f48, Nat.reduceEqDiff, reduceIte, true_and, and_true] at DD
  have u1 := requal8d hc hd (by omega) (by omega)
  have u2 := requal4d hr hs (by omega) (by omega)
  by_cases h1 : c = d
  · have e : decide (c = d ∧ r = s) = decide (r = s) := decide_eq_decide.2 ⟨fun h => h.2, fun h => ⟨h1, h⟩⟩
    rw [decide_eq_true h1] at u1
    rw [e]
    simp -implicitDefEqProofs only [go_sem, simprocAttr, -Int.reducePow, Tryz.f48, DD, TI, List.take_succ_cons, List.drop_succ_cons]
    refine callK_q annulusref8_Equal.call (u1) rfl rfl ?_
    simp -implicitDefEqProofs only [go_sem, simprocAttr, -Int.reducePow, DD, TI, List.take_succ_cons, List.drop_succ_cons]
    refine callK_q annulusref4_Equal.call (u2) rfl rfl ?_
    simp -implicitDefEqProofs only [go_sem, simprocAttr, -Int.reducePow, DD, TI, List.take_succ_cons, List.drop_succ_cons]
  · rw [decide_eq_false h1] at u1
    rw [decide_eq_false (show ¬ (c = d ∧ r = s) from fun h => h1 h.1)]
    simp -implicitDefEqProofs only [go_sem, simprocAttr, -Int.reducePow, Tryz.f48, DD, TI, List.take_succ_cons, List.drop_succ_cons]
    refine callK_q annulusref8_Equal.call (u1) rfl rfl ?_
    simp -implicitDefEqProofs only [go_sem, simprocAttr, -Int.reducePow, DD, TI, List.take_succ_cons, List.drop_succ_cons]
/-! rectangles: of the document -/
end Go.Ab

set_option linter.unusedVariables false
set_option maxRecDepth 20000
set_option linter.unusedSimpArgs false
set_option linter.unusedSectionVars false
namespace Go.Ab
open Go.Proofs
open Cx (zero one)
attribute [-go_sem] appF newsF
variable {a b : AV} {x y r s : Dyadic} {z w c d : Cx} {B C B' C' n m : Nat}
/-! small whole discs, what is known of them, what comes in -/
def zI (a b : Int) : Cx := ⟨dv a 0, dv b 0⟩
theorem zI_sub (a b c d : Int) : zI a b - zI c d = zI (a - c) (b - d) := Cx.ext' (dv_sub a c 0) (dv_sub b d 0)
theorem zI_add (a b c d : Int) : zI a b + zI c d = zI (a + c) (b + d) := Cx.ext' (dv_add a c 0) (dv_add b d 0)
theorem dvm0 (a b : Int) : dv a 0 * dv b 0 = dv (a * b) 0 := by rw [dv_mul, Int.add_zero]
theorem zI_mul (a b c d : Int) : zI a b * zI c d = zI (a * c - b * d) (a * d + b * c) := Cx.ext' (by show dv a 0 * dv c 0 - dv b 0 * dv d 0 = _; rw [dvm0, dvm0, dv_sub]; rfl) (by show dv a 0 * dv d 0 + dv b 0 * dv c 0 = _; rw [dvm0, dvm0, dv_add]; rfl)
theorem nrm_zI (a b : Int) : nrm (zI a b) = dv (a * a + b * b) 0 := by show dv a 0 * dv a 0 + dv b 0 * dv b 0 = _; rw [dvm0, dvm0, dv_add]
theorem rp_I (r : Int) (h : 0 ≤ r) : rp (dv r 0) = dv r 0 := by
  unfold rp
  have := Int.sign_nonneg_iff (x := r)
  rw [if_neg (by rw [dnum_sign]; omega)]
theorem sign_dI (a b : Int) : (dnum (dv a 0 - dv b 0)).sign = (a - b).sign := by rw [dv_sub, dnum_sign]
theorem sgn_le0 {z : Int} : z.sign ≤ 0 ↔ z ≤ 0 := Int.sign_nonpos_iff
theorem sgn_ge0 {z : Int} : 0 ≤ z.sign ↔ 0 ≤ z := Int.sign_nonneg_iff
theorem hasI (a b r c d : Int) : hasP (zI a b) (dv r 0) (zI c d) ↔ (c - a) * (c - a) + (d - b) * (d - b) ≤ r * r := by
  unfold hasP
  rw [zI_sub, nrm_zI, dvm0, sign_dI, sgn_le0]
  omega
theorem dI_db {v : Int} (h : v.natAbs < 2 ^ 64) : DB (dv v 0) 64 := DB.raw (L := 64) (E := 0) h (by decide) (by decide)
theorem zI_db {a b : Int} (h : a.natAbs < 2 ^ 64) (g : b.natAbs < 2 ^ 64) : CB (zI a b) 64 := ⟨dI_db h, dI_db g⟩
theorem tI_rt {a b r : Int} (h : a.natAbs < 2 ^ 64) (g : b.natAbs < 2 ^ 64) (i : r.natAbs < 2 ^ 64) : RT (TI (zI a b) (dv r 0)) (zI a b) (dv r 0) 64 64 := RT_T (zI_db h g) (dI_db i)
abbrev few1 (l : List Nat) (e : Int) : Prop := l.length ≤ 10 ∧ -1000 ≤ e ∧ e ≤ 1000
abbrev fewR (r : Raw) : Prop := few1 r.l r.e ∧ few1 r.k r.f
/-- a disc that came in -/
structure RawT where
  c : Raw
  o : Bool
  p : List Nat
  q : Int
def RawT.cells (t : RawT) : List AV := [Bo t.c.n, U32 t.c.l, I64 t.c.e, Bo t.c.m, U32 t.c.k, I64 t.c.f, Bo t.o, U32 t.p, I64 t.q]
def RawT.ok (t : RawT) : Prop := t.c.ok ∧ Lm t.p
def RawT.rd (t : RawT) : Dyadic := dv (iv t.o t.p) t.q
abbrev RawT.few (t : RawT) : Prop := fewR t.c ∧ few1 t.p t.q
theorem rd10 {n : Bool} {l : List Nat} {e : Int} (hl : Lm l) (h : few1 l e) : RD (DA n l e) (dv (iv n l) e) 1320 := by
  obtain ⟨h1, h2, h3⟩ := h
  have hv : Lt2 (nv l) 320 := nv_Lt2 hl h1
  have ha : (iv n l).natAbs = nv l := abs_iv n l
  exact ⟨n, l, e, rfl, hl, rfl, hv.mono (by decide), by omega, by omega, DB.rawL (L := 320) (E := 1000) (by rw [ha]; exact hv) (by omega) (by decide)⟩
theorem RawT.rt {t : RawT} (h : t.ok) (hs : t.few) : RT (.agg t.cells) t.c.z t.rd 1320 1320 := ⟨_, _, _, _, _, _, _, _, _, rfl, rd10 h.1.1 hs.1.1, rd10 h.1.2.1 hs.1.2, rd10 h.2 hs.2⟩
end Go.Ab
