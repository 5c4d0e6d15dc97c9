/- Contracts of this seat's functions (of each call: what it answers), walked over the abstract machine, and the laws of numbers that they want. Conditions: those that each theorem states. -/
import Derived.Test.YtikhbokeaikcpaaGreatDoorKA
set_option linter.unusedVariables false
set_option maxRecDepth 20000
set_option linter.unusedSimpArgs false
set_option linter.unusedSectionVars false
namespace Go.Ab
open Go.Proofs
open Cx (zero one)
attribute [-go_sem] appF newsF
variable {a b : AV} {x y r s t : Dyadic} {z w c d e : Cx} {B C B' C' n m P k : Nat} {cs ds es : List AV} {u u' : Nat → Cx} {v v' : Nat → Dyadic} {f g : Po}
/-! what is known exactly -/
theorem pr_raw0 (n : Bool) (l : List Nat) (e : Int) (m : Bool) (k : List Nat) (f : Int) : PlR (.agg [Bo n, U32 l, I64 e, Bo m, U32 k, I64 f, Bo false, .v (.slice none 0 0), I64 0]) (.agg [Bo n, U32 l, I64 e, Bo m, U32 k, I64 f, Bo false, U32 [], I64 0]) := by
  refine ⟨isD_agg (fun a ha => ?_), fun H => rfl, fun H a ha => ?_, fun H l => rfl⟩
  · simp only [List.mem_cons, List.not_mem_nil, or_false] at ha
    rcases ha with rfl | rfl | rfl | rfl | rfl | rfl | rfl | rfl | rfl <;> first | exact .v _ | exact isD_u32 _ _
  · simp only [List.mem_cons, List.not_mem_nil, or_false] at ha
    rcases ha with rfl | rfl | rfl | rfl | rfl | rfl | rfl | rfl | rfl <;> trivial
theorem rt_raw0 {n : Bool} {l : List Nat} {e : Int} {m : Bool} {k : List Nat} {f : Int} (h : RC (.agg [Bo n, U32 l, I64 e, Bo m, U32 k, I64 f]) z B) : RT (.agg [Bo n, U32 l, I64 e, Bo m, U32 k, I64 f, Bo false, U32 [], I64 0]) z 0 B B := by
  obtain ⟨_, _, _, _, _, _, e0, h1, h2⟩ := h
  simp only [AV.agg.injEq, List.cons.injEq, and_true] at e0
  obtain ⟨e1, e2, e3, e4, e5, e6⟩ := e0
  refine ⟨_, _, _, _, _, _, _, _, _, rfl, ?_, ?_, ?_⟩
  · unfold DA; rw [e1, e2, e3]; exact h1
  · unfold DA; rw [e4, e5, e6]; exact h2
  · have := RD_D (DB.zero B)
    unfold DI at this
    rwa [z0a, z0b, de0] at this
theorem may_zero {d : Nat} (hs : Sp d f) (ht : d = 0 ∨ f (d - 1) ≠ zero) : mayP d f (fun _ => rp 0) 0 (fun _ => zero) ↔ (d : Int) = 0 := by
  constructor
  · intro h
    rcases ht with ht | ht
    · omega
    · by_cases e : d = 0
      · omega
      · have h1 := h.2 (d - 1) (by omega)
        have h1 : hasP (f (d - 1)) (rp 0) zero := h1
        rw [rp0] at h1
        exact absurd (has_0.1 h1).symm ht
  · intro h
    exact ⟨Nat.zero_le _, fun i hi => by omega⟩
set_option maxHeartbeats 4000000 in
theorem bexact_main {l m : Nat} {ds : List AV} {g : Po} {sn : Bool} {sl : List Nat} {se : Int} {tn : Bool} {tl : List Nat} {te : Int} (q : RP es k f 296) (hes : ∀ c ∈ es, IsD c) (hk : k ≤ 8) (q' : RP ds m g 296) (hds : ∀ c ∈ ds, IsD c) (hm : m ≤ 14) (tZ : RC (.agg [Bo sn, U32 sl, I64 se, Bo tn, U32 tl, I64 te]) z 296)
    (f1 : Sat CT false 39 [.sl k es] (Bo true)) (f3 : Sat CT false 39 [.sl m ds] (Bo true)) (f5 : Sat CT false 54 [.agg [Bo sn, U32 sl, I64 se, Bo tn, U32 tl, I64 te]] (Bo true)) (bb : Nat) (hb : bb < 256) :
    Sat CT false 6 [.sl k es, .sl m ds, .agg [Bo sn, U32 sl, I64 se, Bo tn, U32 tl, I64 te], .v (.int .u8 (bb : Nat))] (Bo true) := by
  refine sat_of annuluslaw12_BallsExact.ok (by simp) ?_
  have DD := annuluslaw12_BallsExact.dr
  simp only [drP, drPx, drPt, drR, drS, drT, bodyOf, Tryz.f6, Nat.reduceEqDiff, reduceIte, true_and, and_true] at DD
  have k0 := known12_s
  have c8 : ¬ (8 : Int) < (k : Int) := by omega
  have qt := rtrim_s q (by decide)
  have qt' := rtrim_s q' (by decide)
  have hle := dg_le k f
  have hle' := dg_le m g
  obtain ⟨p, hp⟩ : ∃ p : Int, p = (bb : Int) + 1 := ⟨_, rfl⟩
  have w3 : IntKind.i64.wrap ((bb : Int) + 1) = p := by rw [wrap_id (by omega)]; exact hp.symm
  have w4 : IntKind.i64.wrap (bb : Int) = (bb : Int) := wrap_id (by omega)
  have hP : heldP p ≤ 260 := by unfold heldP; omega
  have r6 := rcplx_r tZ (by decide)
  have hfb := q.pb
  have hfs := dg_sp q.sp
  have hgb := q'.pb
  have hgs := dg_sp q'.sp
  have htop : dg k f = 0 ∨ f (dg k f - 1) ≠ zero := by
    by_cases e : dg k f = 0
    · exact .inl e
    · exact .inr (dg_top e)
  have hpz := pld_RC tZ
  have tZc := tZ.cb
  have rO := bof_s q hes (by decide)
  have rO' := bof_s q' hds (by decide)
  generalize dg k f = D at *
  generalize dg m g = E at *
  have tF : RTs (tls D f (fun _ => 0)) D f (fun _ => 0) 296 296 := RTs_T (fun i _ => hfb i) (fun i _ => DB.zero _)
  have tG : RTs (tls E g (fun _ => 0)) E g (fun _ => 0) 296 296 := RTs_T (fun i _ => hgb i) (fun i _ => DB.zero _)
  have r4 := bat_s tF (by omega) (rt_raw0 tZ) p hP
  rw [atC_end, show rp 0 = 0 from rp0, atR_0 (fun _ => rfl)] at r4
  have r8 := rat11_s (n := D) hfb tZc (by have := Nat.mul_le_mul_right 298 (show D ≤ 8 by omega); omega) (by omega)
  have vb : CB (ev D f z) 4500 := CB.mono (CB.ev hfb tZc D) (by have := Nat.mul_le_mul_right 298 (show D ≤ 8 by omega); omega)
  have r9 := fdisc_s (RT_T (B' := 0) vb (DB.zero 0)) (by decide) (by decide)
  rw [rp0] at r9
  have rA := fequal_y vb (DB.zero 0) (by decide) (by decide)
  have rB := bwide_s tF (by omega)
  rw [wide_0 (fun _ => rfl)] at rB
  have rC := rsign4_r (RD_D (DB.zero 0)) (by decide)
  rw [show (dnum (0 : Dyadic)).sign = 0 from rfl] at rC
  have rD := badd_s tF (isD_tls _ _ _) (by omega) tG (isD_tls _ _ _) (by omega)
  have rE := radd_s hfb hgb hfs hgs (by decide) (by omega) (by omega)
  have hsp := Sp.padd hfs hgs
  have hdl := dg_le (max D E) (padd f g)
  have hds2 := dg_sp hsp
  have hself := dg_self hsp
  have eC : ∀ i, bsC D E f g i = padd f g i := fun i => by
    show (if i < D then f i else zero) + (if i < E then g i else zero) = f i + g i
    have e1 : (if i < D then f i else zero) = f i := by
      split
      · rfl
      · exact (hfs i (by omega)).symm
    have e2 : (if i < E then g i else zero) = g i := by
      split
      · rfl
      · exact (hgs i (by omega)).symm
    rw [e1, e2]
  have rF := bhas_s (RTs_T (n := max D E) (u := bsC D E f g) (v := bsR D E (fun _ => 0) (fun _ => 0)) (B := 297) (B' := 297) (fun i _ => bsC_cb (fun i _ => hfb i) (fun i _ => hgb i) i) (fun i _ => bsR_db (fun i _ => DB.zero _) (fun i _ => DB.zero _) i)) (isD_tls _ _ _) (by omega) (RP_P (hfb.add hgb) hds2 (by omega)) (isD_pcl _ _) (by decide) (by decide) (by decide)
  rw [hself, decide_eq_true (show mayP (max D E) (bsC D E f g) (fun i => rp (bsR D E (fun _ => 0) (fun _ => 0) i)) (dg (max D E) (padd f g)) (padd f g) from ⟨hdl, fun i _ => by
    rw [eC]; exact has_mid⟩)] at rF
  have rG := bzero_s tF (isD_tls _ _ _) (by omega) (by decide) (by decide)
  rw [show decide (mayP D f (fun _ => rp 0) 0 (fun _ => zero)) = decide ((D : Int) = 0) from decide_eq_decide.2 (may_zero hfs htop)] at rG
  have pT := pld_TA D f (fun _ => 0)
  have pT' := pld_TA E g (fun _ => 0)
  have pS := pld_TA (max D E) (bsC D E f g) (bsR D E (fun _ => 0) (fun _ => 0))
  have pA := pld_PA (dg (max D E) (padd f g)) (padd f g)
  have pF := pld_PA D f
  have pG := pld_PA E g
  unfold TA at rO rO' rD pT pT' pS
  unfold PA at qt qt' r8 rE pA pF pG
  simp -implicitDefEqProofs only [go_sem, simprocAttr, -Int.reducePow, Tryz.f6, DD, x_app, x_ga0, x_gas, x_gan, Int.cast_ofNat_Int, eq_self, Int.zero_lt_one, Bool.not_false, Bool.not_true, beq_self_eq_true, c8, gt_iff_lt]
  refine callK_q annuluslaw12_known.call (k0) rfl rfl ?_
  simp -implicitDefEqProofs only [go_sem, simprocAttr, -Int.reducePow, DD, x_app, x_ga0, x_gas, x_gan, Int.cast_ofNat_Int, eq_self, Int.zero_lt_one, Bool.not_false, Bool.not_true, beq_self_eq_true, c8, gt_iff_lt]
  refine callK_pl annuluslaw12_few.call (f1) (pl1 (pld_sl hes)) ?_
  simp -implicitDefEqProofs only [go_sem, simprocAttr, -Int.reducePow, DD, x_app, x_ga0, x_gas, x_gan, Int.cast_ofNat_Int, eq_self, Int.zero_lt_one, Bool.not_false, Bool.not_true, beq_self_eq_true, c8, gt_iff_lt]
  refine callK_pl annuluslaw12_few.call (f3) (pl1 (pld_sl hds)) ?_
  simp -implicitDefEqProofs only [go_sem, simprocAttr, -Int.reducePow, DD, x_app, x_ga0, x_gas, x_gan, Int.cast_ofNat_Int, eq_self, Int.zero_lt_one, Bool.not_false, Bool.not_true, beq_self_eq_true, c8, gt_iff_lt]
  refine callK_pl annuluslaw12_point.call (f5) (pl1 hpz) ?_
  simp -implicitDefEqProofs only [go_sem, simprocAttr, -Int.reducePow, DD, x_app, x_ga0, x_gas, x_gan, Int.cast_ofNat_Int, eq_self, Int.zero_lt_one, Bool.not_false, Bool.not_true, beq_self_eq_true, c8, gt_iff_lt]
  refine callK_pl balls_Of.call (rO) (pl1 (pld_sl hes)) ?_
  simp -implicitDefEqProofs only [go_sem, simprocAttr, -Int.reducePow, DD, x_app, x_ga0, x_gas, x_gan, Int.cast_ofNat_Int, eq_self, Int.zero_lt_one, Bool.not_false, Bool.not_true, beq_self_eq_true]
  refine callK_pl balls_Of.call (rO') (pl1 (pld_sl hds)) ?_
  simp -implicitDefEqProofs only [go_sem, simprocAttr, -Int.reducePow, DD, x_app, x_ga0, x_gas, x_gan, Int.cast_ofNat_Int, eq_self, Int.zero_lt_one, Bool.not_false, Bool.not_true, beq_self_eq_true, w3, w4]
  refine callK_pr balls_At.call r4 (.cons pT.r (.cons (pr_raw0 _ _ _ _ _ _) (.cons pld_int.r .nil))) ?_
  simp -implicitDefEqProofs only [go_sem, simprocAttr, -Int.reducePow, DD, x_app, x_ga0, x_gas, x_gan, Int.cast_ofNat_Int, eq_self, Int.zero_lt_one, Bool.not_false, Bool.not_true, beq_self_eq_true, TI]
  refine callK_pl annulusref11_Trim.call (qt) (pl1 (pld_sl hes)) ?_
  simp -implicitDefEqProofs only [go_sem, simprocAttr, -Int.reducePow, DD, x_app, x_ga0, x_gas, x_gan, Int.cast_ofNat_Int, eq_self, Int.zero_lt_one, Bool.not_false, Bool.not_true, beq_self_eq_true]
  refine callK_pl annulusref8_Cplx.call (r6) (pl1 hpz) ?_
  simp -implicitDefEqProofs only [go_sem, simprocAttr, -Int.reducePow, DD, x_app, x_ga0, x_gas, x_gan, Int.cast_ofNat_Int, eq_self, Int.zero_lt_one, Bool.not_false, Bool.not_true, beq_self_eq_true]
  refine callK_pl annulusref11_At.call (r8) (pl2 pF (pld_CI _)) ?_
  simp -implicitDefEqProofs only [go_sem, simprocAttr, -Int.reducePow, DD, x_app, x_ga0, x_gas, x_gan, Int.cast_ofNat_Int, eq_self, Int.zero_lt_one, Bool.not_false, Bool.not_true, beq_self_eq_true, WI, IA, DI, DA, CI]
  refine callK_pl annulusref8_Disc.call (r9) (pl1 (pld_TI (ev D f z) 0)) ?_
  simp -implicitDefEqProofs only [go_sem, simprocAttr, -Int.reducePow, DD, x_app, x_ga0, x_gas, x_gan, Int.cast_ofNat_Int, eq_self, Int.zero_lt_one, Bool.not_false, Bool.not_true, beq_self_eq_true, WI, IA, DI, DA, CI, CIc]
  refine callK_pr annulusref8_EqualDisc.call rA (.cons (pld_TI _ _).r (.cons (pr_ti0 _) .nil)) ?_
  simp -implicitDefEqProofs only [go_sem, simprocAttr, -Int.reducePow, DD, x_app, x_ga0, x_gas, x_gan, Int.cast_ofNat_Int, eq_self, Int.zero_lt_one, Bool.not_false, Bool.not_true, beq_self_eq_true]
  refine callK_pl balls_Wide.call (rB) (pl1 pT) ?_
  simp -implicitDefEqProofs only [go_sem, simprocAttr, -Int.reducePow, DD, x_app, x_ga0, x_gas, x_gan, Int.cast_ofNat_Int, eq_self, Int.zero_lt_one, Bool.not_false, Bool.not_true, beq_self_eq_true]
  refine callK_pl annulusref4_Sign.call (rC) (pl1 (pld_DI _)) ?_
  simp -implicitDefEqProofs only [go_sem, simprocAttr, -Int.reducePow, DD, x_app, x_ga0, x_gas, x_gan, Int.cast_ofNat_Int, eq_self, Int.zero_lt_one, Bool.not_false, Bool.not_true, beq_self_eq_true]
  refine callK_pl balls_Add.call (rD) (pl2 pT pT') ?_
  simp -implicitDefEqProofs only [go_sem, simprocAttr, -Int.reducePow, DD, x_app, x_ga0, x_gas, x_gan, Int.cast_ofNat_Int, eq_self, Int.zero_lt_one, Bool.not_false, Bool.not_true, beq_self_eq_true]
  refine callK_pl annulusref11_Trim.call (qt) (pl1 (pld_sl hes)) ?_
  simp -implicitDefEqProofs only [go_sem, simprocAttr, -Int.reducePow, DD, x_app, x_ga0, x_gas, x_gan, Int.cast_ofNat_Int, eq_self, Int.zero_lt_one, Bool.not_false, Bool.not_true, beq_self_eq_true]
  refine callK_pl annulusref11_Trim.call (qt') (pl1 (pld_sl hds)) ?_
  simp -implicitDefEqProofs only [go_sem, simprocAttr, -Int.reducePow, DD, x_app, x_ga0, x_gas, x_gan, Int.cast_ofNat_Int, eq_self, Int.zero_lt_one, Bool.not_false, Bool.not_true, beq_self_eq_true]
  refine callK_pl annulusref11_Add.call (rE) (pl2 pF pG) ?_
  simp -implicitDefEqProofs only [go_sem, simprocAttr, -Int.reducePow, DD, x_app, x_ga0, x_gas, x_gan, Int.cast_ofNat_Int, eq_self, Int.zero_lt_one, Bool.not_false, Bool.not_true, beq_self_eq_true]
  refine callK_pl balls_Has.call (rF) (pl2 pS pA) ?_
  simp -implicitDefEqProofs only [go_sem, simprocAttr, -Int.reducePow, DD, x_app, x_ga0, x_gas, x_gan, Int.cast_ofNat_Int, eq_self, Int.zero_lt_one, Bool.not_false, Bool.not_true, beq_self_eq_true]
  refine callK_pl balls_Zero.call (rG) (pl1 pT) ?_
  simp -implicitDefEqProofs only [go_sem, simprocAttr, -Int.reducePow, DD, x_app, x_ga0, x_gas, x_gan, Int.cast_ofNat_Int, eq_self, Int.zero_lt_one, Bool.not_false, Bool.not_true, beq_self_eq_true]
  refine callK_pl annulusref11_Trim.call (qt) (pl1 (pld_sl hes)) ?_
  simp -implicitDefEqProofs only [go_sem, simprocAttr, -Int.reducePow, DD, x_app, x_ga0, x_gas, x_gan, Int.cast_ofNat_Int, eq_self, Int.zero_lt_one, Bool.not_false, Bool.not_true, beq_self_eq_true]
theorem pld_raw (Z : Raw) : PlD (.agg Z.cells) := by
  refine ⟨isD_agg (fun a ha => ?_), fun H => rfl, fun H a ha => ?_, fun H l => rfl⟩
  · simp only [Raw.cells, List.mem_cons, List.not_mem_nil, or_false] at ha
    rcases ha with rfl | rfl | rfl | rfl | rfl | rfl <;> first | exact .v _ | exact isD_u32 _ _
  · simp only [Raw.cells, List.mem_cons, List.not_mem_nil, or_false] at ha
    rcases ha with rfl | rfl | rfl | rfl | rfl | rfl <;> trivial
set_option maxHeartbeats 1000000 in
theorem ballsExact_sat (F : Nat → Raw) (hF : ∀ i, (F i).ok) (hn : n ≤ 9223372036854775807) (Q : Nat → Raw) (hQ : ∀ i, (Q i).ok) (hk : k ≤ 9223372036854775807) (Z : Raw) (hZ : Z.ok) (b : Nat) (hb : b < 256) :
    Sat CT false 6 [.sl n (qcl n F), .sl k (qcl k Q), .agg Z.cells, .v (.int .u8 (b : Nat))] (Bo true) := by
  have k0 := known12_s
  have f1 := few12_s F hn
  have f3 := few12_s Q hk
  have f5 := point12_s Z
  have p1 := pld_q n F
  have p3 := pld_q k Q
  have p5 := pld_raw Z
  by_cases qq : ((((∀ i, i < n → (F i).sm) ∧ n ≤ 14) ∧ ((∀ i, i < k → (Q i).sm) ∧ k ≤ 14)) ∧ n ≤ 8) ∧ Z.sm
  · obtain ⟨⟨⟨q1, q3⟩, q4⟩, q5⟩ := qq
    rw [decide_eq_true q1] at f1
    rw [decide_eq_true q3] at f3
    rw [decide_eq_true q5] at f5
    exact bexact_main (l := 0) (RP_q (fun i _ => hF i) q1.1 (by omega)) (isD_qcl n F) q4 (RP_q (fun i _ => hQ i) q3.1 (by omega)) (isD_qcl k Q) q3.2 (Raw.rc hZ q5) f1 f3 f5 b hb
  refine sat_of annuluslaw12_BallsExact.ok (by simp) ?_
  have DD := annuluslaw12_BallsExact.dr
  simp only [drP, drPx, drPt, drR, drS, drT, bodyOf, Tryz.f6, Nat.reduceEqDiff, reduceIte, true_and, and_true] at DD
  simp only [Raw.cells] at f5 p5
  by_cases q1 : (∀ i, i < n → (F i).sm) ∧ n ≤ 14
  · rw [decide_eq_true q1] at f1
    by_cases q3 : (∀ i, i < k → (Q i).sm) ∧ k ≤ 14
    · rw [decide_eq_true q3] at f3
      by_cases q4 : (8 : Int) < (n : Int)
      · simp -implicitDefEqProofs only [go_sem, simprocAttr, -Int.reducePow, Tryz.f6, DD, x_app, x_ga0, x_gas, x_gan, Int.cast_ofNat_Int, eq_self, Int.zero_lt_one, Bool.not_false, Bool.not_true, beq_self_eq_true, Raw.cells, q4, gt_iff_lt]
        refine callK_q annuluslaw12_known.call (k0) rfl rfl ?_
        simp -implicitDefEqProofs only [go_sem, simprocAttr, -Int.reducePow, DD, x_app, x_ga0, x_gas, x_gan, Int.cast_ofNat_Int, eq_self, Int.zero_lt_one, Bool.not_false, Bool.not_true, beq_self_eq_true, q4, gt_iff_lt]
        refine callK_pl annuluslaw12_few.call (f1) (pl1 p1) ?_
        simp -implicitDefEqProofs only [go_sem, simprocAttr, -Int.reducePow, DD, x_app, x_ga0, x_gas, x_gan, Int.cast_ofNat_Int, eq_self, Int.zero_lt_one, Bool.not_false, Bool.not_true, beq_self_eq_true, q4, gt_iff_lt]
        refine callK_pl annuluslaw12_few.call (f3) (pl1 p3) ?_
        simp -implicitDefEqProofs only [go_sem, simprocAttr, -Int.reducePow, DD, x_app, x_ga0, x_gas, x_gan, Int.cast_ofNat_Int, eq_self, Int.zero_lt_one, Bool.not_false, Bool.not_true, beq_self_eq_true, q4, gt_iff_lt]
      · have q5 : ¬ Z.sm := fun q5 => qq ⟨⟨⟨q1, q3⟩, by omega⟩, q5⟩
        rw [decide_eq_false q5] at f5
        simp -implicitDefEqProofs only [go_sem, simprocAttr, -Int.reducePow, Tryz.f6, DD, x_app, x_ga0, x_gas, x_gan, Int.cast_ofNat_Int, eq_self, Int.zero_lt_one, Bool.not_false, Bool.not_true, beq_self_eq_true, Raw.cells, q4, gt_iff_lt]
        refine callK_q annuluslaw12_known.call (k0) rfl rfl ?_
        simp -implicitDefEqProofs only [go_sem, simprocAttr, -Int.reducePow, DD, x_app, x_ga0, x_gas, x_gan, Int.cast_ofNat_Int, eq_self, Int.zero_lt_one, Bool.not_false, Bool.not_true, beq_self_eq_true, q4, gt_iff_lt]
        refine callK_pl annuluslaw12_few.call (f1) (pl1 p1) ?_
        simp -implicitDefEqProofs only [go_sem, simprocAttr, -Int.reducePow, DD, x_app, x_ga0, x_gas, x_gan, Int.cast_ofNat_Int, eq_self, Int.zero_lt_one, Bool.not_false, Bool.not_true, beq_self_eq_true, q4, gt_iff_lt]
        refine callK_pl annuluslaw12_few.call (f3) (pl1 p3) ?_
        simp -implicitDefEqProofs only [go_sem, simprocAttr, -Int.reducePow, DD, x_app, x_ga0, x_gas, x_gan, Int.cast_ofNat_Int, eq_self, Int.zero_lt_one, Bool.not_false, Bool.not_true, beq_self_eq_true, q4, gt_iff_lt]
        refine callK_pl annuluslaw12_point.call (f5) (pl1 p5) ?_
        simp -implicitDefEqProofs only [go_sem, simprocAttr, -Int.reducePow, DD, x_app, x_ga0, x_gas, x_gan, Int.cast_ofNat_Int, eq_self, Int.zero_lt_one, Bool.not_false, Bool.not_true, beq_self_eq_true, q4, gt_iff_lt]
    · rw [decide_eq_false q3] at f3
      simp -implicitDefEqProofs only [go_sem, simprocAttr, -Int.reducePow, Tryz.f6, DD, x_app, x_ga0, x_gas, x_gan, Int.cast_ofNat_Int, eq_self, Int.zero_lt_one, Bool.not_false, Bool.not_true, beq_self_eq_true, Raw.cells]
      refine callK_q annuluslaw12_known.call (k0) rfl rfl ?_
      simp -implicitDefEqProofs only [go_sem, simprocAttr, -Int.reducePow, DD, x_app, x_ga0, x_gas, x_gan, Int.cast_ofNat_Int, eq_self, Int.zero_lt_one, Bool.not_false, Bool.not_true, beq_self_eq_true]
      refine callK_pl annuluslaw12_few.call (f1) (pl1 p1) ?_
      simp -implicitDefEqProofs only [go_sem, simprocAttr, -Int.reducePow, DD, x_app, x_ga0, x_gas, x_gan, Int.cast_ofNat_Int, eq_self, Int.zero_lt_one, Bool.not_false, Bool.not_true, beq_self_eq_true]
      refine callK_pl annuluslaw12_few.call (f3) (pl1 p3) ?_
      simp -implicitDefEqProofs only [go_sem, simprocAttr, -Int.reducePow, DD, x_app, x_ga0, x_gas, x_gan, Int.cast_ofNat_Int, eq_self, Int.zero_lt_one, Bool.not_false, Bool.not_true, beq_self_eq_true]
  · rw [decide_eq_false q1] at f1
    simp -implicitDefEqProofs only [go_sem, simprocAttr, -Int.reducePow, Tryz.f6, DD, x_app, x_ga0, x_gas, x_gan, Int.cast_ofNat_Int, eq_self, Int.zero_lt_one, Bool.not_false, Bool.not_true, beq_self_eq_true, Raw.cells]
    refine callK_q annuluslaw12_known.call (k0) rfl rfl ?_
    simp -implicitDefEqProofs only [go_sem, simprocAttr, -Int.reducePow, DD, x_app, x_ga0, x_gas, x_gan, Int.cast_ofNat_Int, eq_self, Int.zero_lt_one, Bool.not_false, Bool.not_true, beq_self_eq_true]
    refine callK_pl annuluslaw12_few.call (f1) (pl1 p1) ?_
    simp -implicitDefEqProofs only [go_sem, simprocAttr, -Int.reducePow, DD, x_app, x_ga0, x_gas, x_gan, Int.cast_ofNat_Int, eq_self, Int.zero_lt_one, Bool.not_false, Bool.not_true, beq_self_eq_true]
end Go.Ab
