/- Contracts of this seat's functions (of each call: what it answers), walked over the abstract machine, and the laws of numbers that they want. Conditions: those that each theorem states. -/
import Derived.Test.YthkpbnbbhlpkjaaGreatDoorR1
set_option linter.unusedVariables false
set_option maxRecDepth 20000
set_option linter.unusedSimpArgs false
set_option linter.unusedSectionVars false
namespace Go.Ab
open Go.Proofs

theorem sg_abs (s : Bool) (m : Nat) : (sg s m).natAbs = m := by unfold sg; cases s <;> simp
theorem sg_ne0 {s : Bool} {m : Nat} (h : m ≠ 0) : sg s m ≠ 0 := fun e => h (by rw [← sg_abs s m, e]; rfl)
theorem iv_sg (s : Bool) (m : Nat) : iv s (lim m) = sg s m := by unfold iv sg; rw [nv_lim]
/-- what is rounded is the quotient -/
theorem dquo_to {x y : Dyadic} (hx : x ≠ 0) (hy : y ≠ 0) {P : Nat} (hP : 1 ≤ P) {s : Bool} {m N : Nat} {E : Int} (up : Bool)
    (hN : N = P + 3 + bl (dnum y).natAbs - bl (dnum x).natAbs) (hm : m = sticky ((dnum x).natAbs * 2 ^ N) (dnum y).natAbs) (hs : s = (decide (dnum x < 0) != decide (dnum y < 0))) (hE : E = dexp x - dexp y - N - 1) :
    gfl (dv (sg s m) E) (dtop (dv (sg s m) E) - P + 1) up = dquo x y P up ∧ dv (sg s m) E ≠ 0 ∧ P < bl m ∧ bl m ≤ N + bl (dnum x).natAbs + 2 := by
  have hA : (dnum x).natAbs ≠ 0 := fun e => hx (dnum_zero.1 (by omega))
  have hC : (dnum y).natAbs ≠ 0 := fun e => hy (dnum_zero.1 (by omega))
  obtain ⟨T, hT⟩ : ∃ T : Int, T = ((bl (dnum x).natAbs - bl (dnum y).natAbs : Nat) : Int) - ((bl (dnum y).natAbs - bl (dnum x).natAbs : Nat) : Int) - (if (dnum x).natAbs * 2 ^ (bl (dnum y).natAbs - bl (dnum x).natAbs) < (dnum y).natAbs * 2 ^ (bl (dnum x).natAbs - bl (dnum y).natAbs) then 1 else 0) := ⟨_, rfl⟩
  have hT2 : T ≤ bl (dnum x).natAbs := by rw [hT]; split <;> omega
  obtain ⟨l1, l2, _⟩ := quot_law (N := N) (P := P) (u := ((P : Int) - 1 - T).toNat) (w := (-((P : Int) - 1 - T)).toNat) hA hC hP (by omega) hT (by omega) (by omega) (by omega) s up
  rw [← hm] at l1 l2
  have hm0 : m ≠ 0 := fun e => by rw [e, bl_zero] at l2; omega
  refine ⟨?_, fun e => sg_ne0 hm0 (dv_eq_zero.1 e), l2, by omega⟩
  rw [dtop_dv (sg_ne0 hm0), sg_abs, gfl_dv (by omega)]
  unfold dquo
  rw [if_neg (fun q => q.elim hx hy)]
  simp only
  rw [← hN, ← hm, ← hs, show ((bl m : Int) - 1 + E - P + 1 - E).toNat = bl m - P by omega, hE]
  congr 1
  omega
theorem droot_to {x : Dyadic} (hx : 0 < dnum x) {P : Nat} (hP : 1 ≤ P) {m : Nat} {E : Int} (up : Bool)
    (hm : m = rsticky ((dnum x).natAbs * 2 ^ rbitsN (dnum x).natAbs P (dexp x))) (hE : E = (dexp x - rbitsN (dnum x).natAbs P (dexp x)) / 2 - 1) :
    gfl (dv (m : Int) E) (dtop (dv (m : Int) E) - P + 1) up = droot x P up ∧ dv (m : Int) E ≠ 0 ∧ P < bl m ∧ bl m ≤ bl (dnum x).natAbs + rbitsN (dnum x).natAbs P (dexp x) + 2 := by
  have hA : (dnum x).natAbs ≠ 0 := by omega
  obtain ⟨r1, r2, _⟩ := rbitsN_ok (A := (dnum x).natAbs) (P := P) (ex := dexp x)
  obtain ⟨l1, l2, _⟩ := root_law hA hP r1 r2 rfl rfl up
  have hX : (dnum x).natAbs * 2 ^ rbitsN (dnum x).natAbs P (dexp x) ≠ 0 := Nat.mul_ne_zero hA (Nat.ne_of_gt (Nat.two_pow_pos _))
  have hb := bl_rsticky hX
  rw [bl_up hA] at hb
  rw [← hm] at l1 l2 hb
  have hm0 : m ≠ 0 := fun e => by rw [e, bl_zero] at l2; omega
  have hm1 : (m : Int) ≠ 0 := by omega
  refine ⟨?_, fun e => hm1 (dv_eq_zero.1 e), l2, by omega⟩
  rw [dtop_dv hm1, Int.natAbs_natCast, gfl_dv (by omega)]
  have hn : ¬ dnum x ≤ 0 := by omega
  unfold droot
  rw [if_neg hn]
  simp only
  rw [← hm, show ((bl m : Int) - 1 + E - P + 1 - E).toNat = bl m - P by omega, hE]
  congr 1
  omega
theorem gfl_odd {x : Dyadic} (hx : x ≠ 0) {e : Int} (he : ¬ e ≤ dexp x) (m : Int) : gfl x e (decide (m = 1)) = dv (dnum x / 2 ^ (e - dexp x).toNat + if m = 1 then 1 else 0) e := by
  unfold gfl
  rw [if_neg (fun q => q.elim hx he)]
  unfold RF
  have ho := dnum_odd_of hx
  obtain ⟨k, hk⟩ : ∃ k, (e - dexp x).toNat = k + 1 := ⟨(e - dexp x).toNat - 1, by omega⟩
  rw [hk]
  have h2 : ((2 ^ (k + 1) : Nat) : Int) = 2 ^ (k + 1) := by push_cast; rfl
  rw [h2]
  have hne : dnum x % 2 ^ (k + 1) ≠ 0 := fun q => by
    have := Int.emod_emod_of_dvd (dnum x) (show (2 : Int) ∣ 2 ^ (k + 1) from ⟨2 ^ k, by rw [Int.pow_succ, Int.mul_comm]⟩)
    rw [q] at this
    omega
  simp only [hne, ne_eq, not_false_eq_true, and_true, decide_eq_true_eq]

section
variable {a b : AV} {x y : Dyadic} {B C : Nat}
theorem exact_W (q e : Int) (hq : Lt2 q.natAbs 100000) (hl : Lz q < 1099511000) (he : e.natAbs ≤ 1000000000) : Sat CT false 79 [WI q, I64 e] (DI (dv q e)) := by
  have := exact_sat (decide (q < 0)) (lim q.natAbs) e (Lm_lim _) hl (by rw [nv_lim]; exact hq) he
  rw [iv_W] at this
  exact this
theorem Lz_pow2 {z : Int} {L k : Nat} (h : Lz z ≤ L) : Lz (z / 2 ^ k) ≤ L + 1 := by
  have e : z / 2 ^ k = fq z (2 ^ k) := (fq_pow z k).symm
  rw [e]
  exact Lz_fq (Int.ne_of_gt (Int.pow_pos (by decide))) h
theorem pow_abs {z : Int} {k m : Nat} (h : z.natAbs < 2 ^ m) : (z / 2 ^ k).natAbs < 2 ^ m := Nat.lt_of_le_of_lt (Int.natAbs_ediv_le_natAbs z (2 ^ k)) h
theorem shN_nat {k : Nat} (h : k ≤ 100000) {c : Int} (hc : c = k) : shN c = k := by unfold shN; omega
set_option maxHeartbeats 1000000 in
theorem rgrid_sat (hx : DB x B) (hB : B ≤ 20000) (e m : Int) (hm : m = 0 ∨ m = 1) (he : e.natAbs ≤ 70000) : Sat CT false 138 [DI x, I64 e, I64 m] (DI (gfl x e (decide (m = 1)))) := by
  refine sat_of annulusref4_grid.ok (by simp) ?_
  have DD := annulusref4_grid.dr
  simp only [drP, drPx, drPt, drR, drS, drT, bodyOf, Tryz.f138, Nat.reduceEqDiff, reduceIte, true_and, and_true] at DD
  have hx1 := hx.num.1
  have hx2 := hx.num.2
  have hl := hx.lim
  have s1 := rsign4_r (RD_D hx) hB
  by_cases h1 : e ≤ dexp x
  · have g : gfl x e (decide (m = 1)) = x := if_pos (.inr h1)
    rw [g]
    simp -implicitDefEqProofs only [go_sem, simprocAttr, -Int.reducePow, Tryz.f138, DD, h1, ge_iff_le]
  · by_cases h0 : x = 0
    · have c2 := sg_zero h0
      have g : gfl x e (decide (m = 1)) = x := if_pos (.inl h0)
      rw [g]
      simp -implicitDefEqProofs only [go_sem, simprocAttr, -Int.reducePow, Tryz.f138, DD, h1, c2, ge_iff_le]
      refine callK_q annulusref4_Sign.call (s1) rfl rfl ?_
      simp -implicitDefEqProofs only [go_sem, simprocAttr, -Int.reducePow, DD, h1, c2, ge_iff_le]
    · have c2 := sg_ne h0
      rw [gfl_odd h0 h1]
      obtain ⟨k, hk⟩ : ∃ k, (e - dexp x).toNat = k := ⟨_, rfl⟩
      have w1 : IntKind.i64.wrap (e - dexp x) = (k : Int) := by rw [wrap_id (by omega)]; omega
      have q1 := rshrint_sat (decide (dnum x < 0)) (lim (dnum x).natAbs) (k : Int) (Lm_lim _) (by omega)
      rw [iv_num, shN_nat (k := k) (by omega) rfl, fq_pow] at q1
      rw [hk]
      have lz : Lz (dnum x / 2 ^ k) ≤ 20001 := Lz_pow2 (by show (lim _).length ≤ _; omega)
      have pb := pow_abs (k := k) hx1
      have o1 := rof_sat 1 (by omega) (by omega)
      have a1 := radd_r (RI_W (z := dnum x / 2 ^ k) (L := 20001) lz) (RI_W (z := 1) (L := 1) (lim_length_le (by decide))) (by omega) (by omega)
      have bz : Lt2 (dnum x / 2 ^ k).natAbs (2 * B) := pb
      have b0 : Lt2 (dnum x / 2 ^ k).natAbs 100000 := bz.mono (by omega)
      have b1 : Lt2 (dnum x / 2 ^ k + 1).natAbs 100000 := Lt2.mono (Lt2.succ (by omega) bz) (by omega)
      have l1 : Lz (dnum x / 2 ^ k + 1) ≤ 20002 := Lz_add lz (Nat.le_trans (lim_length_le (k := 1) (by decide)) (by decide))
      have x0 := exact_W (dnum x / 2 ^ k) e b0 (by omega) (by omega)
      have x1 := exact_W (dnum x / 2 ^ k + 1) e b1 (by omega) (by omega)
      rcases hm with rfl | rfl
      · have e0 : ¬ (0 : Int) = 1 := by decide
        rw [if_neg e0, Int.add_zero]
        simp -implicitDefEqProofs only [go_sem, simprocAttr, -Int.reducePow, Tryz.f138, DD, h1, c2, ge_iff_le, w1]
        refine callK_q annulusref4_Sign.call (s1) rfl rfl ?_
        simp -implicitDefEqProofs only [go_sem, simprocAttr, -Int.reducePow, DD, h1, c2, ge_iff_le, w1]
        refine callK_q annulusref1_ShrInt.call (q1) rfl rfl ?_
        simp -implicitDefEqProofs only [go_sem, simprocAttr, -Int.reducePow, DD, h1, c2, ge_iff_le, w1]
        refine callK_q annulusref4_exact.call (x0) rfl rfl ?_
        simp -implicitDefEqProofs only [go_sem, simprocAttr, -Int.reducePow, DD, h1, c2, ge_iff_le, w1]
      · rw [if_pos rfl]
        simp -implicitDefEqProofs only [go_sem, simprocAttr, -Int.reducePow, Tryz.f138, DD, h1, c2, ge_iff_le, w1]
        refine callK_q annulusref4_Sign.call (s1) rfl rfl ?_
        simp -implicitDefEqProofs only [go_sem, simprocAttr, -Int.reducePow, DD, h1, c2, ge_iff_le, w1]
        refine callK_q annulusref1_ShrInt.call (q1) rfl rfl ?_
        simp -implicitDefEqProofs only [go_sem, simprocAttr, -Int.reducePow, DD, h1, c2, ge_iff_le, w1]
        refine callK_q annulusref1_Of.call (o1) rfl rfl ?_
        simp -implicitDefEqProofs only [go_sem, simprocAttr, -Int.reducePow, DD, h1, c2, ge_iff_le, w1]
        refine callK_q annulusref1_AddInt.call (a1) rfl rfl ?_
        simp -implicitDefEqProofs only [go_sem, simprocAttr, -Int.reducePow, DD, h1, c2, ge_iff_le, w1]
        refine callK_q annulusref4_exact.call (x1) rfl rfl ?_
        simp -implicitDefEqProofs only [go_sem, simprocAttr, -Int.reducePow, DD, h1, c2, ge_iff_le, w1]
/-- rounded to so many bits -/
theorem rto_sat (hx : DB x B) (hB : B ≤ 20000) (p m : Int) (hm : m = 0 ∨ m = 1) (h0 : x ≠ 0) : Sat CT false 96 [DI x, I64 p, I64 m] (DI (gfl x (dtop x - heldP p + 1) (decide (m = 1)))) := by
  refine sat_of annulusref4_To.ok (by simp) ?_
  have DD := annulusref4_To.dr
  simp only [drP, drPx, drPt, drR, drS, drT, bodyOf, Tryz.f96, Nat.reduceEqDiff, reduceIte, true_and, and_true] at DD
  have s1 := rsign4_r (RD_D hx) (by omega)
  have t1 := rtop4 hx (by omega)
  have c2 := sg_ne h0
  obtain ⟨_, hp, hp1, hp2⟩ := heldP_v p
  have hb := bl_B hx
  have he := hx.num.2
  have ht : (dtop x).natAbs ≤ 2 * B + B + 1 := by unfold dtop; rw [if_neg h0]; omega
  generalize heldP p = P at *
  have w1 : IntKind.i64.wrap (dtop x - (P : Int)) = dtop x - P := wrap_id (by omega)
  have w2 : IntKind.i64.wrap (dtop x - (P : Int) + 1) = dtop x - P + 1 := wrap_id (by omega)
  have g1 := rgrid_sat hx (by omega) (dtop x - P + 1) m hm (by omega)
  simp -implicitDefEqProofs only [go_sem, simprocAttr, -Int.reducePow, Tryz.f96, DD, c2, hp, w1, w2]
  refine callK_q annulusref4_Sign.call (s1) rfl rfl ?_
  simp -implicitDefEqProofs only [go_sem, simprocAttr, -Int.reducePow, DD, c2, hp, w1, w2]
  refine callK_q annulusref4_Top.call (t1) rfl rfl ?_
  simp -implicitDefEqProofs only [go_sem, simprocAttr, -Int.reducePow, DD, c2, hp, w1, w2]
  refine callK_q annulusref4_grid.call (g1) rfl rfl ?_
  simp -implicitDefEqProofs only [go_sem, simprocAttr, -Int.reducePow, DD, c2, hp, w1, w2]
theorem nv_one : nv [1] = 1 := by simp [nv]
theorem bl_lt2 {m L : Nat} (h : bl m ≤ L) : m < 2 ^ L := Nat.lt_of_lt_of_le (bl_lt m) (Nat.pow_le_pow_right (by decide) h)
theorem DB.sg {s : Bool} {m L : Nat} {E : Int} {K B : Nat} (h : Lt2 m L) (hE : E.natAbs ≤ K) (hB : L + K ≤ B) : DB (dv (sg s m) E) B := DB.raw (L := L) (E := K) (by rw [sg_abs]; exact h) hE hB
theorem lt2_lim {m L M : Nat} (h : Lt2 m L) (hM : L ≤ M) : Lt2 (nv (lim m)) M := by rw [nv_lim]; exact pow2_lt h hM
theorem lt2_bl {m L : Nat} (h : bl m ≤ L) : Lt2 m L := bl_lt2 h
theorem lim_bl {m L : Nat} (h : bl m ≤ L) : (lim m).length ≤ L / 32 + 1 := by
  refine lim_length_le (Nat.lt_of_lt_of_le (bl_lt2 h) ?_)
  rw [show (4294967296 : Nat) = 2 ^ 32 from rfl, ← Nat.pow_mul]
  exact Nat.pow_le_pow_right (by decide) (by omega)
end
end Go.Ab
