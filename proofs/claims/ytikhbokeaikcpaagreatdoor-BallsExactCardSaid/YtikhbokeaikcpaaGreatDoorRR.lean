/- Contracts of this seat's functions (of each call: what it answers), walked over the abstract machine, and the laws of numbers that they want. Conditions: those that each theorem states. -/
import Derived.Test.YtikhbokeaikcpaaGreatDoorDS
import Derived.Test.YtikhbokeaikcpaaGreatDoorP7
import Derived.Test.YtikhbokeaikcpaaGreatDoorW6
/-! contracts of layers 4 to 6: the topmost bit, roundings, quotients, roots -/
set_option linter.unusedVariables false
set_option maxRecDepth 20000
set_option linter.unusedSimpArgs false
set_option linter.unusedSectionVars false
namespace Go.Ab
open Go.Proofs

theorem Lt2.mono {x a b : Nat} (h : Lt2 x a) (hab : a ≤ b) : Lt2 x b := Nat.lt_of_lt_of_le h (Nat.pow_le_pow_right (by decide) hab)
theorem Lt2.low {x y a : Nat} (h : x ≤ y) (g : Lt2 y a) : Lt2 x a := Nat.lt_of_le_of_lt h g
theorem Lt2.succ {x y a : Nat} (h : x ≤ y + 1) (g : Lt2 y a) : Lt2 x (a + 1) := by
  unfold Lt2 at *
  rw [Nat.pow_succ]
  have := Nat.two_pow_pos a
  omega
theorem Lt2.bl {x a : Nat} (h : Lt2 x a) : bl x ≤ a := bl_le_of h
theorem DB.rawL {m e : Int} {L E B : Nat} (hm : Lt2 m.natAbs L) (he : e.natAbs ≤ E) (hB : L + E ≤ B) : DB (dv m e) B := DB.raw hm he hB
theorem nv_Lt2 {l : List Nat} {k : Nat} (hl : Lm l) (h : l.length ≤ k) : Lt2 (nv l) (32 * k) := by
  have := nv_lt_of hl h
  rw [show (4294967296 : Nat) = 2 ^ 32 from rfl, ← Nat.pow_mul] at this
  exact this
/-- a call whose arguments are calm -/
theorem callK_q {C : Ctx} {d : Bool} {H H' : Heap} {K : AV → Heap → Prop} {f : FuncId} {args args' : List AV} {r : AV} (hc : callable C.P f = true) (h : Sat C false f args' r) (hH : fzH d false H args = H') (ha : args.map (snap H') = args') (hK : K r H')
    (ho : ∀ a ∈ args, ownOK H' false a := by simp [ownOK, own1, hd, fzH, fzArgs, fzCells, fz, IA, WI, DI, DA, CI, U32]) (hi : ∀ a ∈ args', IsD a := by simp [U32, isD_u32, isD_v, isD_nil, isD_agg, IA, WI, DI, DA, CI]) : callK C d f args H K :=
  callK_of false hc h hH ha ho hi hK
attribute [go_sem] x_app x_ga0 x_gas x_gan Int.cast_ofNat_Int eq_self Int.zero_lt_one Bool.not_false Bool.not_true beq_self_eq_true WI IA DI DA CI
/-- as many bits as the root wants -/
def rbitsN (A P : Nat) (ex : Int) : Nat := if (ex - (2 * P + 6 - bl A : Nat)) % 2 = 0 then 2 * P + 6 - bl A else 2 * P + 6 - bl A + 1
/-- the document's root -/
def droot (x : Dyadic) (P : Nat) (up : Bool) : Dyadic :=
  if dnum x ≤ 0 then 0 else
  let A := (dnum x).natAbs
  let n := rbitsN A P (dexp x)
  let m := rsticky (A * 2 ^ n)
  dv (RF m (2 ^ (bl m - P)) up) ((dexp x - n) / 2 - 1 + (bl m - P : Nat))
theorem rbitsN_ok {A P : Nat} {ex : Int} : 2 * P + 6 ≤ bl A + rbitsN A P ex ∧ ex - rbitsN A P ex = 2 * ((ex - rbitsN A P ex) / 2) ∧ rbitsN A P ex ≤ 2 * P + 7 := by
  unfold rbitsN
  split <;> omega

theorem dneg_num (x : Dyadic) : dnum (-x) = -dnum x ∧ dexp (-x) = dexp x := by
  by_cases h : x = 0
  · subst h; exact ⟨rfl, rfl⟩
  · have ho := dnum_odd_of h
    have e : -x = dv (-dnum x) (dexp x) := by rw [← dv_neg, dv_of]
    have ho' : (-dnum x) % 2 = 1 := by omega
    rw [e]
    exact ⟨dnum_odd ho' _, dexp_odd ho' _⟩
theorem droot_eq {x : Dyadic} (hx : 0 < dnum x) {P : Nat} {t sh : Int} (hP : 1 ≤ P) (ht : t = dtop x / 2) (hsh : sh = dexp x - 2 * (t - P + 1)) (up : Bool) :
    dv ((isq (mvN (dnum x).natAbs sh) : Int) + (if up = true ∧ ¬ (mvX (dnum x).natAbs sh ∧ isq (mvN (dnum x).natAbs sh) * isq (mvN (dnum x).natAbs sh) = mvN (dnum x).natAbs sh) then 1 else 0)) (t - P + 1) = droot x P up := by
  have hx0 : ¬ x = 0 := fun e => by rw [e] at hx; exact absurd hx (by decide)
  have hA : (dnum x).natAbs ≠ 0 := by omega
  have ht' : t = ((bl (dnum x).natAbs : Int) - 1 + dexp x) / 2 := by rw [ht]; unfold dtop; rw [if_neg hx0]
  obtain ⟨r1, r2, _⟩ := rbitsN_ok (A := (dnum x).natAbs) (P := P) (ex := dexp x)
  obtain ⟨l1, l2, l3⟩ := root_law hA hP r1 r2 ht' hsh up
  have hn : ¬ dnum x ≤ 0 := by omega
  unfold droot
  rw [if_neg hn]
  simp only
  rw [l3]
  congr 1
  omega

section
variable {a b : AV} {x y : Dyadic} {B C : Nat}
theorem bl_B (h : DB x B) : bl (dnum x).natAbs ≤ 2 * B := bl_le_of h.num.1
theorem dnorm_w (ha : RD a x B) (hB : B ≤ 24100) : Sat CT false 168 [a] (DI x) := by
  refine sat_of dyad_Norm.ok (by simp) ?_
  have DD := dyad_Norm.dr
  simp only [drP, drPx, drPt, drR, drS, drT, bodyOf, Tryz.f168, Nat.reduceEqDiff, reduceIte, true_and, and_true] at DD
  have q := dof_w ha hB
  obtain ⟨n, l, e, rfl, _⟩ := ha
  simp -implicitDefEqProofs only [go_sem, simprocAttr, -Int.reducePow, Tryz.f168, DD]
  refine callK_q dyad_of.call (q) rfl rfl ?_
  simp -implicitDefEqProofs only [go_sem, simprocAttr, -Int.reducePow, DD]
theorem dnorm_r (ha : RD a x B) (hB : B ≤ 20000) : Sat CT false 168 [a] (DI x) := dnorm_w ha (Nat.le_trans hB (by decide))
theorem dtop_w (ha : RD a x B) (hB : B ≤ 24100) : Sat CT false 169 [a] (I64 (dtop x)) := by
  refine sat_of dyad_Top.ok (by simp) ?_
  have DD := dyad_Top.dr
  simp only [drP, drPx, drPt, drR, drS, drT, bodyOf, Tryz.f169, Nat.reduceEqDiff, reduceIte, true_and, and_true] at DD
  have q1 := dof_w ha hB
  have s1 := dsign_w (RD_D ha.db) hB
  have hb := bl_B ha.db
  have hl := ha.db.lim
  have he := ha.db.num.2
  have q2 := bits_sat (lim (dnum x).natAbs) (Lm_lim _) (by omega)
  rw [nv_lim] at q2
  obtain ⟨n, l, e, rfl, _⟩ := ha
  by_cases hx : x = 0
  · have c1 := sg_zero hx
    have c2 : dtop x = 0 := if_pos hx
    simp -implicitDefEqProofs only [go_sem, simprocAttr, -Int.reducePow, Tryz.f169, DD, c1, c2]
    refine callK_q dyad_of.call (q1) rfl rfl ?_
    simp -implicitDefEqProofs only [go_sem, simprocAttr, -Int.reducePow, DD, c1, c2]
    refine callK_q dyad_Sign.call (s1) rfl rfl ?_
    simp -implicitDefEqProofs only [go_sem, simprocAttr, -Int.reducePow, DD, c1, c2]
  · have c1 := sg_ne hx
    have c2 : dtop x = dexp x + (bl (dnum x).natAbs : Nat) - 1 := by unfold dtop; rw [if_neg hx]; omega
    have c3 : IntKind.i64.wrap (dexp x + (bl (dnum x).natAbs : Nat)) = dexp x + (bl (dnum x).natAbs : Nat) := wrap_id (by omega)
    have c4 : IntKind.i64.wrap (dexp x + (bl (dnum x).natAbs : Nat) - 1) = dexp x + (bl (dnum x).natAbs : Nat) - 1 := wrap_id (by omega)
    simp -implicitDefEqProofs only [go_sem, simprocAttr, -Int.reducePow, Tryz.f169, DD, c1, c2, c3, c4]
    refine callK_q dyad_of.call (q1) rfl rfl ?_
    simp -implicitDefEqProofs only [go_sem, simprocAttr, -Int.reducePow, DD, c1, c2, c3, c4]
    refine callK_q dyad_Sign.call (s1) rfl rfl ?_
    simp -implicitDefEqProofs only [go_sem, simprocAttr, -Int.reducePow, DD, c1, c2, c3, c4]
    refine callK_q nat_Bits.call (q2) rfl rfl ?_
    simp -implicitDefEqProofs only [go_sem, simprocAttr, -Int.reducePow, DD, c1, c2, c3, c4]
theorem dtop_r (ha : RD a x B) (hB : B ≤ 20000) : Sat CT false 169 [a] (I64 (dtop x)) := dtop_w ha (Nat.le_trans hB (by decide))
/-- the bits that may be asked for -/
def heldP (p : Int) : Nat := (min (max p 1) 4000).toNat
theorem heldP_v (p : Int) : min (max p 1) 4000 = (heldP p : Int) ∧ max 1 (min p 4000) = (heldP p : Int) ∧ 1 ≤ heldP p ∧ heldP p ≤ 4000 := by unfold heldP; omega
theorem held5_sat (p : Int) : Sat CT false 170 [I64 p] (I64 (heldP p : Nat)) := by
  refine sat_of round_Held.ok (by simp) ?_
  have DD := round_Held.dr
  simp only [drP, drPx, drPt, drR, drS, drT, bodyOf, Tryz.f170, Nat.reduceEqDiff, reduceIte, true_and, and_true] at DD
  have c := (heldP_v p).1
  simp -implicitDefEqProofs only [go_sem, simprocAttr, -Int.reducePow, Tryz.f170, DD, c]
theorem wup_int (n : Bool) (l : List Nat) (c : Int) (k : Nat) (hc : max c 0 = (k : Int)) (hl : Lm l) (hla : l.length < 1099511) (hk : k ≤ 100000) : Sat CT false 106 [IA n l, I64 c] (WI (iv n l * 2 ^ k)) := by
  refine sat_of whole_Up.ok (by simp) ?_
  have DD := whole_Up.dr
  simp only [drP, drPx, drPt, drR, drS, drT, bodyOf, Tryz.f106, Nat.reduceEqDiff, reduceIte, true_and, and_true] at DD
  rw [← iv_shl]
  have g := lim_shl_len (L := 1099511) hl (by omega) k
  simp -implicitDefEqProofs only [go_sem, simprocAttr, -Int.reducePow, Tryz.f106, DD]
  refine callK_q nat_Up.call (up_int l c k hc hl (by omega) hk) rfl rfl ?_
  simp -implicitDefEqProofs only [go_sem, simprocAttr, -Int.reducePow, DD]
  refine callK_q whole_with.call (with_sat n _ (Lm_lim _) (by omega)) rfl rfl ?_
  simp -implicitDefEqProofs only [go_sem, simprocAttr, -Int.reducePow, DD]
/-- what an own number of the code's is worth, rounded upwards where that is asked -/
theorem raw_W (q e : Int) (hq : Lt2 q.natAbs 100000) (hl : Lz q < 1099511000) (he : e.natAbs ≤ 1000000000) : Sat CT false 102 [WI q, I64 e] (DI (dv q e)) := by
  have := raw_sat (decide (q < 0)) (lim q.natAbs) e (Lm_lim _) hl (by rw [nv_lim]; exact hq) he
  rw [iv_W] at this
  exact this
theorem told_sat (q e m : Int) (ex : Bool) (hq : Lt2 q.natAbs 99999) (hl : Lz q < 1099510000) (he : e.natAbs ≤ 1000000000) : Sat CT false 173 [WI q, Bo ex, I64 e, I64 m] (DI (dv (q + if m = 1 ∧ ex = false then 1 else 0) e)) := by
  refine sat_of quot_told.ok (by simp) ?_
  have DD := quot_told.dr
  simp only [drP, drPx, drPt, drR, drS, drT, bodyOf, Tryz.f173, Nat.reduceEqDiff, reduceIte, true_and, and_true] at DD
  have o1 := wof_sat 1 (by omega) (by omega)
  have hq1 : Lt2 (q + 1).natAbs 100000 := Lt2.succ (by omega) hq
  have b1 := add_r (RI_W (z := q) (L := 1099510000) (by show Lz q ≤ _; omega)) (RI_W (z := 1) (L := 1) (lim_length_le (by decide))) (by omega) (by omega)
  have hl1 : Lz (q + 1) < 1099511000 := by have := Lz_add (x := q) (y := 1) (L := 1099510000) (by omega) (show Lz 1 ≤ 1099510000 from Nat.le_trans (lim_length_le (k := 1) (by decide)) (by decide)); omega
  have r1 := raw_W q e (hq.mono (by decide)) (by omega) he
  have r2 := raw_W (q + 1) e hq1 hl1 he
  by_cases hm : m = 1
  · subst hm
    cases ex
    · simp only [and_self, if_true]
      simp -implicitDefEqProofs only [go_sem, simprocAttr, -Int.reducePow, Tryz.f173, DD]
      refine scope_of 1 ?_
      simp -implicitDefEqProofs only [go_sem, simprocAttr, -Int.reducePow, DD, scopeA, findLabel]
      refine callK_q whole_Of.call (o1) rfl rfl ?_
      simp -implicitDefEqProofs only [go_sem, simprocAttr, -Int.reducePow, DD, scopeA, findLabel]
      refine callK_q whole_Add.call (b1) rfl rfl ?_
      simp -implicitDefEqProofs only [go_sem, simprocAttr, -Int.reducePow, DD, scopeA, findLabel]
      refine callK_q dyad_Raw.call (r2) rfl rfl ?_
      simp -implicitDefEqProofs only [go_sem, simprocAttr, -Int.reducePow, DD, scopeA, findLabel]
    · have e0 : ¬ ((1 : Int) = 1 ∧ true = false) := by simp
      rw [if_neg e0, Int.add_zero]
      simp -implicitDefEqProofs only [go_sem, simprocAttr, -Int.reducePow, Tryz.f173, DD]
      refine scope0 aW0_mono ?_
      simp -implicitDefEqProofs only [go_sem, simprocAttr, -Int.reducePow, DD]
      refine callK_q dyad_Raw.call (r1) rfl rfl ?_
      simp -implicitDefEqProofs only [go_sem, simprocAttr, -Int.reducePow, DD]
  · rw [if_neg (fun x => hm x.1), Int.add_zero]
    simp -implicitDefEqProofs only [go_sem, simprocAttr, -Int.reducePow, Tryz.f173, DD, hm]
    refine scope0 aW0_mono ?_
    simp -implicitDefEqProofs only [go_sem, simprocAttr, -Int.reducePow, DD, hm]
    refine callK_q dyad_Raw.call (r1) rfl rfl ?_
    simp -implicitDefEqProofs only [go_sem, simprocAttr, -Int.reducePow, DD, hm]
end
end Go.Ab

set_option linter.unusedVariables false
set_option maxRecDepth 20000
set_option linter.unusedSimpArgs false
set_option linter.unusedSectionVars false
namespace Go.Ab
open Go.Proofs

theorem sg_abs (s : Bool) (m : Nat) : (sg s m).natAbs = m := by unfold sg; cases s <;> simp
theorem droot_to {x : Dyadic} (hx : 0 < dnum x) {P : Nat} (hP : 1 ≤ P) {m : Nat} {E : Int} (up : Bool)
    (hm : m = rsticky ((dnum x).natAbs * 2 ^ rbitsN (dnum x).natAbs P (dexp x))) (hE : E = (dexp x - rbitsN (dnum x).natAbs P (dexp x)) / 2 - 1) :
    gfl (dv (m : Int) E) (dtop (dv (m : Int) E) - P + 1) up = droot x P up ∧ dv (m : Int) E ≠ 0 ∧ P < bl m ∧ bl m ≤ bl (dnum x).natAbs + rbitsN (dnum x).natAbs P (dexp x) + 2 := by
  have hA : (dnum x).natAbs ≠ 0 := by omega
  obtain ⟨r1, r2, _⟩ := rbitsN_ok (A := (dnum x).natAbs) (P := P) (ex := dexp x)
  obtain ⟨l1, l2, _⟩ := root_law hA hP r1 r2 rfl rfl up
  have hX : (dnum x).natAbs * 2 ^ rbitsN (dnum x).natAbs P (dexp x) ≠ 0 := Nat.mul_ne_zero hA (Nat.ne_of_gt (Nat.two_pow_pos _))
  have hb := bl_rsticky hX
  rw [bl_up hA] at hb
  rw [← hm] at l1 l2 hb
  have hm0 : m ≠ 0 := fun e => by rw [e, bl_zero] at l2; omega
  have hm1 : (m : Int) ≠ 0 := by omega
  refine ⟨?_, fun e => hm1 (dv_eq_zero.1 e), l2, by omega⟩
  rw [dtop_dv hm1, Int.natAbs_natCast, gfl_dv (by omega)]
  have hn : ¬ dnum x ≤ 0 := by omega
  unfold droot
  rw [if_neg hn]
  simp only
  rw [← hm, show ((bl m : Int) - 1 + E - P + 1 - E).toNat = bl m - P by omega, hE]
  congr 1
  omega
section
variable {a b : AV} {x y : Dyadic} {B C : Nat}
theorem bl_lt2 {m L : Nat} (h : bl m ≤ L) : m < 2 ^ L := Nat.lt_of_lt_of_le (bl_lt m) (Nat.pow_le_pow_right (by decide) h)
theorem DB.sg {s : Bool} {m L : Nat} {E : Int} {K B : Nat} (h : Lt2 m L) (hE : E.natAbs ≤ K) (hB : L + K ≤ B) : DB (dv (sg s m) E) B := DB.raw (L := L) (E := K) (by rw [sg_abs]; exact h) hE hB
theorem lim_bl {m L : Nat} (h : bl m ≤ L) : (lim m).length ≤ L / 32 + 1 := by
  refine lim_length_le (Nat.lt_of_lt_of_le (bl_lt2 h) ?_)
  rw [show (4294967296 : Nat) = 2 ^ 32 from rfl, ← Nat.pow_mul]
  exact Nat.pow_le_pow_right (by decide) (by omega)
end
end Go.Ab

set_option linter.unusedVariables false
set_option maxRecDepth 20000
set_option linter.unusedSimpArgs false
set_option linter.unusedSectionVars false
namespace Go.Ab
open Go.Proofs

theorem le_lt {a b c : Nat} (h : a ≤ b) (g : b < c) : a < c := Nat.lt_of_le_of_lt h g
section
variable {a b : AV} {x y : Dyadic} {B C : Nat}
end
end Go.Ab

set_option linter.unusedVariables false
set_option maxRecDepth 20000
set_option linter.unusedSimpArgs false
set_option linter.unusedSectionVars false
namespace Go.Ab
open Go.Proofs

theorem DB.W {x : Dyadic} {B : Nat} (h : DB x B) : RI (WI (dnum x)) (dnum x) B := RI_W h.lim
theorem two_bound {z : Int} {k j m : Nat} (h : z.natAbs < 2 ^ k) (hm : k + j ≤ m) : Lt2 (z * 2 ^ j).natAbs m := by
  unfold Lt2
  rw [Int.natAbs_mul, Int.natAbs_pow]
  refine Nat.lt_of_lt_of_le (Nat.mul_lt_mul_of_pos_right h (Nat.two_pow_pos j)) ?_
  show 2 ^ k * 2 ^ j ≤ 2 ^ m
  rw [← Nat.pow_add]
  exact Nat.pow_le_pow_right (by decide) hm
theorem dtop_n0 {x : Dyadic} (h : x ≠ 0) : dtop x = (bl (dnum x).natAbs : Nat) - 1 + dexp x := by unfold dtop; rw [if_neg h]
section
variable {a b : AV} {x y : Dyadic} {B C : Nat}

end
end Go.Ab

set_option linter.unusedVariables false
set_option maxRecDepth 20000
set_option linter.unusedSimpArgs false
set_option linter.unusedSectionVars false
namespace Go.Ab
open Go.Proofs
/-! numbers' parts; bounds by the place of the topmost bit -/
theorem dn0 : dnum 0 = 0 := rfl
theorem de0 : dexp 0 = 0 := rfl
theorem dnum_split {m : Int} (h : m ≠ 0) (e : Int) : ∃ (o : Int) (z : Nat), m = o * 2 ^ z ∧ dnum (dv m e) = o ∧ dexp (dv m e) = e + z := by
  obtain ⟨o, z, h1, h2⟩ := odd_part h
  refine ⟨o, z, h1, ?_, ?_⟩
  · rw [h1, dv_shift, dnum_odd h2]
  · rw [h1, dv_shift, dexp_odd h2]
theorem dnum_sign (m e : Int) : (dnum (dv m e)).sign = m.sign := by
  by_cases h : m = 0
  · rw [h]; rfl
  · obtain ⟨o, z, h1, h2, _⟩ := dnum_split h e
    rw [h2, h1, Int.sign_mul, show ((2 : Int) ^ z).sign = 1 from Int.sign_eq_one_of_pos (Int.pow_pos (by decide)), Int.mul_one]
theorem dnum_lt {m e : Int} : dnum (dv m e) < 0 ↔ m < 0 := by rw [← Int.sign_eq_neg_one_iff_neg, dnum_sign, Int.sign_eq_neg_one_iff_neg]
theorem bl_dnum {m e : Int} (h : m ≠ 0) : (bl (dnum (dv m e)).natAbs : Int) + dexp (dv m e) = bl m.natAbs + e ∧ e ≤ dexp (dv m e) := by
  obtain ⟨o, z, h1, h2, h3⟩ := dnum_split h e
  have ho : o.natAbs ≠ 0 := fun q => h (by rw [h1, Int.natAbs_eq_zero.1 q, Int.zero_mul])
  have : m.natAbs = o.natAbs * 2 ^ z := by rw [h1, Int.natAbs_mul, Int.natAbs_pow]; rfl
  rw [h2, h3, this, bl_up ho]
  omega
theorem dv_cast (m : Int) {a e : Int} {k : Nat} (h : e = a + k) : dv m e = dv (m * 2 ^ k) a := by rw [h, dv_shift]
theorem DB.rng {m E : Int} {L B : Nat} (hm : Lt2 m.natAbs L) (h1 : -(B : Int) ≤ E) (h2 : (L : Int) + E ≤ B) : DB (dv m E) B := by
  obtain ⟨k, hk⟩ : ∃ k : Nat, E = -(B : Int) + k := ⟨(E + B).toNat, by omega⟩
  refine ⟨m * 2 ^ k, dv_cast m hk, ?_⟩
  have e : (m * 2 ^ k).natAbs = m.natAbs * 2 ^ k := by rw [Int.natAbs_mul, Int.natAbs_pow]; rfl
  rw [e]
  refine Nat.lt_of_lt_of_le (Nat.mul_lt_mul_of_pos_right hm (Nat.two_pow_pos k)) ?_
  rw [← Nat.pow_add]
  exact Nat.pow_le_pow_right (by decide) (by omega)
theorem DB.top {x : Dyadic} {B : Nat} (h : DB x B) (h0 : x ≠ 0) : -(B : Int) < (bl (dnum x).natAbs : Int) + dexp x ∧ (bl (dnum x).natAbs : Int) + dexp x ≤ B := by
  obtain ⟨z, rfl, hz⟩ := h
  have hz0 : z ≠ 0 := fun e => h0 (dv_eq_zero.2 e)
  obtain ⟨e1, _⟩ := bl_dnum hz0 (e := -(B : Int))
  have hb : bl z.natAbs ≤ 2 * B := bl_le_of hz
  have hp : 1 ≤ bl z.natAbs := bl_pos (by omega)
  rw [e1]
  omega
end Go.Ab

set_option linter.unusedVariables false
set_option maxRecDepth 20000
set_option linter.unusedSimpArgs false
set_option linter.unusedSectionVars false
namespace Go.Ab
open Go.Proofs
theorem wdown_pos (A : Nat) (k : Nat) (hA : (lim A).length < 1000000) (hk : k ≤ 100000) : Sat CT false 174 [IA false (lim A), I64 k] (WI (A / 2 ^ k : Nat)) := by
  refine sat_of whole_Downwards.ok (by simp) ?_
  have DD := whole_Downwards.dr
  simp only [drP, drPx, drPt, drR, drS, drT, bodyOf, Tryz.f174, Nat.reduceEqDiff, reduceIte, true_and, and_true] at DD
  have h1 := down_sat (lim A) k (Lm_lim _) (le_lt (Nat.le_of_lt hA) (by decide)) hk
  rw [nv_lim] at h1
  have l1 := lim_nv_len (L := 1000000) (Lm_lim A) (Nat.le_of_lt hA) (x := A / 2 ^ k) (by rw [nv_lim]; exact Nat.div_le_self _ _)
  have w1 := with_sat false (lim (A / 2 ^ k)) (Lm_lim _) (le_lt l1 (by decide))
  have n1 := norm_sat false (lim A) (Lm_lim _) (le_lt (Nat.le_of_lt hA) (by decide))
  rw [iv_lim] at n1 w1
  simp only [Bool.false_eq_true, if_false] at n1 w1
  have c0 : decide ((A : Int) < 0) = false := decide_eq_false (Int.not_lt.2 (Int.natCast_nonneg A))
  simp -implicitDefEqProofs only [go_sem, simprocAttr, -Int.reducePow, Tryz.f174, DD, c0]
  refine callK_q nat_Downwards.call (h1) rfl rfl ?_
  simp -implicitDefEqProofs only [go_sem, simprocAttr, -Int.reducePow, DD, c0]
  refine callK_q whole_with.call (w1) rfl rfl ?_
  simp -implicitDefEqProofs only [go_sem, simprocAttr, -Int.reducePow, DD, c0]
  refine callK_q whole_Norm.call (n1) rfl rfl ?_
  simp -implicitDefEqProofs only [go_sem, simprocAttr, -Int.reducePow, DD, c0]
theorem moved_up (A : Nat) (n : Nat) (hA : (lim A).length < 1000000) (hn : n ≤ 50000) : Sat CT false 171 [IA false (lim A), I64 n] (.tup [WI (A * 2 ^ n : Nat), Bo true]) := by
  refine sat_of quot_moved.ok (by simp) ?_
  have DD := quot_moved.dr
  simp only [drP, drPx, drPt, drR, drS, drT, bodyOf, Tryz.f171, Nat.reduceEqDiff, reduceIte, true_and, and_true] at DD
  have u1 := wup_int false (lim A) n n (by omega) (Lm_lim _) (by omega) (by omega)
  rw [iv_lim] at u1
  simp only [Bool.false_eq_true, if_false] at u1
  have e : (A : Int) * 2 ^ n = ((A * 2 ^ n : Nat) : Int) := by push_cast; rfl
  rw [e] at u1
  have c0 : ¬ (n : Int) < 0 := by omega
  have c1 : (0 : Int) ≤ n := by omega
  simp -implicitDefEqProofs only [go_sem, simprocAttr, -Int.reducePow, Tryz.f171, DD, c0, c1, ge_iff_le]
  refine callK_q whole_Up.call (u1) rfl rfl ?_
  simp -implicitDefEqProofs only [go_sem, simprocAttr, -Int.reducePow, DD, c0, c1, ge_iff_le]
theorem wup_W (z : Int) (k : Nat) (hl : Lz z < 1099511) (hk : k ≤ 100000) : Sat CT false 106 [WI z, I64 k] (WI (z * 2 ^ k)) := by
  have := wup_int (decide (z < 0)) (lim z.natAbs) k k (by omega) (Lm_lim _) hl hk
  rw [iv_W] at this
  exact this
theorem moved_eq (A n : Nat) : A / 2 ^ n * 2 ^ n = A ↔ A % 2 ^ n = 0 := by
  have := Nat.div_add_mod A (2 ^ n)
  rw [Nat.mul_comm] at this
  omega
set_option maxHeartbeats 1000000 in
theorem moved_dn (A : Nat) (n : Nat) (hA : (lim A).length < 1000000) (hn : n ≤ 50000) (h1 : 1 ≤ n) : Sat CT false 171 [IA false (lim A), I64 (-(n : Int))] (.tup [WI (A / 2 ^ n : Nat), Bo (decide (A % 2 ^ n = 0))]) := by
  refine sat_of quot_moved.ok (by simp) ?_
  have DD := quot_moved.dr
  simp only [drP, drPx, drPt, drR, drS, drT, bodyOf, Tryz.f171, Nat.reduceEqDiff, reduceIte, true_and, and_true] at DD
  have c0 : -(n : Int) < 0 := by omega
  have c1 : ¬ (0 : Int) ≤ -(n : Int) := by omega
  have w1 : IntKind.i64.wrap (0 - (-(n : Int))) = n := by rw [wrap_id (by omega)]; omega
  have d1 := wdown_pos A n hA (by omega)
  have l0 := lim_nv_len (L := 1000000) (Lm_lim A) (Nat.le_of_lt hA) (x := A / 2 ^ n) (by rw [nv_lim]; exact Nat.div_le_self _ _)
  have l1 : Lz ((A / 2 ^ n : Nat) : Int) ≤ 1000000 := l0
  have u1 := wup_W ((A / 2 ^ n : Nat) : Int) n (le_lt l1 (by decide)) (by omega)
  have e : ((A / 2 ^ n : Nat) : Int) * 2 ^ n = ((A / 2 ^ n * 2 ^ n : Nat) : Int) := by push_cast; rfl
  rw [e] at u1
  have l2 : Lz ((A / 2 ^ n * 2 ^ n : Nat) : Int) ≤ 1000000 := lim_nv_len (L := 1000000) (Lm_lim A) (Nat.le_of_lt hA) (x := A / 2 ^ n * 2 ^ n) (by rw [nv_lim]; exact Nat.div_mul_le_self _ _)
  have r2 : RI (IA false (lim A)) (A : Int) 1000000 := ⟨false, lim A, rfl, Lm_lim _, by rw [iv_lim]; simp, Nat.le_of_lt hA⟩
  have k1 := cmp_r (RI_W l2) r2 (by decide) (by decide)
  clear l1 l2 l0 r2
  by_cases hx : A % 2 ^ n = 0
  · have hx2 := (moved_eq A n).2 hx
    have cs : (((A / 2 ^ n * 2 ^ n : Nat) : Int) - (A : Int)).sign = 0 := by rw [hx2, Int.sub_self]; rfl
    rw [decide_eq_true hx]
    simp -implicitDefEqProofs only [go_sem, simprocAttr, -Int.reducePow, Tryz.f171, DD, c0, c1, ge_iff_le, w1, cs]
    refine callK_q whole_Downwards.call (d1) rfl rfl ?_
    simp -implicitDefEqProofs only [go_sem, simprocAttr, -Int.reducePow, DD, c0, c1, ge_iff_le, w1, TMOVED, cs]
    repeat' (first | refine ⟨?_, ?_⟩ | (refine callK_q whole_Up.call (u1) rfl rfl ?_; simp -implicitDefEqProofs only [go_sem, simprocAttr, -Int.reducePow, DD, c0, c1, ge_iff_le, w1, cs]) | (refine callK_q whole_Cmp.call (k1) rfl rfl ?_; simp -implicitDefEqProofs only [go_sem, simprocAttr, -Int.reducePow, DD, c0, c1, ge_iff_le, w1, cs]))
  · have hx2 : ¬ A / 2 ^ n * 2 ^ n = A := fun q => hx ((moved_eq A n).1 q)
    have cs : ¬ (((A / 2 ^ n * 2 ^ n : Nat) : Int) - (A : Int)).sign = 0 := fun q => hx2 (by have := Int.sign_eq_zero_iff_zero.1 q; omega)
    rw [decide_eq_false hx]
    simp -implicitDefEqProofs only [go_sem, simprocAttr, -Int.reducePow, Tryz.f171, DD, c0, c1, ge_iff_le, w1, cs]
    refine callK_q whole_Downwards.call (d1) rfl rfl ?_
    simp -implicitDefEqProofs only [go_sem, simprocAttr, -Int.reducePow, DD, c0, c1, ge_iff_le, w1, TMOVED, cs]
    repeat' (first | refine ⟨?_, ?_⟩ | (refine callK_q whole_Up.call (u1) rfl rfl ?_; simp -implicitDefEqProofs only [go_sem, simprocAttr, -Int.reducePow, DD, c0, c1, ge_iff_le, w1, cs]) | (refine callK_q whole_Cmp.call (k1) rfl rfl ?_; simp -implicitDefEqProofs only [go_sem, simprocAttr, -Int.reducePow, DD, c0, c1, ge_iff_le, w1, cs]))
theorem moved_r (A : Nat) (sh : Int) (hA : (lim A).length < 1000000) (hs : sh.natAbs ≤ 50000) : Sat CT false 171 [IA false (lim A), I64 sh] (.tup [WI (mvN A sh : Nat), Bo (decide (mvX A sh))]) := by
  by_cases h : 0 ≤ sh
  · have q := moved_up A sh.toNat hA (by omega)
    have e : ((sh.toNat : Nat) : Int) = sh := by omega
    have e2 : (-sh).toNat = 0 := by omega
    have f1 : mvN A sh = A * 2 ^ sh.toNat := by unfold mvN; rw [e2]; simp
    have f2 : decide (mvX A sh) = true := by apply decide_eq_true; show A % 2 ^ (-sh).toNat = 0; rw [e2]; simp [Nat.mod_one]
    rw [e, ← f1, ← f2] at q
    exact q
  · have q := moved_dn A (-sh).toNat hA (by omega) (by omega)
    have e : -(((-sh).toNat : Nat) : Int) = sh := by omega
    have e2 : sh.toNat = 0 := by omega
    have f1 : mvN A sh = A / 2 ^ (-sh).toNat := by unfold mvN; rw [e2]; simp
    rw [e, ← f1] at q
    exact q
theorem qroot_num {a P : Nat} {ex tx t sh : Int} (ha : a ≤ 48190) (hex : ex.natAbs ≤ 24095) (hP : P ≤ 4000) (htx : tx = (a : Nat) - 1 + ex) (ht : t = tx / 2) (hsh : sh = ex - 2 * (t - P + 1)) :
    IntKind.i64.wrap t = t ∧ IntKind.i64.wrap (t - P) = t - P ∧ IntKind.i64.wrap (t - P + 1) = t - P + 1 ∧ IntKind.i64.wrap (2 * (t - P + 1)) = 2 * (t - P + 1) ∧ IntKind.i64.wrap (ex - 2 * (t - P + 1)) = sh ∧
    sh.natAbs ≤ 50000 ∧ (t - P + 1).natAbs ≤ 1000000000 ∧ sh.toNat ≤ 50000 := by
  refine ⟨wrap_id (by omega), wrap_id (by omega), wrap_id (by omega), wrap_id (by omega), ?_, by omega, by omega, by omega⟩
  rw [wrap_id (by omega)]; omega
end Go.Ab

set_option linter.unusedVariables false
set_option linter.unusedSimpArgs false
set_option linter.unusedSectionVars false
namespace Go.Ab
open Go.Proofs
theorem cmpN_zero {x y : Nat} : cmpN x y = 0 ↔ x = y := by unfold cmpN; (repeat' split) <;> omega
section
variable {a b : AV} {x y : Dyadic} {B C : Nat}
set_option maxHeartbeats 2000000 in
theorem qroot_ok (ha : RD a x B) (hx : 0 < dnum x) (hB : B ≤ 24095) (p m : Int) : Sat CT false 147 [a, I64 p, I64 m] (.tup [DI (droot x (heldP p) (decide (m = 1))), I64 0]) := by
  refine sat_of quot_Root.ok (by simp) ?_
  have DD := quot_Root.dr
  simp only [drP, drPx, drPt, drR, drS, drT, bodyOf, Tryz.f147, Nat.reduceEqDiff, reduceIte, true_and, and_true] at DD
  have hB2 : B ≤ 24100 := Nat.le_trans hB (by decide)
  have n1 := dnorm_w ha hB2
  have s1 := dsign_w (RD_D ha.db) hB2
  have c1 : (dnum x).sign = 1 := Int.sign_eq_one_of_pos hx
  have q1 := held5_sat p
  obtain ⟨_, _, hP1, hP2⟩ := heldP_v p
  have hdx := ha.db
  obtain ⟨n', l', e', rfl, _⟩ := ha
  have x0 : x ≠ 0 := fun e => by rw [e] at hx; exact absurd hx (by decide)
  generalize hP : heldP p = P at *
  have t1 := dtop_w (RD_D hdx) hB2
  have hb : bl (dnum x).natAbs ≤ 48190 := Nat.le_trans (bl_B hdx) (Nat.mul_le_mul_left 2 hB)
  have hl : (lim (dnum x).natAbs).length ≤ 48190 / 32 + 1 := lim_bl hb
  have he := Nat.le_trans hdx.num.2 hB
  have haX := hdx.num.1
  obtain ⟨t, ht⟩ : ∃ t, t = dtop x / 2 := ⟨_, rfl⟩
  obtain ⟨sh, hsh⟩ : ∃ sh, sh = dexp x - 2 * (t - P + 1) := ⟨_, rfl⟩
  obtain ⟨w0, w1, w2, w3, w4, e1, e2, e3⟩ := qroot_num hb he hP2 (dtop_n0 x0) ht hsh
  have m1 := moved_r (dnum x).natAbs sh (le_lt hl (by decide)) e1
  have eI : IA false (lim (dnum x).natAbs) = WI (dnum x) := by unfold WI; rw [decide_eq_false (Int.not_lt.2 (Int.le_of_lt hx))]
  rw [eI] at m1
  have ht2 : (dtop x).fdiv (2 ^ 1) = t := by rw [ht]; exact Int.fdiv_eq_ediv_of_nonneg _ (by decide)
  obtain ⟨M, hM⟩ : ∃ M, M = mvN (dnum x).natAbs sh := ⟨_, rfl⟩
  have lM : (lim M).length ≤ 48190 / 32 + 1 + (50000 / 32 + 1) := by
    have z1 := Nat.le_trans (lim_shl_len (Lm_lim (dnum x).natAbs) hl sh.toNat) (Nat.add_le_add_left (Nat.add_le_add_right (Nat.div_le_div_right e3) 1) _)
    have := lim_nv_len (Lm_lim ((dnum x).natAbs * 2 ^ sh.toNat)) (by rw [nv_lim] at z1; exact z1) (x := M) (by rw [nv_lim, hM]; exact Nat.div_le_self _ _)
    exact this
  have hroot := droot_eq hx hP1 ht hsh (decide (m = 1))
  rw [← hM] at m1 hroot
  have r1 := root_sat (lim M) (Lm_lim _) (Nat.le_trans lM (by decide))
  rw [nv_lim] at r1
  have lr : (lim (isq M)).length ≤ 48190 / 32 + 1 + (50000 / 32 + 1) := lim_nv_len (Lm_lim M) lM (by rw [nv_lim]; exact isq_le M)
  have p1 := mul_sat (lim (isq M)) (lim (isq M)) (Lm_lim _) (Lm_lim _) (le_lt lr (by decide)) (le_lt lr (by decide))
  rw [nv_lim] at p1
  have lp := lim_mul_len lr lr
  have k1 := cmp_sat (lim (isq M * isq M)) (lim M) (Lm_lim _) (Lm_lim _) (le_lt lp (by decide)) (le_lt lM (by decide))
  rw [nv_lim, nv_lim] at k1
  have bM : Lt2 (isq M) 99999 := by
    have h1 := two_bound (z := dnum x) (j := sh.toNat) (m := 99999) haX (Nat.le_trans (Nat.add_le_add (Nat.mul_le_mul_left 2 hB) e3) (by decide))
    have h2 : (dnum x * 2 ^ sh.toNat).natAbs = (dnum x).natAbs * 2 ^ sh.toNat := by rw [Int.natAbs_mul, Int.natAbs_pow]; rfl
    unfold Lt2 at *
    rw [h2] at h1
    exact Nat.lt_of_le_of_lt (Nat.le_trans (isq_le M) (by rw [hM]; exact Nat.div_le_self _ _)) h1
  have td := fun ex => told_sat ((isq M : Nat) : Int) (t - P + 1) m ex bM (le_lt lr (by decide)) e2
  have eT : ∀ b : Bool, (if m = 1 ∧ b = false then (1 : Int) else 0) = if decide (m = 1) = true ∧ b = false then 1 else 0 := fun b => by simp only [decide_eq_true_eq]
  by_cases hx1 : mvX (dnum x).natAbs sh
  · rw [decide_eq_true hx1] at m1
    by_cases hx2 : isq M * isq M = M
    · have cx : cmpN (isq M * isq M) M = 0 := cmpN_eq hx2
      have tt := td true
      have hh : (if decide (m = 1) = true ∧ true = false then (1 : Int) else 0) = if decide (m = 1) = true ∧ ¬ (mvX (dnum x).natAbs sh ∧ isq M * isq M = M) then 1 else 0 := by rw [if_neg (fun q => absurd q.2 (by decide)), if_neg (fun q => q.2 ⟨hx1, hx2⟩)]
      rw [eT, hh, hroot] at tt
      simp -implicitDefEqProofs only [go_sem, simprocAttr, -Int.reducePow, Tryz.f147, DD, c1, w0, w1, w2, w3, w4, ht2, Int.natAbs_natCast, cx]
      refine callK_q dyad_Norm.call (n1) rfl rfl ?_
      simp -implicitDefEqProofs only [go_sem, simprocAttr, -Int.reducePow, DD, c1, w0, w1, w2, w3, w4, ht2, Int.natAbs_natCast, cx]
      refine callK_q dyad_Sign.call (s1) rfl rfl ?_
      simp -implicitDefEqProofs only [go_sem, simprocAttr, -Int.reducePow, DD, c1, w0, w1, w2, w3, w4, ht2, Int.natAbs_natCast, cx]
      refine callK_q dyad_Top.call (t1) rfl rfl ?_
      simp -implicitDefEqProofs only [go_sem, simprocAttr, -Int.reducePow, DD, c1, w0, w1, w2, w3, w4, ht2, Int.natAbs_natCast, cx]
      refine callK_q round_Held.call (q1) rfl rfl ?_
      simp -implicitDefEqProofs only [go_sem, simprocAttr, -Int.reducePow, DD, c1, w0, w1, w2, w3, w4, ht2, Int.natAbs_natCast, cx]
      refine callK_q quot_moved.call (m1) rfl rfl ?_
      simp -implicitDefEqProofs only [go_sem, simprocAttr, -Int.reducePow, DD, c1, w0, w1, w2, w3, w4, ht2, Int.natAbs_natCast, cx]
      refine callK_q nat_Root.call (r1) rfl rfl ?_
      simp -implicitDefEqProofs only [go_sem, simprocAttr, -Int.reducePow, DD, c1, w0, w1, w2, w3, w4, ht2, Int.natAbs_natCast, cx]
      refine callK_q nat_Mul.call (p1) rfl rfl ?_
      simp -implicitDefEqProofs only [go_sem, simprocAttr, -Int.reducePow, DD, c1, w0, w1, w2, w3, w4, ht2, Int.natAbs_natCast, cx]
      refine callK_q nat_Cmp.call (k1) rfl rfl ?_
      simp -implicitDefEqProofs only [go_sem, simprocAttr, -Int.reducePow, DD, c1, w0, w1, w2, w3, w4, ht2, Int.natAbs_natCast, cx]
      refine callK_q quot_told.call (tt) rfl rfl ?_
      simp -implicitDefEqProofs only [go_sem, simprocAttr, -Int.reducePow, DD, c1, w0, w1, w2, w3, w4, ht2, Int.natAbs_natCast, cx]
    · have cx : ¬ cmpN (isq M * isq M) M = 0 := fun q => hx2 (cmpN_zero.1 q)
      have tt := td false
      have hh : (if decide (m = 1) = true ∧ false = false then (1 : Int) else 0) = if decide (m = 1) = true ∧ ¬ (mvX (dnum x).natAbs sh ∧ isq M * isq M = M) then 1 else 0 := by simp only [hx2, and_false, not_false_eq_true, and_true]
      rw [eT, hh, hroot] at tt
      simp -implicitDefEqProofs only [go_sem, simprocAttr, -Int.reducePow, Tryz.f147, DD, c1, w0, w1, w2, w3, w4, ht2, Int.natAbs_natCast, cx]
      refine callK_q dyad_Norm.call (n1) rfl rfl ?_
      simp -implicitDefEqProofs only [go_sem, simprocAttr, -Int.reducePow, DD, c1, w0, w1, w2, w3, w4, ht2, Int.natAbs_natCast, cx]
      refine callK_q dyad_Sign.call (s1) rfl rfl ?_
      simp -implicitDefEqProofs only [go_sem, simprocAttr, -Int.reducePow, DD, c1, w0, w1, w2, w3, w4, ht2, Int.natAbs_natCast, cx]
      refine callK_q dyad_Top.call (t1) rfl rfl ?_
      simp -implicitDefEqProofs only [go_sem, simprocAttr, -Int.reducePow, DD, c1, w0, w1, w2, w3, w4, ht2, Int.natAbs_natCast, cx]
      refine callK_q round_Held.call (q1) rfl rfl ?_
      simp -implicitDefEqProofs only [go_sem, simprocAttr, -Int.reducePow, DD, c1, w0, w1, w2, w3, w4, ht2, Int.natAbs_natCast, cx]
      refine callK_q quot_moved.call (m1) rfl rfl ?_
      simp -implicitDefEqProofs only [go_sem, simprocAttr, -Int.reducePow, DD, c1, w0, w1, w2, w3, w4, ht2, Int.natAbs_natCast, cx]
      refine callK_q nat_Root.call (r1) rfl rfl ?_
      simp -implicitDefEqProofs only [go_sem, simprocAttr, -Int.reducePow, DD, c1, w0, w1, w2, w3, w4, ht2, Int.natAbs_natCast, cx]
      refine callK_q nat_Mul.call (p1) rfl rfl ?_
      simp -implicitDefEqProofs only [go_sem, simprocAttr, -Int.reducePow, DD, c1, w0, w1, w2, w3, w4, ht2, Int.natAbs_natCast, cx]
      refine callK_q nat_Cmp.call (k1) rfl rfl ?_
      simp -implicitDefEqProofs only [go_sem, simprocAttr, -Int.reducePow, DD, c1, w0, w1, w2, w3, w4, ht2, Int.natAbs_natCast, cx]
      refine callK_q quot_told.call (tt) rfl rfl ?_
      simp -implicitDefEqProofs only [go_sem, simprocAttr, -Int.reducePow, DD, c1, w0, w1, w2, w3, w4, ht2, Int.natAbs_natCast, cx]
  · rw [decide_eq_false hx1] at m1
    have cx : True := trivial
    have tt := td false
    have hh : (if decide (m = 1) = true ∧ false = false then (1 : Int) else 0) = if decide (m = 1) = true ∧ ¬ (mvX (dnum x).natAbs sh ∧ isq M * isq M = M) then 1 else 0 := by simp only [hx1, false_and, not_false_eq_true, and_true]
    rw [eT, hh, hroot] at tt
    simp -implicitDefEqProofs only [go_sem, simprocAttr, -Int.reducePow, Tryz.f147, DD, c1, w0, w1, w2, w3, w4, ht2, Int.natAbs_natCast, cx]
    refine callK_q dyad_Norm.call (n1) rfl rfl ?_
    simp -implicitDefEqProofs only [go_sem, simprocAttr, -Int.reducePow, DD, c1, w0, w1, w2, w3, w4, ht2, Int.natAbs_natCast, cx]
    refine callK_q dyad_Sign.call (s1) rfl rfl ?_
    simp -implicitDefEqProofs only [go_sem, simprocAttr, -Int.reducePow, DD, c1, w0, w1, w2, w3, w4, ht2, Int.natAbs_natCast, cx]
    refine callK_q dyad_Top.call (t1) rfl rfl ?_
    simp -implicitDefEqProofs only [go_sem, simprocAttr, -Int.reducePow, DD, c1, w0, w1, w2, w3, w4, ht2, Int.natAbs_natCast, cx]
    refine callK_q round_Held.call (q1) rfl rfl ?_
    simp -implicitDefEqProofs only [go_sem, simprocAttr, -Int.reducePow, DD, c1, w0, w1, w2, w3, w4, ht2, Int.natAbs_natCast, cx]
    refine callK_q quot_moved.call (m1) rfl rfl ?_
    simp -implicitDefEqProofs only [go_sem, simprocAttr, -Int.reducePow, DD, c1, w0, w1, w2, w3, w4, ht2, Int.natAbs_natCast, cx]
    refine callK_q nat_Root.call (r1) rfl rfl ?_
    simp -implicitDefEqProofs only [go_sem, simprocAttr, -Int.reducePow, DD, c1, w0, w1, w2, w3, w4, ht2, Int.natAbs_natCast, cx]
    refine callK_q quot_told.call (tt) rfl rfl ?_
    simp -implicitDefEqProofs only [go_sem, simprocAttr, -Int.reducePow, DD, c1, w0, w1, w2, w3, w4, ht2, Int.natAbs_natCast, cx]
end
end Go.Ab

set_option linter.unusedVariables false
set_option linter.unusedSimpArgs false
set_option linter.unusedSectionVars false
namespace Go.Ab
open Go.Proofs

section
variable {a b : AV} {x y : Dyadic} {B C : Nat}
end
end Go.Ab

set_option linter.unusedVariables false
set_option linter.unusedSimpArgs false
set_option linter.unusedSectionVars false
namespace Go.Ab
open Go.Proofs

/-- what few lets in -/
def Few (x : Dyadic) (L E : Nat) : Prop := bl (dnum x).natAbs ≤ L ∧ (dexp x).natAbs ≤ E + L
theorem Few.of {m e : Int} {L E : Nat} (hm : bl m.natAbs ≤ L) (he : e.natAbs ≤ E) : Few (dv m e) L E := by
  by_cases h : m = 0
  · rw [h]; exact ⟨by show bl (0 : Int).natAbs ≤ L; rw [show (0 : Int).natAbs = 0 from rfl, bl_zero]; omega, by show (0 : Int).natAbs ≤ _; simp⟩
  · obtain ⟨h1, h2⟩ := bl_dnum (e := e) h
    exact ⟨by omega, by omega⟩
theorem rd0 : RD (DA false [] 0) 0 0 := by rw [← DI_0]; exact RD_D (DB.zero 0)
/-- nought as it is told in a row of results -/
def QZ : AV := .agg [Bo false, .v (.slice none 0 0), I64 0]
section
variable {a b : AV} {x y : Dyadic} {B C : Nat}
theorem dcmp_r (ha : RD a x B) (hb : RD b y C) (hB : B ≤ 19000) (hC : C ≤ 19000) : Sat CT false 119 [a, b] (I64 (dnum (x - y)).sign) := by
  refine sat_of dyad_Cmp.ok (by simp) ?_
  have DD := dyad_Cmp.dr
  simp only [drP, drPx, drPt, drR, drS, drT, bodyOf, Tryz.f119, Nat.reduceEqDiff, reduceIte, true_and, and_true] at DD
  have q1 := dsub_r ha hb (Nat.le_trans hB (by decide)) (Nat.le_trans hC (by decide))
  have q2 := dsign_r (RD_D ((ha.db.mono (Nat.le_max_left B C)).sub (hb.db.mono (Nat.le_max_right B C)))) (by omega)
  obtain ⟨n, l, e, rfl, _⟩ := ha
  obtain ⟨n', l', e', rfl, _⟩ := hb
  simp -implicitDefEqProofs only [go_sem, simprocAttr, -Int.reducePow, Tryz.f119, DD]
  refine callK_q dyad_Sub.call (q1) rfl rfl ?_
  simp -implicitDefEqProofs only [go_sem, simprocAttr, -Int.reducePow, DD]
  refine callK_q dyad_Sign.call (q2) rfl rfl ?_
  simp -implicitDefEqProofs only [go_sem, simprocAttr, -Int.reducePow, DD]
theorem qroot_n (ha : RD a x B) (hx : dnum x ≤ 0) (hB : B ≤ 24095) (p m : Int) : Sat CT false 147 [a, I64 p, I64 m] (.tup [QZ, I64 (if dnum x = 0 then 0 else 12)]) := by
  refine sat_of quot_Root.ok (by simp) ?_
  have DD := quot_Root.dr
  simp only [drP, drPx, drPt, drR, drS, drT, bodyOf, Tryz.f147, Nat.reduceEqDiff, reduceIte, true_and, and_true] at DD
  have n1 := dnorm_w ha (by omega)
  have s1 := dsign_w (RD_D ha.db) (by omega)
  obtain ⟨n', l', e', rfl, _⟩ := ha
  by_cases h0 : dnum x = 0
  · have c1 : (dnum x).sign = 0 := by rw [h0]; rfl
    rw [if_pos h0]
    simp -implicitDefEqProofs only [go_sem, simprocAttr, -Int.reducePow, Tryz.f147, DD, c1]
    refine callK_q dyad_Norm.call (n1) rfl rfl ?_
    simp -implicitDefEqProofs only [go_sem, simprocAttr, -Int.reducePow, DD, c1]
    refine callK_q dyad_Sign.call (s1) rfl rfl ?_
    simp -implicitDefEqProofs only [go_sem, simprocAttr, -Int.reducePow, DD, c1, QZ]
  · have c1 : (dnum x).sign = -1 := Int.sign_eq_neg_one_of_neg (by omega)
    rw [if_neg h0]
    simp -implicitDefEqProofs only [go_sem, simprocAttr, -Int.reducePow, Tryz.f147, DD, c1]
    refine callK_q dyad_Norm.call (n1) rfl rfl ?_
    simp -implicitDefEqProofs only [go_sem, simprocAttr, -Int.reducePow, DD, c1]
    refine callK_q dyad_Sign.call (s1) rfl rfl ?_
    simp -implicitDefEqProofs only [go_sem, simprocAttr, -Int.reducePow, DD, c1, QZ]
end
end Go.Ab

set_option linter.unusedVariables false
set_option linter.unusedSimpArgs false
set_option linter.unusedSectionVars false
namespace Go.Ab
open Go.Proofs

end Go.Ab

/-! plain laws of quotients and roots: how they lie beside what is divided -/
set_option linter.unusedVariables false
set_option linter.unusedSimpArgs false
set_option linter.unusedSectionVars false
namespace Go.Ab
open Go.Proofs

/-- the sign -/
def dsg (x : Dyadic) : Int := (dnum x).sign
theorem psplit {m : Int} (h : m ≠ 0) (e : Int) : ∃ (o : Int) (z : Nat), m = o * 2 ^ z ∧ dnum (dv m e) = o ∧ dexp (dv m e) = e + z ∧ o % 2 = 1 := by
  obtain ⟨o, z, h1, h2⟩ := odd_part h
  refine ⟨o, z, h1, ?_, ?_, h2⟩
  · rw [h1, dv_shift, dnum_odd h2]
  · rw [h1, dv_shift, dexp_odd h2]
theorem dsg_dv (m e : Int) : dsg (dv m e) = m.sign := by
  unfold dsg
  by_cases h : m = 0
  · rw [h]; rfl
  · obtain ⟨o, z, h1, h2, _⟩ := psplit h e
    rw [h2, h1, Int.sign_mul, show ((2 : Int) ^ z).sign = 1 from Int.sign_eq_one_of_pos (Int.pow_pos (by decide)), Int.mul_one]
theorem dv_sub (m n e : Int) : dv m e - dv n e = dv (m - n) e := by
  rw [show dv m e - dv n e = dv m e + (-dv n e) by grind, dv_neg, dv_add]; rfl
theorem bl_cut {m P : Nat} (h : P < bl m) (hP : 1 ≤ P) : bl (m / 2 ^ (bl m - P)) = P := by
  have hm : m ≠ 0 := fun e => by rw [e, bl_zero] at h; omega
  refine bl_eq ?_ ?_ hP
  · rw [Nat.le_div_iff_mul_le (Nat.two_pow_pos _), ← Nat.pow_add, show P - 1 + (bl m - P) = bl m - 1 by omega]
    exact bl_le hm
  · exact Nat.div_lt_of_lt_mul (by rw [← Nat.pow_add, show bl m - P + P = bl m by omega]; exact bl_lt m)
theorem sign_le {z : Int} (h : z ≤ 0) : z.sign ≤ 0 := by
  rcases Int.lt_or_eq_of_le h with g | g
  · rw [Int.sign_eq_neg_one_of_neg g]; decide
  · rw [g]; decide
theorem sign_ge {z : Int} (h : 0 ≤ z) : 0 ≤ z.sign := by
  rcases Int.lt_or_eq_of_le h with g | g
  · rw [Int.sign_eq_one_of_pos g]; decide
  · rw [← g]; decide
theorem dsg_le {a b e : Int} (h : a ≤ b) : dsg (dv a e - dv b e) ≤ 0 := by rw [dv_sub, dsg_dv]; exact sign_le (by omega)
theorem dsg_ge {a b e : Int} (h : b ≤ a) : 0 ≤ dsg (dv a e - dv b e) := by rw [dv_sub, dsg_dv]; exact sign_ge (by omega)
theorem bl_pow_le {z : Int} {P : Nat} (hP : 1 ≤ P) (h0 : z ≠ 0) (h : z.natAbs ≤ 2 ^ P) (e : Int) : bl (dnum (dv z e)).natAbs ≤ P := by
  obtain ⟨o, k, h1, h2, h3, h4⟩ := psplit h0 e
  rw [h2]
  have h5 : z.natAbs = o.natAbs * 2 ^ k := by rw [h1, Int.natAbs_mul, Int.natAbs_pow]; rfl
  refine bl_le_of (Nat.lt_of_le_of_ne ?_ (fun q => ?_))
  · refine Nat.le_trans ?_ h
    rw [h5]
    exact Nat.le_mul_of_pos_right _ (Nat.two_pow_pos k)
  · -- an odd number isn't so great a power of two
    obtain ⟨P', rfl⟩ : ∃ P', P = P' + 1 := ⟨P - 1, by omega⟩
    rw [Nat.pow_succ] at q
    omega
/-! roots -/
theorem droot_form {x : Dyadic} (hx : 0 < dnum x) {P : Nat} (hP : 1 ≤ P) : ∃ (r A k : Nat) (e : Int), bl r = P ∧ x = dv (A : Int) (2 * e - k) ∧ r = isq (A / 2 ^ k) ∧
    (∀ up, droot x P up = dv ((r : Int) + (if up = true ∧ ¬ (A % 2 ^ k = 0 ∧ r * r = A / 2 ^ k) then 1 else 0)) e) := by
  have hA : (dnum x).natAbs ≠ 0 := by omega
  obtain ⟨t, ht⟩ : ∃ t, t = dtop x / 2 := ⟨_, rfl⟩
  obtain ⟨sh, hsh⟩ : ∃ sh, sh = dexp x - 2 * (t - P + 1) := ⟨_, rfl⟩
  have hx0 : ¬ x = 0 := fun e => by rw [e] at hx; exact absurd hx (by decide)
  have ht' : t = ((bl (dnum x).natAbs : Int) - 1 + dexp x) / 2 := by rw [ht]; unfold dtop; rw [if_neg hx0]
  have hf := fun up => droot_eq hx hP ht hsh up
  obtain ⟨r1, r2, _⟩ := rbitsN_ok (A := (dnum x).natAbs) (P := P) (ex := dexp x)
  obtain ⟨l1, l2, l3⟩ := root_law hA hP r1 r2 ht' hsh false
  obtain ⟨k, hk⟩ : ∃ k, k = (-sh).toNat := ⟨_, rfl⟩
  obtain ⟨A, hAe⟩ : ∃ A, A = (dnum x).natAbs * 2 ^ sh.toNat := ⟨_, rfl⟩
  have hM : mvN (dnum x).natAbs sh = A / 2 ^ k := by rw [hk, hAe]; rfl
  have hX : mvX (dnum x).natAbs sh ↔ A % 2 ^ k = 0 := by
    unfold mvX
    rw [← hk, hAe]
    by_cases q : k = 0
    · rw [q]; simp [Nat.mod_one]
    · have : sh.toNat = 0 := by omega
      rw [this]; simp
  refine ⟨isq (A / 2 ^ k), A, k, t - P + 1, ?_, ?_, rfl, fun up => ?_⟩
  · have e : ∀ a d : Nat, RF (a : Int) d false = ((a / d : Nat) : Int) := fun a d => by unfold RF; simp
    rw [e, if_neg (fun g => by cases g.1), Int.add_zero, hM] at l3
    rw [← Int.ofNat.inj l3]
    exact bl_cut l2 hP
  · have e1 : dnum x = ((dnum x).natAbs : Int) := by omega
    have e2 : (A : Int) = dnum x * 2 ^ sh.toNat := by rw [hAe, e1]; push_cast; simp
    rw [e2, dv_shift, show 2 * (t - (P : Int) + 1) - (k : Int) + (sh.toNat : Int) = dexp x by omega, dv_of]
  · rw [← hf up, hM]
    congr 2
    by_cases q : up = true ∧ ¬ (A % 2 ^ k = 0 ∧ isq (A / 2 ^ k) * isq (A / 2 ^ k) = A / 2 ^ k)
    · rw [if_pos q, if_pos ⟨q.1, fun g => q.2 ⟨hX.1 g.1, g.2⟩⟩]
    · rw [if_neg q, if_neg (fun g => q ⟨g.1, fun z => g.2 ⟨hX.2 z.1, z.2⟩⟩)]
theorem sq_dv (a : Int) (e : Int) (k : Nat) : dv a e * dv a e = dv (a * a * 2 ^ k) (2 * e - k) := by
  rw [dv_mul, dv_shift]
  congr 1
  omega
theorem droot_sides {x : Dyadic} (hx : 0 < dnum x) {P : Nat} (hP : 1 ≤ P) : dsg (droot x P false * droot x P false - x) ≤ 0 ∧ 0 ≤ dsg (droot x P true * droot x P true - x) ∧
    dsg (droot x P true - droot x P false - dv 1 (dtop (droot x P false) - P + 1)) ≤ 0 ∧ (∀ up, droot x P up ≠ 0 ∧ bl (dnum (droot x P up)).natAbs ≤ P) := by
  obtain ⟨r, A, k, e, h1, h2, h3, h4⟩ := droot_form hx hP
  obtain ⟨s1, s2⟩ := isq_spec (A / 2 ^ k)
  rw [← h3] at s1 s2
  have hA := Nat.div_mul_le_self A (2 ^ k)
  have hA2 : A < (A / 2 ^ k + 1) * 2 ^ k := by
    have := Nat.div_add_mod A (2 ^ k)
    have := Nat.mod_lt A (Nat.two_pow_pos k)
    rw [Nat.add_mul, Nat.one_mul, Nat.mul_comm (A / 2 ^ k)]
    omega
  have h0 : r ≠ 0 := fun q => by rw [q, bl_zero] at h1; omega
  have hb := bl_lt r
  rw [h1] at hb
  have hlo : droot x P false = dv (r : Int) e := by rw [h4, if_neg (fun g => by cases g.1), Int.add_zero]
  have hhi : (droot x P true = dv (r : Int) e ∧ r * r * 2 ^ k = A) ∨ droot x P true = dv ((r : Int) + 1) e := by
    rw [h4]
    by_cases q : A % 2 ^ k = 0 ∧ r * r = A / 2 ^ k
    · rw [if_neg (fun g => g.2 q), Int.add_zero]
      refine .inl ⟨rfl, ?_⟩
      rw [q.2]
      exact Nat.div_mul_cancel (Nat.dvd_of_mod_eq_zero q.1)
    · rw [if_pos ⟨rfl, q⟩]; exact .inr rfl
  have htop : dtop (dv (r : Int) e) - P + 1 = e := by rw [dtop_dv (by omega), Int.natAbs_natCast, h1]; omega
  have c1 : ((r * r * 2 ^ k : Nat) : Int) = (r : Int) * r * 2 ^ k := by push_cast; rfl
  have c2 : (((r + 1) * (r + 1) * 2 ^ k : Nat) : Int) = ((r : Int) + 1) * ((r : Int) + 1) * 2 ^ k := by push_cast; rfl
  refine ⟨?_, ?_, ?_, fun up => ?_⟩
  · rw [hlo, sq_dv _ _ k, h2]
    refine dsg_le ?_
    rw [← c1]
    exact Int.ofNat_le.2 (Nat.le_trans (Nat.mul_le_mul_right _ s1) hA)
  · rcases hhi with ⟨e1, e2⟩ | e1
    · rw [e1, sq_dv _ _ k, h2]
      refine dsg_ge ?_
      rw [← c1]
      exact Int.ofNat_le.2 (Nat.le_of_eq e2.symm)
    · rw [e1, sq_dv _ _ k, h2]
      refine dsg_ge ?_
      rw [← c2]
      exact Int.ofNat_le.2 (Nat.le_of_lt (Nat.lt_of_lt_of_le hA2 (Nat.mul_le_mul_right _ s2)))
  · rw [hlo, htop]
    rcases hhi with ⟨e1, e2⟩ | e1
    · rw [e1, dv_sub]
      refine dsg_le (by omega)
    · rw [e1, dv_sub]
      exact dsg_le (by omega)
  · have n0 : (r : Int) + (if up = true ∧ ¬ (A % 2 ^ k = 0 ∧ r * r = A / 2 ^ k) then 1 else 0) ≠ 0 := by split <;> omega
    have n1 : ((r : Int) + (if up = true ∧ ¬ (A % 2 ^ k = 0 ∧ r * r = A / 2 ^ k) then 1 else 0)).natAbs ≤ 2 ^ P := by
      generalize 2 ^ P = Z at *
      split <;> omega
    rw [h4]
    exact ⟨fun q => n0 (dv_eq_zero.1 q), bl_pow_le hP n0 n1 e⟩
end Go.Ab

/-! contracts of round where nothing is rounded away, Ulp -/
set_option linter.unusedVariables false
set_option linter.unusedSimpArgs false
set_option linter.unusedSectionVars false
namespace Go.Ab
open Go.Proofs

theorem RF_abs (a : Int) {d : Nat} (hd : 0 < d) (up : Bool) : (RF a d up).natAbs ≤ a.natAbs / d + 1 := by
  unfold RF
  have hd' : (0 : Int) < d := by omega
  have h := Int.mul_ediv_add_emod a d
  have h1 := Int.emod_nonneg a (show (d : Int) ≠ 0 by omega)
  have h2 := Int.emod_lt_of_pos a hd'
  have key : -((a.natAbs / d : Nat) : Int) - 1 ≤ a / d ∧ a / d ≤ (a.natAbs / d : Nat) ∧ (a % d ≠ 0 → a / d < (a.natAbs / d : Nat) + 1 ∧ a / d + 1 ≤ (a.natAbs / d : Nat) + 1) := by
    have e := Nat.div_add_mod a.natAbs d
    have e2 := Nat.mod_lt a.natAbs hd
    have e3 : ((d * (a.natAbs / d) : Nat) : Int) = d * ((a.natAbs / d : Nat) : Int) := by push_cast; rfl
    generalize a.natAbs / d = q at *
    generalize a / (d : Int) = z at *
    have l1 : -(q : Int) - 1 ≤ z := by
      refine Int.not_lt.1 (fun g => ?_)
      have := Int.mul_le_mul_of_nonneg_left (show z ≤ -(q : Int) - 2 by omega) (Int.le_of_lt hd')
      rw [Int.mul_sub, Int.mul_neg] at this
      omega
    have l2 : z ≤ q := by
      refine Int.not_lt.1 (fun g => ?_)
      have := Int.mul_le_mul_of_nonneg_left (show (q : Int) + 1 ≤ z by omega) (Int.le_of_lt hd')
      rw [Int.mul_add] at this
      omega
    exact ⟨l1, l2, fun _ => ⟨by omega, by omega⟩⟩
  split
  · omega
  · omega
theorem RF_bits {s : Bool} {m P : Nat} (hP : P < bl m) (up : Bool) : Lt2 (RF (sg s m) (2 ^ (bl m - P)) up).natAbs (P + 1) := by
  unfold Lt2
  refine Nat.lt_of_le_of_lt (RF_abs _ (Nat.two_pow_pos _) up) ?_
  rw [sg_abs]
  have h : m / 2 ^ (bl m - P) < 2 ^ P := Nat.div_lt_of_lt_mul (by rw [← Nat.pow_add, show bl m - P + P = bl m by omega]; exact bl_lt m)
  rw [Nat.pow_succ]
  have := Nat.two_pow_pos P
  omega
section
variable {a b : AV} {x y : Dyadic} {B C : Nat}
theorem unit5 (ha : RD a x B) (hB : B ≤ 20000) (p : Int) : Sat CT false 149 [a, I64 p] (I64 (dtop x - heldP p + 1)) := by
  refine sat_of round_unit.ok (by simp) ?_
  have DD := round_unit.dr
  simp only [drP, drPx, drPt, drR, drS, drT, bodyOf, Tryz.f149, Nat.reduceEqDiff, reduceIte, true_and, and_true] at DD
  have t1 := dtop_r ha hB
  have q1 := held5_sat p
  obtain ⟨_, _, h1, h2⟩ := heldP_v p
  have hb := bl_B ha.db
  have he := ha.db.num.2
  have ht : (dtop x).natAbs ≤ 2 * B + B + 1 := by unfold dtop; split <;> omega
  obtain ⟨n, l, e, rfl, _⟩ := ha
  generalize heldP p = P at *
  have w1 : IntKind.i64.wrap (dtop x - (P : Int)) = dtop x - P := wrap_id (by omega)
  have w2 : IntKind.i64.wrap (dtop x - (P : Int) + 1) = dtop x - P + 1 := wrap_id (by omega)
  simp -implicitDefEqProofs only [go_sem, simprocAttr, -Int.reducePow, Tryz.f149, DD, w1, w2]
  refine callK_q dyad_Top.call (t1) rfl rfl ?_
  simp -implicitDefEqProofs only [go_sem, simprocAttr, -Int.reducePow, DD, w1, w2]
  refine callK_q round_Held.call (q1) rfl rfl ?_
  simp -implicitDefEqProofs only [go_sem, simprocAttr, -Int.reducePow, DD, w1, w2]
theorem grid5 (ha : RD a x B) (hB : B ≤ 20000) (e m : Int) (h : e ≤ dexp x) : Sat CT false 148 [a, I64 e, I64 m] (DI x) := by
  refine sat_of round_grid.ok (by simp) ?_
  have DD := round_grid.dr
  simp only [drP, drPx, drPt, drR, drS, drT, bodyOf, Tryz.f148, Nat.reduceEqDiff, reduceIte, true_and, and_true] at DD
  have n1 := dnorm_r ha hB
  obtain ⟨n, l, e', rfl, _⟩ := ha
  simp -implicitDefEqProofs only [go_sem, simprocAttr, -Int.reducePow, Tryz.f148, DD, h, ge_iff_le]
  refine callK_q dyad_Norm.call (n1) rfl rfl ?_
  simp -implicitDefEqProofs only [go_sem, simprocAttr, -Int.reducePow, DD, h, ge_iff_le]
theorem to5_0 (ha : RD a x B) (hB : B ≤ 20000) (p m : Int) (h0 : x = 0) : Sat CT false 124 [a, I64 p, I64 m] (DA false [] 0) := by
  refine sat_of round_To.ok (by simp) ?_
  have DD := round_To.dr
  simp only [drP, drPx, drPt, drR, drS, drT, bodyOf, Tryz.f124, Nat.reduceEqDiff, reduceIte, true_and, and_true] at DD
  have s1 := dsign_r ha hB
  have c1 := sg_zero h0
  obtain ⟨n, l, e, rfl, _⟩ := ha
  simp -implicitDefEqProofs only [go_sem, simprocAttr, -Int.reducePow, Tryz.f124, DD, c1]
  refine callK_q dyad_Sign.call (s1) rfl rfl ?_
  simp -implicitDefEqProofs only [go_sem, simprocAttr, -Int.reducePow, DD, c1]
  rfl
end
end Go.Ab
