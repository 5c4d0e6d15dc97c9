/- Contracts of this seat's functions (of each call: what it answers), walked over the abstract machine, and the laws of numbers that they want. Conditions: those that each theorem states. -/
import Derived.Test.YtikhbokeaikcpaaDoorDS
import Derived.Test.YtikhbokeaikcpaaDoorP7
import Derived.Test.YtikhbokeaikcpaaDoorW6
/-! contracts of layers 4 to 6: the topmost bit, roundings, quotients, roots -/
set_option linter.unusedVariables false
set_option maxRecDepth 20000
set_option linter.unusedSimpArgs false
set_option linter.unusedSectionVars false
namespace Go.Ab
open Go.Proofs

theorem Lt2.mono {x a b : Nat} (h : Lt2 x a) (hab : a ≤ b) : Lt2 x b := Nat.lt_of_lt_of_le h (Nat.pow_le_pow_right (by decide) hab)
theorem Lt2.succ {x y a : Nat} (h : x ≤ y + 1) (g : Lt2 y a) : Lt2 x (a + 1) := by
  unfold Lt2 at *
  rw [Nat.pow_succ]
  have := Nat.two_pow_pos a
  omega
theorem Lt2.bl {x a : Nat} (h : Lt2 x a) : bl x ≤ a := bl_le_of h
/-- a call whose arguments are calm -/
theorem callK_q {C : Ctx} {d : Bool} {H H' : Heap} {K : AV → Heap → Prop} {f : FuncId} {args args' : List AV} {r : AV} (hc : callable C.P f = true) (h : Sat C false f args' r) (hH : fzH d false H args = H') (ha : args.map (snap H') = args') (hK : K r H')
    (ho : ∀ a ∈ args, ownOK H' false a := by simp [ownOK, own1, hd, fzH, fzArgs, fzCells, fz, IA, WI, DI, DA, CI, U32]) (hi : ∀ a ∈ args', IsD a := by simp [U32, isD_u32, isD_v, isD_nil, isD_agg, IA, WI, DI, DA, CI]) : callK C d f args H K :=
  callK_of false hc h hH ha ho hi hK
attribute [go_sem] x_app x_ga0 x_gas x_gan Int.cast_ofNat_Int eq_self Int.zero_lt_one Bool.not_false Bool.not_true beq_self_eq_true WI IA DI DA CI
/-- as many bits as the root wants -/
def rbitsN (A P : Nat) (ex : Int) : Nat := if (ex - (2 * P + 6 - bl A : Nat)) % 2 = 0 then 2 * P + 6 - bl A else 2 * P + 6 - bl A + 1
/-- the document's root -/
def droot (x : Dyadic) (P : Nat) (up : Bool) : Dyadic :=
  if dnum x ≤ 0 then 0 else
  let A := (dnum x).natAbs
  let n := rbitsN A P (dexp x)
  let m := rsticky (A * 2 ^ n)
  dv (RF m (2 ^ (bl m - P)) up) ((dexp x - n) / 2 - 1 + (bl m - P : Nat))
section
variable {a b : AV} {x y : Dyadic} {B C : Nat}
/-- what an own number of the code's is worth, rounded upwards where that is asked -/
theorem raw_W (q e : Int) (hq : Lt2 q.natAbs 100000) (hl : Lz q < 1099511000) (he : e.natAbs ≤ 1000000000) : Sat CT false 72 [WI q, I64 e] (DI (dv q e)) := by
  have := raw_sat (decide (q < 0)) (lim q.natAbs) e (Lm_lim _) hl (by rw [nv_lim]; exact hq) he
  rw [iv_W] at this
  exact this
end
end Go.Ab

set_option linter.unusedVariables false
set_option maxRecDepth 20000
set_option linter.unusedSimpArgs false
set_option linter.unusedSectionVars false
namespace Go.Ab
open Go.Proofs

section
variable {a b : AV} {x y : Dyadic} {B C : Nat}
end
end Go.Ab

set_option linter.unusedVariables false
set_option maxRecDepth 20000
set_option linter.unusedSimpArgs false
set_option linter.unusedSectionVars false
namespace Go.Ab
open Go.Proofs
/-! numbers' parts; bounds by the place of the topmost bit -/
theorem dnum_split {m : Int} (h : m ≠ 0) (e : Int) : ∃ (o : Int) (z : Nat), m = o * 2 ^ z ∧ dnum (dv m e) = o ∧ dexp (dv m e) = e + z := by
  obtain ⟨o, z, h1, h2⟩ := odd_part h
  refine ⟨o, z, h1, ?_, ?_⟩
  · rw [h1, dv_shift, dnum_odd h2]
  · rw [h1, dv_shift, dexp_odd h2]
theorem dnum_sign (m e : Int) : (dnum (dv m e)).sign = m.sign := by
  by_cases h : m = 0
  · rw [h]; rfl
  · obtain ⟨o, z, h1, h2, _⟩ := dnum_split h e
    rw [h2, h1, Int.sign_mul, show ((2 : Int) ^ z).sign = 1 from Int.sign_eq_one_of_pos (Int.pow_pos (by decide)), Int.mul_one]
theorem dnum_lt {m e : Int} : dnum (dv m e) < 0 ↔ m < 0 := by rw [← Int.sign_eq_neg_one_iff_neg, dnum_sign, Int.sign_eq_neg_one_iff_neg]
theorem bl_dnum {m e : Int} (h : m ≠ 0) : (bl (dnum (dv m e)).natAbs : Int) + dexp (dv m e) = bl m.natAbs + e ∧ e ≤ dexp (dv m e) := by
  obtain ⟨o, z, h1, h2, h3⟩ := dnum_split h e
  have ho : o.natAbs ≠ 0 := fun q => h (by rw [h1, Int.natAbs_eq_zero.1 q, Int.zero_mul])
  have : m.natAbs = o.natAbs * 2 ^ z := by rw [h1, Int.natAbs_mul, Int.natAbs_pow]; rfl
  rw [h2, h3, this, bl_up ho]
  omega
theorem DB.top {x : Dyadic} {B : Nat} (h : DB x B) (h0 : x ≠ 0) : -(B : Int) < (bl (dnum x).natAbs : Int) + dexp x ∧ (bl (dnum x).natAbs : Int) + dexp x ≤ B := by
  obtain ⟨z, rfl, hz⟩ := h
  have hz0 : z ≠ 0 := fun e => h0 (dv_eq_zero.2 e)
  obtain ⟨e1, _⟩ := bl_dnum hz0 (e := -(B : Int))
  have hb : bl z.natAbs ≤ 2 * B := bl_le_of hz
  have hp : 1 ≤ bl z.natAbs := bl_pos (by omega)
  rw [e1]
  omega
end Go.Ab

set_option linter.unusedVariables false
set_option maxRecDepth 20000
set_option linter.unusedSimpArgs false
set_option linter.unusedSectionVars false
namespace Go.Ab
open Go.Proofs

section
variable {a b : AV} {x y : Dyadic} {B C : Nat}
end
end Go.Ab

set_option linter.unusedVariables false
set_option maxRecDepth 20000
set_option linter.unusedSimpArgs false
set_option linter.unusedSectionVars false
namespace Go.Ab
open Go.Proofs

theorem DB.W {x : Dyadic} {B : Nat} (h : DB x B) : RI (WI (dnum x)) (dnum x) B := RI_W h.lim
section
variable {a b : AV} {x y : Dyadic} {B C : Nat}

end
end Go.Ab

set_option linter.unusedVariables false
set_option maxRecDepth 20000
set_option linter.unusedSimpArgs false
set_option linter.unusedSectionVars false
namespace Go.Ab
open Go.Proofs
end Go.Ab

set_option linter.unusedVariables false
set_option linter.unusedSimpArgs false
set_option linter.unusedSectionVars false
namespace Go.Ab
open Go.Proofs
section
variable {a b : AV} {x y : Dyadic} {B C : Nat}
end
end Go.Ab

set_option linter.unusedVariables false
set_option linter.unusedSimpArgs false
set_option linter.unusedSectionVars false
namespace Go.Ab
open Go.Proofs

section
variable {a b : AV} {x y : Dyadic} {B C : Nat}
end
end Go.Ab

set_option linter.unusedVariables false
set_option linter.unusedSimpArgs false
set_option linter.unusedSectionVars false
namespace Go.Ab
open Go.Proofs

/-- what few lets in -/
def Few (x : Dyadic) (L E : Nat) : Prop := bl (dnum x).natAbs ≤ L ∧ (dexp x).natAbs ≤ E + L
theorem Few.of {m e : Int} {L E : Nat} (hm : bl m.natAbs ≤ L) (he : e.natAbs ≤ E) : Few (dv m e) L E := by
  by_cases h : m = 0
  · rw [h]; exact ⟨by show bl (0 : Int).natAbs ≤ L; rw [show (0 : Int).natAbs = 0 from rfl, bl_zero]; omega, by show (0 : Int).natAbs ≤ _; simp⟩
  · obtain ⟨h1, h2⟩ := bl_dnum (e := e) h
    exact ⟨by omega, by omega⟩
section
variable {a b : AV} {x y : Dyadic} {B C : Nat}
theorem dcmp_r (ha : RD a x B) (hb : RD b y C) (hB : B ≤ 19000) (hC : C ≤ 19000) : Sat CT false 75 [a, b] (I64 (dnum (x - y)).sign) := by
  refine sat_of dyad_Cmp.ok (by simp) ?_
  have DD := dyad_Cmp.dr
  simp only [drP, drPx, drPt, drR, drS, drT, bodyOf, Tryd.f75, Nat.reduceEqDiff, reduceIte, true_and, and_true] at DD
  have q1 := dsub_r ha hb (Nat.le_trans hB (by decide)) (Nat.le_trans hC (by decide))
  have q2 := dsign_r (RD_D ((ha.db.mono (Nat.le_max_left B C)).sub (hb.db.mono (Nat.le_max_right B C)))) (by omega)
  obtain ⟨n, l, e, rfl, _⟩ := ha
  obtain ⟨n', l', e', rfl, _⟩ := hb
  simp -implicitDefEqProofs only [go_sem, simprocAttr, -Int.reducePow, Tryd.f75, DD]
  refine callK_q dyad_Sub.call (q1) rfl rfl ?_
  simp -implicitDefEqProofs only [go_sem, simprocAttr, -Int.reducePow, DD]
  refine callK_q dyad_Sign.call (q2) rfl rfl ?_
  simp -implicitDefEqProofs only [go_sem, simprocAttr, -Int.reducePow, DD]
theorem sign_sub (x y : Dyadic) : decide ((dnum (x - y)).sign = 0) = decide (x = y) := by
  congr 1
  refine propext ⟨fun h => ?_, fun h => ?_⟩
  · have := dnum_zero.1 (Int.sign_eq_zero_iff_zero.1 h)
    grind
  · rw [h, show y - y = 0 by grind]; rfl
theorem dsame_r (ha : RD a x B) (hb : RD b y C) (hB : B ≤ 19000) (hC : C ≤ 19000) : Sat CT false 46 [a, b] (Bo (decide (x = y))) := by
  refine sat_of dyad_Same.ok (by simp) ?_
  have DD := dyad_Same.dr
  simp only [drP, drPx, drPt, drR, drS, drT, bodyOf, Tryd.f46, Nat.reduceEqDiff, reduceIte, true_and, and_true] at DD
  have q1 := dcmp_r ha hb hB hC
  obtain ⟨n, l, e, rfl, _⟩ := ha
  obtain ⟨n', l', e', rfl, _⟩ := hb
  rw [← sign_sub]
  simp -implicitDefEqProofs only [go_sem, simprocAttr, -Int.reducePow, Tryd.f46, DD]
  refine callK_q dyad_Cmp.call (q1) rfl rfl ?_
  simp -implicitDefEqProofs only [go_sem, simprocAttr, -Int.reducePow, DD]
end
end Go.Ab

set_option linter.unusedVariables false
set_option linter.unusedSimpArgs false
set_option linter.unusedSectionVars false
namespace Go.Ab
open Go.Proofs

theorem dv_atk (x : Dyadic) (k : Int) : dv (dnum x) (dexp x + k) = x * dv 1 k := by
  have := dv_mul (dnum x) 1 (dexp x) k
  rw [Int.mul_one, dv_of] at this
  exact this.symm
theorem rscale4_k {B : Nat} {x : Dyadic} (h : DB x B) (k : Int) (hk : k.natAbs ≤ 20000) (hB : B ≤ 20000) : Sat CT false 36 [DI x, I64 k] (DI (x * dv 1 k)) := by
  refine sat_of annulusref4_Scale.ok (by simp) ?_
  have DD := annulusref4_Scale.dr
  simp only [drP, drPx, drPt, drR, drS, drT, bodyOf, Tryd.f36, Nat.reduceEqDiff, reduceIte, true_and, and_true] at DD
  have q := rsign4_r (RD_D h) hB
  have c1 : max (-20000) (min k 20000) = k := by omega
  have c2 : min k 20000 = k := by omega
  have c3 : max (-20000) k = k := by omega
  have b1 := h.num
  have w : IntKind.i64.wrap (dexp x + k) = dexp x + k := wrap_id (by omega)
  by_cases hx : x = 0
  · have s1 := sg_zero hx
    rw [hx, show (0 : Dyadic) * dv 1 k = 0 by grind, ← hx]
    simp -implicitDefEqProofs only [go_sem, simprocAttr, -Int.reducePow, Tryd.f36, DD, s1, c1, c2, c3, w]
    refine callK_q annulusref4_Sign.call (q) rfl rfl ?_
    simp -implicitDefEqProofs only [go_sem, simprocAttr, -Int.reducePow, DD, s1, c1, c2, c3, w]
  · have s1 := sg_ne hx
    have e1 : dnum (x * dv 1 k) = dnum x ∧ dexp (x * dv 1 k) = dexp x + k := by
      rw [← dv_atk]
      exact ⟨dnum_odd (dnum_odd_of hx) _, dexp_odd (dnum_odd_of hx) _⟩
    simp -implicitDefEqProofs only [go_sem, simprocAttr, -Int.reducePow, Tryd.f36, DD, s1, c1, c2, c3, w, e1.1, e1.2]
    refine callK_q annulusref4_Sign.call (q) rfl rfl ?_
    simp -implicitDefEqProofs only [go_sem, simprocAttr, -Int.reducePow, DD, s1, c1, c2, c3, w, e1.1, e1.2]
end Go.Ab

/-! plain laws of quotients and roots: how they lie beside what is divided -/
set_option linter.unusedVariables false
set_option linter.unusedSimpArgs false
set_option linter.unusedSectionVars false
namespace Go.Ab
open Go.Proofs

theorem dv_sub (m n e : Int) : dv m e - dv n e = dv (m - n) e := by
  rw [show dv m e - dv n e = dv m e + (-dv n e) by grind, dv_neg, dv_add]; rfl
/-! roots -/
end Go.Ab

/-! contracts of round where nothing is rounded away, Ulp -/
set_option linter.unusedVariables false
set_option linter.unusedSimpArgs false
set_option linter.unusedSectionVars false
namespace Go.Ab
open Go.Proofs

section
variable {a b : AV} {x y : Dyadic} {B C : Nat}
end
end Go.Ab
