/- Contracts of this seat's functions (of each call: what it answers), walked over the abstract machine, and the laws of numbers that they want. Conditions: those that each theorem states. -/
import Derived.Test.YtcnhnabmkfagbaaGreatDoorRR
import Derived.Test.YtcnhnabmkfagbaaGreatDoorS1
import Derived.Test.YtcnhnabmkfagbaaGreatDoorP9
set_option linter.unusedVariables false
set_option maxRecDepth 20000
set_option linter.unusedSimpArgs false
set_option linter.unusedSectionVars false
namespace Go.Ab
open Go.Proofs

/-! bounds of roots and roundings by the place of the topmost bit -/
theorem droot_db2 {x : Dyadic} {B P : Nat} (h0 : 0 < dnum x) (h : DB x B) (hP1 : 1 ≤ P) (up : Bool) : DB (droot x P up) (B / 2 + P + 3) := by
  have x0 : x ≠ 0 := fun e => by rw [e] at h0; exact absurd h0 (by decide)
  obtain ⟨_, _, f3, _⟩ := droot_to h0 hP1 up rfl rfl
  obtain ⟨_, hn2, _⟩ := rbitsN_ok (A := (dnum x).natAbs) (P := P) (ex := dexp x)
  obtain ⟨t1, t2⟩ := h.top x0
  have hb : bl (rsticky ((dnum x).natAbs * 2 ^ rbitsN (dnum x).natAbs P (dexp x))) = (bl (dnum x).natAbs + rbitsN (dnum x).natAbs P (dexp x) + 1) / 2 + 1 := by
    rw [bl_rsticky (Nat.mul_ne_zero (by omega) (Nat.ne_of_gt (Nat.two_pow_pos _))), bl_up (by omega)]
  have hr := RF_bits (s := false) f3 up
  unfold droot
  rw [if_neg (Int.not_le.2 h0)]
  simp only
  generalize rbitsN (dnum x).natAbs P (dexp x) = n at *
  generalize rsticky ((dnum x).natAbs * 2 ^ n) = m at *
  refine DB.rng (L := P + 1) hr ?_ ?_
  · omega
  · omega
/-- rounded upwards to so many bits -/
def upr (x : Dyadic) (P : Nat) : Dyadic := if x = 0 then 0 else gfl x (dtop x - P + 1) true
/-- a radius as it counts -/
def rp (r : Dyadic) : Dyadic := if (dnum r).sign < 0 then 0 else r
theorem rp_db {r : Dyadic} {B : Nat} (h : DB r B) : DB (rp r) B := by
  unfold rp
  split
  · exact DB.zero _
  · exact h
/-- the greater one, the lesser one -/
def dmx (x y : Dyadic) : Dyadic := if 0 ≤ (dnum (x - y)).sign then x else y
theorem dsub_0 (x : Dyadic) : x - 0 = x := by grind
theorem rp_dmx (x : Dyadic) : dmx x 0 = rp x := by
  unfold dmx rp
  rw [dsub_0]
  by_cases h : (dnum x).sign < 0
  · rw [if_pos h, if_neg (by omega)]
  · rw [if_neg h, if_pos (by omega)]
end Go.Ab

set_option linter.unusedVariables false
set_option maxRecDepth 20000
set_option linter.unusedSimpArgs false
set_option linter.unusedSectionVars false
namespace Go.Ab
open Go.Proofs
open Cx (zero one)
attribute [-go_sem] appF newsF
variable {a b : AV} {x y r s : Dyadic} {z w c d : Cx} {B C B' C' n m : Nat}
/-! rounding upwards, the greater one, discs: of the code -/
theorem dmax_r (ha : RD a x B) (hb : RD b y C) (hB : B ≤ 19000) (hC : C ≤ 19000) : Sat CT false 43 [a, b] (DI (dmx x y)) := by
  refine sat_of dyad_Max.ok (by simp) ?_
  have DD := dyad_Max.dr
  simp only [drP, drPx, drPt, drR, drS, drT, bodyOf, Tryz.f43, Nat.reduceEqDiff, reduceIte, true_and, and_true] at DD
  have k1 := dcmp_r ha hb hB hC
  have o1 := dof_r ha (by omega)
  have o2 := dof_r hb (by omega)
  obtain ⟨n, l, e, rfl, _⟩ := ha
  obtain ⟨n', l', e', rfl, _⟩ := hb
  by_cases h : 0 ≤ (dnum (x - y)).sign
  · rw [show dmx x y = x from if_pos h]
    simp -implicitDefEqProofs only [go_sem, simprocAttr, -Int.reducePow, Tryz.f43, DD, h, ge_iff_le, List.take_succ_cons, List.drop_succ_cons]
    refine callK_q dyad_Cmp.call (k1) rfl rfl ?_
    simp -implicitDefEqProofs only [go_sem, simprocAttr, -Int.reducePow, DD, h, ge_iff_le, List.take_succ_cons, List.drop_succ_cons]
    refine callK_q dyad_of.call (o1) rfl rfl ?_
    simp -implicitDefEqProofs only [go_sem, simprocAttr, -Int.reducePow, DD, h, ge_iff_le, List.take_succ_cons, List.drop_succ_cons]
  · rw [show dmx x y = y from if_neg h]
    simp -implicitDefEqProofs only [go_sem, simprocAttr, -Int.reducePow, Tryz.f43, DD, h, ge_iff_le, List.take_succ_cons, List.drop_succ_cons]
    refine callK_q dyad_Cmp.call (k1) rfl rfl ?_
    simp -implicitDefEqProofs only [go_sem, simprocAttr, -Int.reducePow, DD, h, ge_iff_le, List.take_succ_cons, List.drop_succ_cons]
    refine callK_q dyad_of.call (o2) rfl rfl ?_
    simp -implicitDefEqProofs only [go_sem, simprocAttr, -Int.reducePow, DD, h, ge_iff_le, List.take_succ_cons, List.drop_succ_cons]
/-- a disc as it must be; one that comes in -/
def TI (c : Cx) (r : Dyadic) : AV := .agg [Bo (decide (dnum c.re < 0)), U32 (lim (dnum c.re).natAbs), I64 (dexp c.re), Bo (decide (dnum c.im < 0)), U32 (lim (dnum c.im).natAbs), I64 (dexp c.im), Bo (decide (dnum r < 0)), U32 (lim (dnum r).natAbs), I64 (dexp r)]
def RT (a : AV) (c : Cx) (r : Dyadic) (B B' : Nat) : Prop := ∃ n l e m k f o p q, a = .agg [Bo n, U32 l, I64 e, Bo m, U32 k, I64 f, Bo o, U32 p, I64 q] ∧ RD (DA n l e) c.re B ∧ RD (DA m k f) c.im B ∧ RD (DA o p q) r B'
theorem RT.ex (h : RT a c r B B') : ∃ n l e m k f o p q, a = .agg [Bo n, U32 l, I64 e, Bo m, U32 k, I64 f, Bo o, U32 p, I64 q] ∧ RC (.agg [Bo n, U32 l, I64 e, Bo m, U32 k, I64 f]) c B ∧ RD (DA o p q) r B' := by
  obtain ⟨n, l, e, m, k, f, o, p, q, h0, h1, h2, h3⟩ := h
  exact ⟨n, l, e, m, k, f, o, p, q, h0, ⟨n, l, e, m, k, f, rfl, h1, h2⟩, h3⟩
theorem RT_T (hc : CB c B) (hr : DB r B') : RT (TI c r) c r B B' := ⟨_, _, _, _, _, _, _, _, _, rfl, RD_D hc.1, RD_D hc.2, RD_D hr⟩
theorem RT.cb (h : RT a c r B B') : CB c B := by obtain ⟨_, _, _, _, _, _, _, _, _, _, h, _⟩ := h.ex; exact h.cb
theorem RT.db (h : RT a c r B B') : DB r B' := by obtain ⟨_, _, _, _, _, _, _, _, _, _, _, h⟩ := h.ex; exact h.db
theorem RT.mono (h : RT a c r B B') (hC : B ≤ C) (hC' : B' ≤ C') : RT a c r C C' := by
  obtain ⟨n, l, e, m, k, f, o, p, q, h0, h1, h2, h3⟩ := h
  exact ⟨n, l, e, m, k, f, o, p, q, h0, h1.mono hC, h2.mono hC, h3.mono hC'⟩
theorem rp0 : rp 0 = 0 := by unfold rp; split <;> rfl
/-- who has whom -/
def hasP (c : Cx) (r : Dyadic) (w : Cx) : Prop := (dnum (nrm (w - c) - r * r)).sign ≤ 0
def inP (c : Cx) (r : Dyadic) (d : Cx) (s : Dyadic) : Prop := 0 ≤ (dnum (s - r)).sign ∧ (dnum (nrm (c - d) - (s - r) * (s - r))).sign ≤ 0
def apP (c : Cx) (r : Dyadic) (d : Cx) (s : Dyadic) : Prop := 0 < (dnum (nrm (c - d) - (r + s) * (r + s))).sign
instance (c : Cx) (r : Dyadic) (w : Cx) : Decidable (hasP c r w) := by unfold hasP; exact inferInstance
instance (c : Cx) (r : Dyadic) (d : Cx) (s : Dyadic) : Decidable (inP c r d s) := by unfold inP; exact inferInstance
instance (c : Cx) (r : Dyadic) (d : Cx) (s : Dyadic) : Decidable (apP c r d s) := by unfold apP; exact inferInstance
end Go.Ab

set_option linter.unusedVariables false
set_option maxRecDepth 20000
set_option linter.unusedSimpArgs false
set_option linter.unusedSectionVars false
namespace Go.Ab
open Go.Proofs
open Cx (zero one)
attribute [-go_sem] appF newsF
variable {a b : AV} {x y r s : Dyadic} {z w c d : Cx} {B C B' C' n m : Nat}
/-! more of discs: of the code -/
/-- what a disc of products is as wide as, before it is rounded -/
def mra (c : Cx) (r : Dyadic) (d : Cx) (s : Dyadic) (P : Nat) : Dyadic := far c P true * s + far d P true * r + r * s
def mrad (c : Cx) (r : Dyadic) (d : Cx) (s : Dyadic) (P : Nat) : Dyadic := upr (mra c r d s P) P
theorem far_db2 (h : CB z B) {P : Nat} (hP1 : 1 ≤ P) (up : Bool) : DB (far z P up) (B + P + 3) := by
  unfold far
  have hn := nrm_db h
  by_cases q : dnum (nrm z) ≤ 0
  · rw [droot_0 q]; exact DB.zero _
  · exact (droot_db2 (Int.not_le.1 q) hn hP1 up).mono (by omega)
def RS (a : AV) (x y : Dyadic) (B : Nat) : Prop := ∃ n l e m k f, a = .agg [Bo n, U32 l, I64 e, Bo m, U32 k, I64 f] ∧ RD (DA n l e) x B ∧ RD (DA m k f) y B
theorem RS.db {a : AV} (h : RS a x y B) : DB x B ∧ DB y B := by obtain ⟨_, _, _, _, _, _, _, h1, h2⟩ := h; exact ⟨h1.db, h2.db⟩
end Go.Ab

set_option linter.unusedVariables false
set_option maxRecDepth 20000
set_option linter.unusedSimpArgs false
set_option linter.unusedSectionVars false
namespace Go.Ab
open Go.Proofs
open Cx (zero one)
attribute [-go_sem] appF newsF
variable {a b : AV} {x y r s : Dyadic} {z w c d : Cx} {B C B' C' n m : Nat}
/-! discs: of the document -/
end Go.Ab

set_option linter.unusedVariables false
set_option maxRecDepth 20000
set_option linter.unusedSimpArgs false
set_option linter.unusedSectionVars false
namespace Go.Ab
open Go.Proofs
open Cx (zero one)
attribute [-go_sem] appF newsF
variable {a b : AV} {x y r s : Dyadic} {z w c d : Cx} {B C B' C' n m : Nat}
/-! small whole discs, what is known of them, what comes in -/
def zI (a b : Int) : Cx := ⟨dv a 0, dv b 0⟩
theorem zI_sub (a b c d : Int) : zI a b - zI c d = zI (a - c) (b - d) := Cx.ext' (dv_sub a c 0) (dv_sub b d 0)
theorem zI_add (a b c d : Int) : zI a b + zI c d = zI (a + c) (b + d) := Cx.ext' (dv_add a c 0) (dv_add b d 0)
theorem dvm0 (a b : Int) : dv a 0 * dv b 0 = dv (a * b) 0 := by rw [dv_mul, Int.add_zero]
theorem zI_mul (a b c d : Int) : zI a b * zI c d = zI (a * c - b * d) (a * d + b * c) := Cx.ext' (by show dv a 0 * dv c 0 - dv b 0 * dv d 0 = _; rw [dvm0, dvm0, dv_sub]; rfl) (by show dv a 0 * dv d 0 + dv b 0 * dv c 0 = _; rw [dvm0, dvm0, dv_add]; rfl)
theorem nrm_zI (a b : Int) : nrm (zI a b) = dv (a * a + b * b) 0 := by show dv a 0 * dv a 0 + dv b 0 * dv b 0 = _; rw [dvm0, dvm0, dv_add]
theorem rp_I (r : Int) (h : 0 ≤ r) : rp (dv r 0) = dv r 0 := by
  unfold rp
  have := Int.sign_nonneg_iff (x := r)
  rw [if_neg (by rw [dnum_sign]; omega)]
theorem sgn_gt0 {z : Int} : 0 < z.sign ↔ 0 < z := Int.sign_pos_iff
theorem dI_db {v : Int} (h : v.natAbs < 2 ^ 64) : DB (dv v 0) 64 := DB.raw (L := 64) (E := 0) h (by decide) (by decide)
theorem zI_db {a b : Int} (h : a.natAbs < 2 ^ 64) (g : b.natAbs < 2 ^ 64) : CB (zI a b) 64 := ⟨dI_db h, dI_db g⟩
theorem tI_rt {a b r : Int} (h : a.natAbs < 2 ^ 64) (g : b.natAbs < 2 ^ 64) (i : r.natAbs < 2 ^ 64) : RT (TI (zI a b) (dv r 0)) (zI a b) (dv r 0) 64 64 := RT_T (zI_db h g) (dI_db i)
abbrev few1 (l : List Nat) (e : Int) : Prop := l.length ≤ 10 ∧ -1000 ≤ e ∧ e ≤ 1000
abbrev fewR (r : Raw) : Prop := few1 r.l r.e ∧ few1 r.k r.f
/-- a disc that came in -/
structure RawT where
  c : Raw
  o : Bool
  p : List Nat
  q : Int
def RawT.cells (t : RawT) : List AV := [Bo t.c.n, U32 t.c.l, I64 t.c.e, Bo t.c.m, U32 t.c.k, I64 t.c.f, Bo t.o, U32 t.p, I64 t.q]
def RawT.ok (t : RawT) : Prop := t.c.ok ∧ Lm t.p
def RawT.rd (t : RawT) : Dyadic := dv (iv t.o t.p) t.q
abbrev RawT.few (t : RawT) : Prop := fewR t.c ∧ few1 t.p t.q
theorem rd10 {n : Bool} {l : List Nat} {e : Int} (hl : Lm l) (h : few1 l e) : RD (DA n l e) (dv (iv n l) e) 1320 := by
  obtain ⟨h1, h2, h3⟩ := h
  have hv : Lt2 (nv l) 320 := nv_Lt2 hl h1
  have ha : (iv n l).natAbs = nv l := abs_iv n l
  exact ⟨n, l, e, rfl, hl, rfl, hv.mono (by decide), by omega, by omega, DB.rawL (L := 320) (E := 1000) (by rw [ha]; exact hv) (by omega) (by decide)⟩
theorem RawT.rt {t : RawT} (h : t.ok) (hs : t.few) : RT (.agg t.cells) t.c.z t.rd 1320 1320 := ⟨_, _, _, _, _, _, _, _, _, rfl, rd10 h.1.1 hs.1.1, rd10 h.1.2.1 hs.1.2, rd10 h.2 hs.2⟩
end Go.Ab
