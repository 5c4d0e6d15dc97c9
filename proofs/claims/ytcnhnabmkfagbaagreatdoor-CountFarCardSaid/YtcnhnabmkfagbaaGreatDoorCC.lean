/- Contracts of this seat's functions (of each call: what it answers), walked over the abstract machine, and the laws of numbers that they want. Conditions: those that each theorem states. -/
import Derived.Test.YtcnhnabmkfagbaaGreatDoorE2
import Derived.Test.YtcnhnabmkfagbaaGreatDoorFH
import Derived.Test.YtcnhnabmkfagbaaGreatDoorC1
import Derived.Test.YtcnhnabmkfagbaaGreatDoorMM
import Derived.Test.YtcnhnabmkfagbaaGreatDoorD16
import Derived.Test.YtcnhnabmkfagbaaGreatDoorD17
import Derived.Test.YtcnhnabmkfagbaaGreatDoorE7
import Derived.Test.YtcnhnabmkfagbaaGreatDoorM7
import Derived.Test.YtcnhnabmkfagbaaGreatDoorM5
import Derived.Test.YtcnhnabmkfagbaaGreatDoorE6
set_option linter.unusedVariables false
set_option maxRecDepth 20000
set_option linter.unusedSimpArgs false
set_option linter.unusedSectionVars false
namespace Go.Ab
open Go.Proofs
open Cx (zero one)
attribute [-go_sem] appF newsF
variable {a b : AV} {z w c : Cx} {B C n m : Nat} {cs ds : List AV} {f g : Po} {r x : Dyadic}
/-! what is asked of the unit circle -/
theorem x_hget' {H H0 : Heap} {x d : AObj} (h : H.length = H0.length) : (H ++ [x]).getD H0.length d = x := by rw [← h]; exact x_hget
theorem pshift_h (h : RP cs n f B) (hz : RC a z C) (hB : B + n * C + 2 * n * n + n * (C + 2) + C ≤ 19990) (hcs : ∀ c ∈ cs, IsD c) (hn : n ≤ 100000) : HSat CT 41 [.sl n cs, a] [] (fun r H => ASl 6 r H (pcl (dg n f) (shf n f z)) (dg n f)) := by
  refine hsat_of poly_Shift.ok poly_Shift.call (by simp) ?_
  have DD := poly_Shift.dr
  simp only [drP, drPx, drPt, drR, drS, drT, bodyOf, Tryz.f41, Nat.reduceEqDiff, reduceIte, true_and, and_true] at DD
  have hs := dg_sp h.sp
  have hle := dg_le n f
  have hself := dg_self h.sp
  have hpb := h.pb
  have hzb := hz.cb
  have q0 := ptrim_s h (by omega)
  have hshf : shf n f z = shf (dg n f) f z := ev_uniq (Sp.shf n f z) ((Sp.shf (dg n f) f z).mono hle) (fun w => by
    rw [ev_shf, ev_le (Sp.shf (dg n f) f z) hle, ev_shf, ev_le hs hle])
  rw [hshf]
  generalize dg n f = d at *
  have hwb := hpb.wb (C := C) hs
  have m1 := Nat.mul_le_mul_right C hle
  have m2 := Nat.mul_le_mul (Nat.mul_le_mul_left 2 hle) hle
  have m3 := Nat.mul_le_mul_right (C + 2) hle
  have hI : ∀ i, i ≤ d → PB (pqI d f z i) (B + d * C + 2 * d * d) := fun i hi => ((hwb.pqI hzb i).pb).mono (Nat.add_le_add_left (Nat.mul_le_mul_left (2 * d) hi) _)
  have hO : PB (shf d f z) (B + d * C + 2 * d * d) := hwb.shf d hzb
  have qe : ∀ i, i < d → Sat CT false 72 [PA (d - i) (pqI d f z i), a] (.tup [PA (d - (i + 1)) (pqI d f z (i + 1)), CI (shf d f z i)]) := fun i hi => by
    obtain ⟨t1, t2⟩ := pqI_top z hs hself i (by omega)
    have m4 := Nat.mul_le_mul_right (C + 2) (show d - i ≤ n by omega)
    have q := ppart_s (RP_P (hI i (by omega)) t1 (by omega)) hz (by omega) (by omega)
    obtain ⟨t3, t4⟩ := pqI_top z hs hself (i + 1) hi
    rw [← pqIS, ← shf_at d f z i hi, dg_ind (t3.mono (by omega)) t3, t4] at q
    exact q
  have qt := ptrim_h (RP_P hO (Sp.shf d f z) (by omega)) (by omega)
  rw [dg_shf hs hself] at qt
  have hz0 := hz
  obtain ⟨s, l, e, t, k, g, rfl, _⟩ := hz
  simp -implicitDefEqProofs only [go_sem, simprocAttr, -Int.reducePow, Tryz.f41, DD, x_app, x_ga0, x_gas, x_gan, Int.cast_ofNat_Int, eq_self, Int.zero_lt_one, Bool.not_false, Bool.not_true, beq_self_eq_true]
  refine callK_pl poly_Trim.call (q0) (pl1 (pld_sl hcs)) ?_
  simp -implicitDefEqProofs only [go_sem, simprocAttr, -Int.reducePow, DD, x_app, x_ga0, x_gas, x_gan, Int.cast_ofNat_Int, eq_self, Int.zero_lt_one, Bool.not_false, Bool.not_true, beq_self_eq_true]
  refine loop_of aW0_mono (fun q σ => ∃ sl H i, σ = ⟨sl, H⟩ ∧ q = d - i ∧ i ≤ d ∧ look sl 3 = .ptr 0 0 ∧ look sl 6 = PA (d - i) (pqI d f z i) ∧ 0 < H.length ∧ H.getD 0 ⟨[], false, false⟩ = ⟨[Bo s, U32 l, I64 e, Bo t, U32 k, I64 g], true, true⟩ ∧ ASl 6 (look sl 5) H (pcl i (shf d f z)) i ∧ ∀ x, look sl 5 ≠ .own 6 0 0 x) ?_ (n := d)
    ⟨_, _, 0, rfl, rfl, Nat.zero_le _, by simp [x_look], by simp only [x_look, reduceIte, Nat.reduceEqDiff, pqI0]; rfl, by simp, rfl, by simp [x_look, pcl0, ASl.nil], fun x e => by simp [x_look] at e⟩
  rintro q _ ⟨sl, H, i, rfl, rfl, hi, k3, k6, hH, hg0, hA, hne⟩
  have hP : PA (d - i) (pqI d f z i) = .sl (d - i) (pcl (d - i) (pqI d f z i)) := rfl
  by_cases hid : i = d
  · subst hid
    have c1 : ((i - i : Nat) : Int) = 0 := by omega
    simp -implicitDefEqProofs only [go_sem, simprocAttr, -Int.reducePow, DD, x_app, x_ga0, x_gas, x_gan, Int.cast_ofNat_Int, eq_self, Int.zero_lt_one, Bool.not_false, Bool.not_true, beq_self_eq_true, k3, k6, hP, c1, Int.lt_irrefl]
    refine callK_fr qt (isD_pcl _ _) (.cons (.row hA.rsl (snap0_pcl _ _) (isD_pcl _ _)) .nil) (fun e1 e2 _ _ => ?_) (fun e1 hk _ => ?_) rfl
    · subst e2
      simp -implicitDefEqProofs only [go_sem, simprocAttr, -Int.reducePow, DD, x_app, x_ga0, x_gas, x_gan, Int.cast_ofNat_Int, eq_self, Int.zero_lt_one, Bool.not_false, Bool.not_true, beq_self_eq_true, k3, k6, hP]
      rw [pcl0]; exact ASl.nil _ _
    · simp -implicitDefEqProofs only [go_sem, simprocAttr, -Int.reducePow, DD, x_app, x_ga0, x_gas, x_gan, Int.cast_ofNat_Int, eq_self, Int.zero_lt_one, Bool.not_false, Bool.not_true, beq_self_eq_true, k3, k6, hP]
      exact .inr ⟨_, rfl, x_hget' hk.1, by simp [hk.1], pcl_len _ _⟩
  · have c1 : (0 : Int) < ((d - i : Nat) : Int) := by omega
    have g0 : ∀ y, (H ++ [y]).getD 0 ⟨[], false, false⟩ = ⟨[Bo s, U32 l, I64 e, Bo t, U32 k, I64 g], true, true⟩ := fun y => by rw [getD_hp hH]; exact hg0
    simp -implicitDefEqProofs only [go_sem, simprocAttr, -Int.reducePow, DD, x_app, x_ga0, x_gas, x_gan, Int.cast_ofNat_Int, eq_self, Int.zero_lt_one, Bool.not_false, Bool.not_true, beq_self_eq_true, k3, k6, hP, c1, hg0, g0]
    refine callK_pl poly_Part.call (qe i (by omega)) (pl2 (pld_PA _ _) (pld_RC hz0)) ?_
    simp -implicitDefEqProofs only [go_sem, simprocAttr, -Int.reducePow, DD, x_app, x_ga0, x_gas, x_gan, Int.cast_ofNat_Int, eq_self, Int.zero_lt_one, Bool.not_false, Bool.not_true, beq_self_eq_true, k3, k6, hP, c1, hg0, g0]
    refine app_step (P := Tryz.prog) tk22 rfl tk29 tk22 rfl rfl (by decide) (n := i) (m := 1) ((hA.ext _).ext _) (.inl ⟨rfl, x_hget⟩) rfl (by decide) rfl (Nat.le_trans (Nat.mul_le_mul_right _ (show i + 1 ≤ 1000001 by omega)) (by decide)) (by omega) ?_
    intro H' hg hl' hk'
    have g2 : H'.getD 0 ⟨[], false, false⟩ = ⟨[Bo s, U32 l, I64 e, Bo t, U32 k, I64 g], true, true⟩ := by rw [hk' 0 (by simp) (hne i), getD_hp (by simp)]; exact g0 _
    have hlen : H'.length = H.length + 3 := by rw [hl']; simp
    simp -implicitDefEqProofs only [go_sem, simprocAttr, -Int.reducePow, DD, x_app, x_ga0, x_gas, x_gan, Int.cast_ofNat_Int, eq_self, Int.zero_lt_one, Bool.not_false, Bool.not_true, beq_self_eq_true, k3, k6, hP, c1, hg0, g0]
    exact ⟨d - (i + 1), by omega, _, _, i + 1, rfl, rfl, by omega, by simp [x_look, k3], by simp only [x_look, reduceIte, Nat.reduceEqDiff], by omega, g2, by simp only [x_look, reduceIte, Nat.reduceEqDiff]; exact ASl.lastP (g := shf d f z) hg hl', fun x e => by simp [x_look] at e⟩
/-- powers of the radius -/
def rk (r : Dyadic) : Nat → Dyadic
  | 0 => dv 1 0
  | k + 1 => rk r k * r
/-- times a number -/
def tms (z : Cx) (x : Dyadic) : Cx := ⟨z.re * x, z.im * x⟩
/-- p of c + r z -/
def uni (n : Nat) (f : Po) (c : Cx) (r : Dyadic) : Po := fun k => tms (shf n f c k) (rk r k)
theorem rk_db (h : DB r C) : ∀ k, DB (rk r k) (k * C + 1)
  | 0 => by rw [Nat.zero_mul]; exact DB.raw (m := 1) (e := 0) (L := 1) (E := 0) (by decide) (by decide) (by decide)
  | k + 1 => by have := (rk_db h k).mul h; rw [Nat.succ_mul]; exact this.mono (by omega)
theorem shf_cb (hz : CB z C) : ∀ (n : Nat) {f : Po} (hf : PB f B) (k : Nat), k < n → CB (shf n f z k) (B + (n - 1 - k) * (C + 2) + 2 * n)
  | 0, _, _, k, hk => absurd hk (Nat.not_lt_zero _)
  | n + 1, f, hf, k, hk => by
    have ih := shf_cb hz n (f := tl f) (fun i => hf (i + 1))
    have sz := Sp.shf n (tl f) z
    have add : ∀ {x y : Cx} {A : Nat}, CB x A → CB y A → CB (x + y) (A + 1) := fun h g => ⟨h.1.add g.1, h.2.add g.2⟩
    have mn : ∀ {x : Cx} {A D : Nat}, CB x A → A ≤ D → CB x D := fun h g => ⟨h.1.mono g, h.2.mono g⟩
    rw [shf_add]
    have e : n + 1 - 1 - k = n - k := by omega
    rw [e]
    have h2 : CB (px (shf n (tl f) z) k) (B + (n - k) * (C + 2) + 2 * n) := by
      cases k with
      | zero => exact CB.zero _
      | succ k =>
        have := ih k (by omega)
        rw [show n - 1 - k = n - (k + 1) by omega] at this
        exact this
    have h3 : CB (z * shf n (tl f) z k) (B + (n - k) * (C + 2) + 2 * n) := by
      by_cases hkn : k < n
      · have := hz.mul (ih k hkn)
        have e2 : (n - k) * (C + 2) = (n - 1 - k) * (C + 2) + (C + 2) := by rw [← Nat.succ_mul]; congr 1; omega
        exact mn this (by omega)
      · rw [sz k (by omega)]
        have e3 : z * zero = zero := by apply Cx.ext' <;> simp only [Cx.mul_re, Cx.mul_im, Cx.zero_re, Cx.zero_im] <;> grind
        rw [e3]; exact CB.zero _
    cases k with
    | zero => exact mn (add (mn (A := B) (D := B + (n - 0) * (C + 2) + 2 * n + 1) (hf 0) (by omega)) (add h2 h3)) (by omega)
    | succ k => exact mn (add (mn (A := B) (D := B + (n - (k + 1)) * (C + 2) + 2 * n + 1) (CB.zero B) (by omega)) (add h2 h3)) (by omega)
theorem uni_pb (hf : PB f B) (hz : CB z C) (hr : DB r C) (n : Nat) : PB (uni n f z r) (B + n * (C + 2) + 2 * n + 1) := fun k => by
  by_cases hk : k < n
  · have h1 := shf_cb hz n hf k hk
    have h2 := rk_db hr k
    have e : n * (C + 2) = (n - 1 - k) * (C + 2) + (k + 1) * (C + 2) := by rw [← Nat.add_mul]; congr 1; omega
    have e2 : k * C ≤ k * (C + 2) := Nat.mul_le_mul_left k (by omega)
    have e3 : (k + 1) * (C + 2) = k * (C + 2) + (C + 2) := Nat.succ_mul ..
    exact ⟨(h1.1.mul h2).mono (by omega), (h1.2.mul h2).mono (by omega)⟩
  · have : uni n f z r k = zero := by
      unfold uni
      rw [Sp.shf n f z k (by omega)]
      exact Cx.ext' (show (0 : Dyadic) * _ = 0 by grind) (show (0 : Dyadic) * _ = 0 by grind)
    rw [this]; exact CB.zero _
theorem uni_sp (n : Nat) (f : Po) (c : Cx) (r : Dyadic) : Sp n (uni n f c r) := fun k hk => by
  unfold uni
  rw [Sp.shf n f c k hk]
  exact Cx.ext' (show (0 : Dyadic) * _ = 0 by grind) (show (0 : Dyadic) * _ = 0 by grind)
end Go.Ab

set_option linter.unusedVariables false
set_option maxRecDepth 20000
set_option linter.unusedSimpArgs false
set_option linter.unusedSectionVars false
namespace Go.Ab
open Go.Proofs
open Cx (zero one)
attribute [-go_sem] appF newsF
variable {a b : AV} {z w c : Cx} {B C n m d P : Nat} {cs ds : List AV} {f g : Po} {r x : Dyadic}
/-! how many, in plain: the first place that is sure, of as many steps as there may be -/
def frs (p : Nat → Bool) : Nat → Option Nat
  | 0 => none
  | d + 1 => match frs p d with
    | some j => some j
    | none => if p d then some d else none
theorem frs_spec (p : Nat → Bool) : ∀ d, (∃ j, frs p d = some j ∧ j < d ∧ p j = true ∧ ∀ i, i < j → p i = false) ∨ (frs p d = none ∧ ∀ i, i < d → p i = false)
  | 0 => .inr ⟨rfl, fun i h => absurd h (Nat.not_lt_zero _)⟩
  | d + 1 => by
    rcases frs_spec p d with ⟨j, h1, h2, h3, h4⟩ | ⟨h1, h2⟩
    · exact .inl ⟨j, by unfold frs; rw [h1], by omega, h3, h4⟩
    · by_cases q : p d = true
      · exact .inl ⟨d, by unfold frs; rw [h1]; exact if_pos q, by omega, q, h2⟩
      · refine .inr ⟨by unfold frs; rw [h1]; exact if_neg q, fun i hi => ?_⟩
        by_cases e : i = d
        · rw [e]; simpa using q
        · exact h2 i (by omega)
noncomputable def anyO (f : Po) (d P : Nat) : Option Nat := frs (fun k => decide (0 < dsg (far (f k) P false - (osum f (-1) P true d - far (f k) P true)))) d
noncomputable def inO : Nat → Po → Nat → Nat → Option Nat
  | 0, f, d, P => anyO f d P
  | l + 1, f, d, P => match anyO f d P with
    | some k => some k
    | none => inO l (stp d f) d P
/-- what is told of it -/
def oI : Option Nat → Int
  | some k => (k : Nat)
  | none => -1
theorem anyO_spec (f : Po) (d P : Nat) : (∃ j, anyO f d P = some j ∧ j < d ∧ aYes f d j P ∧ ∀ i, i < j → ¬ aYes f d i P) ∨ (anyO f d P = none ∧ ∀ i, i < d → ¬ aYes f d i P) := by
  rcases frs_spec (fun k => decide (0 < dsg (far (f k) P false - (osum f (-1) P true d - far (f k) P true)))) d with ⟨j, h1, h2, h3, h4⟩ | ⟨h1, h2⟩
  · exact .inl ⟨j, h1, h2, by unfold aYes; exact of_decide_eq_true h3, fun i hi => by unfold aYes; exact of_decide_eq_false (h4 i hi)⟩
  · exact .inr ⟨h1, fun i hi => by unfold aYes; exact of_decide_eq_false (h2 i hi)⟩
theorem cany_s (h : RP cs n f B) (hB : B ≤ 12045) (hcs : ∀ c ∈ cs, IsD c) (hn : n ≤ 1000) (p : Int) (hp : heldP p ≤ 400) :
    Sat CT false 36 [.sl n cs, I64 p] (.tup [I64 (oI (anyO f (dg n f) (heldP p))), Bo (anyO f (dg n f) (heldP p)).isSome]) := by
  obtain ⟨a1, a2⟩ := any_sB h hB hcs hn p hp
  rcases anyO_spec f (dg n f) (heldP p) with ⟨j, h1, h2, h3, h4⟩ | ⟨h1, h2⟩
  · rw [h1]; exact a1 j h2 h4 h3
  · rw [h1]; exact a2 h2
/-! three whole coefficients -/
theorem far_Ia (v : Int) {P : Nat} (hP : 1 ≤ P) (hv : v.natAbs < 2 ^ P) (up : Bool) : far (zI v 0) P up = dv (v.natAbs : Nat) 0 := by
  unfold far
  rw [nrm_zI]
  have e : v * v + 0 * 0 = (v.natAbs : Int) * (v.natAbs : Int) := by rw [← Int.natCast_mul, Int.natAbs_mul_self]; omega
  rw [e]
  by_cases h : v = 0
  · subst h
    exact droot_0 (by decide) _ _
  · rw [← dvm0]
    obtain ⟨e1, e2⟩ := bl_dnum (m := ((v.natAbs : Nat) : Int)) (by omega) (e := 0)
    have := bl_le_of hv
    rw [Int.natAbs_natCast] at e1
    exact droot_exact (dnum_pos.2 (by omega)) hP (by omega) up
theorem yes3 {v0 v1 v2 : Int} (h0 : f 0 = zI v0 0) (h1 : f 1 = zI v1 0) (h2 : f 2 = zI v2 0) (hP : 1 ≤ P) (b0 : v0.natAbs < 2 ^ P) (b1 : v1.natAbs < 2 ^ P) (b2 : v2.natAbs < 2 ^ P) {k : Nat} {v : Int} (hk : f k = zI v 0) (bk : v.natAbs < 2 ^ P) :
    aYes f 3 k P ↔ v0.natAbs + v1.natAbs + v2.natAbs < 2 * v.natAbs := by
  have e : osum f (-1) P true 3 = dv ((v0.natAbs + v1.natAbs + v2.natAbs : Nat) : Int) 0 := by
    show (if ((2 : Nat) : Int) = -1 then _ else (if ((1 : Nat) : Int) = -1 then _ else (if ((0 : Nat) : Int) = -1 then (0 : Dyadic) else 0 + far (f 0) P true) + far (f 1) P true) + far (f 2) P true) = _
    rw [if_neg (by decide), if_neg (by decide), if_neg (by decide), h0, h1, h2, far_Ia _ hP b0, far_Ia _ hP b1, far_Ia _ hP b2, show (0 : Dyadic) = dv 0 0 from rfl, dv_add, dv_add, dv_add]
    congr 1
    omega
  unfold aYes
  rw [e, hk, far_Ia _ hP bk, far_Ia _ hP bk, dv_sub, dv_sub, dsg_dv, sgn_gt0]
  omega
end Go.Ab

set_option linter.unusedVariables false
set_option maxRecDepth 20000
set_option linter.unusedSimpArgs false
set_option linter.unusedSectionVars false
namespace Go.Ab
open Go.Proofs
open Cx (zero one)
attribute [-go_sem] appF newsF
variable {a b : AV} {z w c : Cx} {B C n m d P : Nat} {cs ds : List AV} {f g : Po} {r x : Dyadic}
/-! what is asked of the unit circle: of the code -/
/-- the row with the first ones done -/
def gU (n : Nat) (f : Po) (c : Cx) (r : Dyadic) (i : Nat) : Po := fun k => if k < i then uni n f c r k else shf n f c k
theorem gU_S (n : Nat) (f : Po) (c : Cx) (r : Dyadic) (i : Nat) : (fun s => if s = i then uni n f c r i else gU n f c r i s) = gU n f c r (i + 1) := by
  funext s
  unfold gU
  by_cases h : s = i
  · rw [if_pos h, if_pos (by omega), h]
  · rw [if_neg h]
    by_cases g : s < i
    · rw [if_pos g, if_pos (by omega)]
    · rw [if_neg g, if_neg (by omega)]
theorem shf_sp (h : Sp n f) (c : Cx) : Sp (dg n f) (shf n f c) ∧ dg n (shf n f c) = dg n f := by
  have hs := dg_sp h
  have hle := dg_le n f
  have e : shf n f c = shf (dg n f) f c := ev_uniq (Sp.shf n f c) ((Sp.shf (dg n f) f c).mono hle) (fun w => by
    rw [ev_shf, ev_le (Sp.shf (dg n f) f c) hle, ev_shf, ev_le hs hle])
  have s1 := Sp.shf (dg n f) f c
  refine ⟨by rw [e]; exact s1, ?_⟩
  rw [e, dg_ind (s1.mono hle) s1, dg_shf hs (dg_self h)]
theorem uni_spD (h : Sp n f) (c : Cx) (r : Dyadic) : Sp (dg n f) (uni n f c r) := fun k hk => by
  unfold uni
  rw [(shf_sp h c).1 k hk]
  exact Cx.ext' (show (0 : Dyadic) * _ = 0 by grind) (show (0 : Dyadic) * _ = 0 by grind)
theorem uni_dg (h : Sp n f) (c : Cx) (r : Dyadic) : dg (dg n f) (uni n f c r) = dg n (uni n f c r) := dg_ind (uni_spD h c r) (uni_sp n f c r)
theorem tms_cb (h : CB z B) (g : DB x C) : CB (tms z x) (B + C) := ⟨h.1.mul g, h.2.mul g⟩
set_option maxHeartbeats 2000000 in
theorem cunit_s (h : RP cs n f B) (hcs : ∀ c ∈ cs, IsD c) (t : RT a c r C C) (hn : n ≤ 20) (hB : B ≤ 1500) (hC : C ≤ 300) : Sat CT false 17 [.sl n cs, a] (PA (dg n (uni n f c (rp r))) (uni n f c (rp r))) := by
  refine sat_of count_Unit.ok (by simp) ?_
  have DD := count_Unit.dr
  simp only [drP, drPx, drPt, drR, drS, drT, bodyOf, Tryz.f17, Nat.reduceEqDiff, reduceIte, true_and, and_true] at DD
  have m1 : n * C ≤ 20 * 300 := Nat.mul_le_mul hn hC
  have m2 : 2 * n * n ≤ 2 * 20 * 20 := Nat.mul_le_mul (Nat.mul_le_mul_left 2 hn) hn
  have m3 : n * (C + 2) ≤ 20 * 302 := Nat.mul_le_mul hn (by omega)
  have hD := dg_le n f
  have sD := (shf_sp h.sp c).1
  have uD := uni_spD h.sp c (rp r)
  have ue := uni_dg h.sp c (rp r)
  have hsb : PB (shf n f c) (B + n * C + 2 * n * n) := (h.pb.wb (C := C) h.sp).shf n t.cb
  have hub := uni_pb h.pb t.cb (rp_db t.db) n
  obtain ⟨n', l, e, m', k', f', o, p', q', rfl, hc, hr⟩ := t.ex
  have q0 := pshift_h h hc (by omega) hcs (by omega)
  have o1 := dofn_sat 1 (by decide) (by decide)
  have k1 := dmax_r hr rd0 (by omega) (by decide)
  rw [rp_dmx] at k1
  have rb := rp_db hr.db
  have rkb := rk_db rb
  generalize hDe : dg n f = D at *
  have qt := ptrim_P hub uD (by omega) (by omega)
  rw [ue] at qt
  simp -implicitDefEqProofs only [go_sem, simprocAttr, -Int.reducePow, Tryz.f17, DD, List.take_succ_cons, List.drop_succ_cons]
  refine callK_fr q0 (isD_pcl _ _) (.cons (.pl (pld_sl hcs)) (.cons (.pl (pld_RC hc)) .nil)) (fun e1 e2 _ _ => ?_) (fun e1 hk _ => ?_) rfl
  · subst e2
    have e3 : dg n (uni n f c (rp r)) = 0 := by rw [← ue]; rfl
    rw [e3] at qt ⊢
    simp -implicitDefEqProofs only [go_sem, simprocAttr, -Int.reducePow, DD, List.take_succ_cons, List.drop_succ_cons]
    refine callK_q dyad_Of.call (o1) rfl rfl ?_
    simp -implicitDefEqProofs only [go_sem, simprocAttr, -Int.reducePow, DD, List.take_succ_cons, List.drop_succ_cons]
    refine callK_q dyad_Max.call (k1) rfl rfl ?_
    simp -implicitDefEqProofs only [go_sem, simprocAttr, -Int.reducePow, DD, List.take_succ_cons, List.drop_succ_cons]
    refine loop_of aW0_mono (fun q σ => ∃ sl H, σ = ⟨sl, H⟩ ∧ look sl 5 = .v (.slice none 0 0) ∧ look sl 20 = I64 0 ∧ look sl 21 = I64 0) ?_ (n := 0) ⟨_, _, rfl, by simp [x_look], by simp [x_look], by simp [x_look]⟩
    rintro q _ ⟨sl, H, rfl, k5, k20, k21⟩
    simp -implicitDefEqProofs only [go_sem, simprocAttr, -Int.reducePow, DD, k5, k20, k21, Int.lt_irrefl]
    refine callK_ar poly_Trim.call (qt) (.cons .none .nil) rfl ?_
    intro H' _
    simp -implicitDefEqProofs only [go_sem, simprocAttr, -Int.reducePow, DD, k5, k20, k21]
    exact ⟨trivial, isD_PA _ _, rfl⟩
  · simp -implicitDefEqProofs only [go_sem, simprocAttr, -Int.reducePow, DD, List.take_succ_cons, List.drop_succ_cons]
    refine callK_q dyad_Of.call (o1) rfl rfl ?_
    simp -implicitDefEqProofs only [go_sem, simprocAttr, -Int.reducePow, DD, List.take_succ_cons, List.drop_succ_cons]
    refine callK_q dyad_Max.call (k1) rfl rfl ?_
    simp -implicitDefEqProofs only [go_sem, simprocAttr, -Int.reducePow, DD, List.take_succ_cons, List.drop_succ_cons]
    have hg00 : gU n f c (rp r) 0 = shf n f c := funext (fun k => if_neg (by omega))
    refine loop_of aW0_mono (fun q σ => ∃ sl H i, σ = ⟨sl, H⟩ ∧ q = D - i ∧ i ≤ D ∧ look sl 5 = .own 6 1 0 D ∧ look sl 6 = .ptr 2 0 ∧ look sl 7 = .ptr 3 0 ∧ look sl 19 = .own 6 1 0 D ∧ look sl 20 = I64 (D : Nat) ∧ look sl 21 = I64 (i : Nat) ∧ 3 < H.length ∧ H.getD 1 ⟨[], false, false⟩ = ⟨pcl D (gU n f c (rp r) i), true, true⟩ ∧ H.getD 2 ⟨[], false, false⟩ = ⟨dcl (rk (rp r) i), true, true⟩ ∧ H.getD 3 ⟨[], false, false⟩ = ⟨dcl (rp r), true, true⟩) ?_ (n := D)
      ⟨_, _, 0, rfl, rfl, Nat.zero_le _, by simp [x_look], by simp [x_look], by simp [x_look], by simp [x_look], by simp [x_look], by simp [x_look], by simp, by rw [hg00]; rfl, rfl, rfl⟩
    rintro q _ ⟨sl, H, i, rfl, rfl, hi, k5, k6, k7, k19, k20, k21, hH, hg1, hg2, hg3⟩
    have hL := pcl_len D (gU n f c (rp r) i)
    by_cases hid : i = D
    · have eg : pcl D (gU n f c (rp r) i) = pcl D (uni n f c (rp r)) := pcl_congr (fun k hk => if_pos (by omega))
      rw [eg] at hg1
      have hA : ASl 6 (.own 6 1 0 D) H (pcl D (uni n f c (rp r))) D := .inr ⟨1, rfl, hg1, by omega, pcl_len _ _⟩
      rw [hid] at k21
      simp -implicitDefEqProofs only [go_sem, simprocAttr, -Int.reducePow, DD, k5, k6, k7, k19, k20, k21, Int.lt_irrefl]
      refine callK_ar poly_Trim.call (qt) (.cons (.row hA.rsl (snap0_pcl _ _) (isD_pcl _ _)) .nil) rfl ?_
      intro H' _
      simp -implicitDefEqProofs only [go_sem, simprocAttr, -Int.reducePow, DD, k5, k6, k7, k19, k20, k21]
      exact ⟨trivial, isD_PA _ _, rfl⟩
    · have c1 : (i : Int) < (D : Int) := by omega
      have ci : IntKind.i64.wrap ((i : Int) + 1) = ((i + 1 : Nat) : Int) := by rw [wrap_id (by omega)]; omega
      have c2 : (0 : Int) ≤ (i : Int) := by omega
      have c4 : i * 6 < D * 6 := by omega
      have c5 : i * 6 + 6 ≤ D * 6 := by omega
      have hcc := pcl_el (gU n f c (rp r) i) (show i < D by omega)
      rw [show gU n f c (rp r) i i = shf n f c i from if_neg (by omega)] at hcc
      have iC : i * C ≤ 20 * 300 := Nat.mul_le_mul (by omega) hC
      have tm : Sat CT false 44 [CI (shf n f c i), DI (rk (rp r) i)] (CI (uni n f c (rp r) i)) := gtimes_r (RC_C (hsb i)) (RD_D (rkb i)) (by omega)
      have mu : Sat CT false 45 [DI (rk (rp r) i), DI (rp r)] (DI (rk (rp r) (i + 1))) := dmul_r (RD_D (rkb i)) (RD_D rb) (by omega) (by omega)
      have g1 : ∀ y, (H ++ [y]).getD 1 ⟨[], false, false⟩ = ⟨pcl D (gU n f c (rp r) i), true, true⟩ := fun y => by rw [getD_hp (by omega)]; exact hg1
      have g2 : ∀ y, (H ++ [y]).getD 2 ⟨[], false, false⟩ = ⟨dcl (rk (rp r) i), true, true⟩ := fun y => by rw [getD_hp (by omega)]; exact hg2
      have g3 : ∀ y, (H ++ [y]).getD 3 ⟨[], false, false⟩ = ⟨dcl (rp r), true, true⟩ := fun y => by rw [getD_hp (by omega)]; exact hg3
      have s2 : ∀ y o, ((H ++ [y]).set 1 o).getD 2 ⟨[], false, false⟩ = ⟨dcl (rk (rp r) i), true, true⟩ := fun y o => by rw [getD_set (by simp; omega), if_neg (by decide)]; exact g2 y
      have s3 : ∀ y o, ((H ++ [y]).set 1 o).getD 3 ⟨[], false, false⟩ = ⟨dcl (rp r), true, true⟩ := fun y o => by rw [getD_set (by simp; omega), if_neg (by decide)]; exact g3 y
      simp -implicitDefEqProofs only [go_sem, simprocAttr, -Int.reducePow, DD, k5, k6, k7, k19, k20, k21, ci, c1, c2, c4, c5, hL, hcc, hg1, hg2, hg3, g1, g2, g3, dcl]
      refine callK_pl gauss_Times.call (tm) (pl2 (pld_CI _) (pld_DI _)) ?_
      simp -implicitDefEqProofs only [go_sem, simprocAttr, -Int.reducePow, DD, k5, k6, k7, k19, k20, k21, ci, c1, c2, c4, c5, hL, hcc, hg1, hg2, hg3, g1, g2, g3, s2, s3, dcl]
      refine callK_pl dyad_Mul.call (mu) (pl2 (pld_DI _) (pld_DI _)) ?_
      simp -implicitDefEqProofs only [go_sem, simprocAttr, -Int.reducePow, DD, k5, k6, k7, k19, k20, k21, ci, c1, c2, c4, c5, hL, hcc, hg1, hg2, hg3, g1, g2, g3, s2, s3, dcl]
      refine ⟨D - (i + 1), by omega, _, _, i + 1, rfl, rfl, by omega, by simp [x_look, k5], by simp [x_look, k6], by simp [x_look, k7], by simp [x_look, k19], by simp [x_look, k20], by simp [x_look], by simp <;> omega, ?_, ?_, ?_⟩
      · (rw [getD_set (by simp; omega), if_neg (by decide), getD_set (by simp; omega), if_pos rfl, ← gU_S, ← pcl_set (show i < D by omega) (uni n f c (rp r) i)]) <;> rfl
      · (rw [getD_set (by simp; omega), if_pos rfl]) <;> rfl
      · rw [getD_set (by simp; omega), if_neg (by decide)]
        exact s3 _ _
end Go.Ab

set_option linter.unusedVariables false
set_option maxRecDepth 20000
set_option linter.unusedSimpArgs false
set_option linter.unusedSectionVars false
namespace Go.Ab
open Go.Proofs
open Cx (zero one)
attribute [-go_sem] appF newsF
variable {a b : AV} {z w c : Cx} {B C n m d P M D : Nat} {cs ds : List AV} {f g : Po} {r x : Dyadic}
/-! how many: of the code -/
def okB (M D : Nat) : Nat → Nat → Prop
  | 0, b => b ≤ M
  | l + 1, b => b ≤ M ∧ okB M D l (2 * b + D + 2)
theorem okB.top {l b : Nat} (h : okB M D l b) : b ≤ M := by
  cases l with
  | zero => exact h
  | succ l => exact h.1
theorem pld_RT (h : RT a c r B C) : PlD a := by
  obtain ⟨n, l, e, m, k, f, o, p, q, rfl, _⟩ := h
  refine pld_agg (fun c hc => ?_)
  simp only [List.mem_cons, List.not_mem_nil, or_false] at hc
  rcases hc with rfl | rfl | rfl | rfl | rfl | rfl | rfl | rfl | rfl <;> first | exact lf_bool | exact lf_int | exact lf_u32 _
set_option maxHeartbeats 2000000 in
theorem cin_no (h : RP cs n f B) (hcs : ∀ c ∈ cs, IsD c) (hB : B ≤ 1500) (t : RT a c r C C) (hC : C ≤ 300) (s p : Int) (h0 : dg n f = 0 ∨ (dnum r).sign ≤ 0) : Sat CT false 14 [.sl n cs, a, I64 s, I64 p] (.tup [I64 (-1), Bo false]) := by
  refine sat_of count_In.ok (by simp) ?_
  have DD := count_In.dr
  simp only [drP, drPx, drPt, drR, drS, drT, bodyOf, Tryz.f14, Nat.reduceEqDiff, reduceIte, true_and, and_true] at DD
  have q1 := pdeg_s h (by omega) hcs
  obtain ⟨n', l, e, m', k', f', o, p', q', rfl, hc, hr⟩ := t.ex
  have s1 := dsign_r hr (by omega)
  by_cases e0 : dg n f = 0
  · rw [e0] at q1
    have c1 : (((0 : Nat) : Int) - 1 < 0) = True := by simp
    simp -implicitDefEqProofs only [go_sem, simprocAttr, -Int.reducePow, Tryz.f14, DD]
    refine scope0 aW0_mono ?_
    simp -implicitDefEqProofs only [go_sem, simprocAttr, -Int.reducePow, DD]
    refine callK_pl poly_Degree.call (q1) (pl1 (pld_sl hcs)) ?_
    simp -implicitDefEqProofs only [go_sem, simprocAttr, -Int.reducePow, DD, c1]
  · have c1 : ¬ ((dg n f : Nat) : Int) - 1 < 0 := by omega
    have c2 : (dnum r).sign ≤ 0 := h0.resolve_left e0
    simp -implicitDefEqProofs only [go_sem, simprocAttr, -Int.reducePow, Tryz.f14, DD]
    refine scope0 aW0_mono ?_
    simp -implicitDefEqProofs only [go_sem, simprocAttr, -Int.reducePow, DD, c1, c2]
    refine callK_pl poly_Degree.call (q1) (pl1 (pld_sl hcs)) ?_
    simp -implicitDefEqProofs only [go_sem, simprocAttr, -Int.reducePow, DD, c1, c2, List.take_succ_cons, List.drop_succ_cons]
    refine callK_q dyad_Sign.call (s1) rfl rfl ?_
    simp -implicitDefEqProofs only [go_sem, simprocAttr, -Int.reducePow, DD, c1, c2, List.take_succ_cons, List.drop_succ_cons]
/-- what stands at the label -/
def Lab15 (p : Int) (D P : Nat) (o : Option Nat) (l : Nat) (σ : AState) : Prop := ∃ sl H g Bg, σ = ⟨sl, H⟩ ∧ l ≤ 5 ∧ look sl 3 = I64 p ∧ look sl 10 = I64 (l : Nat) ∧ look sl 11 = PA D g ∧ PB g Bg ∧ Sp D g ∧ dg D g = D ∧ okB 12045 D l Bg ∧ inO l g D P = o
set_option maxHeartbeats 4000000 in
theorem cin_s (h : RP cs n f B) (hcs : ∀ c ∈ cs, IsD c) (hB : B ≤ 1500) (t : RT a c r C C) (hC : C ≤ 300) (hn : n ≤ 20) (s p : Int) (hp : heldP p ≤ 400) (h0 : dg n f ≠ 0) (h1 : ¬ (dnum r).sign ≤ 0)
    {L : Nat} (hL : min (max s 0) 5 = (L : Int)) {U : Nat} (hU : PB (uni n f c (rp r)) U) (hok : okB 12045 (dg n (uni n f c (rp r))) L U) :
    Sat CT false 14 [.sl n cs, a, I64 s, I64 p] (.tup [I64 (oI (inO L (uni n f c (rp r)) (dg n (uni n f c (rp r))) (heldP p))), Bo (inO L (uni n f c (rp r)) (dg n (uni n f c (rp r))) (heldP p)).isSome]) := by
  refine sat_of count_In.ok (by simp) ?_
  have DD := count_In.dr
  simp only [drP, drPx, drPt, drR, drS, drT, bodyOf, Tryz.f14, Nat.reduceEqDiff, reduceIte, true_and, and_true] at DD
  have q1 := pdeg_s h (by omega) hcs
  have u1 := cunit_s h hcs t hn (by omega) hC
  have hpt := pld_RT t
  have uD := dg_sp (uni_sp n f c (rp r))
  have ug := dg_self (uni_sp n f c (rp r))
  have hDn := dg_le n (uni n f c (rp r))
  obtain ⟨n', l, e, m', k', f', o, p', q', rfl, hc, hr⟩ := t.ex
  have s1 := dsign_r hr (by omega)
  have c1 : ¬ ((dg n f : Nat) : Int) - 1 < 0 := by omega
  have c3 : max s 0 = s ∨ max s 0 = 0 := by omega
  generalize uni n f c (rp r) = F at *
  generalize dg n F = D at *
  have any := fun (g : Po) (Bg : Nat) (hg : PB g Bg) (hs : Sp D g) (hd0 : dg D g = D) (hb : Bg ≤ 12045) => by
    have q := cany_s (RP_P hg hs (by omega)) hb (isD_pcl _ _) (by omega) p hp
    rw [hd0] at q
    exact q
  have stp' := fun (g : Po) (Bg : Nat) (hg : PB g Bg) (hs : Sp D g) (hd0 : dg D g = D) (hb : 2 * Bg + D + 2 ≤ 12045) => by
    have q := gstep_s (RP_P hg hs (by omega)) (by omega) (isD_pcl _ _) (by omega)
    rw [hd0] at q
    exact q
  have hPA : ∀ g : Po, PA D g = .sl D (pcl D g) := fun _ => rfl
  generalize hoe : inO L F D (heldP p) = oo at *
  have key : ∀ (l : Nat) (g : Po) (Bg : Nat), PB g Bg → Sp D g → dg D g = D → okB 12045 D l Bg → inO l g D (heldP p) = oo →
      (anyO g D (heldP p) = oo ∧ oo.isSome = true) ∨ (anyO g D (heldP p) = none ∧ oo = none ∧ l = 0) ∨ (anyO g D (heldP p) = none ∧ ∃ l', l = l' + 1 ∧ PB (stp D g) (2 * Bg + D + 2) ∧ Sp D (stp D g) ∧ dg D (stp D g) = D ∧ okB 12045 D l' (2 * Bg + D + 2) ∧ inO l' (stp D g) D (heldP p) = oo) := by
    intro l g Bg hg hs hd0 hb ho
    rcases anyO_spec g D (heldP p) with ⟨j, j1, _⟩ | ⟨j1, _⟩
    · refine .inl ?_
      cases l with
      | zero => have ho : anyO g D (heldP p) = oo := ho; rw [j1] at ho ⊢; subst ho; exact ⟨rfl, rfl⟩
      | succ l => unfold inO at ho; rw [j1] at ho ⊢; subst ho; exact ⟨rfl, rfl⟩
    · cases l with
      | zero => have ho : anyO g D (heldP p) = oo := ho; rw [j1] at ho; exact .inr (.inl ⟨j1, ho.symm, rfl⟩)
      | succ l =>
        unfold inO at ho
        rw [j1] at ho
        exact .inr (.inr ⟨j1, l, rfl, hg.stp hs, hs.stp, by rw [dg_stp hs, hd0], hb.2, ho⟩)
  simp -implicitDefEqProofs only [go_sem, simprocAttr, -Int.reducePow, Tryz.f14, DD]
  refine scope_inv aW0_mono (aW_mono aW0_mono) 0 rfl (Lab15 p D (heldP p) oo) (fun l σ hσ => ?_) (n := L) ?_
  · obtain ⟨sl, H, g, Bg, rfl, hl5, k3, k10, k11, hg, hs, hd0, hb, ho⟩ := hσ
    have a1 := any g Bg hg hs hd0 hb.top
    rcases key l g Bg hg hs hd0 hb ho with ⟨j1, j2⟩ | ⟨j1, rfl, rfl⟩ | ⟨j1, l', rfl, b1, b2, b3, b4, b5⟩
    · rw [j1, j2] at a1
      simp -implicitDefEqProofs only [go_sem, simprocAttr, -Int.reducePow, DD, k3, k10, k11, hPA, x_gp1, x_gp2, x_gp3]
      refine callK_pl pellet_Any.call (a1) (pl2 (pld_PA _ _) pld_int) ?_
      simp -implicitDefEqProofs only [go_sem, simprocAttr, -Int.reducePow, DD, k3, k10, k11, hPA, x_gp1, x_gp2, x_gp3, j2]
    · rw [j1] at a1
      simp -implicitDefEqProofs only [go_sem, simprocAttr, -Int.reducePow, DD, k3, k10, k11, hPA, x_gp1, x_gp2, x_gp3]
      refine callK_pl pellet_Any.call (a1) (pl2 (pld_PA _ _) pld_int) ?_
      simp -implicitDefEqProofs only [go_sem, simprocAttr, -Int.reducePow, DD, k3, k10, k11, hPA, x_gp1, x_gp2, x_gp3, Option.isSome, oI, Int.natCast_zero]
    · rw [j1] at a1
      have st := stp' g Bg hg hs hd0 b4.top
      have w1 : IntKind.i64.wrap (((l' + 1 : Nat) : Int) - 1) = (l' : Nat) := by rw [wrap_id (by omega)]; omega
      have w2 : ¬ ((l' + 1 : Nat) : Int) = 0 := by omega
      simp -implicitDefEqProofs only [go_sem, simprocAttr, -Int.reducePow, DD, k3, k10, k11, hPA, x_gp0, x_gp1, x_gp2, x_gp3]
      refine callK_pl pellet_Any.call (a1) (pl2 (pld_PA _ _) pld_int) ?_
      simp -implicitDefEqProofs only [go_sem, simprocAttr, -Int.reducePow, DD, k3, k10, k11, hPA, x_gp0, x_gp1, x_gp2, x_gp3, Option.isSome, oI, w1, w2]
      refine callK_pl graeffe_Step.call (st) (pl1 (pld_PA _ _)) ?_
      simp -implicitDefEqProofs only [go_sem, simprocAttr, -Int.reducePow, DD, k3, k10, k11, hPA, x_gp0, x_gp1, x_gp2, x_gp3, Option.isSome, oI, w1, w2]
      exact ⟨l', by omega, _, _, stp D g, _, rfl, by omega, by simp [x_look, k3], by simp [x_look], by simp [x_look, hPA], b1, b2, b3, b4, b5⟩
  · have a1 := any F U hU uD ug hok.top
    have hL5 : L ≤ 5 := by omega
    have hF : PA D F = .sl D (pcl D F) := rfl
    have cm : max s 0 = max s 0 := rfl
    have hA : ∀ x : Int, x = max s 0 → min x 5 = (L : Int) := fun x e => by rw [e]; exact hL
    rcases key L F U hU uD ug hok hoe with ⟨j1, j2⟩ | ⟨j1, rfl, rfl⟩ | ⟨j1, l', rfl, b1, b2, b3, b4, b5⟩
    · rw [j1, j2] at a1
      simp -implicitDefEqProofs only [go_sem, simprocAttr, -Int.reducePow, DD, c1, h1, hL]
      refine callK_pl poly_Degree.call (q1) (pl1 (pld_sl hcs)) ?_
      simp -implicitDefEqProofs only [go_sem, simprocAttr, -Int.reducePow, DD, c1, h1, hL, List.take_succ_cons, List.drop_succ_cons]
      refine callK_q dyad_Sign.call (s1) rfl rfl ?_
      simp -implicitDefEqProofs only [go_sem, simprocAttr, -Int.reducePow, DD, c1, h1, hL, List.take_succ_cons, List.drop_succ_cons]
      refine callK_pl count_Unit.call (u1) (pl2 (pld_sl hcs) hpt) ?_
      simp -implicitDefEqProofs only [go_sem, simprocAttr, -Int.reducePow, DD, c1, h1, hL, hF, x_gp1, x_gp2, x_gp3]
      refine callK_pl pellet_Any.call (a1) (pl2 (pld_PA _ _) pld_int) ?_
      simp -implicitDefEqProofs only [go_sem, simprocAttr, -Int.reducePow, DD, c1, h1, hL, hF, x_gp1, x_gp2, x_gp3, j2]
    · rw [j1] at a1
      simp -implicitDefEqProofs only [go_sem, simprocAttr, -Int.reducePow, DD, c1, h1, hL]
      refine callK_pl poly_Degree.call (q1) (pl1 (pld_sl hcs)) ?_
      simp -implicitDefEqProofs only [go_sem, simprocAttr, -Int.reducePow, DD, c1, h1, hL, List.take_succ_cons, List.drop_succ_cons]
      refine callK_q dyad_Sign.call (s1) rfl rfl ?_
      simp -implicitDefEqProofs only [go_sem, simprocAttr, -Int.reducePow, DD, c1, h1, hL, List.take_succ_cons, List.drop_succ_cons]
      refine callK_pl count_Unit.call (u1) (pl2 (pld_sl hcs) hpt) ?_
      simp -implicitDefEqProofs only [go_sem, simprocAttr, -Int.reducePow, DD, c1, h1, hL, hF, x_gp1, x_gp2, x_gp3]
      refine callK_pl pellet_Any.call (a1) (pl2 (pld_PA _ _) pld_int) ?_
      simp -implicitDefEqProofs only [go_sem, simprocAttr, -Int.reducePow, DD, c1, h1, hL, hF, x_gp1, x_gp2, x_gp3, Option.isSome, oI, Int.natCast_zero]
    · rw [j1] at a1
      have st := stp' F U hU uD ug b4.top
      have w1 : IntKind.i64.wrap (((l' + 1 : Nat) : Int) - 1) = (l' : Nat) := by rw [wrap_id (by omega)]; omega
      have w2 : ¬ ((l' + 1 : Nat) : Int) = 0 := by omega
      simp -implicitDefEqProofs only [go_sem, simprocAttr, -Int.reducePow, DD, c1, h1, hL]
      refine callK_pl poly_Degree.call (q1) (pl1 (pld_sl hcs)) ?_
      simp -implicitDefEqProofs only [go_sem, simprocAttr, -Int.reducePow, DD, c1, h1, hL, List.take_succ_cons, List.drop_succ_cons]
      refine callK_q dyad_Sign.call (s1) rfl rfl ?_
      simp -implicitDefEqProofs only [go_sem, simprocAttr, -Int.reducePow, DD, c1, h1, hL, List.take_succ_cons, List.drop_succ_cons]
      refine callK_pl count_Unit.call (u1) (pl2 (pld_sl hcs) hpt) ?_
      simp -implicitDefEqProofs only [go_sem, simprocAttr, -Int.reducePow, DD, c1, h1, hL, hF, x_gp0, x_gp1, x_gp2, x_gp3]
      refine callK_pl pellet_Any.call (a1) (pl2 (pld_PA _ _) pld_int) ?_
      simp -implicitDefEqProofs only [go_sem, simprocAttr, -Int.reducePow, DD, c1, h1, hL, hF, x_gp0, x_gp1, x_gp2, x_gp3, Option.isSome, oI, w1, w2]
      refine callK_pl graeffe_Step.call (st) (pl1 (pld_PA _ _)) ?_
      simp -implicitDefEqProofs only [go_sem, simprocAttr, -Int.reducePow, DD, c1, h1, hL, hF, x_gp0, x_gp1, x_gp2, x_gp3, Option.isSome, oI, w1, w2]
      exact ⟨l', by omega, _, _, stp D F, _, rfl, by omega, by simp [x_look], by simp [x_look], by simp [x_look, hPA], b1, b2, b3, b4, b5⟩
theorem cnone_s {o : Option Nat} (s p : Int) (t : RT a c r B C) (hcs : ∀ c ∈ cs, IsD c) (h : Sat CT false 14 [.sl n cs, a, I64 s, I64 p] (.tup [I64 (oI o), Bo o.isSome])) : Sat CT false 19 [.sl n cs, a, I64 s, I64 p] (Bo (decide (o = some 0))) := by
  refine sat_of count_None.ok (by simp) ?_
  have DD := count_None.dr
  simp only [drP, drPx, drPt, drR, drS, drT, bodyOf, Tryz.f19, Nat.reduceEqDiff, reduceIte, true_and, and_true] at DD
  have hpt := pld_RT t
  obtain ⟨n', l, e, m', k', f', o', p', q', rfl, _⟩ := t
  cases o with
  | none =>
    rw [decide_eq_false (by simp)]
    simp -implicitDefEqProofs only [go_sem, simprocAttr, -Int.reducePow, Tryz.f19, DD]
    refine callK_pl count_In.call (h) (pl4 (pld_sl hcs) hpt pld_int pld_int) ?_
    simp -implicitDefEqProofs only [go_sem, simprocAttr, -Int.reducePow, DD, Option.isSome, oI]
  | some k =>
    by_cases hk : k = 0
    · subst hk
      rw [decide_eq_true rfl]
      simp -implicitDefEqProofs only [go_sem, simprocAttr, -Int.reducePow, Tryz.f19, DD]
      refine callK_pl count_In.call (h) (pl4 (pld_sl hcs) hpt pld_int pld_int) ?_
      simp -implicitDefEqProofs only [go_sem, simprocAttr, -Int.reducePow, DD, Option.isSome, oI, Int.natCast_zero]
    · have hk' : ¬ (k : Int) = 0 := by omega
      rw [decide_eq_false (fun e => hk (Option.some.inj e))]
      simp -implicitDefEqProofs only [go_sem, simprocAttr, -Int.reducePow, Tryz.f19, DD]
      refine callK_pl count_In.call (h) (pl4 (pld_sl hcs) hpt pld_int pld_int) ?_
      simp -implicitDefEqProofs only [go_sem, simprocAttr, -Int.reducePow, DD, Option.isSome, oI, hk']
end Go.Ab

set_option linter.unusedVariables false
set_option maxRecDepth 20000
set_option linter.unusedSimpArgs false
set_option linter.unusedSectionVars false
namespace Go.Ab
open Go.Proofs
open Cx (zero one)
attribute [-go_sem] appF newsF
variable {a b : AV} {z w c : Cx} {B C n m d P M D : Nat} {cs ds : List AV} {f g : Po} {r x : Dyadic}
/-! how many: of the document -/
theorem pld_TI (c : Cx) (r : Dyadic) : PlD (TI c r) := pld_agg (fun c hc => by
  simp only [List.mem_cons, List.not_mem_nil, or_false] at hc
  rcases hc with rfl | rfl | rfl | rfl | rfl | rfl | rfl | rfl | rfl <;> first | exact lf_bool | exact lf_int | exact lf_u32 _)
end Go.Ab

set_option linter.unusedVariables false
set_option maxRecDepth 20000
set_option linter.unusedSimpArgs false
set_option linter.unusedSectionVars false
namespace Go.Ab
open Go.Proofs
open Cx (zero one)
attribute [-go_sem] appF newsF
variable {a b : AV} {z w c : Cx} {B C n m d P M D : Nat} {cs ds : List AV} {f g : Po} {r x : Dyadic}
/-! what is known of counts, what comes in -/
/-- two roots -/
def pr2 (a b : Cx) : Po := fun i => match i with | 0 => a | 1 => b | _ + 2 => zero
theorem pr2_cl (a b : Cx) : pcl 2 (pr2 a b) = CIc a ++ CIc b := by rw [pclS, pclS, pcl0]; rfl
theorem zI_neg (a b : Int) : -(zI a b) = zI (-a) (-b) := Cx.ext' (dv_neg a 0) (dv_neg b 0)
theorem zI_zero : zero = zI 0 0 := rfl
theorem frm2 (f : Nat → Cx) (u v : Int) (h0 : f 0 = zI u 0) (h1 : f 1 = zI v 0) : frm f 2 0 = zI (u * v) 0 ∧ frm f 2 1 = zI (-(u + v)) 0 ∧ frm f 2 2 = zI 1 0 := by
  have e : ∀ k, frm f 2 k = px (lin (zI u 0)) k + -(zI v 0) * lin (zI u 0) k := fun k => by rw [frm_2, h0, h1, conv_lin]
  refine ⟨?_, ?_, ?_⟩
  · rw [e]
    show zero + -(zI v 0) * -(zI u 0) = _
    rw [zI_neg, zI_neg, zI_mul, zI_zero, zI_add]
    congr 1 <;> grind
  · rw [e]
    show -(zI u 0) + -(zI v 0) * zI 1 0 = _
    rw [zI_neg, zI_neg, zI_mul, zI_add]
    congr 1 <;> grind
  · rw [e]
    show zI 1 0 + -(zI v 0) * zero = _
    rw [zI_neg, zI_zero, zI_mul, zI_add]
    congr 1 <;> grind
theorem tms_I (a ρ : Int) : tms (zI a 0) (dv ρ 0) = zI (a * ρ) 0 := Cx.ext' (dvm0 a ρ) (by show dv 0 0 * dv ρ 0 = dv 0 0; rw [dvm0, Int.zero_mul])
theorem rk_I (ρ : Int) : rk (dv ρ 0) 0 = dv 1 0 ∧ rk (dv ρ 0) 1 = dv ρ 0 ∧ rk (dv ρ 0) 2 = dv (ρ * ρ) 0 := by
  have e1 : rk (dv ρ 0) 1 = dv ρ 0 := by show dv 1 0 * dv ρ 0 = _; rw [dvm0, Int.one_mul]
  exact ⟨rfl, e1, by show rk (dv ρ 0) 1 * dv ρ 0 = _; rw [e1, dvm0]⟩
theorem uni2 (u v γ ρ : Int) : uni 3 (frm (pr2 (zI u 0) (zI v 0)) 2) (zI γ 0) (dv ρ 0) 0 = zI ((u - γ) * (v - γ)) 0 ∧ uni 3 (frm (pr2 (zI u 0) (zI v 0)) 2) (zI γ 0) (dv ρ 0) 1 = zI (-((u - γ) + (v - γ)) * ρ) 0 ∧
    uni 3 (frm (pr2 (zI u 0) (zI v 0)) 2) (zI γ 0) (dv ρ 0) 2 = zI (ρ * ρ) 0 := by
  obtain ⟨k0, k1, k2⟩ := rk_I ρ
  obtain ⟨f0, f1, f2⟩ := frm2 (fun i => pr2 (zI u 0) (zI v 0) i - zI γ 0) (u - γ) (v - γ) (show zI u 0 - zI γ 0 = _ by rw [zI_sub]; rfl) (show zI v 0 - zI γ 0 = _ by rw [zI_sub]; rfl)
  unfold uni
  rw [shf_frm, k0, k1, k2, f0, f1, f2, tms_I, tms_I, tms_I, Int.mul_one, Int.one_mul]
  exact ⟨rfl, rfl, rfl⟩
theorem zI_ne {a : Int} (h : a ≠ 0) : zI a 0 ≠ zero := fun e => h (by
  have := congrArg Cx.re e
  exact dv_eq_zero.1 this)
theorem uni2_dg (u v γ ρ : Int) (h : ρ ≠ 0) : dg 3 (uni 3 (frm (pr2 (zI u 0) (zI v 0)) 2) (zI γ 0) (dv ρ 0)) = 3 := by
  rw [dgS, if_neg (by rw [(uni2 u v γ ρ).2.2]; exact zI_ne (fun e => h (by rcases Int.mul_eq_zero.1 e with q | q <;> exact q)))]
theorem okB_small {D l : Nat} (hD : D ≤ 3) (hl : l ≤ 3) {b : Nat} (hb : b ≤ 1000) : okB 12045 D l b := by
  match l, hl with
  | 0, _ => show b ≤ 12045; omega
  | 1, _ => exact ⟨by omega, (by omega : 2 * b + D + 2 ≤ 12045)⟩
  | 2, _ => exact ⟨by omega, by omega, (by omega : 2 * (2 * b + D + 2) + D + 2 ≤ 12045)⟩
  | 3, _ => exact ⟨by omega, by omega, by omega, (by omega : 2 * (2 * (2 * b + D + 2) + D + 2) + D + 2 ≤ 12045)⟩
theorem of15_s (a b r : Int) (ha : a.natAbs < 1000000) (hb : b.natAbs < 1000000) (hr : r.natAbs < 1000000) : Sat CT false 24 [I64 a, I64 b, I64 r] (TI (zI a b) (dv r 0)) := by
  refine sat_of annuluslaw15_of.ok (by simp) ?_
  have DD := annuluslaw15_of.dr
  simp only [drP, drPx, drPt, drR, drS, drT, bodyOf, Tryz.f24, Nat.reduceEqDiff, reduceIte, true_and, and_true] at DD
  have u1 := rof8_sat a b (by omega) (by omega) (by omega) (by omega)
  have u2 := rof4_sat r (by omega) (by omega)
  simp -implicitDefEqProofs only [go_sem, simprocAttr, -Int.reducePow, Tryz.f24, DD, TI, zI, List.take_succ_cons, List.drop_succ_cons]
  refine callK_q annulusref8_Of.call (u1) rfl rfl ?_
  simp -implicitDefEqProofs only [go_sem, simprocAttr, -Int.reducePow, DD, TI, zI, List.take_succ_cons, List.drop_succ_cons]
  refine callK_q annulusref4_Of.call (u2) rfl rfl ?_
  simp -implicitDefEqProofs only [go_sem, simprocAttr, -Int.reducePow, DD, TI, zI, List.take_succ_cons, List.drop_succ_cons]
  rfl
theorem anyO_eq {k : Nat} (hk : k < d) (h : aYes f d k P) (hn : ∀ i, i < k → ¬ aYes f d i P) : anyO f d P = some k := by
  rcases anyO_spec f d P with ⟨j, j1, j2, j3, j4⟩ | ⟨j1, j2⟩
  · rcases Nat.lt_trichotomy j k with q | q | q
    · exact absurd j3 (hn j q)
    · rw [j1, q]
    · exact absurd h (j4 k q)
  · exact absurd h (j2 k hk)
theorem f19_pb : PB (frm (pr2 (zI 1 0) (zI 9 0)) 2) 60 := fun i => by
  have hrt : ∀ i, i < 2 → CB (pr2 (zI 1 0) (zI 9 0) i) 20 := fun i hi => by
    match i, hi with
    | 0, _ => exact ⟨DB.raw (m := 1) (e := 0) (L := 10) (E := 0) (by decide) (by decide) (by decide), DB.raw (m := 0) (e := 0) (L := 10) (E := 0) (by decide) (by decide) (by decide)⟩
    | 1, _ => exact ⟨DB.raw (m := 9) (e := 0) (L := 10) (E := 0) (by decide) (by decide) (by decide), DB.raw (m := 0) (e := 0) (L := 10) (E := 0) (by decide) (by decide) (by decide)⟩
  have h := PB.frm (N := 2) hrt (by decide) (Nat.le_refl 2) i
  exact ⟨h.1.mono (by decide), h.2.mono (by decide)⟩
theorem f19_rp : RP (pcl 3 (frm (pr2 (zI 1 0) (zI 9 0)) 2)) 3 (frm (pr2 (zI 1 0) (zI 9 0)) 2) 60 := RP_P f19_pb (Sp.frm _ 2) (by decide)
theorem f19_dg : dg 3 (frm (pr2 (zI 1 0) (zI 9 0)) 2) ≠ 0 := by
  rw [dgS, if_neg (by rw [(frm2 (pr2 (zI 1 0) (zI 9 0)) 1 9 rfl rfl).2.2]; exact zI_ne (by decide))]
  decide
theorem any_k {u0 u1 u2 : Int} {F : Po} (h0 : F 0 = zI u0 0) (h1 : F 1 = zI u1 0) (h2 : F 2 = zI u2 0) (b0 : u0.natAbs < 2 ^ 60) (b1 : u1.natAbs < 2 ^ 60) (b2 : u2.natAbs < 2 ^ 60) :
    (u0.natAbs + u1.natAbs + u2.natAbs < 2 * u0.natAbs → anyO F 3 60 = some 0) ∧ (¬ u0.natAbs + u1.natAbs + u2.natAbs < 2 * u0.natAbs → u0.natAbs + u1.natAbs + u2.natAbs < 2 * u1.natAbs → anyO F 3 60 = some 1) := by
  refine ⟨fun g => ?_, fun g g' => ?_⟩
  · exact anyO_eq (by decide) ((yes3 h0 h1 h2 (by decide) b0 b1 b2 h0 b0).2 g) (fun i hi => absurd hi (Nat.not_lt_zero _))
  · exact anyO_eq (by decide) ((yes3 h0 h1 h2 (by decide) b0 b1 b2 h1 b1).2 g') (fun i hi => by
      obtain rfl : i = 0 := by omega
      exact fun q => g ((yes3 h0 h1 h2 (by decide) b0 b1 b2 h0 b0).1 q))
theorem inO_any {l k : Nat} (h : anyO f d P = some k) : inO l f d P = some k := by
  cases l with
  | zero => exact h
  | succ l => unfold inO; rw [h]
theorem k15_in (γ : Int) (k : Nat) (hγ : γ.natAbs < 2 ^ 64) (h : anyO (uni 3 (frm (pr2 (zI 1 0) (zI 9 0)) 2) (zI γ 0) (dv 3 0)) 3 60 = some k) : Sat CT false 14 [PA 3 (frm (pr2 (zI 1 0) (zI 9 0)) 2), TI (zI γ 0) (dv 3 0), I64 3, I64 60] (.tup [I64 (oI (some k)), Bo (some k).isSome]) := by
  have t3 := tI_rt (a := γ) (b := 0) (r := 3) hγ (by decide) (by decide)
  have s3 : ¬ (dnum (dv 3 0)).sign ≤ 0 := by rw [dnum_sign]; decide
  have a1 := cin_s f19_rp (isD_pcl _ _) (by decide) t3 (by decide) (by decide) 3 60 (by decide) f19_dg s3 (L := 3) (by decide) (uni_pb f19_pb t3.cb (rp_db t3.db) 3) (okB_small (dg_le _ _) (by decide) (by decide))
  rw [rp_I 3 (by decide), uni2_dg 1 9 γ 3 (by decide), show heldP 60 = 60 from rfl, inO_any h] at a1
  exact a1
theorem k15_1 : Sat CT false 14 [PA 3 (frm (pr2 (zI 1 0) (zI 9 0)) 2), TI (zI 0 0) (dv 3 0), I64 3, I64 60] (.tup [I64 (oI (some 1)), Bo (some 1).isSome]) := by
  obtain ⟨u0, u1, u2⟩ := uni2 1 9 0 3
  exact k15_in 0 1 (by decide) ((any_k u0 u1 u2 (by decide) (by decide) (by decide)).2 (by decide) (by decide))
theorem k15_2 : Sat CT false 14 [PA 3 (frm (pr2 (zI 1 0) (zI 9 0)) 2), TI (zI 20 0) (dv 3 0), I64 3, I64 60] (.tup [I64 (oI (some 0)), Bo (some 0).isSome]) := by
  obtain ⟨u0, u1, u2⟩ := uni2 1 9 20 3
  exact k15_in 20 0 (by decide) ((any_k u0 u1 u2 (by decide) (by decide) (by decide)).1 (by decide))
set_option maxHeartbeats 4000000 in
theorem known15_s : Sat CT false 8 [] (Bo true) := by
  refine sat_of annuluslaw15_known.ok (by simp) ?_
  have DD := annuluslaw15_known.dr
  simp only [drP, drPx, drPt, drR, drS, drT, bodyOf, Tryz.f8, Nat.reduceEqDiff, reduceIte, true_and, and_true] at DD
  have z1 : CB (zI 1 0) 20 := ⟨DB.raw (m := 1) (e := 0) (L := 10) (E := 0) (by decide) (by decide) (by decide), DB.raw (m := 0) (e := 0) (L := 10) (E := 0) (by decide) (by decide) (by decide)⟩
  have z9 : CB (zI 9 0) 20 := ⟨DB.raw (m := 9) (e := 0) (L := 10) (E := 0) (by decide) (by decide) (by decide), DB.raw (m := 0) (e := 0) (L := 10) (E := 0) (by decide) (by decide) (by decide)⟩
  have o1 := rof8_sat 1 0 (by decide) (by decide) (by decide) (by decide)
  have o9 := rof8_sat 9 0 (by decide) (by decide) (by decide) (by decide)
  have hrt : ∀ i, i < 2 → CB (pr2 (zI 1 0) (zI 9 0) i) 20 := fun i hi => by match i, hi with | 0, _ => exact z1 | 1, _ => exact z9
  have fr := rfrom_s (cs := pcl 2 (pr2 (zI 1 0) (zI 9 0))) (n := 2) (B := 20) (pr2 (zI 1 0) (zI 9 0)) (pcl_len _ _) (fun i hi => by rw [pcl_el _ hi]; exact RC_C (hrt i hi)) (by decide) (by decide) (by decide)
  have t3 := tI_rt (a := 0) (b := 0) (r := 3) (by decide) (by decide) (by decide)
  have t20 := tI_rt (a := 20) (b := 0) (r := 3) (by decide) (by decide) (by decide)
  have t1 := tI_rt (a := 0) (b := 0) (r := 1) (by decide) (by decide) (by decide)
  have t2 := tI_rt (a := 0) (b := 0) (r := 2) (by decide) (by decide) (by decide)
  have r2 := rp_I 2 (by decide)
  have a1 := k15_1
  have a2 := k15_2
  have n1 := cnone_s 3 60 t3 (isD_pcl _ _) a1
  rw [decide_eq_false (by decide)] at n1
  have n2 := cnone_s 3 60 t20 (isD_pcl _ _) a2
  rw [decide_eq_true rfl] at n2
  have a3 := cin_no (RP_P (n := 0) (f := pz) (B := 0) (fun _ => CB.zero 0) (fun _ _ => rfl) (by omega)) (isD_pcl _ _) (by decide) t1 (by decide) 3 60 (.inl (dg0 _))
  rw [pcl0] at a3
  have un := cunit_s f19_rp (isD_pcl _ _) t2 (by decide) (by decide) (by decide)
  rw [r2, uni2_dg 1 9 0 2 (by decide)] at un
  have q1 := of15_s 0 0 3 (by decide) (by decide) (by decide)
  have q2 := of15_s 20 0 3 (by decide) (by decide) (by decide)
  have q3 := of15_s 0 0 1 (by decide) (by decide) (by decide)
  have q4 := of15_s 0 0 2 (by decide) (by decide) (by decide)
  have p3 := pld_TI (zI 0 0) (dv 3 0)
  have hPA : ∀ (d : Nat) (g : Po), PA d g = .sl d (pcl d g) := fun _ _ => rfl
  generalize frm (pr2 (zI 1 0) (zI 9 0)) 2 = F at *
  simp -implicitDefEqProofs only [go_sem, simprocAttr, -Int.reducePow, Tryz.f8, DD]
  refine callK_pl annulusref8_Of.call (o1) (pl2 pld_int pld_int) ?_
  simp -implicitDefEqProofs only [go_sem, simprocAttr, -Int.reducePow, DD]
  refine callK_pl annulusref8_Of.call (o9) (pl2 pld_int pld_int) ?_
  simp -implicitDefEqProofs only [go_sem, simprocAttr, -Int.reducePow, DD]
  refine callK_ar annulusref11_From.call fr (.cons (.row (cs := pcl 2 (pr2 (zI 1 0) (zI 9 0))) (.inr ⟨_, true, rfl, by rw [pr2_cl]; rfl, by simp, pcl_len _ _⟩) (snap0_pcl _ _) (isD_pcl _ _)) .nil) rfl ?_
  intro H' _
  simp -implicitDefEqProofs only [go_sem, simprocAttr, -Int.reducePow, DD, hPA]
  refine callK_q annuluslaw15_of.call (q1) rfl rfl ?_
  simp -implicitDefEqProofs only [go_sem, simprocAttr, -Int.reducePow, DD, hPA]
  refine callK_pl count_In.call (a1) (pl4 (pld_PA 3 F) (pld_TI _ _) pld_int pld_int) ?_
  simp -implicitDefEqProofs only [go_sem, simprocAttr, -Int.reducePow, DD, hPA, oI, Option.isSome]
  refine callK_q annuluslaw15_of.call (q2) rfl rfl ?_
  simp -implicitDefEqProofs only [go_sem, simprocAttr, -Int.reducePow, DD, hPA, oI, Option.isSome]
  refine callK_pl count_In.call (a2) (pl4 (pld_PA 3 F) (pld_TI _ _) pld_int pld_int) ?_
  simp -implicitDefEqProofs only [go_sem, simprocAttr, -Int.reducePow, DD, hPA, oI, Option.isSome]
  refine callK_q annuluslaw15_of.call (q3) rfl rfl ?_
  simp -implicitDefEqProofs only [go_sem, simprocAttr, -Int.reducePow, DD, hPA, oI, Option.isSome]
  refine callK_ar count_In.call a3 (.cons .none (.cons (.pl (pld_TI _ _)) (.cons (.pl pld_int) (.cons (.pl pld_int) .nil)))) rfl ?_
  intro H2 _
  simp -implicitDefEqProofs only [go_sem, simprocAttr, -Int.reducePow, DD, hPA, oI, Option.isSome, Int.natCast_one, Int.natCast_zero]
  refine callK_q annuluslaw15_of.call (q2) rfl rfl ?_
  simp -implicitDefEqProofs only [go_sem, simprocAttr, -Int.reducePow, DD, hPA, oI, Option.isSome, Int.natCast_one, Int.natCast_zero]
  refine callK_pl count_None.call (n2) (pl4 (pld_PA 3 F) (pld_TI _ _) pld_int pld_int) ?_
  simp -implicitDefEqProofs only [go_sem, simprocAttr, -Int.reducePow, DD, hPA, oI, Option.isSome, Int.natCast_one, Int.natCast_zero]
  refine callK_q annuluslaw15_of.call (q1) rfl rfl ?_
  simp -implicitDefEqProofs only [go_sem, simprocAttr, -Int.reducePow, DD, hPA, oI, Option.isSome, Int.natCast_one, Int.natCast_zero]
  refine callK_pl count_None.call (n1) (pl4 (pld_PA 3 F) (pld_TI _ _) pld_int pld_int) ?_
  simp -implicitDefEqProofs only [go_sem, simprocAttr, -Int.reducePow, DD, hPA, oI, Option.isSome, Int.natCast_one, Int.natCast_zero]
  refine callK_q annuluslaw15_of.call (q4) rfl rfl ?_
  simp -implicitDefEqProofs only [go_sem, simprocAttr, -Int.reducePow, DD, hPA, oI, Option.isSome, Int.natCast_one, Int.natCast_zero]
  refine callK_pl count_Unit.call (un) (pl2 (pld_PA 3 F) (pld_TI _ _)) ?_
  simp -implicitDefEqProofs only [go_sem, simprocAttr, -Int.reducePow, DD, hPA, oI, Option.isSome, Int.natCast_one, Int.natCast_zero]
end Go.Ab

set_option linter.unusedVariables false
set_option maxRecDepth 20000
set_option linter.unusedSimpArgs false
set_option linter.unusedSectionVars false
namespace Go.Ab
open Go.Proofs
open Cx (zero one)
attribute [-go_sem] appF newsF
variable {a b : AV} {z w c : Cx} {B C n m d P M D : Nat} {cs ds : List AV} {f g : Po} {r x : Dyadic}
/-! the law of what is told of counts -/
abbrev RawT.sm (t : RawT) : Prop := t.c.sm ∧ (t.p.length ≤ 3 ∧ -200 ≤ t.q ∧ t.q ≤ 200)
theorem tmod_nat (a b : Nat) : ((a : Int)).tmod (b : Int) = ((a % b : Nat) : Int) := by rw [Int.natCast_emod]; exact Int.tmod_eq_emod_of_nonneg (by omega)
end Go.Ab

set_option linter.unusedVariables false
set_option maxRecDepth 20000
set_option linter.unusedSimpArgs false
set_option linter.unusedSectionVars false
namespace Go.Ab
open Go.Proofs
open Cx (zero one)
attribute [-go_sem] appF newsF
variable {a b : AV} {z w c : Cx} {B C n m d P M D : Nat} {cs ds : List AV} {f g s : Po} {r x y : Dyadic}
/-! the law of the unit circle's polynomial: plain -/
theorem tms_tms (z : Cx) (x y : Dyadic) : tms (tms z x) y = tms z (x * y) := Cx.ext' (show z.re * x * y = z.re * (x * y) by grind) (show z.im * x * y = z.im * (x * y) by grind)
theorem tms_add (z w : Cx) (x : Dyadic) : tms z x + tms w x = tms (z + w) x := Cx.ext' (show z.re * x + w.re * x = (z.re + w.re) * x by grind) (show z.im * x + w.im * x = (z.im + w.im) * x by grind)
theorem tms_zero (x : Dyadic) : tms zero x = zero := Cx.ext' (show (0 : Dyadic) * x = 0 by grind) (show (0 : Dyadic) * x = 0 by grind)
/-- Horner's, from the top, scaled -/
def hnr (n : Nat) (s : Po) (r : Dyadic) (z : Cx) (j : Nat) : Cx := tms (ev j (dp (n + 1 - j) s) z) (rk r n)
theorem rk_ne (h : r ≠ 0) : ∀ k, rk r k ≠ 0
  | 0 => by show dv 1 0 ≠ 0; decide
  | k + 1 => mul_ne (rk_ne h k) h
theorem tms_ne (hz : z ≠ zero) (hx : x ≠ 0) : tms z x ≠ zero := fun e => by
  have e1 : z.re * x = 0 := congrArg Cx.re e
  have e2 : z.im * x = 0 := congrArg Cx.im e
  apply hz
  refine Cx.ext' ?_ ?_
  · by_cases q : z.re = 0
    · exact q
    · exact absurd e1 (mul_ne q hx)
  · by_cases q : z.im = 0
    · exact q
    · exact absurd e2 (mul_ne q hx)
theorem uni_top (p : Nat → Cx) (n : Nat) (c : Cx) (h : r ≠ 0) : dg (n + 1) (uni (n + 1) (frm p n) c r) = n + 1 := by
  rw [dgS, if_neg ?_]
  unfold uni
  rw [shf_top, frm_top]
  exact tms_ne (fun e => absurd (congrArg Cx.re e) (by decide)) (rk_ne h n)
end Go.Ab

set_option linter.unusedVariables false
set_option maxRecDepth 20000
set_option linter.unusedSimpArgs false
set_option linter.unusedSectionVars false
namespace Go.Ab
open Go.Proofs
open Cx (zero one)
attribute [-go_sem] appF newsF
variable {z w c : Cx} {B C n m d P M D : Nat} {f g s : Po} {r x y : Dyadic}
/-! what is sure of counts: plain -/
def scf (r : Dyadic) (f : Po) : Po := fun k => tms (f k) (rk r k)
def ts (f : Po) (x : Dyadic) : Po := fun k => tms (f k) x
theorem mul_tms (w z : Cx) (x : Dyadic) : w * tms z x = tms (w * z) x := Cx.ext' (show w.re * (z.re * x) - w.im * (z.im * x) = (w.re * z.re - w.im * z.im) * x by grind) (show w.re * (z.im * x) + w.im * (z.re * x) = (w.re * z.im + w.im * z.re) * x by grind)
theorem tms_1 (z : Cx) : tms z (dv 1 0) = z := by
  have e : dv 1 0 = 1 := by decide
  rw [e]
  exact Cx.ext' (show z.re * 1 = z.re by grind) (show z.im * 1 = z.im by grind)
theorem uni_scf (p : Nat → Cx) (n : Nat) (c : Cx) (r : Dyadic) : uni (n + 1) (frm p n) c r = scf r (frm (fun i => p i - c) n) := by
  unfold uni scf
  rw [shf_frm]
/-! over rational points -/
def scR (u : Rc) (t : Rat) : Rc := ⟨u.re * t, u.im * t⟩
theorem nq_scR (u : Rc) (t : Rat) : Rc.nq (scR u t) = Rc.nq u * (t * t) := by unfold Rc.nq scR; grind
theorem toRc_tms (z : Cx) (x : Dyadic) : toRc (tms z x) = scR (toRc z) x.toRat := Rc.cring (Dyadic.toRat_mul _ _) (Dyadic.toRat_mul _ _)
theorem rk_rat (r : Dyadic) : ∀ k, (rk r k).toRat = Rc.pw r.toRat k
  | 0 => by show (dv 1 0).toRat = 1; rw [dv_rat, Rat.zpow_zero, Rat.mul_one]; rfl
  | k + 1 => by
    show (rk r k * r).toRat = r.toRat * Rc.pw r.toRat k
    rw [Dyadic.toRat_mul, rk_rat r k]; grind
theorem facs_scR {t ρ : Rat} (h : t * ρ = 1) : ∀ (L : List Rc) (j : Nat), scR (Rc.facs ((L.map (fun u => scR u t)).map Rc.rf) Rc.d0 j) (Rc.pw ρ L.length) = scR (Rc.facs (L.map Rc.rf) Rc.d0 j) (Rc.pw ρ j)
  | [], j => by
    cases j with
    | zero => rfl
    | succ j =>
      show scR Rc.zero _ = scR Rc.zero _
      refine Rc.cring ?_ ?_ <;> simp only [scR, Rc.zero_re, Rc.zero_im] <;> grind
  | u :: L, j => by
    have ih := facs_scR h L
    show scR (Rc.fac (Rc.rf (scR u t)) (Rc.facs ((L.map (fun u => scR u t)).map Rc.rf) Rc.d0) j) (ρ * Rc.pw ρ L.length) = scR (Rc.fac (Rc.rf u) (Rc.facs (L.map Rc.rf) Rc.d0) j) (Rc.pw ρ j)
    generalize Rc.facs ((L.map (fun u => scR u t)).map Rc.rf) Rc.d0 = A at *
    generalize Rc.facs (L.map Rc.rf) Rc.d0 = E at *
    cases j with
    | zero =>
      have i0 := ih 0
      have x := congrArg Rc.re i0
      have m := congrArg Rc.im i0
      show scR (Rc.neg (scR u t) * A 0) (ρ * Rc.pw ρ L.length) = scR (Rc.neg u * E 0) (Rc.pw ρ 0)
      refine Rc.cring ?_ ?_ <;> simp only [scR, Rc.neg, Rc.mul_re, Rc.mul_im, Rc.pw] at * <;> grind
    | succ j =>
      have i0 := ih (j + 1)
      have i1 := ih j
      have x := congrArg Rc.re i0
      have m := congrArg Rc.im i0
      have x1 := congrArg Rc.re i1
      have m1 := congrArg Rc.im i1
      show scR (Rc.neg (scR u t) * A (j + 1) + Rc.one * A j) (ρ * Rc.pw ρ L.length) = scR (Rc.neg u * E (j + 1) + Rc.one * E j) (ρ * Rc.pw ρ j)
      refine Rc.cring ?_ ?_ <;> simp only [scR, Rc.neg, Rc.mul_re, Rc.mul_im, Rc.add_re, Rc.add_im, Rc.one_re, Rc.one_im, Rc.pw] at * <;> grind
theorem usum_sc (U : Nat → Rat) (k : Nat) (t : Rat) : ∀ N, Rc.usum (fun j => U j * t) k N = Rc.usum U k N * t
  | 0 => by show (0 : Rat) = 0 * t; grind
  | N + 1 => by
    have ih := usum_sc U k t N
    show (if N = k then Rc.usum (fun j => U j * t) k N else Rc.usum (fun j => U j * t) k N + U N * t) = (if N = k then Rc.usum U k N else Rc.usum U k N + U N) * t
    rw [ih]
    split
    · rfl
    · grind
theorem pw_pos {q : Rat} (h : 0 < q) : ∀ k, 0 < Rc.pw q k
  | 0 => by unfold Rc.pw; grind
  | k + 1 => Rat.mul_pos h (pw_pos h k)
theorem sq4 (a T : Rat) : a * a * (T * T) = (a * T) * (a * T) := by grind
theorem lt_sc {A u v : Rat} (e : u * v = 1) (hu : 0 < u) (hv : 0 < v) : A * u < 1 ↔ A < v := by
  constructor
  · intro g
    have h := Rat.mul_pos (show 0 < 1 - A * u by grind) hv
    have h2 : (1 - A * u) * v = v - A * (u * v) := by grind
    rw [h2, e] at h
    grind
  · intro g
    have h := Rat.mul_pos (show 0 < v - A by grind) hu
    have h2 : (v - A) * u = u * v - A * u := by grind
    rw [h2, e] at h
    grind
/-- a sure yes of a scaled product -/
theorem sure2 (q : Nat → Cx) (n : Nat) (hr : 0 < r.toRat) (hP : 1 ≤ P) (k : Nat) (hk : k ≤ n) (h : tYes (scf r (frm q n)) (n + 1) k P) :
    ((rsl q n).filter (fun x => decide (Rc.nq x < r.toRat * r.toRat))).length = k ∧ ∀ x ∈ rsl q n, Rc.nq x ≠ r.toRat * r.toRat := by
  unfold tYes at h
  have h1 := (dsg_rat _).2.1 h
  rw [sub_rat, osum_rat] at h1
  obtain ⟨t, ht⟩ : ∃ t : Rat, t * r.toRat = 1 := ⟨r.toRat⁻¹, Rat.inv_mul_cancel _ (by grind)⟩
  have tp : 0 < t := by
    rcases (Rat.le_total : t ≤ 0 ∨ 0 ≤ t) with g | g
    · have := Rat.mul_nonneg (show 0 ≤ -t by grind) (Rat.le_of_lt hr)
      grind
    · refine Rat.lt_of_le_of_ne g fun e => ?_
      rw [← e] at ht; grind
  have S0 := pw_pos hr n
  obtain ⟨T, hT⟩ : ∃ T : Rat, T * Rc.pw r.toRat n = 1 := ⟨(Rc.pw r.toRat n)⁻¹, Rat.inv_mul_cancel _ (by grind)⟩
  have Tp : 0 < T := by
    rcases (Rat.le_total : T ≤ 0 ∨ 0 ≤ T) with g | g
    · have := Rat.mul_nonneg (show 0 ≤ -T by grind) (Rat.le_of_lt S0)
      grind
    · refine Rat.lt_of_le_of_ne g fun e => ?_
      rw [← e] at hT; grind
  have hlen : ((rsl q n).map (fun u => scR u t)).length = n := by rw [List.length_map, rsl_len]
  have co : ∀ j, Rc.nq (Rc.facs (((rsl q n).map (fun u => scR u t)).map Rc.rf) Rc.d0 j) = Rc.nq (toRc (scf r (frm q n) j)) * (T * T) := fun j => by
    have e := facs_scR ht (rsl q n) j
    rw [rsl_len, frm_facs, ← rk_rat r j, ← toRc_tms] at e
    have e2 := congrArg Rc.nq e
    rw [nq_scR] at e2
    rw [show scf r (frm q n) j = tms (frm q n j) (rk r j) from rfl, ← e2]
    have : Rc.pw r.toRat n * Rc.pw r.toRat n * (T * T) = 1 := by
      have : Rc.pw r.toRat n * Rc.pw r.toRat n * (T * T) = (T * Rc.pw r.toRat n) * (T * Rc.pw r.toRat n) := by grind
      rw [this, hT]; grind
    generalize Rc.nq _ = Z at *
    grind
  have pc := Rc.pellet_count ((rsl q n).map (fun u => scR u t)) (U := fun j => (far (scf r (frm q n) j) P true).toRat * T) (K := (far (scf r (frm q n) k) P false).toRat * T) (k := k)
    (fun j => Rat.mul_nonneg (far_rat _ hP).1 (Rat.le_of_lt Tp)) (fun j => ?_) (by rw [hlen]; exact hk) ?_ ?_
  · obtain ⟨p1, p2⟩ := pc
    have tt : ∀ x : Rc, Rc.nq (scR x t) = Rc.nq x * (t * t) := fun x => nq_scR x t
    have e1 : (t * t) * (r.toRat * r.toRat) = 1 := by
      have : (t * t) * (r.toRat * r.toRat) = (t * r.toRat) * (t * r.toRat) := by grind
      rw [this, ht]; grind
    have key : ∀ A : Rat, A * (t * t) < 1 ↔ A < r.toRat * r.toRat := fun A => lt_sc e1 (Rat.mul_pos tp tp) (Rat.mul_pos hr hr)
    refine ⟨?_, fun x hx e => ?_⟩
    · rw [← p1, List.filter_map, List.length_map]
      congr 1
      refine List.filter_congr (fun x _ => ?_)
      show decide (Rc.nq x < _) = decide (Rc.nq (scR x t) < 1)
      rw [tt]
      exact decide_eq_decide.2 (key _).symm
    · refine p2 (scR x t) (List.mem_map_of_mem hx) ?_
      rw [tt, e]
      have : r.toRat * r.toRat * (t * t) = (t * r.toRat) * (t * r.toRat) := by grind
      rw [this, ht]; grind
  · rw [co]
    have := (far_rat (scf r (frm q n) j) hP).2.1
    have := Rc.mul_le2 (Rc.nq_nn _) (Rat.mul_nonneg (Rat.le_of_lt Tp) (Rat.le_of_lt Tp)) this (Rat.le_refl)
    rw [sq4] at this; exact this
  · rw [hlen, usum_sc]
    have := Rat.mul_pos (show 0 < (far (scf r (frm q n) k) P false).toRat - Rc.usum (fun j => (far (scf r (frm q n) j) P true).toRat) k (n + 1) by grind) Tp
    grind
  · rw [co]
    have := (far_rat (scf r (frm q n) k) hP).2.2
    have := Rc.mul_le2 (Rc.sq_nn _) (Rat.mul_nonneg (Rat.le_of_lt Tp) (Rat.le_of_lt Tp)) this (Rat.le_refl)
    rw [sq4] at this; exact this
end Go.Ab

set_option linter.unusedVariables false
set_option maxRecDepth 20000
set_option linter.unusedSimpArgs false
set_option linter.unusedSectionVars false
namespace Go.Ab
open Go.Proofs
open Cx (zero one)
attribute [-go_sem] appF newsF
variable {z w c : Cx} {B C n m d P M D : Nat} {f g s : Po} {r x y : Dyadic}
/-! roots near and far: plain -/
theorem far_two (z : Cx) (hP : 1 ≤ P) : (far z P true).toRat ≤ 2 * (far z P false).toRat := by
  unfold far
  by_cases hx : dnum (nrm z) ≤ 0
  · rw [droot_0 hx, droot_0 hx, Dyadic.toRat_zero]; grind
  · obtain ⟨r, A, k, e, h1, _, _, h4⟩ := droot_form (Int.not_le.1 hx) hP
    have f0 : (if false = true ∧ ¬ (A % 2 ^ k = 0 ∧ r * r = A / 2 ^ k) then (1 : Int) else 0) = 0 := if_neg (fun g => by cases g.1)
    have f1 : (if true = true ∧ ¬ (A % 2 ^ k = 0 ∧ r * r = A / 2 ^ k) then (1 : Int) else 0) ≤ 1 := by split <;> omega
    rw [h4 true, h4 false, f0]
    generalize (if true = true ∧ ¬ (A % 2 ^ k = 0 ∧ r * r = A / 2 ^ k) then (1 : Int) else 0) = t at *
    rw [dv_rat, dv_rat]
    have hr : r ≠ 0 := fun e => by rw [e, bl_zero] at h1; omega
    have e0 := two_pos e
    have h5 : (1 : Rat) ≤ ((r : Int) : Rat) := by
      have : (1 : Int) ≤ (r : Int) := by omega
      exact_mod_cast this
    have h6 : ∀ t : Int, t ≤ 1 → (((r : Int) + t : Int) : Rat) ≤ 2 * (((r : Int) + 0 : Int) : Rat) := fun t ht => by
      have : ((t : Int) : Rat) ≤ 1 := by exact_mod_cast ht
      push_cast
      push_cast at h5
      grind
    have key : ∀ t : Int, t ≤ 1 → (((r : Int) + t : Int) : Rat) * 2 ^ e ≤ 2 * ((((r : Int) + 0 : Int) : Rat) * 2 ^ e) := fun t ht => by
      have := Rat.mul_le_mul_of_nonneg_right (h6 t ht) (Rat.le_of_lt e0)
      grind
    exact key t f1
namespace Rc
/-- one at a place -/
def dl (k j : Nat) : Rc := if j = k then one else zero
def dq (k j : Nat) : Rat := if j = k then 1 else 0
def sq (e : Nat → Rat) : Nat → Rat := fun l => match l with | 0 => 0 | l + 1 => e l
theorem dq_nn (k j : Nat) : 0 ≤ dq k j := by unfold dq; split <;> decide
theorem nq_dl (k j : Nat) : nq (dl k j) ≤ dq k j * dq k j := by
  unfold dl dq
  split
  · rw [nq_one]; grind
  · rw [nq_zero]; grind
theorem tot_nn {e : Nat → Rat} (h : ∀ j, 0 ≤ e j) : ∀ M, 0 ≤ tot e M
  | 0 => by unfold tot; exact Rat.le_refl
  | M + 1 => by unfold tot; exact Rat.add_nonneg (tot_nn h M) (h M)
theorem tot_dq (k : Nat) : ∀ M, tot (dq k) M ≤ (if k < M then 1 else 0)
  | 0 => by unfold tot; rw [if_neg (by omega)]; exact Rat.le_refl
  | M + 1 => by
    have ih := tot_dq k M
    show tot (dq k) M + dq k M ≤ _
    rw [show dq k M = if M = k then 1 else 0 from rfl]
    by_cases h : M = k
    · rw [if_pos h, if_pos (by omega)]
      rw [if_neg (by omega)] at ih
      grind
    · rw [if_neg h]
      by_cases h2 : k < M
      · rw [if_pos h2] at ih; rw [if_pos (by omega)]; grind
      · rw [if_neg h2] at ih; rw [if_neg (by omega)]; grind
theorem tot_dq1 (k M : Nat) : tot (dq k) M ≤ 1 := by
  have := tot_dq k M
  split at this <;> grind
theorem tot_sq {e : Nat → Rat} (h : ∀ j, 0 ≤ e j) : ∀ M, tot (sq e) M ≤ tot e M
  | 0 => Rat.le_refl
  | M + 1 => by
    rw [tot_succ]
    show 0 + tot e M ≤ tot e M + e M
    have := h M
    grind
theorem tot_lin (a b : Nat → Rat) (t : Rat) : ∀ M, tot (fun j => a j + t * b j) M = tot a M + t * tot b M
  | 0 => by unfold tot; grind
  | M + 1 => by
    have ih := tot_lin a b t M
    show tot (fun j => a j + t * b j) M + (a M + t * b M) = tot a M + a M + t * (tot b M + b M)
    rw [ih]; grind
theorem tot_add (a b : Nat → Rat) : ∀ M, tot (fun j => a j + b j) M = tot a M + tot b M
  | 0 => by unfold tot; grind
  | M + 1 => by
    have ih := tot_add a b M
    show tot (fun j => a j + b j) M + (a M + b M) = tot a M + a M + (tot b M + b M)
    rw [ih]; grind
/-- almost one power -/
def Inv (H : Nat → Rc) (k : Nat) (s : Rat) : Prop := ∃ (G : Rc) (g : Nat → Rc) (e : Nat → Rat), (∀ j, H j = G * g j) ∧ 0 < nq G ∧ (∀ j, 0 ≤ e j) ∧ (∀ j, nq (g j + neg (dl k j)) ≤ e j * e j) ∧ (∀ M, tot e M ≤ s)
theorem add_neg (x : Rc) : x + neg x = zero := cring (by simp only [add_re, neg, zero_re]; grind) (by simp only [add_im, neg, zero_im]; grind)
theorem nq_g {g e : Nat → Rat} {G : Nat → Rc} {k j : Nat} (h : 0 ≤ e j) (q : nq (G j + neg (dl k j)) ≤ e j * e j) : nq (G j) ≤ (e j + dq k j) * (e j + dq k j) := by
  have := nq_add h (dq_nn k j) q (nq_dl k j)
  have e1 : G j + neg (dl k j) + dl k j = G j := cring (by simp only [add_re, neg]; grind) (by simp only [add_im, neg]; grind)
  rw [e1] at this
  exact this
theorem add3 (a b c : Rc) : a + b + c = a + c + b := cring (by simp only [add_re]; grind) (by simp only [add_im]; grind)
theorem mul_l3 (u a b : Rc) : u * (a * b) = u * a * b := cring (by simp only [mul_re, mul_im]; grind) (by simp only [mul_re, mul_im]; grind)
theorem mul_lr (u v a b : Rc) (t : Rat) (h : ∀ y, u * (v * y) = scR y t) : scR (a * b) t = u * a * (v * b) := by
  rw [← h]
  refine cring ?_ ?_ <;> simp only [mul_re, mul_im] <;> grind
theorem mul_d (a b c : Rc) : a * (b + c) = a * b + a * c := cring (by simp only [mul_re, add_re, add_im]; grind) (by simp only [mul_im, add_re, add_im]; grind)
theorem inv_near {H H' : Nat → Rc} {k : Nat} {s t ρ η : Rat} {u : Rc} (h : Inv H k s) (hρ : 0 < ρ) (ht : t * ρ = 1) (hη : 0 ≤ η) (hu : nq (scR u t) ≤ η * η) (h0 : H' 0 = neg u * H 0) (hS : ∀ j, H' (j + 1) = scR (H j) ρ + neg u * H (j + 1)) :
    Inv H' (k + 1) (s + η * (s + 1)) := by
  obtain ⟨G, g, e, h1, h2, h3, h4, h5⟩ := h
  refine ⟨scR G ρ, fun j => up1 g j + neg (scR u t) * g j, fun j => sq e j + η * (e j + dq k j), fun j => ?_, ?_, fun j => ?_, fun j => ?_, fun M => ?_⟩
  · cases j with
    | zero =>
      rw [h0, h1]
      show neg u * (G * g 0) = scR G ρ * (zero + neg (scR u t) * g 0)
      rw [z_add]
      refine cring ?_ ?_ <;> simp only [scR, neg, mul_re, mul_im] <;> grind
    | succ j =>
      rw [hS, h1, h1]
      show scR (G * g j) ρ + neg u * (G * g (j + 1)) = scR G ρ * (g j + neg (scR u t) * g (j + 1))
      refine cring ?_ ?_ <;> simp only [scR, neg, mul_re, mul_im, add_re, add_im] <;> grind
  · rw [nq_scR]; exact Rat.mul_pos h2 (Rat.mul_pos hρ hρ)
  · refine Rat.add_nonneg ?_ (Rat.mul_nonneg hη (Rat.add_nonneg (h3 j) (dq_nn k j)))
    cases j with
    | zero => exact Rat.le_refl
    | succ j => exact h3 j
  · have hg := nq_g (g := e) (h3 j) (h4 j)
    have hm : nq (neg (scR u t) * g j) ≤ (η * (e j + dq k j)) * (η * (e j + dq k j)) := by
      rw [nq_mul, nq_neg, ← sq4]
      exact mul_le2 (nq_nn _) (nq_nn _) hu hg
    have hA : nq (up1 g j + neg (dl (k + 1) j)) ≤ sq e j * sq e j := by
      cases j with
      | zero =>
        have : up1 g 0 + neg (dl (k + 1) 0) = zero := by
          show zero + neg (if 0 = k + 1 then one else zero) = zero
          rw [if_neg (by omega)]; exact add_neg zero
        rw [this, nq_zero]; show (0 : Rat) ≤ 0 * 0; grind
      | succ j =>
        have : dl (k + 1) (j + 1) = dl k j := by
          unfold dl
          by_cases q : j = k
          · rw [if_pos q, if_pos (by omega)]
          · rw [if_neg q, if_neg (by omega)]
        rw [this]
        exact h4 j
    have sqn : 0 ≤ sq e j := by
      cases j with
      | zero => exact Rat.le_refl
      | succ j => exact h3 j
    have := nq_add sqn (Rat.mul_nonneg hη (Rat.add_nonneg (h3 j) (dq_nn k j))) hA hm
    rw [add3]
    exact this
  · rw [tot_lin, tot_add]
    have a1 := tot_sq h3 M
    have a2 := h5 M
    have a3 := tot_dq1 k M
    have := Rat.mul_le_mul_of_nonneg_left (show tot e M + tot (dq k) M ≤ s + 1 by grind) hη
    grind
set_option maxHeartbeats 1000000 in
theorem inv_far {H H' : Nat → Rc} {k : Nat} {s ρ η : Rat} {u : Rc} (h : Inv H k s) (hρ : 0 < ρ) (hη : 0 ≤ η) (hu : ρ * ρ ≤ η * η * nq u) (h0 : H' 0 = neg u * H 0) (hS : ∀ j, H' (j + 1) = scR (H j) ρ + neg u * H (j + 1)) :
    Inv H' k (s + η * (s + 1)) := by
  obtain ⟨G, g, e, h1, h2, h3, h4, h5⟩ := h
  have up : 0 < nq u := by
    have a := Rat.mul_pos hρ hρ
    refine Rat.lt_of_le_of_ne (nq_nn _) fun q => ?_
    rw [← q] at hu; grind
  have hun : nq (neg u) ≠ 0 := by rw [nq_neg]; grind
  obtain ⟨v, hv⟩ : ∃ v, v = scR (inv (neg u)) ρ := ⟨_, rfl⟩
  have hmi : ∀ y, neg u * (v * y) = scR y ρ := fun y => by
    have e1 : neg u * (v * y) = scR (neg u * (inv (neg u) * y)) ρ := by
      rw [hv]
      refine cring ?_ ?_ <;> simp only [scR, neg, mul_re, mul_im] <;> grind
    rw [e1, mul_inv hun]
  have hvn : nq v ≤ η * η := by
    have i1 := nq_inv hun
    rw [nq_neg] at i1
    have i2 : nq v = nq (inv (neg u)) * (ρ * ρ) := by rw [hv, nq_scR]
    have i3 := Rat.mul_le_mul_of_nonneg_left hu (nq_nn (inv (neg u)))
    rw [i2]
    have i4 : nq (inv (neg u)) * (η * η * nq u) = η * η * (nq (inv (neg u)) * nq u) := by grind
    rw [i4, i1] at i3
    grind
  refine ⟨neg u * G, fun j => g j + v * up1 g j, fun j => e j + η * (sq e j + dq (k + 1) j), fun j => ?_, ?_, fun j => ?_, fun j => ?_, fun M => ?_⟩
  · cases j with
    | zero =>
      rw [h0, h1]
      show neg u * (G * g 0) = neg u * G * (g 0 + v * zero)
      rw [mul_z, add_z, mul_l3]
    | succ j =>
      rw [hS, h1, h1]
      show scR (G * g j) ρ + neg u * (G * g (j + 1)) = neg u * G * (g (j + 1) + v * g j)
      rw [mul_lr (neg u) v G (g j) ρ hmi, mul_l3 (neg u) G (g (j + 1)), mul_d]
      exact add_c _ _
  · rw [nq_mul, nq_neg]; exact Rat.mul_pos up h2
  · refine Rat.add_nonneg (h3 j) (Rat.mul_nonneg hη (Rat.add_nonneg ?_ (dq_nn _ j)))
    cases j with
    | zero => exact Rat.le_refl
    | succ j => exact h3 j
  · have sqn : 0 ≤ sq e j := by
      cases j with
      | zero => exact Rat.le_refl
      | succ j => exact h3 j
    have hg : nq (up1 g j) ≤ (sq e j + dq (k + 1) j) * (sq e j + dq (k + 1) j) := by
      cases j with
      | zero =>
        show nq zero ≤ _
        rw [nq_zero]
        exact sq_nn _
      | succ j =>
        have : dq (k + 1) (j + 1) = dq k j := by
          unfold dq
          by_cases q : j = k
          · rw [if_pos q, if_pos (by omega)]
          · rw [if_neg q, if_neg (by omega)]
        rw [this]
        exact nq_g (g := e) (h3 j) (h4 j)
    have hm : nq (v * up1 g j) ≤ (η * (sq e j + dq (k + 1) j)) * (η * (sq e j + dq (k + 1) j)) := by
      rw [nq_mul]
      have a := mul_le2 (nq_nn v) (nq_nn (up1 g j)) hvn hg
      rw [sq4] at a
      exact a
    have := nq_add (h3 j) (Rat.mul_nonneg hη (Rat.add_nonneg sqn (dq_nn (k + 1) j))) (h4 j) hm
    rw [add3]
    exact this
  · rw [tot_lin, tot_add]
    have a1 := tot_sq h3 M
    have a2 := h5 M
    have a3 := tot_dq1 (k + 1) M
    have := Rat.mul_le_mul_of_nonneg_left (show tot (sq e) M + tot (dq (k + 1)) M ≤ s + 1 by grind) hη
    grind
theorem re_le {x : Rc} {e : Rat} (he : 0 ≤ e) (h : nq x ≤ e * e) : -e ≤ x.re := by
  have h1 : x.re * x.re ≤ e * e := by
    have := sq_nn x.im
    unfold nq at h
    grind
  have := le_of_sq (a := -x.re) he (by grind)
  grind
theorem nq_low {x : Rc} {e : Rat} (he : 0 ≤ e) (h1 : e ≤ 1) (h : nq (x + neg one) ≤ e * e) : (1 - e) * (1 - e) ≤ nq x := by
  have r := re_le he h
  have e1 : (x + neg one).re = x.re - 1 := by simp only [add_re, neg, one_re]; grind
  rw [e1] at r
  have m := mul_le2 (show 0 ≤ 1 - e by grind) (show 0 ≤ 1 - e by grind) (show 1 - e ≤ x.re by grind) (show 1 - e ≤ x.re by grind)
  have := sq_nn x.im
  unfold nq
  grind
theorem usum_le {U e : Nat → Rat} {c Q : Rat} {k : Nat} (hQ : 0 ≤ Q) (he : ∀ j, 0 ≤ e j) (h : ∀ j, j ≠ k → c * U j ≤ Q * e j) : ∀ N, c * usum U k N ≤ Q * tot e N
  | 0 => by unfold usum tot; grind
  | N + 1 => by
    have ih := usum_le hQ he h N
    show c * (if N = k then usum U k N else usum U k N + U N) ≤ Q * (tot e N + e N)
    have := Rat.mul_nonneg hQ (he N)
    split
    · grind
    · have := h N (by assumption)
      grind
theorem inv_yes {H : Nat → Rc} {k : Nat} {s : Rat} (h : Inv H k s) (h5 : 5 * s < 1) {U V : Nat → Rat} (hU : ∀ j, 0 ≤ U j) (h1 : ∀ j, nq (H j) ≤ U j * U j) (h2 : ∀ j, V j * V j ≤ nq (H j)) (h3 : ∀ j, U j ≤ 2 * V j) (N : Nat) : usum U k N < V k := by
  obtain ⟨G, g, e, g1, g2, g3, g4, g5⟩ := h
  have he : e k ≤ s := by
    have a1 := g5 (k + 1)
    have a2 := tot_nn g3 k
    have a3 : tot e (k + 1) = tot e k + e k := rfl
    grind
  obtain ⟨c, hc⟩ : ∃ c, c = 1 - e k := ⟨_, rfl⟩
  have he0 := g3 k
  have c0 : 0 < c := by grind
  have lo : c * c ≤ nq (g k) := by
    rw [hc]
    refine nq_low he0 (by grind) ?_
    have := g4 k
    unfold dl at this
    rw [if_pos rfl] at this
    exact this
  have Vn : ∀ j, 0 ≤ V j := fun j => by have := hU j; have := h3 j; grind
  have b1 : nq G * (c * c) ≤ (2 * V k) * (2 * V k) := by
    have a1 := Rat.mul_le_mul_of_nonneg_left lo (nq_nn G)
    have a2 := h1 k
    rw [g1, nq_mul] at a2
    have a3 := mul_le2 (hU k) (hU k) (h3 k) (h3 k)
    exact Rat.le_trans a1 (Rat.le_trans a2 a3)
  have Kp : 0 < V k := by
    refine Rat.lt_of_le_of_ne (Vn k) fun q => ?_
    rw [← q] at b1
    have := Rat.mul_pos g2 (Rat.mul_pos c0 c0)
    grind
  have key : ∀ j, j ≠ k → c * U j ≤ 4 * V k * e j := fun j hj => by
    refine le_of_sq (Rat.mul_nonneg (by grind) (g3 j)) ?_
    have gj : nq (g j) ≤ e j * e j := by
      have := g4 j
      have e1 : neg (dl k j) = zero := by
        unfold dl
        rw [if_neg hj]
        exact cring (by simp only [neg, zero_re]; grind) (by simp only [neg, zero_im]; grind)
      rw [e1, add_z] at this
      exact this
    have a1 := h2 j
    rw [g1, nq_mul] at a1
    have a2 := Rat.le_trans a1 (Rat.mul_le_mul_of_nonneg_left gj (nq_nn G))
    have a3 := mul_le2 (hU j) (hU j) (h3 j) (h3 j)
    have a4 : U j * U j ≤ 4 * (nq G * (e j * e j)) := by grind
    have a5 := Rat.mul_le_mul_of_nonneg_left a4 (sq_nn c)
    have a6 := Rat.mul_le_mul_of_nonneg_right b1 (sq_nn (e j))
    grind
  have S := usum_le (U := U) (e := e) (c := c) (Q := 4 * V k) (k := k) (by grind) g3 key N
  have a1 := Rat.mul_le_mul_of_nonneg_left (g5 N) (show 0 ≤ 4 * V k by grind)
  have a2 := Rat.mul_pos Kp (show 0 < c - 4 * s by grind)
  rcases (Rat.le_total : V k ≤ usum U k N ∨ usum U k N ≤ V k) with q | q
  · have := Rat.mul_le_mul_of_nonneg_left q (Rat.le_of_lt c0)
    grind
  · refine Rat.lt_of_le_of_ne q fun q2 => ?_
    rw [q2] at S
    grind
end Rc
/-- the scaled product, as rational points -/
def Hs (r : Dyadic) (q : Nat → Cx) (n : Nat) : Nat → Rc := fun j => toRc (scf r (frm q n) j)
theorem Hs_0 (r : Dyadic) (q : Nat → Cx) (n : Nat) : Hs r q (n + 1) 0 = Rc.neg (toRc (q n)) * Hs r q n 0 := by
  show toRc (tms (frm q (n + 1) 0) (dv 1 0)) = Rc.neg (toRc (q n)) * toRc (tms (frm q n 0) (dv 1 0))
  rw [tms_1, tms_1, frmS, conv_lin, ← toRc_neg, ← toRc_mul]
  show toRc (zero + _) = _
  rw [Cx.zero_add]
theorem Hs_S (r : Dyadic) (q : Nat → Cx) (n j : Nat) : Hs r q (n + 1) (j + 1) = scR (Hs r q n j) r.toRat + Rc.neg (toRc (q n)) * Hs r q n (j + 1) := by
  show toRc (tms (frm q (n + 1) (j + 1)) (rk r j * r)) = scR (toRc (tms (frm q n j) (rk r j))) r.toRat + Rc.neg (toRc (q n)) * toRc (tms (frm q n (j + 1)) (rk r j * r))
  rw [frmS, conv_lin, ← toRc_tms, ← toRc_neg, ← toRc_mul, ← toRc_add, tms_tms, mul_tms, tms_add]
  rfl
/-- how many are near -/
def nearN (p : Nat → Bool) : Nat → Nat
  | 0 => 0
  | i + 1 => if p i = true then nearN p i + 1 else nearN p i
def eta : Nat → Rat
  | 0 => 0
  | i + 1 => eta i + 1 / 32 * (eta i + 1)
theorem far_inv (r : Dyadic) (hr : 0 < r.toRat) (q : Nat → Cx) (p : Nat → Bool) : ∀ n, (∀ i, i < n → if p i = true then 1024 * Rc.nq (toRc (q i)) ≤ r.toRat * r.toRat else 1024 * (r.toRat * r.toRat) ≤ Rc.nq (toRc (q i))) → Rc.Inv (Hs r q n) (nearN p n) (eta n)
  | 0, _ => by
    refine ⟨Rc.one, Rc.d0, fun _ => 0, fun j => ?_, by rw [Rc.nq_one]; decide, fun _ => Rat.le_refl, fun j => ?_, fun M => ?_⟩
    · rw [Rc.one_m]
      unfold Hs scf
      rw [frm0]
      cases j with
      | zero => rw [show rk r 0 = dv 1 0 from rfl, tms_1]; rfl
      | succ j =>
        show toRc (tms zero _) = Rc.zero
        rw [tms_zero]
        exact toRc_zero
    · have e : Rc.d0 j + Rc.neg (Rc.dl 0 j) = Rc.zero := by
        cases j with
        | zero => exact Rc.add_neg Rc.one
        | succ j => exact Rc.add_neg Rc.zero
      show Rc.nq (Rc.d0 j + Rc.neg (Rc.dl 0 j)) ≤ 0 * 0
      rw [e, Rc.nq_zero]; grind
    · have : ∀ M, Rc.tot (fun _ => (0 : Rat)) M = 0 := fun M => by
        induction M with
        | zero => rfl
        | succ M ih => show Rc.tot _ M + 0 = 0; rw [ih]; grind
      rw [this]; exact Rat.le_refl
  | n + 1, h => by
    have ih := far_inv r hr q p n (fun i hi => h i (by omega))
    have hn := h n (by omega)
    obtain ⟨t, ht⟩ : ∃ t : Rat, t * r.toRat = 1 := ⟨r.toRat⁻¹, Rat.inv_mul_cancel _ (by grind)⟩
    unfold nearN eta
    by_cases hp : p n = true
    · rw [if_pos hp] at hn ⊢
      refine Rc.inv_near ih hr ht (by grind) ?_ (Hs_0 r q n) (Hs_S r q n)
      rw [nq_scR]
      have a1 := Rat.mul_le_mul_of_nonneg_right hn (Rc.sq_nn t)
      have a2 : r.toRat * r.toRat * (t * t) = (t * r.toRat) * (t * r.toRat) := by grind
      rw [a2, ht] at a1
      grind
    · rw [if_neg hp] at hn ⊢
      refine Rc.inv_far ih hr (by grind) ?_ (Hs_0 r q n) (Hs_S r q n)
      grind
/-- near and far ones are told for sure -/
theorem far_yes (r : Dyadic) (hr : 0 < r.toRat) (q : Nat → Cx) (p : Nat → Bool) (n : Nat) (hn : n ≤ 4) (hP : 1 ≤ P) (h : ∀ i, i < n → if p i = true then 1024 * Rc.nq (toRc (q i)) ≤ r.toRat * r.toRat else 1024 * (r.toRat * r.toRat) ≤ Rc.nq (toRc (q i))) (D : Nat) :
    tYes (scf r (frm q n)) D (nearN p n) P := by
  have iv := far_inv r hr q p n h
  have h5 : 5 * eta n < 1 := by
    match n, hn with
    | 0, _ => simp only [eta]; grind
    | 1, _ => simp only [eta]; grind
    | 2, _ => simp only [eta]; grind
    | 3, _ => simp only [eta]; grind
    | 4, _ => simp only [eta]; grind
  have := Rc.inv_yes iv h5 (U := fun j => (far (scf r (frm q n) j) P true).toRat) (V := fun j => (far (scf r (frm q n) j) P false).toRat) (fun j => (far_rat _ hP).1) (fun j => (far_rat _ hP).2.1) (fun j => (far_rat _ hP).2.2) (fun j => far_two _ hP) D
  unfold tYes
  refine (dsg_rat _).2.2 ?_
  rw [sub_rat, osum_rat]
  grind
end Go.Ab

set_option linter.unusedVariables false
set_option maxRecDepth 20000
set_option linter.unusedSimpArgs false
set_option linter.unusedSectionVars false
namespace Go.Ab
open Go.Proofs
open Cx (zero one)
attribute [-go_sem] appF newsF
variable {a b : AV} {z w c : Cx} {B C n m d P M D : Nat} {cs ds : List AV} {f g : Po} {r x : Dyadic}
/-! the law of more steps -/
end Go.Ab

set_option linter.unusedVariables false
set_option maxRecDepth 20000
set_option linter.unusedSimpArgs false
set_option linter.unusedSectionVars false
namespace Go.Ab
open Go.Proofs
open Cx (zero one)
attribute [-go_sem] appF newsF
variable {a b : AV} {z w c : Cx} {B C n m d P M D : Nat} {cs ds : List AV} {f g s : Po} {r x y : Dyadic}
/-! what is sure of counts -/
def wthP (c : Cx) (r : Dyadic) (w : Cx) : Prop := (dnum (nrm (w - c) - r * r)).sign < 0
instance (c : Cx) (r : Dyadic) (w : Cx) : Decidable (wthP c r w) := by unfold wthP; exact inferInstance
/-! sizes -/
theorem frm_cb {q : Nat → Cx} {b : Nat} (h1 : 1 ≤ b) : ∀ (n : Nat), (∀ i, i < n → CB (q i) b) → ∀ k, CB (frm q n k) ((n - k) * (b + 1) + n + 1)
  | 0, _, k => by
    rw [frm0]
    match k with
    | 0 => exact CB.one (by omega)
    | _ + 1 => exact CB.zero _
  | n + 1, h, k => by
    have ih := frm_cb h1 n (fun i hi => h i (by omega))
    have add : ∀ {x y : Cx} {A : Nat}, CB x A → CB y A → CB (x + y) (A + 1) := fun h g => ⟨h.1.add g.1, h.2.add g.2⟩
    have mn : ∀ {x : Cx} {A D : Nat}, CB x A → A ≤ D → CB x D := fun h g => ⟨h.1.mono g, h.2.mono g⟩
    have hn : CB (-(q n)) b := CB.neg (h n (by omega))
    by_cases hk : n + 1 < k
    · rw [Sp.frm q (n + 1) k (by omega)]; exact CB.zero _
    · rw [frmS, conv_lin]
      have e1 : CB (-(q n) * frm q n k) ((n + 1 - k) * (b + 1) + n + 1) := by
        by_cases hk2 : n < k
        · rw [Sp.frm q n k (by omega)]
          have e3 : -(q n) * zero = zero := by apply Cx.ext' <;> simp only [Cx.mul_re, Cx.mul_im, Cx.zero_re, Cx.zero_im] <;> grind
          rw [e3]; exact CB.zero _
        · have e2 : (n + 1 - k) * (b + 1) = (n - k) * (b + 1) + (b + 1) := by rw [← Nat.succ_mul]; congr 1; omega
          exact mn (hn.mul (ih k)) (by omega)
      have e2 : CB (px (frm q n) k) ((n + 1 - k) * (b + 1) + n + 1) := by
        cases k with
        | zero => exact CB.zero _
        | succ k =>
          have := ih k
          rw [show n - k = n + 1 - (k + 1) by omega] at this
          exact this
      exact mn (add e2 e1) (by omega)
theorem scf_pb {q : Nat → Cx} {n : Nat} (h : ∀ i, i < n → CB (q i) 297) (hr : DB r 296) : PB (scf r (frm q n)) (n * 299 + 2) := fun k => by
  by_cases hk : n < k
  · have e : scf r (frm q n) k = zero := by show tms (frm q n k) _ = _; rw [Sp.frm q n k (by omega), tms_zero]
    rw [e]; exact CB.zero _
  · have h1 := tms_cb (frm_cb (by decide) n h k) (rk_db hr k)
    have e1 : (n - k) * 298 + k * 298 = n * 298 := by rw [← Nat.add_mul]; congr 1; omega
    exact ⟨h1.1.mono (by omega), h1.2.mono (by omega)⟩
/-! what is told is so -/
end Go.Ab

set_option linter.unusedVariables false
set_option maxRecDepth 20000
set_option linter.unusedSimpArgs false
set_option linter.unusedSectionVars false
namespace Go.Ab
open Go.Proofs
open Cx (zero one)
attribute [-go_sem] appF newsF
variable {a b : AV} {z w c : Cx} {B C n m d P M D : Nat} {cs ds : List AV} {f g s : Po} {r x y : Dyadic}
/-! roots near and far: the walk -/
def ucl (v : Nat → Nat) : Nat → List AV
  | 0 => []
  | n + 1 => ucl v n ++ [.v (.int .u8 (v n : Nat))]
theorem ucl_len (v : Nat → Nat) : ∀ n, (ucl v n).length = n
  | 0 => rfl
  | n + 1 => by show (ucl v n ++ _).length = _; rw [List.length_append, ucl_len v n]; rfl
theorem ucl_get (v : Nat → Nat) {i : Nat} : ∀ {n}, i < n → (ucl v n).getD i .bad = .v (.int .u8 (v i : Nat))
  | 0, h => absurd h (Nat.not_lt_zero _)
  | n + 1, h => by
    show (ucl v n ++ [AV.v (.int .u8 (v n : Nat))]).getD i .bad = _
    rw [List.getD_eq_getElem?_getD]
    by_cases e : i = n
    · subst e
      rw [List.getElem?_append_right (by rw [ucl_len]; exact Nat.le_refl _), ucl_len, Nat.sub_self]; rfl
    · have := ucl_get v (i := i) (n := n) (by omega)
      rw [List.getD_eq_getElem?_getD] at this
      rw [List.getElem?_append_left (by rw [ucl_len]; omega), this]
def fx (b : Nat) : Int := ((b % 3 : Nat) : Int) - 1
def fy (b : Nat) : Int := ((b / 4 % 3 : Nat) : Int) - 1
def fX (b : Nat) : Int := if b % 2 = 1 then (if 4000 * fx b + 4000 = 0 ∧ 4000 * fy b = 0 then 8000 else 4000 * fx b + 4000) else fx b
def fY (b : Nat) : Int := if b % 2 = 1 then 4000 * fy b else fy b
theorem fx_b (b : Nat) : (fx b = -1 ∨ fx b = 0 ∨ fx b = 1) ∧ (fy b = -1 ∨ fy b = 0 ∨ fy b = 1) := by unfold fx fy; omega
theorem fX_b (b : Nat) : (fX b).natAbs ≤ 8000 ∧ (fY b).natAbs ≤ 4000 := by
  obtain ⟨h1, h2⟩ := fx_b b
  unfold fX fY
  constructor <;> (repeat' split) <;> omega
theorem fX_near {b : Nat} (h : ¬ b % 2 = 1) : fX b * fX b + fY b * fY b ≤ 2 := by
  obtain ⟨h1, h2⟩ := fx_b b
  unfold fX fY
  rw [if_neg h, if_neg h]
  rcases h1 with e | e | e <;> rcases h2 with e2 | e2 | e2 <;> rw [e, e2] <;> decide
theorem fX_far {b : Nat} (h : b % 2 = 1) : 16000000 ≤ fX b * fX b + fY b * fY b := by
  obtain ⟨h1, h2⟩ := fx_b b
  unfold fX fY
  rw [if_pos h, if_pos h]
  rcases h1 with e | e | e <;> rcases h2 with e2 | e2 | e2 <;> rw [e, e2] <;> decide
def nr (v : Nat → Nat) (i : Nat) : Bool := decide (¬ v i % 2 = 1)
def fpt (v : Nat → Nat) (re im : Int) (i : Nat) : Cx := zI (fX (v i) + re) (fY (v i) + im)
theorem nq_zI (a b : Int) : Rc.nq (toRc (zI a b)) = ((a * a + b * b : Int) : Rat) := by
  rw [← nrm_rat, nrm_zI, dv_rat, Rat.zpow_zero, Rat.mul_one]
theorem zI_b {a b : Int} (h : a.natAbs < 10000) (g : b.natAbs < 10000) : CB (zI a b) 64 := zI_db (by omega) (by omega)
theorem fpt_cb (v : Nat → Nat) {re im : Int} (hr : re.natAbs < 200) (hi : im.natAbs < 200) (i : Nat) : CB (fpt v re im i) 64 := by
  obtain ⟨h1, h2⟩ := fX_b (v i)
  exact zI_b (by omega) (by omega)
theorem far_in (v : Nat → Nat) {re im : Int} (hr : re.natAbs < 200) (hi : im.natAbs < 200) (hn : n ≤ 4) :
    Sat CT false 14 [PA (n + 1) (frm (fpt v re im) n), TI (zI re im) (dv 64 0), I64 0, I64 60] (.tup [I64 (nearN (nr v) n : Nat), Bo true]) := by
  have hcb : ∀ i, i < n → CB (fpt v re im i) 64 := fun i _ => fpt_cb v hr hi i
  have hpb : PB (frm (fpt v re im) n) 1500 := fun i => by
    have m1 : n * (64 + 3) ≤ 4 * 67 := Nat.mul_le_mul hn (by decide)
    have := PB.frm (N := n) hcb (by decide) (Nat.le_refl n) i
    exact ⟨this.1.mono (by omega), this.2.mono (by omega)⟩
  have t0 : RT (TI (zI re im) (dv 64 0)) (zI re im) (dv 64 0) 64 64 := RT_T (zI_b (by omega) (by omega)) (dI_db (by decide))
  have t := t0.mono (show 64 ≤ 296 by decide) (show 64 ≤ 296 by decide)
  have hsp : Sp (n + 1) (frm (fpt v re im) n) := Sp.frm _ _
  have hdg := dg_frm (fpt v re im) n
  have rp' := RP_P hpb hsp (by omega)
  have er : rp (dv 64 0) = dv 64 0 := rp_I 64 (by decide)
  have h2 : ¬ (dnum (dv 64 0)).sign ≤ 0 := by rw [dnum_sign]; decide
  have r64 : (dv 64 0).toRat = 64 := by rw [dv_rat, Rat.zpow_zero, Rat.mul_one]; rfl
  have hr0 : 0 < (dv 64 0).toRat := by rw [r64]; decide
  have hne : dv 64 0 ≠ 0 := fun e => by rw [e, Dyadic.toRat_zero] at hr0; exact absurd hr0 (by decide)
  have hU : PB (uni (n + 1) (frm (fpt v re im) n) (zI re im) (rp (dv 64 0))) 1498 := fun k => by
    have m1 : n * 299 ≤ 4 * 299 := Nat.mul_le_mul_right _ hn
    rw [uni_scf]
    have := scf_pb (n := n) (q := fun i => fpt v re im i - zI re im) (fun i hi => CB.sub (CB.mono (hcb i hi) (by decide)) t.cb) (rp_db t.db) k
    exact ⟨this.1.mono (by omega), this.2.mono (by omega)⟩
  have dU : dg (n + 1) (uni (n + 1) (frm (fpt v re im) n) (zI re im) (dv 64 0)) = n + 1 := uni_top _ n _ hne
  have ci := cin_s rp' (isD_pcl _ _) (by decide) t (by decide) (by omega) 0 60 (by decide) (by rw [hdg]; omega) h2 (L := 0) (by decide) hU (show (1498 : Nat) ≤ 12045 by decide)
  rw [er, dU, show heldP 60 = 60 from rfl] at ci
  have key : anyO (uni (n + 1) (frm (fpt v re im) n) (zI re im) (dv 64 0)) (n + 1) 60 = some (nearN (nr v) n) := by
    rw [uni_scf]
    have hcond : ∀ i, i < n → if nr v i = true then 1024 * Rc.nq (toRc (fpt v re im i - zI re im)) ≤ (dv 64 0).toRat * (dv 64 0).toRat else 1024 * ((dv 64 0).toRat * (dv 64 0).toRat) ≤ Rc.nq (toRc (fpt v re im i - zI re im)) := fun i _ => by
      rw [r64, show fpt v re im i - zI re im = zI (fX (v i)) (fY (v i)) by unfold fpt; rw [zI_sub, show fX (v i) + re - re = fX (v i) by omega, show fY (v i) + im - im = fY (v i) by omega], nq_zI]
      by_cases q : v i % 2 = 1
      · rw [if_neg (show ¬ nr v i = true by unfold nr; rw [decide_eq_false (fun h => h q)]; decide)]
        have := fX_far q
        generalize fX (v i) * fX (v i) + fY (v i) * fY (v i) = S at *
        have h : ((16000000 : Int) : Rat) ≤ (S : Rat) := Rat.intCast_le_intCast.2 this
        have h3 : ((16000000 : Int) : Rat) = 16000000 := by rfl
        grind
      · rw [if_pos (show nr v i = true from decide_eq_true q)]
        have := fX_near q
        generalize fX (v i) * fX (v i) + fY (v i) * fY (v i) = S at *
        have h : (S : Rat) ≤ ((2 : Int) : Rat) := Rat.intCast_le_intCast.2 this
        have h3 : ((2 : Int) : Rat) = 2 := by rfl
        grind
    have ty := far_yes (dv 64 0) hr0 (fun i => fpt v re im i - zI re im) (nr v) n hn (P := 60) (by decide) hcond (n + 1)
    have hle : nearN (nr v) n ≤ n := by
      have : ∀ m, nearN (nr v) m ≤ m := fun m => by
        induction m with
        | zero => exact Nat.le_refl _
        | succ m ih => unfold nearN; split <;> omega
      exact this n
    have s1 := (sure2 (fun i => fpt v re im i - zI re im) n hr0 (P := 60) (by decide) _ hle ty).1
    refine anyO_eq (by omega) ((aYes_iff (by omega)).2 ty) (fun i hi g => ?_)
    have s2 := (sure2 (fun i => fpt v re im i - zI re im) n hr0 (P := 60) (by decide) i (by omega) ((aYes_iff (by omega)).1 g)).1
    omega
  rw [show inO 0 (uni (n + 1) (frm (fpt v re im) n) (zI re im) (dv 64 0)) (n + 1) 60 = some (nearN (nr v) n) from key] at ci
  exact ci
set_option maxHeartbeats 4000000 in
theorem countFar_sat (v : Nat → Nat) (hv : ∀ i, v i < 256) (re : Int) (hre : -128 ≤ re ∧ re ≤ 127) (im : Int) (him : -128 ≤ im ∧ im ≤ 127) :
    Sat CT false 5 [.sl n (ucl v n), .v (.int .i8 re), .v (.int .i8 im)] (Bo true) := by
  refine sat_of annuluslaw15_CountFar.ok (by simp) ?_
  have DD := annuluslaw15_CountFar.dr
  simp only [drP, drPx, drPt, drR, drS, drT, bodyOf, Tryz.f5, Nat.reduceEqDiff, reduceIte, true_and, and_true] at DD
  have k0 := known15_s
  by_cases c2 : (4 : Int) < (n : Int)
  · simp -implicitDefEqProofs only [go_sem, simprocAttr, -Int.reducePow, Tryz.f5, DD, c2, gt_iff_lt]
    refine callK_q annuluslaw15_known.call (k0) rfl rfl ?_
    simp -implicitDefEqProofs only [go_sem, simprocAttr, -Int.reducePow, DD, c2, gt_iff_lt]
  · have hn : n ≤ 4 := by omega
    have fin := far_in v (re := re) (im := im) (n := n) (by omega) (by omega) hn
    have w3 : IntKind.i64.wrap re = re := wrap_id (by omega)
    have w4 : IntKind.i64.wrap im = im := wrap_id (by omega)
    have of1 := of15_s re im 64 (by omega) (by omega) (by decide)
    have hul := ucl_len v n
    have fr := rfrom_s (cs := pcl n (fpt v re im)) (n := n) (B := 64) (fpt v re im) (pcl_len _ _) (fun i hi => by rw [pcl_el _ hi]; exact RC_C (fpt_cb v (by omega) (by omega) i)) (by omega) (by decide) (by omega)
    simp -implicitDefEqProofs only [go_sem, simprocAttr, -Int.reducePow, Tryz.f5, DD, c2, gt_iff_lt]
    refine callK_q annuluslaw15_known.call (k0) rfl rfl ?_
    simp -implicitDefEqProofs only [go_sem, simprocAttr, -Int.reducePow, DD, c2, gt_iff_lt]
    refine loop_of aW0_mono (fun q σ => ∃ sl H i, σ = ⟨sl, H⟩ ∧ q = n - i ∧ i ≤ n ∧ look sl 0 = .sl n (ucl v n) ∧ look sl 1 = .v (.int .i8 re) ∧ look sl 2 = .v (.int .i8 im) ∧ look sl 8 = I64 (nearN (nr v) i : Nat) ∧ look sl 9 = I64 (i : Nat) ∧ ASl 6 (look sl 7) H (pcl i (fpt v re im)) i) ?_ (n := n)
      ⟨_, _, 0, rfl, rfl, Nat.zero_le _, by simp [x_look], by simp [x_look], by simp [x_look], by simp [x_look, nearN], by simp [x_look], by simp [x_look, pcl0, ASl.nil]⟩
    rintro q _ ⟨sl, H, i, rfl, rfl, hi, l0, l1, l2, l8, l9, hA⟩
    by_cases hid : i = n
    · subst hid
      simp -implicitDefEqProofs only [go_sem, simprocAttr, -Int.reducePow, DD, l0, l1, l2, l8, l9, Int.lt_irrefl, w3, w4]
      refine callK_ar annulusref11_From.call (fr) (.cons (.row hA.rsl (snap0_pcl _ _) (isD_pcl _ _)) .nil) rfl ?_
      intro H' _
      simp -implicitDefEqProofs only [go_sem, simprocAttr, -Int.reducePow, DD, l0, l1, l2, l8, l9, w3, w4]
      refine callK_q annuluslaw15_of.call (of1) rfl rfl ?_
      simp -implicitDefEqProofs only [go_sem, simprocAttr, -Int.reducePow, DD, l0, l1, l2, l8, l9, w3, w4]
      refine callK_pl count_In.call (fin) (pl4 (pld_PA _ _) (pld_TI _ _) pld_int pld_int) ?_
      simp -implicitDefEqProofs only [go_sem, simprocAttr, -Int.reducePow, DD, l0, l1, l2, l8, l9, w3, w4]
    · have c1 : (i : Int) < (n : Int) := by omega
      have ci : IntKind.i64.wrap ((i : Int) + 1) = ((i + 1 : Nat) : Int) := by rw [wrap_id (by omega)]; omega
      have c20 : (0 : Int) ≤ (i : Int) := by omega
      have d4 : i < n := by omega
      have d5 : i + 1 ≤ n := by omega
      have hcc := ucl_get v (show i < n by omega)
      obtain ⟨b, hb⟩ : ∃ b, b = v i := ⟨_, rfl⟩
      have hb2 : b < 256 := by rw [hb]; exact hv i
      have e1 : nearN (nr v) (i + 1) = if b % 2 = 1 then nearN (nr v) i else nearN (nr v) i + 1 := by
        show (if nr v i = true then _ else _) = _
        unfold nr
        rw [← hb]
        by_cases q : b % 2 = 1
        · rw [if_pos q, decide_eq_false (fun h => h q)]; rfl
        · rw [if_neg q, decide_eq_true q]; rfl
      have e2 : fpt v re im i = zI (fX b + re) (fY b + im) := by unfold fpt; rw [← hb]
      rw [← hb] at hcc
      have hnl : nearN (nr v) i ≤ i := by
        have : ∀ m, nearN (nr v) m ≤ m := fun m => by
          induction m with
          | zero => exact Nat.le_refl _
          | succ m ih => unfold nearN; split <;> omega
        exact this i
      have t3 : (b : Int).tmod 3 = ((b % 3 : Nat) : Int) := tmod_nat _ 3
      have t2 : (b : Int).tmod 2 = ((b % 2 : Nat) : Int) := tmod_nat _ 2
      have t4 : (b : Int).tdiv 4 = ((b / 4 : Nat) : Int) := by rw [Int.tdiv_eq_ediv_of_nonneg (by omega)]; rfl
      have t5 : ((b / 4 : Nat) : Int).tmod 3 = ((b / 4 % 3 : Nat) : Int) := tmod_nat _ 3
      have u4 : IntKind.u8.wrap ((b / 4 : Nat) : Int) = ((b / 4 : Nat) : Int) := by simp [IntKind.wrap, IntKind.signed, IntKind.bits]; omega
      have u1 : IntKind.i64.wrap ((b % 3 : Nat) : Int) = ((b % 3 : Nat) : Int) := wrap_id (by omega)
      have u2 : IntKind.i64.wrap ((b / 4 % 3 : Nat) : Int) = ((b / 4 % 3 : Nat) : Int) := wrap_id (by omega)
      have u3 : IntKind.i64.wrap (((b % 3 : Nat) : Int) - 1) = fx b := by rw [wrap_id (by omega)]; rfl
      have u5 : IntKind.i64.wrap (((b / 4 % 3 : Nat) : Int) - 1) = fy b := by rw [wrap_id (by omega)]; rfl
      have fb := fx_b b
      have y1 : IntKind.i64.wrap (4000 * fx b) = 4000 * fx b := wrap_id (by omega)
      have y2 : IntKind.i64.wrap (4000 * fx b + 4000) = 4000 * fx b + 4000 := wrap_id (by omega)
      have y3 : IntKind.i64.wrap (4000 * fy b) = 4000 * fy b := wrap_id (by omega)
      have bb := fX_b b
      have o1 := rof8_sat (fX b + re) (fY b + im) (by omega) (by omega) (by omega) (by omega)
      rw [show (⟨dv (fX b + re) 0, dv (fY b + im) 0⟩ : Cx) = fpt v re im i from e2.symm] at o1
      by_cases q : b % 2 = 1
      · rw [q] at t2
        rw [if_pos q] at e1
        by_cases g1 : 4000 * fx b + 4000 = 0
        · by_cases g2 : 4000 * fy b = 0
          · have z0 : fX b = 8000 ∧ fY b = 4000 * fy b := by unfold fX fY; rw [if_pos q, if_pos q, if_pos ⟨g1, g2⟩]; exact ⟨rfl, rfl⟩
            have z1 : IntKind.i64.wrap (8000 + re) = fX b + re := by rw [z0.1, wrap_id (by omega)]
            have z2 : IntKind.i64.wrap (4000 * fy b + im) = fY b + im := by rw [z0.2, wrap_id (by omega)]
            have z3 : IntKind.i64.wrap 0 = 0 := rfl
            have g1 : (4000 * fx b + 4000 = 0) = True := eq_true g1
            have g2 : (4000 * fy b = 0) = True := eq_true g2
            simp -implicitDefEqProofs only [go_sem, simprocAttr, -Int.reducePow, DD, l0, l1, l2, l8, l9, c1, c20, d4, d5, ci, hul, hcc, w3, w4, t3, t2, t4, t5, u1, u2, u3, u4, u5, y1, y2, y3, z1, z2, z3, g1, g2]
            refine callK_pl annulusref8_Of.call (o1) (pl2 pld_int pld_int) ?_
            simp -implicitDefEqProofs only [go_sem, simprocAttr, -Int.reducePow, DD, l0, l1, l2, l8, l9, c1, c20, d4, d5, ci, hul, hcc, w3, w4, t3, t2, t4, t5, u1, u2, u3, u4, u5, y1, y2, y3, z1, z2, z3, g1, g2]
            refine app_step (P := Tryz.prog) tk22 rfl tk29 tk22 rfl rfl (by decide) (n := i) (m := 1) (hA.ext _) (.inl ⟨rfl, x_hget⟩) rfl (by decide) rfl (Nat.le_trans (Nat.mul_le_mul_right _ (show i + 1 ≤ 1000001 by omega)) (by decide)) (by omega) ?_
            intro H' hg hl' hk'
            simp -implicitDefEqProofs only [go_sem, simprocAttr, -Int.reducePow, DD, l0, l1, l2, l8, l9, c1, c20, d4, d5, ci, hul, hcc, w3, w4, t3, t2, t4, t5, u1, u2, u3, u4, u5, y1, y2, y3, z1, z2, z3, g1, g2]
            exact ⟨n - (i + 1), by omega, _, _, i + 1, rfl, rfl, by omega, by simp [x_look, l0], by simp [x_look, l1], by simp [x_look, l2], by rw [e1]; simp [x_look, l8], by simp [x_look], by simp only [x_look, reduceIte, Nat.reduceEqDiff]; exact ASl.lastP (g := fpt v re im) hg hl'⟩
          · have z0 : fX b = 4000 * fx b + 4000 ∧ fY b = 4000 * fy b := by unfold fX fY; rw [if_pos q, if_pos q, if_neg (fun h => g2 h.2)]; exact ⟨rfl, rfl⟩
            have z1 : IntKind.i64.wrap (4000 * fx b + 4000 + re) = fX b + re := by rw [z0.1, wrap_id (by omega)]
            have z2 : IntKind.i64.wrap (4000 * fy b + im) = fY b + im := by rw [z0.2, wrap_id (by omega)]
            have z3 : IntKind.i64.wrap 0 = 0 := rfl
            have g1 : (4000 * fx b + 4000 = 0) = True := eq_true g1
            simp -implicitDefEqProofs only [go_sem, simprocAttr, -Int.reducePow, DD, l0, l1, l2, l8, l9, c1, c20, d4, d5, ci, hul, hcc, w3, w4, t3, t2, t4, t5, u1, u2, u3, u4, u5, y1, y2, y3, z1, z2, z3, g1, g2]
            refine callK_pl annulusref8_Of.call (o1) (pl2 pld_int pld_int) ?_
            simp -implicitDefEqProofs only [go_sem, simprocAttr, -Int.reducePow, DD, l0, l1, l2, l8, l9, c1, c20, d4, d5, ci, hul, hcc, w3, w4, t3, t2, t4, t5, u1, u2, u3, u4, u5, y1, y2, y3, z1, z2, z3, g1, g2]
            refine app_step (P := Tryz.prog) tk22 rfl tk29 tk22 rfl rfl (by decide) (n := i) (m := 1) (hA.ext _) (.inl ⟨rfl, x_hget⟩) rfl (by decide) rfl (Nat.le_trans (Nat.mul_le_mul_right _ (show i + 1 ≤ 1000001 by omega)) (by decide)) (by omega) ?_
            intro H' hg hl' hk'
            simp -implicitDefEqProofs only [go_sem, simprocAttr, -Int.reducePow, DD, l0, l1, l2, l8, l9, c1, c20, d4, d5, ci, hul, hcc, w3, w4, t3, t2, t4, t5, u1, u2, u3, u4, u5, y1, y2, y3, z1, z2, z3, g1, g2]
            exact ⟨n - (i + 1), by omega, _, _, i + 1, rfl, rfl, by omega, by simp [x_look, l0], by simp [x_look, l1], by simp [x_look, l2], by rw [e1]; simp [x_look, l8], by simp [x_look], by simp only [x_look, reduceIte, Nat.reduceEqDiff]; exact ASl.lastP (g := fpt v re im) hg hl'⟩
        · have z0 : fX b = 4000 * fx b + 4000 ∧ fY b = 4000 * fy b := by unfold fX fY; rw [if_pos q, if_pos q, if_neg (fun h => g1 h.1)]; exact ⟨rfl, rfl⟩
          have z1 : IntKind.i64.wrap (4000 * fx b + 4000 + re) = fX b + re := by rw [z0.1, wrap_id (by omega)]
          have z2 : IntKind.i64.wrap (4000 * fy b + im) = fY b + im := by rw [z0.2, wrap_id (by omega)]
          simp -implicitDefEqProofs only [go_sem, simprocAttr, -Int.reducePow, DD, l0, l1, l2, l8, l9, c1, c20, d4, d5, ci, hul, hcc, w3, w4, t3, t2, t4, t5, u1, u2, u3, u4, u5, y1, y2, y3, z1, z2, g1]
          refine callK_pl annulusref8_Of.call (o1) (pl2 pld_int pld_int) ?_
          simp -implicitDefEqProofs only [go_sem, simprocAttr, -Int.reducePow, DD, l0, l1, l2, l8, l9, c1, c20, d4, d5, ci, hul, hcc, w3, w4, t3, t2, t4, t5, u1, u2, u3, u4, u5, y1, y2, y3, z1, z2, g1]
          refine app_step (P := Tryz.prog) tk22 rfl tk29 tk22 rfl rfl (by decide) (n := i) (m := 1) (hA.ext _) (.inl ⟨rfl, x_hget⟩) rfl (by decide) rfl (Nat.le_trans (Nat.mul_le_mul_right _ (show i + 1 ≤ 1000001 by omega)) (by decide)) (by omega) ?_
          intro H' hg hl' hk'
          simp -implicitDefEqProofs only [go_sem, simprocAttr, -Int.reducePow, DD, l0, l1, l2, l8, l9, c1, c20, d4, d5, ci, hul, hcc, w3, w4, t3, t2, t4, t5, u1, u2, u3, u4, u5, y1, y2, y3, z1, z2, g1]
          exact ⟨n - (i + 1), by omega, _, _, i + 1, rfl, rfl, by omega, by simp [x_look, l0], by simp [x_look, l1], by simp [x_look, l2], by rw [e1]; simp [x_look, l8], by simp [x_look], by simp only [x_look, reduceIte, Nat.reduceEqDiff]; exact ASl.lastP (g := fpt v re im) hg hl'⟩
      · have q0 : b % 2 = 0 := by omega
        rw [q0] at t2
        rw [if_neg q] at e1
        have z0 : fX b = fx b ∧ fY b = fy b := by unfold fX fY; rw [if_neg q, if_neg q]; exact ⟨rfl, rfl⟩
        have z1 : IntKind.i64.wrap (fx b + re) = fX b + re := by rw [z0.1, wrap_id (by omega)]
        have z2 : IntKind.i64.wrap (fy b + im) = fY b + im := by rw [z0.2, wrap_id (by omega)]
        have y4 : IntKind.i64.wrap ((nearN (nr v) i : Nat) + 1) = ((nearN (nr v) i + 1 : Nat) : Int) := by rw [wrap_id (by omega)]; omega
        have t20 : ¬ ((0 : Nat) : Int) = 1 := by decide
        simp -implicitDefEqProofs only [go_sem, simprocAttr, -Int.reducePow, DD, l0, l1, l2, l8, l9, c1, c20, d4, d5, ci, hul, hcc, w3, w4, t3, t2, t4, t5, u1, u2, u3, u4, u5, y1, y2, y3, z1, z2, y4, t20]
        refine callK_pl annulusref8_Of.call (o1) (pl2 pld_int pld_int) ?_
        simp -implicitDefEqProofs only [go_sem, simprocAttr, -Int.reducePow, DD, l0, l1, l2, l8, l9, c1, c20, d4, d5, ci, hul, hcc, w3, w4, t3, t2, t4, t5, u1, u2, u3, u4, u5, y1, y2, y3, z1, z2, y4, t20]
        refine app_step (P := Tryz.prog) tk22 rfl tk29 tk22 rfl rfl (by decide) (n := i) (m := 1) (hA.ext _) (.inl ⟨rfl, x_hget⟩) rfl (by decide) rfl (Nat.le_trans (Nat.mul_le_mul_right _ (show i + 1 ≤ 1000001 by omega)) (by decide)) (by omega) ?_
        intro H' hg hl' hk'
        simp -implicitDefEqProofs only [go_sem, simprocAttr, -Int.reducePow, DD, l0, l1, l2, l8, l9, c1, c20, d4, d5, ci, hul, hcc, w3, w4, t3, t2, t4, t5, u1, u2, u3, u4, u5, y1, y2, y3, z1, z2, y4, t20]
        exact ⟨n - (i + 1), by omega, _, _, i + 1, rfl, rfl, by omega, by simp [x_look, l0], by simp [x_look, l1], by simp [x_look, l2], by rw [e1]; simp [x_look, l8], by simp [x_look], by simp only [x_look, reduceIte, Nat.reduceEqDiff]; exact ASl.lastP (g := fpt v re im) hg hl'⟩
end Go.Ab
