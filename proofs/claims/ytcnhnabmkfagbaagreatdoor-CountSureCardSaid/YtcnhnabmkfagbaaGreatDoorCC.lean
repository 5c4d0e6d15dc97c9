/- Contracts of this seat's functions (of each call: what it answers), walked over the abstract machine, and the laws of numbers that they want. Conditions: those that each theorem states. -/
import Derived.Test.YtcnhnabmkfagbaaGreatDoorE2
import Derived.Test.YtcnhnabmkfagbaaGreatDoorFH
import Derived.Test.YtcnhnabmkfagbaaGreatDoorC1
import Derived.Test.YtcnhnabmkfagbaaGreatDoorMM
import Derived.Test.YtcnhnabmkfagbaaGreatDoorD16
import Derived.Test.YtcnhnabmkfagbaaGreatDoorD17
import Derived.Test.YtcnhnabmkfagbaaGreatDoorE7
import Derived.Test.YtcnhnabmkfagbaaGreatDoorM7
import Derived.Test.YtcnhnabmkfagbaaGreatDoorM5
import Derived.Test.YtcnhnabmkfagbaaGreatDoorE6
set_option linter.unusedVariables false
set_option maxRecDepth 20000
set_option linter.unusedSimpArgs false
set_option linter.unusedSectionVars false
namespace Go.Ab
open Go.Proofs
open Cx (zero one)
attribute [-go_sem] appF newsF
variable {a b : AV} {z w c : Cx} {B C n m : Nat} {cs ds : List AV} {f g : Po} {r x : Dyadic}
/-! what is asked of the unit circle -/
theorem x_hget' {H H0 : Heap} {x d : AObj} (h : H.length = H0.length) : (H ++ [x]).getD H0.length d = x := by rw [← h]; exact x_hget
theorem pshift_h (h : RP cs n f B) (hz : RC a z C) (hB : B + n * C + 2 * n * n + n * (C + 2) + C ≤ 19990) (hcs : ∀ c ∈ cs, IsD c) (hn : n ≤ 100000) : HSat CT 41 [.sl n cs, a] [] (fun r H => ASl 6 r H (pcl (dg n f) (shf n f z)) (dg n f)) := by
  refine hsat_of poly_Shift.ok poly_Shift.call (by simp) ?_
  have DD := poly_Shift.dr
  simp only [drP, drPx, drPt, drR, drS, drT, bodyOf, Tryz.f41, Nat.reduceEqDiff, reduceIte, true_and, and_true] at DD
  have hs := dg_sp h.sp
  have hle := dg_le n f
  have hself := dg_self h.sp
  have hpb := h.pb
  have hzb := hz.cb
  have q0 := ptrim_s h (by omega)
  have hshf : shf n f z = shf (dg n f) f z := ev_uniq (Sp.shf n f z) ((Sp.shf (dg n f) f z).mono hle) (fun w => by
    rw [ev_shf, ev_le (Sp.shf (dg n f) f z) hle, ev_shf, ev_le hs hle])
  rw [hshf]
  generalize dg n f = d at *
  have hwb := hpb.wb (C := C) hs
  have m1 := Nat.mul_le_mul_right C hle
  have m2 := Nat.mul_le_mul (Nat.mul_le_mul_left 2 hle) hle
  have m3 := Nat.mul_le_mul_right (C + 2) hle
  have hI : ∀ i, i ≤ d → PB (pqI d f z i) (B + d * C + 2 * d * d) := fun i hi => ((hwb.pqI hzb i).pb).mono (Nat.add_le_add_left (Nat.mul_le_mul_left (2 * d) hi) _)
  have hO : PB (shf d f z) (B + d * C + 2 * d * d) := hwb.shf d hzb
  have qe : ∀ i, i < d → Sat CT false 72 [PA (d - i) (pqI d f z i), a] (.tup [PA (d - (i + 1)) (pqI d f z (i + 1)), CI (shf d f z i)]) := fun i hi => by
    obtain ⟨t1, t2⟩ := pqI_top z hs hself i (by omega)
    have m4 := Nat.mul_le_mul_right (C + 2) (show d - i ≤ n by omega)
    have q := ppart_s (RP_P (hI i (by omega)) t1 (by omega)) hz (by omega) (by omega)
    obtain ⟨t3, t4⟩ := pqI_top z hs hself (i + 1) hi
    rw [← pqIS, ← shf_at d f z i hi, dg_ind (t3.mono (by omega)) t3, t4] at q
    exact q
  have qt := ptrim_h (RP_P hO (Sp.shf d f z) (by omega)) (by omega)
  rw [dg_shf hs hself] at qt
  have hz0 := hz
  obtain ⟨s, l, e, t, k, g, rfl, _⟩ := hz
  simp -implicitDefEqProofs only [go_sem, simprocAttr, -Int.reducePow, Tryz.f41, DD, x_app, x_ga0, x_gas, x_gan, Int.cast_ofNat_Int, eq_self, Int.zero_lt_one, Bool.not_false, Bool.not_true, beq_self_eq_true]
  refine callK_pl poly_Trim.call (q0) (pl1 (pld_sl hcs)) ?_
  simp -implicitDefEqProofs only [go_sem, simprocAttr, -Int.reducePow, DD, x_app, x_ga0, x_gas, x_gan, Int.cast_ofNat_Int, eq_self, Int.zero_lt_one, Bool.not_false, Bool.not_true, beq_self_eq_true]
  refine loop_of aW0_mono (fun q σ => ∃ sl H i, σ = ⟨sl, H⟩ ∧ q = d - i ∧ i ≤ d ∧ look sl 3 = .ptr 0 0 ∧ look sl 6 = PA (d - i) (pqI d f z i) ∧ 0 < H.length ∧ H.getD 0 ⟨[], false, false⟩ = ⟨[Bo s, U32 l, I64 e, Bo t, U32 k, I64 g], true, true⟩ ∧ ASl 6 (look sl 5) H (pcl i (shf d f z)) i ∧ ∀ x, look sl 5 ≠ .own 6 0 0 x) ?_ (n := d)
    ⟨_, _, 0, rfl, rfl, Nat.zero_le _, by simp [x_look], by simp only [x_look, reduceIte, Nat.reduceEqDiff, pqI0]; rfl, by simp, rfl, by simp [x_look, pcl0, ASl.nil], fun x e => by simp [x_look] at e⟩
  rintro q _ ⟨sl, H, i, rfl, rfl, hi, k3, k6, hH, hg0, hA, hne⟩
  have hP : PA (d - i) (pqI d f z i) = .sl (d - i) (pcl (d - i) (pqI d f z i)) := rfl
  by_cases hid : i = d
  · subst hid
    have c1 : ((i - i : Nat) : Int) = 0 := by omega
    simp -implicitDefEqProofs only [go_sem, simprocAttr, -Int.reducePow, DD, x_app, x_ga0, x_gas, x_gan, Int.cast_ofNat_Int, eq_self, Int.zero_lt_one, Bool.not_false, Bool.not_true, beq_self_eq_true, k3, k6, hP, c1, Int.lt_irrefl]
    refine callK_fr qt (isD_pcl _ _) (.cons (.row hA.rsl (snap0_pcl _ _) (isD_pcl _ _)) .nil) (fun e1 e2 _ _ => ?_) (fun e1 hk _ => ?_) rfl
    · subst e2
      simp -implicitDefEqProofs only [go_sem, simprocAttr, -Int.reducePow, DD, x_app, x_ga0, x_gas, x_gan, Int.cast_ofNat_Int, eq_self, Int.zero_lt_one, Bool.not_false, Bool.not_true, beq_self_eq_true, k3, k6, hP]
      rw [pcl0]; exact ASl.nil _ _
    · simp -implicitDefEqProofs only [go_sem, simprocAttr, -Int.reducePow, DD, x_app, x_ga0, x_gas, x_gan, Int.cast_ofNat_Int, eq_self, Int.zero_lt_one, Bool.not_false, Bool.not_true, beq_self_eq_true, k3, k6, hP]
      exact .inr ⟨_, rfl, x_hget' hk.1, by simp [hk.1], pcl_len _ _⟩
  · have c1 : (0 : Int) < ((d - i : Nat) : Int) := by omega
    have g0 : ∀ y, (H ++ [y]).getD 0 ⟨[], false, false⟩ = ⟨[Bo s, U32 l, I64 e, Bo t, U32 k, I64 g], true, true⟩ := fun y => by rw [getD_hp hH]; exact hg0
    simp -implicitDefEqProofs only [go_sem, simprocAttr, -Int.reducePow, DD, x_app, x_ga0, x_gas, x_gan, Int.cast_ofNat_Int, eq_self, Int.zero_lt_one, Bool.not_false, Bool.not_true, beq_self_eq_true, k3, k6, hP, c1, hg0, g0]
    refine callK_pl poly_Part.call (qe i (by omega)) (pl2 (pld_PA _ _) (pld_RC hz0)) ?_
    simp -implicitDefEqProofs only [go_sem, simprocAttr, -Int.reducePow, DD, x_app, x_ga0, x_gas, x_gan, Int.cast_ofNat_Int, eq_self, Int.zero_lt_one, Bool.not_false, Bool.not_true, beq_self_eq_true, k3, k6, hP, c1, hg0, g0]
    refine app_step (P := Tryz.prog) tk22 rfl tk29 tk22 rfl rfl (by decide) (n := i) (m := 1) ((hA.ext _).ext _) (.inl ⟨rfl, x_hget⟩) rfl (by decide) rfl (Nat.le_trans (Nat.mul_le_mul_right _ (show i + 1 ≤ 1000001 by omega)) (by decide)) (by omega) ?_
    intro H' hg hl' hk'
    have g2 : H'.getD 0 ⟨[], false, false⟩ = ⟨[Bo s, U32 l, I64 e, Bo t, U32 k, I64 g], true, true⟩ := by rw [hk' 0 (by simp) (hne i), getD_hp (by simp)]; exact g0 _
    have hlen : H'.length = H.length + 3 := by rw [hl']; simp
    simp -implicitDefEqProofs only [go_sem, simprocAttr, -Int.reducePow, DD, x_app, x_ga0, x_gas, x_gan, Int.cast_ofNat_Int, eq_self, Int.zero_lt_one, Bool.not_false, Bool.not_true, beq_self_eq_true, k3, k6, hP, c1, hg0, g0]
    exact ⟨d - (i + 1), by omega, _, _, i + 1, rfl, rfl, by omega, by simp [x_look, k3], by simp only [x_look, reduceIte, Nat.reduceEqDiff], by omega, g2, by simp only [x_look, reduceIte, Nat.reduceEqDiff]; exact ASl.lastP (g := shf d f z) hg hl', fun x e => by simp [x_look] at e⟩
/-- powers of the radius -/
def rk (r : Dyadic) : Nat → Dyadic
  | 0 => dv 1 0
  | k + 1 => rk r k * r
/-- times a number -/
def tms (z : Cx) (x : Dyadic) : Cx := ⟨z.re * x, z.im * x⟩
/-- p of c + r z -/
def uni (n : Nat) (f : Po) (c : Cx) (r : Dyadic) : Po := fun k => tms (shf n f c k) (rk r k)
theorem rk_db (h : DB r C) : ∀ k, DB (rk r k) (k * C + 1)
  | 0 => by rw [Nat.zero_mul]; exact DB.raw (m := 1) (e := 0) (L := 1) (E := 0) (by decide) (by decide) (by decide)
  | k + 1 => by have := (rk_db h k).mul h; rw [Nat.succ_mul]; exact this.mono (by omega)
theorem shf_cb (hz : CB z C) : ∀ (n : Nat) {f : Po} (hf : PB f B) (k : Nat), k < n → CB (shf n f z k) (B + (n - 1 - k) * (C + 2) + 2 * n)
  | 0, _, _, k, hk => absurd hk (Nat.not_lt_zero _)
  | n + 1, f, hf, k, hk => by
    have ih := shf_cb hz n (f := tl f) (fun i => hf (i + 1))
    have sz := Sp.shf n (tl f) z
    have add : ∀ {x y : Cx} {A : Nat}, CB x A → CB y A → CB (x + y) (A + 1) := fun h g => ⟨h.1.add g.1, h.2.add g.2⟩
    have mn : ∀ {x : Cx} {A D : Nat}, CB x A → A ≤ D → CB x D := fun h g => ⟨h.1.mono g, h.2.mono g⟩
    rw [shf_add]
    have e : n + 1 - 1 - k = n - k := by omega
    rw [e]
    have h2 : CB (px (shf n (tl f) z) k) (B + (n - k) * (C + 2) + 2 * n) := by
      cases k with
      | zero => exact CB.zero _
      | succ k =>
        have := ih k (by omega)
        rw [show n - 1 - k = n - (k + 1) by omega] at this
        exact this
    have h3 : CB (z * shf n (tl f) z k) (B + (n - k) * (C + 2) + 2 * n) := by
      by_cases hkn : k < n
      · have := hz.mul (ih k hkn)
        have e2 : (n - k) * (C + 2) = (n - 1 - k) * (C + 2) + (C + 2) := by rw [← Nat.succ_mul]; congr 1; omega
        exact mn this (by omega)
      · rw [sz k (by omega)]
        have e3 : z * zero = zero := by apply Cx.ext' <;> simp only [Cx.mul_re, Cx.mul_im, Cx.zero_re, Cx.zero_im] <;> grind
        rw [e3]; exact CB.zero _
    cases k with
    | zero => exact mn (add (mn (A := B) (D := B + (n - 0) * (C + 2) + 2 * n + 1) (hf 0) (by omega)) (add h2 h3)) (by omega)
    | succ k => exact mn (add (mn (A := B) (D := B + (n - (k + 1)) * (C + 2) + 2 * n + 1) (CB.zero B) (by omega)) (add h2 h3)) (by omega)
theorem uni_pb (hf : PB f B) (hz : CB z C) (hr : DB r C) (n : Nat) : PB (uni n f z r) (B + n * (C + 2) + 2 * n + 1) := fun k => by
  by_cases hk : k < n
  · have h1 := shf_cb hz n hf k hk
    have h2 := rk_db hr k
    have e : n * (C + 2) = (n - 1 - k) * (C + 2) + (k + 1) * (C + 2) := by rw [← Nat.add_mul]; congr 1; omega
    have e2 : k * C ≤ k * (C + 2) := Nat.mul_le_mul_left k (by omega)
    have e3 : (k + 1) * (C + 2) = k * (C + 2) + (C + 2) := Nat.succ_mul ..
    exact ⟨(h1.1.mul h2).mono (by omega), (h1.2.mul h2).mono (by omega)⟩
  · have : uni n f z r k = zero := by
      unfold uni
      rw [Sp.shf n f z k (by omega)]
      exact Cx.ext' (show (0 : Dyadic) * _ = 0 by grind) (show (0 : Dyadic) * _ = 0 by grind)
    rw [this]; exact CB.zero _
theorem uni_sp (n : Nat) (f : Po) (c : Cx) (r : Dyadic) : Sp n (uni n f c r) := fun k hk => by
  unfold uni
  rw [Sp.shf n f c k hk]
  exact Cx.ext' (show (0 : Dyadic) * _ = 0 by grind) (show (0 : Dyadic) * _ = 0 by grind)
end Go.Ab

set_option linter.unusedVariables false
set_option maxRecDepth 20000
set_option linter.unusedSimpArgs false
set_option linter.unusedSectionVars false
namespace Go.Ab
open Go.Proofs
open Cx (zero one)
attribute [-go_sem] appF newsF
variable {a b : AV} {z w c : Cx} {B C n m d P : Nat} {cs ds : List AV} {f g : Po} {r x : Dyadic}
/-! how many, in plain: the first place that is sure, of as many steps as there may be -/
def frs (p : Nat → Bool) : Nat → Option Nat
  | 0 => none
  | d + 1 => match frs p d with
    | some j => some j
    | none => if p d then some d else none
theorem frs_spec (p : Nat → Bool) : ∀ d, (∃ j, frs p d = some j ∧ j < d ∧ p j = true ∧ ∀ i, i < j → p i = false) ∨ (frs p d = none ∧ ∀ i, i < d → p i = false)
  | 0 => .inr ⟨rfl, fun i h => absurd h (Nat.not_lt_zero _)⟩
  | d + 1 => by
    rcases frs_spec p d with ⟨j, h1, h2, h3, h4⟩ | ⟨h1, h2⟩
    · exact .inl ⟨j, by unfold frs; rw [h1], by omega, h3, h4⟩
    · by_cases q : p d = true
      · exact .inl ⟨d, by unfold frs; rw [h1]; exact if_pos q, by omega, q, h2⟩
      · refine .inr ⟨by unfold frs; rw [h1]; exact if_neg q, fun i hi => ?_⟩
        by_cases e : i = d
        · rw [e]; simpa using q
        · exact h2 i (by omega)
noncomputable def anyO (f : Po) (d P : Nat) : Option Nat := frs (fun k => decide (0 < dsg (far (f k) P false - (osum f (-1) P true d - far (f k) P true)))) d
noncomputable def inO : Nat → Po → Nat → Nat → Option Nat
  | 0, f, d, P => anyO f d P
  | l + 1, f, d, P => match anyO f d P with
    | some k => some k
    | none => inO l (stp d f) d P
/-- what is told of it -/
def oI : Option Nat → Int
  | some k => (k : Nat)
  | none => -1
theorem anyO_spec (f : Po) (d P : Nat) : (∃ j, anyO f d P = some j ∧ j < d ∧ aYes f d j P ∧ ∀ i, i < j → ¬ aYes f d i P) ∨ (anyO f d P = none ∧ ∀ i, i < d → ¬ aYes f d i P) := by
  rcases frs_spec (fun k => decide (0 < dsg (far (f k) P false - (osum f (-1) P true d - far (f k) P true)))) d with ⟨j, h1, h2, h3, h4⟩ | ⟨h1, h2⟩
  · exact .inl ⟨j, h1, h2, by unfold aYes; exact of_decide_eq_true h3, fun i hi => by unfold aYes; exact of_decide_eq_false (h4 i hi)⟩
  · exact .inr ⟨h1, fun i hi => by unfold aYes; exact of_decide_eq_false (h2 i hi)⟩
theorem cany_s (h : RP cs n f B) (hB : B ≤ 12045) (hcs : ∀ c ∈ cs, IsD c) (hn : n ≤ 1000) (p : Int) (hp : heldP p ≤ 400) :
    Sat CT false 36 [.sl n cs, I64 p] (.tup [I64 (oI (anyO f (dg n f) (heldP p))), Bo (anyO f (dg n f) (heldP p)).isSome]) := by
  obtain ⟨a1, a2⟩ := any_sB h hB hcs hn p hp
  rcases anyO_spec f (dg n f) (heldP p) with ⟨j, h1, h2, h3, h4⟩ | ⟨h1, h2⟩
  · rw [h1]; exact a1 j h2 h4 h3
  · rw [h1]; exact a2 h2
/-! three whole coefficients -/
theorem far_Ia (v : Int) {P : Nat} (hP : 1 ≤ P) (hv : v.natAbs < 2 ^ P) (up : Bool) : far (zI v 0) P up = dv (v.natAbs : Nat) 0 := by
  unfold far
  rw [nrm_zI]
  have e : v * v + 0 * 0 = (v.natAbs : Int) * (v.natAbs : Int) := by rw [← Int.natCast_mul, Int.natAbs_mul_self]; omega
  rw [e]
  by_cases h : v = 0
  · subst h
    exact droot_0 (by decide) _ _
  · rw [← dvm0]
    obtain ⟨e1, e2⟩ := bl_dnum (m := ((v.natAbs : Nat) : Int)) (by omega) (e := 0)
    have := bl_le_of hv
    rw [Int.natAbs_natCast] at e1
    exact droot_exact (dnum_pos.2 (by omega)) hP (by omega) up
theorem yes3 {v0 v1 v2 : Int} (h0 : f 0 = zI v0 0) (h1 : f 1 = zI v1 0) (h2 : f 2 = zI v2 0) (hP : 1 ≤ P) (b0 : v0.natAbs < 2 ^ P) (b1 : v1.natAbs < 2 ^ P) (b2 : v2.natAbs < 2 ^ P) {k : Nat} {v : Int} (hk : f k = zI v 0) (bk : v.natAbs < 2 ^ P) :
    aYes f 3 k P ↔ v0.natAbs + v1.natAbs + v2.natAbs < 2 * v.natAbs := by
  have e : osum f (-1) P true 3 = dv ((v0.natAbs + v1.natAbs + v2.natAbs : Nat) : Int) 0 := by
    show (if ((2 : Nat) : Int) = -1 then _ else (if ((1 : Nat) : Int) = -1 then _ else (if ((0 : Nat) : Int) = -1 then (0 : Dyadic) else 0 + far (f 0) P true) + far (f 1) P true) + far (f 2) P true) = _
    rw [if_neg (by decide), if_neg (by decide), if_neg (by decide), h0, h1, h2, far_Ia _ hP b0, far_Ia _ hP b1, far_Ia _ hP b2, show (0 : Dyadic) = dv 0 0 from rfl, dv_add, dv_add, dv_add]
    congr 1
    omega
  unfold aYes
  rw [e, hk, far_Ia _ hP bk, far_Ia _ hP bk, dv_sub, dv_sub, dsg_dv, sgn_gt0]
  omega
end Go.Ab

set_option linter.unusedVariables false
set_option maxRecDepth 20000
set_option linter.unusedSimpArgs false
set_option linter.unusedSectionVars false
namespace Go.Ab
open Go.Proofs
open Cx (zero one)
attribute [-go_sem] appF newsF
variable {a b : AV} {z w c : Cx} {B C n m d P : Nat} {cs ds : List AV} {f g : Po} {r x : Dyadic}
/-! what is asked of the unit circle: of the code -/
/-- the row with the first ones done -/
def gU (n : Nat) (f : Po) (c : Cx) (r : Dyadic) (i : Nat) : Po := fun k => if k < i then uni n f c r k else shf n f c k
theorem gU_S (n : Nat) (f : Po) (c : Cx) (r : Dyadic) (i : Nat) : (fun s => if s = i then uni n f c r i else gU n f c r i s) = gU n f c r (i + 1) := by
  funext s
  unfold gU
  by_cases h : s = i
  · rw [if_pos h, if_pos (by omega), h]
  · rw [if_neg h]
    by_cases g : s < i
    · rw [if_pos g, if_pos (by omega)]
    · rw [if_neg g, if_neg (by omega)]
theorem shf_sp (h : Sp n f) (c : Cx) : Sp (dg n f) (shf n f c) ∧ dg n (shf n f c) = dg n f := by
  have hs := dg_sp h
  have hle := dg_le n f
  have e : shf n f c = shf (dg n f) f c := ev_uniq (Sp.shf n f c) ((Sp.shf (dg n f) f c).mono hle) (fun w => by
    rw [ev_shf, ev_le (Sp.shf (dg n f) f c) hle, ev_shf, ev_le hs hle])
  have s1 := Sp.shf (dg n f) f c
  refine ⟨by rw [e]; exact s1, ?_⟩
  rw [e, dg_ind (s1.mono hle) s1, dg_shf hs (dg_self h)]
theorem uni_spD (h : Sp n f) (c : Cx) (r : Dyadic) : Sp (dg n f) (uni n f c r) := fun k hk => by
  unfold uni
  rw [(shf_sp h c).1 k hk]
  exact Cx.ext' (show (0 : Dyadic) * _ = 0 by grind) (show (0 : Dyadic) * _ = 0 by grind)
theorem uni_dg (h : Sp n f) (c : Cx) (r : Dyadic) : dg (dg n f) (uni n f c r) = dg n (uni n f c r) := dg_ind (uni_spD h c r) (uni_sp n f c r)
theorem tms_cb (h : CB z B) (g : DB x C) : CB (tms z x) (B + C) := ⟨h.1.mul g, h.2.mul g⟩
set_option maxHeartbeats 2000000 in
theorem cunit_s (h : RP cs n f B) (hcs : ∀ c ∈ cs, IsD c) (t : RT a c r C C) (hn : n ≤ 20) (hB : B ≤ 1500) (hC : C ≤ 300) : Sat CT false 17 [.sl n cs, a] (PA (dg n (uni n f c (rp r))) (uni n f c (rp r))) := by
  refine sat_of count_Unit.ok (by simp) ?_
  have DD := count_Unit.dr
  simp only [drP, drPx, drPt, drR, drS, drT, bodyOf, Tryz.f17, Nat.reduceEqDiff, reduceIte, true_and, and_true] at DD
  have m1 : n * C ≤ 20 * 300 := Nat.mul_le_mul hn hC
  have m2 : 2 * n * n ≤ 2 * 20 * 20 := Nat.mul_le_mul (Nat.mul_le_mul_left 2 hn) hn
  have m3 : n * (C + 2) ≤ 20 * 302 := Nat.mul_le_mul hn (by omega)
  have hD := dg_le n f
  have sD := (shf_sp h.sp c).1
  have uD := uni_spD h.sp c (rp r)
  have ue := uni_dg h.sp c (rp r)
  have hsb : PB (shf n f c) (B + n * C + 2 * n * n) := (h.pb.wb (C := C) h.sp).shf n t.cb
  have hub := uni_pb h.pb t.cb (rp_db t.db) n
  obtain ⟨n', l, e, m', k', f', o, p', q', rfl, hc, hr⟩ := t.ex
  have q0 := pshift_h h hc (by omega) hcs (by omega)
  have o1 := dofn_sat 1 (by decide) (by decide)
  have k1 := dmax_r hr rd0 (by omega) (by decide)
  rw [rp_dmx] at k1
  have rb := rp_db hr.db
  have rkb := rk_db rb
  generalize hDe : dg n f = D at *
  have qt := ptrim_P hub uD (by omega) (by omega)
  rw [ue] at qt
  simp -implicitDefEqProofs only [go_sem, simprocAttr, -Int.reducePow, Tryz.f17, DD, List.take_succ_cons, List.drop_succ_cons]
  refine callK_fr q0 (isD_pcl _ _) (.cons (.pl (pld_sl hcs)) (.cons (.pl (pld_RC hc)) .nil)) (fun e1 e2 _ _ => ?_) (fun e1 hk _ => ?_) rfl
  · subst e2
    have e3 : dg n (uni n f c (rp r)) = 0 := by rw [← ue]; rfl
    rw [e3] at qt ⊢
    simp -implicitDefEqProofs only [go_sem, simprocAttr, -Int.reducePow, DD, List.take_succ_cons, List.drop_succ_cons]
    refine callK_q dyad_Of.call (o1) rfl rfl ?_
    simp -implicitDefEqProofs only [go_sem, simprocAttr, -Int.reducePow, DD, List.take_succ_cons, List.drop_succ_cons]
    refine callK_q dyad_Max.call (k1) rfl rfl ?_
    simp -implicitDefEqProofs only [go_sem, simprocAttr, -Int.reducePow, DD, List.take_succ_cons, List.drop_succ_cons]
    refine loop_of aW0_mono (fun q σ => ∃ sl H, σ = ⟨sl, H⟩ ∧ look sl 5 = .v (.slice none 0 0) ∧ look sl 20 = I64 0 ∧ look sl 21 = I64 0) ?_ (n := 0) ⟨_, _, rfl, by simp [x_look], by simp [x_look], by simp [x_look]⟩
    rintro q _ ⟨sl, H, rfl, k5, k20, k21⟩
    simp -implicitDefEqProofs only [go_sem, simprocAttr, -Int.reducePow, DD, k5, k20, k21, Int.lt_irrefl]
    refine callK_ar poly_Trim.call (qt) (.cons .none .nil) rfl ?_
    intro H' _
    simp -implicitDefEqProofs only [go_sem, simprocAttr, -Int.reducePow, DD, k5, k20, k21]
    exact ⟨trivial, isD_PA _ _, rfl⟩
  · simp -implicitDefEqProofs only [go_sem, simprocAttr, -Int.reducePow, DD, List.take_succ_cons, List.drop_succ_cons]
    refine callK_q dyad_Of.call (o1) rfl rfl ?_
    simp -implicitDefEqProofs only [go_sem, simprocAttr, -Int.reducePow, DD, List.take_succ_cons, List.drop_succ_cons]
    refine callK_q dyad_Max.call (k1) rfl rfl ?_
    simp -implicitDefEqProofs only [go_sem, simprocAttr, -Int.reducePow, DD, List.take_succ_cons, List.drop_succ_cons]
    have hg00 : gU n f c (rp r) 0 = shf n f c := funext (fun k => if_neg (by omega))
    refine loop_of aW0_mono (fun q σ => ∃ sl H i, σ = ⟨sl, H⟩ ∧ q = D - i ∧ i ≤ D ∧ look sl 5 = .own 6 1 0 D ∧ look sl 6 = .ptr 2 0 ∧ look sl 7 = .ptr 3 0 ∧ look sl 19 = .own 6 1 0 D ∧ look sl 20 = I64 (D : Nat) ∧ look sl 21 = I64 (i : Nat) ∧ 3 < H.length ∧ H.getD 1 ⟨[], false, false⟩ = ⟨pcl D (gU n f c (rp r) i), true, true⟩ ∧ H.getD 2 ⟨[], false, false⟩ = ⟨dcl (rk (rp r) i), true, true⟩ ∧ H.getD 3 ⟨[], false, false⟩ = ⟨dcl (rp r), true, true⟩) ?_ (n := D)
      ⟨_, _, 0, rfl, rfl, Nat.zero_le _, by simp [x_look], by simp [x_look], by simp [x_look], by simp [x_look], by simp [x_look], by simp [x_look], by simp, by rw [hg00]; rfl, rfl, rfl⟩
    rintro q _ ⟨sl, H, i, rfl, rfl, hi, k5, k6, k7, k19, k20, k21, hH, hg1, hg2, hg3⟩
    have hL := pcl_len D (gU n f c (rp r) i)
    by_cases hid : i = D
    · have eg : pcl D (gU n f c (rp r) i) = pcl D (uni n f c (rp r)) := pcl_congr (fun k hk => if_pos (by omega))
      rw [eg] at hg1
      have hA : ASl 6 (.own 6 1 0 D) H (pcl D (uni n f c (rp r))) D := .inr ⟨1, rfl, hg1, by omega, pcl_len _ _⟩
      rw [hid] at k21
      simp -implicitDefEqProofs only [go_sem, simprocAttr, -Int.reducePow, DD, k5, k6, k7, k19, k20, k21, Int.lt_irrefl]
      refine callK_ar poly_Trim.call (qt) (.cons (.row hA.rsl (snap0_pcl _ _) (isD_pcl _ _)) .nil) rfl ?_
      intro H' _
      simp -implicitDefEqProofs only [go_sem, simprocAttr, -Int.reducePow, DD, k5, k6, k7, k19, k20, k21]
      exact ⟨trivial, isD_PA _ _, rfl⟩
    · have c1 : (i : Int) < (D : Int) := by omega
      have ci : IntKind.i64.wrap ((i : Int) + 1) = ((i + 1 : Nat) : Int) := by rw [wrap_id (by omega)]; omega
      have c2 : (0 : Int) ≤ (i : Int) := by omega
      have c4 : i * 6 < D * 6 := by omega
      have c5 : i * 6 + 6 ≤ D * 6 := by omega
      have hcc := pcl_el (gU n f c (rp r) i) (show i < D by omega)
      rw [show gU n f c (rp r) i i = shf n f c i from if_neg (by omega)] at hcc
      have iC : i * C ≤ 20 * 300 := Nat.mul_le_mul (by omega) hC
      have tm : Sat CT false 44 [CI (shf n f c i), DI (rk (rp r) i)] (CI (uni n f c (rp r) i)) := gtimes_r (RC_C (hsb i)) (RD_D (rkb i)) (by omega)
      have mu : Sat CT false 45 [DI (rk (rp r) i), DI (rp r)] (DI (rk (rp r) (i + 1))) := dmul_r (RD_D (rkb i)) (RD_D rb) (by omega) (by omega)
      have g1 : ∀ y, (H ++ [y]).getD 1 ⟨[], false, false⟩ = ⟨pcl D (gU n f c (rp r) i), true, true⟩ := fun y => by rw [getD_hp (by omega)]; exact hg1
      have g2 : ∀ y, (H ++ [y]).getD 2 ⟨[], false, false⟩ = ⟨dcl (rk (rp r) i), true, true⟩ := fun y => by rw [getD_hp (by omega)]; exact hg2
      have g3 : ∀ y, (H ++ [y]).getD 3 ⟨[], false, false⟩ = ⟨dcl (rp r), true, true⟩ := fun y => by rw [getD_hp (by omega)]; exact hg3
      have s2 : ∀ y o, ((H ++ [y]).set 1 o).getD 2 ⟨[], false, false⟩ = ⟨dcl (rk (rp r) i), true, true⟩ := fun y o => by rw [getD_set (by simp; omega), if_neg (by decide)]; exact g2 y
      have s3 : ∀ y o, ((H ++ [y]).set 1 o).getD 3 ⟨[], false, false⟩ = ⟨dcl (rp r), true, true⟩ := fun y o => by rw [getD_set (by simp; omega), if_neg (by decide)]; exact g3 y
      simp -implicitDefEqProofs only [go_sem, simprocAttr, -Int.reducePow, DD, k5, k6, k7, k19, k20, k21, ci, c1, c2, c4, c5, hL, hcc, hg1, hg2, hg3, g1, g2, g3, dcl]
      refine callK_pl gauss_Times.call (tm) (pl2 (pld_CI _) (pld_DI _)) ?_
      simp -implicitDefEqProofs only [go_sem, simprocAttr, -Int.reducePow, DD, k5, k6, k7, k19, k20, k21, ci, c1, c2, c4, c5, hL, hcc, hg1, hg2, hg3, g1, g2, g3, s2, s3, dcl]
      refine callK_pl dyad_Mul.call (mu) (pl2 (pld_DI _) (pld_DI _)) ?_
      simp -implicitDefEqProofs only [go_sem, simprocAttr, -Int.reducePow, DD, k5, k6, k7, k19, k20, k21, ci, c1, c2, c4, c5, hL, hcc, hg1, hg2, hg3, g1, g2, g3, s2, s3, dcl]
      refine ⟨D - (i + 1), by omega, _, _, i + 1, rfl, rfl, by omega, by simp [x_look, k5], by simp [x_look, k6], by simp [x_look, k7], by simp [x_look, k19], by simp [x_look, k20], by simp [x_look], by simp <;> omega, ?_, ?_, ?_⟩
      · (rw [getD_set (by simp; omega), if_neg (by decide), getD_set (by simp; omega), if_pos rfl, ← gU_S, ← pcl_set (show i < D by omega) (uni n f c (rp r) i)]) <;> rfl
      · (rw [getD_set (by simp; omega), if_pos rfl]) <;> rfl
      · rw [getD_set (by simp; omega), if_neg (by decide)]
        exact s3 _ _
end Go.Ab

set_option linter.unusedVariables false
set_option maxRecDepth 20000
set_option linter.unusedSimpArgs false
set_option linter.unusedSectionVars false
namespace Go.Ab
open Go.Proofs
open Cx (zero one)
attribute [-go_sem] appF newsF
variable {a b : AV} {z w c : Cx} {B C n m d P M D : Nat} {cs ds : List AV} {f g : Po} {r x : Dyadic}
/-! how many: of the code -/
def okB (M D : Nat) : Nat → Nat → Prop
  | 0, b => b ≤ M
  | l + 1, b => b ≤ M ∧ okB M D l (2 * b + D + 2)
theorem okB.top {l b : Nat} (h : okB M D l b) : b ≤ M := by
  cases l with
  | zero => exact h
  | succ l => exact h.1
theorem pld_RT (h : RT a c r B C) : PlD a := by
  obtain ⟨n, l, e, m, k, f, o, p, q, rfl, _⟩ := h
  refine pld_agg (fun c hc => ?_)
  simp only [List.mem_cons, List.not_mem_nil, or_false] at hc
  rcases hc with rfl | rfl | rfl | rfl | rfl | rfl | rfl | rfl | rfl <;> first | exact lf_bool | exact lf_int | exact lf_u32 _
set_option maxHeartbeats 2000000 in
theorem cin_no (h : RP cs n f B) (hcs : ∀ c ∈ cs, IsD c) (hB : B ≤ 1500) (t : RT a c r C C) (hC : C ≤ 300) (s p : Int) (h0 : dg n f = 0 ∨ (dnum r).sign ≤ 0) : Sat CT false 14 [.sl n cs, a, I64 s, I64 p] (.tup [I64 (-1), Bo false]) := by
  refine sat_of count_In.ok (by simp) ?_
  have DD := count_In.dr
  simp only [drP, drPx, drPt, drR, drS, drT, bodyOf, Tryz.f14, Nat.reduceEqDiff, reduceIte, true_and, and_true] at DD
  have q1 := pdeg_s h (by omega) hcs
  obtain ⟨n', l, e, m', k', f', o, p', q', rfl, hc, hr⟩ := t.ex
  have s1 := dsign_r hr (by omega)
  by_cases e0 : dg n f = 0
  · rw [e0] at q1
    have c1 : (((0 : Nat) : Int) - 1 < 0) = True := by simp
    simp -implicitDefEqProofs only [go_sem, simprocAttr, -Int.reducePow, Tryz.f14, DD]
    refine scope0 aW0_mono ?_
    simp -implicitDefEqProofs only [go_sem, simprocAttr, -Int.reducePow, DD]
    refine callK_pl poly_Degree.call (q1) (pl1 (pld_sl hcs)) ?_
    simp -implicitDefEqProofs only [go_sem, simprocAttr, -Int.reducePow, DD, c1]
  · have c1 : ¬ ((dg n f : Nat) : Int) - 1 < 0 := by omega
    have c2 : (dnum r).sign ≤ 0 := h0.resolve_left e0
    simp -implicitDefEqProofs only [go_sem, simprocAttr, -Int.reducePow, Tryz.f14, DD]
    refine scope0 aW0_mono ?_
    simp -implicitDefEqProofs only [go_sem, simprocAttr, -Int.reducePow, DD, c1, c2]
    refine callK_pl poly_Degree.call (q1) (pl1 (pld_sl hcs)) ?_
    simp -implicitDefEqProofs only [go_sem, simprocAttr, -Int.reducePow, DD, c1, c2, List.take_succ_cons, List.drop_succ_cons]
    refine callK_q dyad_Sign.call (s1) rfl rfl ?_
    simp -implicitDefEqProofs only [go_sem, simprocAttr, -Int.reducePow, DD, c1, c2, List.take_succ_cons, List.drop_succ_cons]
/-- what stands at the label -/
def Lab15 (p : Int) (D P : Nat) (o : Option Nat) (l : Nat) (σ : AState) : Prop := ∃ sl H g Bg, σ = ⟨sl, H⟩ ∧ l ≤ 5 ∧ look sl 3 = I64 p ∧ look sl 10 = I64 (l : Nat) ∧ look sl 11 = PA D g ∧ PB g Bg ∧ Sp D g ∧ dg D g = D ∧ okB 12045 D l Bg ∧ inO l g D P = o
set_option maxHeartbeats 4000000 in
theorem cin_s (h : RP cs n f B) (hcs : ∀ c ∈ cs, IsD c) (hB : B ≤ 1500) (t : RT a c r C C) (hC : C ≤ 300) (hn : n ≤ 20) (s p : Int) (hp : heldP p ≤ 400) (h0 : dg n f ≠ 0) (h1 : ¬ (dnum r).sign ≤ 0)
    {L : Nat} (hL : min (max s 0) 5 = (L : Int)) {U : Nat} (hU : PB (uni n f c (rp r)) U) (hok : okB 12045 (dg n (uni n f c (rp r))) L U) :
    Sat CT false 14 [.sl n cs, a, I64 s, I64 p] (.tup [I64 (oI (inO L (uni n f c (rp r)) (dg n (uni n f c (rp r))) (heldP p))), Bo (inO L (uni n f c (rp r)) (dg n (uni n f c (rp r))) (heldP p)).isSome]) := by
  refine sat_of count_In.ok (by simp) ?_
  have DD := count_In.dr
  simp only [drP, drPx, drPt, drR, drS, drT, bodyOf, Tryz.f14, Nat.reduceEqDiff, reduceIte, true_and, and_true] at DD
  have q1 := pdeg_s h (by omega) hcs
  have u1 := cunit_s h hcs t hn (by omega) hC
  have hpt := pld_RT t
  have uD := dg_sp (uni_sp n f c (rp r))
  have ug := dg_self (uni_sp n f c (rp r))
  have hDn := dg_le n (uni n f c (rp r))
  obtain ⟨n', l, e, m', k', f', o, p', q', rfl, hc, hr⟩ := t.ex
  have s1 := dsign_r hr (by omega)
  have c1 : ¬ ((dg n f : Nat) : Int) - 1 < 0 := by omega
  have c3 : max s 0 = s ∨ max s 0 = 0 := by omega
  generalize uni n f c (rp r) = F at *
  generalize dg n F = D at *
  have any := fun (g : Po) (Bg : Nat) (hg : PB g Bg) (hs : Sp D g) (hd0 : dg D g = D) (hb : Bg ≤ 12045) => by
    have q := cany_s (RP_P hg hs (by omega)) hb (isD_pcl _ _) (by omega) p hp
    rw [hd0] at q
    exact q
  have stp' := fun (g : Po) (Bg : Nat) (hg : PB g Bg) (hs : Sp D g) (hd0 : dg D g = D) (hb : 2 * Bg + D + 2 ≤ 12045) => by
    have q := gstep_s (RP_P hg hs (by omega)) (by omega) (isD_pcl _ _) (by omega)
    rw [hd0] at q
    exact q
  have hPA : ∀ g : Po, PA D g = .sl D (pcl D g) := fun _ => rfl
  generalize hoe : inO L F D (heldP p) = oo at *
  have key : ∀ (l : Nat) (g : Po) (Bg : Nat), PB g Bg → Sp D g → dg D g = D → okB 12045 D l Bg → inO l g D (heldP p) = oo →
      (anyO g D (heldP p) = oo ∧ oo.isSome = true) ∨ (anyO g D (heldP p) = none ∧ oo = none ∧ l = 0) ∨ (anyO g D (heldP p) = none ∧ ∃ l', l = l' + 1 ∧ PB (stp D g) (2 * Bg + D + 2) ∧ Sp D (stp D g) ∧ dg D (stp D g) = D ∧ okB 12045 D l' (2 * Bg + D + 2) ∧ inO l' (stp D g) D (heldP p) = oo) := by
    intro l g Bg hg hs hd0 hb ho
    rcases anyO_spec g D (heldP p) with ⟨j, j1, _⟩ | ⟨j1, _⟩
    · refine .inl ?_
      cases l with
      | zero => have ho : anyO g D (heldP p) = oo := ho; rw [j1] at ho ⊢; subst ho; exact ⟨rfl, rfl⟩
      | succ l => unfold inO at ho; rw [j1] at ho ⊢; subst ho; exact ⟨rfl, rfl⟩
    · cases l with
      | zero => have ho : anyO g D (heldP p) = oo := ho; rw [j1] at ho; exact .inr (.inl ⟨j1, ho.symm, rfl⟩)
      | succ l =>
        unfold inO at ho
        rw [j1] at ho
        exact .inr (.inr ⟨j1, l, rfl, hg.stp hs, hs.stp, by rw [dg_stp hs, hd0], hb.2, ho⟩)
  simp -implicitDefEqProofs only [go_sem, simprocAttr, -Int.reducePow, Tryz.f14, DD]
  refine scope_inv aW0_mono (aW_mono aW0_mono) 0 rfl (Lab15 p D (heldP p) oo) (fun l σ hσ => ?_) (n := L) ?_
  · obtain ⟨sl, H, g, Bg, rfl, hl5, k3, k10, k11, hg, hs, hd0, hb, ho⟩ := hσ
    have a1 := any g Bg hg hs hd0 hb.top
    rcases key l g Bg hg hs hd0 hb ho with ⟨j1, j2⟩ | ⟨j1, rfl, rfl⟩ | ⟨j1, l', rfl, b1, b2, b3, b4, b5⟩
    · rw [j1, j2] at a1
      simp -implicitDefEqProofs only [go_sem, simprocAttr, -Int.reducePow, DD, k3, k10, k11, hPA, x_gp1, x_gp2, x_gp3]
      refine callK_pl pellet_Any.call (a1) (pl2 (pld_PA _ _) pld_int) ?_
      simp -implicitDefEqProofs only [go_sem, simprocAttr, -Int.reducePow, DD, k3, k10, k11, hPA, x_gp1, x_gp2, x_gp3, j2]
    · rw [j1] at a1
      simp -implicitDefEqProofs only [go_sem, simprocAttr, -Int.reducePow, DD, k3, k10, k11, hPA, x_gp1, x_gp2, x_gp3]
      refine callK_pl pellet_Any.call (a1) (pl2 (pld_PA _ _) pld_int) ?_
      simp -implicitDefEqProofs only [go_sem, simprocAttr, -Int.reducePow, DD, k3, k10, k11, hPA, x_gp1, x_gp2, x_gp3, Option.isSome, oI, Int.natCast_zero]
    · rw [j1] at a1
      have st := stp' g Bg hg hs hd0 b4.top
      have w1 : IntKind.i64.wrap (((l' + 1 : Nat) : Int) - 1) = (l' : Nat) := by rw [wrap_id (by omega)]; omega
      have w2 : ¬ ((l' + 1 : Nat) : Int) = 0 := by omega
      simp -implicitDefEqProofs only [go_sem, simprocAttr, -Int.reducePow, DD, k3, k10, k11, hPA, x_gp0, x_gp1, x_gp2, x_gp3]
      refine callK_pl pellet_Any.call (a1) (pl2 (pld_PA _ _) pld_int) ?_
      simp -implicitDefEqProofs only [go_sem, simprocAttr, -Int.reducePow, DD, k3, k10, k11, hPA, x_gp0, x_gp1, x_gp2, x_gp3, Option.isSome, oI, w1, w2]
      refine callK_pl graeffe_Step.call (st) (pl1 (pld_PA _ _)) ?_
      simp -implicitDefEqProofs only [go_sem, simprocAttr, -Int.reducePow, DD, k3, k10, k11, hPA, x_gp0, x_gp1, x_gp2, x_gp3, Option.isSome, oI, w1, w2]
      exact ⟨l', by omega, _, _, stp D g, _, rfl, by omega, by simp [x_look, k3], by simp [x_look], by simp [x_look, hPA], b1, b2, b3, b4, b5⟩
  · have a1 := any F U hU uD ug hok.top
    have hL5 : L ≤ 5 := by omega
    have hF : PA D F = .sl D (pcl D F) := rfl
    have cm : max s 0 = max s 0 := rfl
    have hA : ∀ x : Int, x = max s 0 → min x 5 = (L : Int) := fun x e => by rw [e]; exact hL
    rcases key L F U hU uD ug hok hoe with ⟨j1, j2⟩ | ⟨j1, rfl, rfl⟩ | ⟨j1, l', rfl, b1, b2, b3, b4, b5⟩
    · rw [j1, j2] at a1
      simp -implicitDefEqProofs only [go_sem, simprocAttr, -Int.reducePow, DD, c1, h1, hL]
      refine callK_pl poly_Degree.call (q1) (pl1 (pld_sl hcs)) ?_
      simp -implicitDefEqProofs only [go_sem, simprocAttr, -Int.reducePow, DD, c1, h1, hL, List.take_succ_cons, List.drop_succ_cons]
      refine callK_q dyad_Sign.call (s1) rfl rfl ?_
      simp -implicitDefEqProofs only [go_sem, simprocAttr, -Int.reducePow, DD, c1, h1, hL, List.take_succ_cons, List.drop_succ_cons]
      refine callK_pl count_Unit.call (u1) (pl2 (pld_sl hcs) hpt) ?_
      simp -implicitDefEqProofs only [go_sem, simprocAttr, -Int.reducePow, DD, c1, h1, hL, hF, x_gp1, x_gp2, x_gp3]
      refine callK_pl pellet_Any.call (a1) (pl2 (pld_PA _ _) pld_int) ?_
      simp -implicitDefEqProofs only [go_sem, simprocAttr, -Int.reducePow, DD, c1, h1, hL, hF, x_gp1, x_gp2, x_gp3, j2]
    · rw [j1] at a1
      simp -implicitDefEqProofs only [go_sem, simprocAttr, -Int.reducePow, DD, c1, h1, hL]
      refine callK_pl poly_Degree.call (q1) (pl1 (pld_sl hcs)) ?_
      simp -implicitDefEqProofs only [go_sem, simprocAttr, -Int.reducePow, DD, c1, h1, hL, List.take_succ_cons, List.drop_succ_cons]
      refine callK_q dyad_Sign.call (s1) rfl rfl ?_
      simp -implicitDefEqProofs only [go_sem, simprocAttr, -Int.reducePow, DD, c1, h1, hL, List.take_succ_cons, List.drop_succ_cons]
      refine callK_pl count_Unit.call (u1) (pl2 (pld_sl hcs) hpt) ?_
      simp -implicitDefEqProofs only [go_sem, simprocAttr, -Int.reducePow, DD, c1, h1, hL, hF, x_gp1, x_gp2, x_gp3]
      refine callK_pl pellet_Any.call (a1) (pl2 (pld_PA _ _) pld_int) ?_
      simp -implicitDefEqProofs only [go_sem, simprocAttr, -Int.reducePow, DD, c1, h1, hL, hF, x_gp1, x_gp2, x_gp3, Option.isSome, oI, Int.natCast_zero]
    · rw [j1] at a1
      have st := stp' F U hU uD ug b4.top
      have w1 : IntKind.i64.wrap (((l' + 1 : Nat) : Int) - 1) = (l' : Nat) := by rw [wrap_id (by omega)]; omega
      have w2 : ¬ ((l' + 1 : Nat) : Int) = 0 := by omega
      simp -implicitDefEqProofs only [go_sem, simprocAttr, -Int.reducePow, DD, c1, h1, hL]
      refine callK_pl poly_Degree.call (q1) (pl1 (pld_sl hcs)) ?_
      simp -implicitDefEqProofs only [go_sem, simprocAttr, -Int.reducePow, DD, c1, h1, hL, List.take_succ_cons, List.drop_succ_cons]
      refine callK_q dyad_Sign.call (s1) rfl rfl ?_
      simp -implicitDefEqProofs only [go_sem, simprocAttr, -Int.reducePow, DD, c1, h1, hL, List.take_succ_cons, List.drop_succ_cons]
      refine callK_pl count_Unit.call (u1) (pl2 (pld_sl hcs) hpt) ?_
      simp -implicitDefEqProofs only [go_sem, simprocAttr, -Int.reducePow, DD, c1, h1, hL, hF, x_gp0, x_gp1, x_gp2, x_gp3]
      refine callK_pl pellet_Any.call (a1) (pl2 (pld_PA _ _) pld_int) ?_
      simp -implicitDefEqProofs only [go_sem, simprocAttr, -Int.reducePow, DD, c1, h1, hL, hF, x_gp0, x_gp1, x_gp2, x_gp3, Option.isSome, oI, w1, w2]
      refine callK_pl graeffe_Step.call (st) (pl1 (pld_PA _ _)) ?_
      simp -implicitDefEqProofs only [go_sem, simprocAttr, -Int.reducePow, DD, c1, h1, hL, hF, x_gp0, x_gp1, x_gp2, x_gp3, Option.isSome, oI, w1, w2]
      exact ⟨l', by omega, _, _, stp D F, _, rfl, by omega, by simp [x_look], by simp [x_look], by simp [x_look, hPA], b1, b2, b3, b4, b5⟩
theorem cnone_s {o : Option Nat} (s p : Int) (t : RT a c r B C) (hcs : ∀ c ∈ cs, IsD c) (h : Sat CT false 14 [.sl n cs, a, I64 s, I64 p] (.tup [I64 (oI o), Bo o.isSome])) : Sat CT false 19 [.sl n cs, a, I64 s, I64 p] (Bo (decide (o = some 0))) := by
  refine sat_of count_None.ok (by simp) ?_
  have DD := count_None.dr
  simp only [drP, drPx, drPt, drR, drS, drT, bodyOf, Tryz.f19, Nat.reduceEqDiff, reduceIte, true_and, and_true] at DD
  have hpt := pld_RT t
  obtain ⟨n', l, e, m', k', f', o', p', q', rfl, _⟩ := t
  cases o with
  | none =>
    rw [decide_eq_false (by simp)]
    simp -implicitDefEqProofs only [go_sem, simprocAttr, -Int.reducePow, Tryz.f19, DD]
    refine callK_pl count_In.call (h) (pl4 (pld_sl hcs) hpt pld_int pld_int) ?_
    simp -implicitDefEqProofs only [go_sem, simprocAttr, -Int.reducePow, DD, Option.isSome, oI]
  | some k =>
    by_cases hk : k = 0
    · subst hk
      rw [decide_eq_true rfl]
      simp -implicitDefEqProofs only [go_sem, simprocAttr, -Int.reducePow, Tryz.f19, DD]
      refine callK_pl count_In.call (h) (pl4 (pld_sl hcs) hpt pld_int pld_int) ?_
      simp -implicitDefEqProofs only [go_sem, simprocAttr, -Int.reducePow, DD, Option.isSome, oI, Int.natCast_zero]
    · have hk' : ¬ (k : Int) = 0 := by omega
      rw [decide_eq_false (fun e => hk (Option.some.inj e))]
      simp -implicitDefEqProofs only [go_sem, simprocAttr, -Int.reducePow, Tryz.f19, DD]
      refine callK_pl count_In.call (h) (pl4 (pld_sl hcs) hpt pld_int pld_int) ?_
      simp -implicitDefEqProofs only [go_sem, simprocAttr, -Int.reducePow, DD, Option.isSome, oI, hk']
end Go.Ab

set_option linter.unusedVariables false
set_option maxRecDepth 20000
set_option linter.unusedSimpArgs false
set_option linter.unusedSectionVars false
namespace Go.Ab
open Go.Proofs
open Cx (zero one)
attribute [-go_sem] appF newsF
variable {a b : AV} {z w c : Cx} {B C n m d P M D : Nat} {cs ds : List AV} {f g : Po} {r x : Dyadic}
/-! how many: of the document -/
theorem pld_TI (c : Cx) (r : Dyadic) : PlD (TI c r) := pld_agg (fun c hc => by
  simp only [List.mem_cons, List.not_mem_nil, or_false] at hc
  rcases hc with rfl | rfl | rfl | rfl | rfl | rfl | rfl | rfl | rfl <;> first | exact lf_bool | exact lf_int | exact lf_u32 _)
end Go.Ab

set_option linter.unusedVariables false
set_option maxRecDepth 20000
set_option linter.unusedSimpArgs false
set_option linter.unusedSectionVars false
namespace Go.Ab
open Go.Proofs
open Cx (zero one)
attribute [-go_sem] appF newsF
variable {a b : AV} {z w c : Cx} {B C n m d P M D : Nat} {cs ds : List AV} {f g : Po} {r x : Dyadic}
/-! what is known of counts, what comes in -/
theorem small15_s (b : Bool) (l : List Nat) (e : Int) : Sat CT false 11 [.agg [Bo b, U32 l, I64 e]] (Bo (decide (l.length ≤ 3 ∧ -200 ≤ e ∧ e ≤ 200))) := by
  refine sat_of annuluslaw15_small.ok (by simp) ?_
  have DD := annuluslaw15_small.dr
  simp only [drP, drPx, drPt, drR, drS, drT, bodyOf, Tryz.f11, Nat.reduceEqDiff, reduceIte, true_and, and_true] at DD
  by_cases h1 : l.length ≤ 3
  · have c1 : (l.length : Int) ≤ 3 := by omega
    by_cases h2 : -200 ≤ e
    · by_cases h3 : e ≤ 200
      · rw [decide_eq_true ⟨h1, h2, h3⟩]
        simp -implicitDefEqProofs only [go_sem, simprocAttr, -Int.reducePow, Tryz.f11, DD, x_app, x_ga0, x_gas, x_gan, Int.cast_ofNat_Int, eq_self, Int.zero_lt_one, Bool.not_false, Bool.not_true, beq_self_eq_true, c1, h2, h3]
      · rw [decide_eq_false (fun h => h3 h.2.2)]
        simp -implicitDefEqProofs only [go_sem, simprocAttr, -Int.reducePow, Tryz.f11, DD, x_app, x_ga0, x_gas, x_gan, Int.cast_ofNat_Int, eq_self, Int.zero_lt_one, Bool.not_false, Bool.not_true, beq_self_eq_true, c1, h2, h3]
    · rw [decide_eq_false (fun h => h2 h.2.1)]
      simp -implicitDefEqProofs only [go_sem, simprocAttr, -Int.reducePow, Tryz.f11, DD, x_app, x_ga0, x_gas, x_gan, Int.cast_ofNat_Int, eq_self, Int.zero_lt_one, Bool.not_false, Bool.not_true, beq_self_eq_true, c1, h2]
  · have c1 : ¬ (l.length : Int) ≤ 3 := by omega
    rw [decide_eq_false (fun h => h1 h.1)]
    simp -implicitDefEqProofs only [go_sem, simprocAttr, -Int.reducePow, Tryz.f11, DD, x_app, x_ga0, x_gas, x_gan, Int.cast_ofNat_Int, eq_self, Int.zero_lt_one, Bool.not_false, Bool.not_true, beq_self_eq_true, c1]
theorem few15_s (F : Nat → Raw) (hn : n ≤ 9223372036854775807) : Sat CT false 9 [.sl n (qcl n F)] (Bo (decide ((∀ i, i < n → (F i).sm) ∧ n ≤ 14))) := by
  refine sat_of annuluslaw15_few.ok (by simp) ?_
  have DD := annuluslaw15_few.dr
  simp only [drP, drPx, drPt, drR, drS, drT, bodyOf, Tryz.f9, Nat.reduceEqDiff, reduceIte, true_and, and_true] at DD
  have hL := qcl_len n F
  simp -implicitDefEqProofs only [go_sem, simprocAttr, -Int.reducePow, Tryz.f9, DD, x_app, x_ga0, x_gas, x_gan, Int.cast_ofNat_Int, eq_self, Int.zero_lt_one, Bool.not_false, Bool.not_true, beq_self_eq_true]
  refine loop_of aW0_mono (fun q σ => ∃ sl i, σ = ⟨sl, []⟩ ∧ q = n - i ∧ i ≤ n ∧ look sl 0 = .sl n (qcl n F) ∧ look sl 3 = I64 (i : Nat) ∧ ∀ j, j < i → (F j).sm) ?_ (n := n)
    ⟨_, 0, rfl, rfl, Nat.zero_le _, by simp [x_look], by simp [x_look], fun j hj => by omega⟩
  rintro q _ ⟨sl, i, rfl, rfl, hi, k0, k3, hinv⟩
  by_cases hid : i = n
  · subst hid
    have ed : decide ((∀ j, j < i → (F j).sm) ∧ i ≤ 14) = decide ((i : Int) ≤ 14) := decide_eq_decide.2 ⟨fun h => by omega, fun h => ⟨hinv, by omega⟩⟩
    rw [ed]
    simp -implicitDefEqProofs only [go_sem, simprocAttr, -Int.reducePow, DD, x_app, x_ga0, x_gas, x_gan, Int.cast_ofNat_Int, eq_self, Int.zero_lt_one, Bool.not_false, Bool.not_true, beq_self_eq_true, k0, k3, Int.lt_irrefl]
  · have c1 : (i : Int) < (n : Int) := by omega
    have ci : IntKind.i64.wrap ((i : Int) + 1) = ((i + 1 : Nat) : Int) := by rw [wrap_i64 (by omega) (by omega)]; omega
    have c2 : (0 : Int) ≤ (i : Int) := by omega
    have c4 : i * 6 < n * 6 := by omega
    have c5 : i * 6 + 3 ≤ n * 6 := by omega
    have c6 : i * 6 + 3 + 3 ≤ n * 6 := by omega
    have hc := qcl_lo F (show i < n by omega)
    have hc' := qcl_hi F (show i < n by omega)
    have q1 := small15_s (F i).n (F i).l (F i).e
    have q2 := small15_s (F i).m (F i).k (F i).f
    by_cases h1 : (F i).l.length ≤ 3 ∧ -200 ≤ (F i).e ∧ (F i).e ≤ 200
    · rw [decide_eq_true h1] at q1
      by_cases h2 : (F i).k.length ≤ 3 ∧ -200 ≤ (F i).f ∧ (F i).f ≤ 200
      · rw [decide_eq_true h2] at q2
        simp -implicitDefEqProofs only [go_sem, simprocAttr, -Int.reducePow, DD, x_app, x_ga0, x_gas, x_gan, Int.cast_ofNat_Int, eq_self, Int.zero_lt_one, Bool.not_false, Bool.not_true, beq_self_eq_true, k0, k3, ci, c1, c2, c4, c5, c6, hc, hc', hL]
        refine callK_pl annuluslaw15_small.call (q1) (pl1 (pld_dy _ _ _)) ?_
        simp -implicitDefEqProofs only [go_sem, simprocAttr, -Int.reducePow, DD, x_app, x_ga0, x_gas, x_gan, Int.cast_ofNat_Int, eq_self, Int.zero_lt_one, Bool.not_false, Bool.not_true, beq_self_eq_true, k0, k3, ci, c1, c2, c4, c5, c6, hc, hc', hL]
        refine callK_pl annuluslaw15_small.call (q2) (pl1 (pld_dy _ _ _)) ?_
        simp -implicitDefEqProofs only [go_sem, simprocAttr, -Int.reducePow, DD, x_app, x_ga0, x_gas, x_gan, Int.cast_ofNat_Int, eq_self, Int.zero_lt_one, Bool.not_false, Bool.not_true, beq_self_eq_true, k0, k3, ci, c1, c2, c4, c5, c6, hc, hc', hL]
        exact ⟨n - (i + 1), by omega, _, i + 1, rfl, rfl, by omega, by simp [x_look, k0], by simp [x_look], fun j hj => by
          rcases Nat.lt_or_ge j i with h | h
          · exact hinv j h
          · rw [show j = i by omega]; exact ⟨h1, h2⟩⟩
      · rw [decide_eq_false h2] at q2
        rw [decide_eq_false (fun h => h2 (h.1 i (by omega)).2)]
        simp -implicitDefEqProofs only [go_sem, simprocAttr, -Int.reducePow, DD, x_app, x_ga0, x_gas, x_gan, Int.cast_ofNat_Int, eq_self, Int.zero_lt_one, Bool.not_false, Bool.not_true, beq_self_eq_true, k0, k3, ci, c1, c2, c4, c5, c6, hc, hc', hL]
        refine callK_pl annuluslaw15_small.call (q1) (pl1 (pld_dy _ _ _)) ?_
        simp -implicitDefEqProofs only [go_sem, simprocAttr, -Int.reducePow, DD, x_app, x_ga0, x_gas, x_gan, Int.cast_ofNat_Int, eq_self, Int.zero_lt_one, Bool.not_false, Bool.not_true, beq_self_eq_true, k0, k3, ci, c1, c2, c4, c5, c6, hc, hc', hL]
        refine callK_pl annuluslaw15_small.call (q2) (pl1 (pld_dy _ _ _)) ?_
        simp -implicitDefEqProofs only [go_sem, simprocAttr, -Int.reducePow, DD, x_app, x_ga0, x_gas, x_gan, Int.cast_ofNat_Int, eq_self, Int.zero_lt_one, Bool.not_false, Bool.not_true, beq_self_eq_true, k0, k3, ci, c1, c2, c4, c5, c6, hc, hc', hL]
    · rw [decide_eq_false h1] at q1
      rw [decide_eq_false (fun h => h1 (h.1 i (by omega)).1)]
      simp -implicitDefEqProofs only [go_sem, simprocAttr, -Int.reducePow, DD, x_app, x_ga0, x_gas, x_gan, Int.cast_ofNat_Int, eq_self, Int.zero_lt_one, Bool.not_false, Bool.not_true, beq_self_eq_true, k0, k3, ci, c1, c2, c4, c5, c6, hc, hc', hL]
      refine callK_pl annuluslaw15_small.call (q1) (pl1 (pld_dy _ _ _)) ?_
      simp -implicitDefEqProofs only [go_sem, simprocAttr, -Int.reducePow, DD, x_app, x_ga0, x_gas, x_gan, Int.cast_ofNat_Int, eq_self, Int.zero_lt_one, Bool.not_false, Bool.not_true, beq_self_eq_true, k0, k3, ci, c1, c2, c4, c5, c6, hc, hc', hL]
theorem point15_s (r : Raw) : Sat CT false 10 [.agg r.cells] (Bo (decide r.sm)) := by
  refine sat_of annuluslaw15_point.ok (by simp) ?_
  have DD := annuluslaw15_point.dr
  simp only [drP, drPx, drPt, drR, drS, drT, bodyOf, Tryz.f10, Nat.reduceEqDiff, reduceIte, true_and, and_true] at DD
  obtain ⟨b, l, e, c, k, g⟩ := r
  have q1 := small15_s b l e
  have q2 := small15_s c k g
  by_cases h1 : l.length ≤ 3 ∧ -200 ≤ e ∧ e ≤ 200
  · rw [decide_eq_true h1] at q1
    have ed : decide (Raw.sm ⟨b, l, e, c, k, g⟩) = decide (k.length ≤ 3 ∧ -200 ≤ g ∧ g ≤ 200) := decide_eq_decide.2 ⟨fun h => h.2, fun h => ⟨h1, h⟩⟩
    rw [ed]
    by_cases h2 : k.length ≤ 3 ∧ -200 ≤ g ∧ g ≤ 200
    · rw [decide_eq_true h2] at q2 ⊢
      simp -implicitDefEqProofs only [go_sem, simprocAttr, -Int.reducePow, Tryz.f10, DD, x_app, x_ga0, x_gas, x_gan, Int.cast_ofNat_Int, eq_self, Int.zero_lt_one, Bool.not_false, Bool.not_true, beq_self_eq_true, Raw.cells]
      refine callK_pl annuluslaw15_small.call (q1) (pl1 (pld_dy _ _ _)) ?_
      simp -implicitDefEqProofs only [go_sem, simprocAttr, -Int.reducePow, DD, x_app, x_ga0, x_gas, x_gan, Int.cast_ofNat_Int, eq_self, Int.zero_lt_one, Bool.not_false, Bool.not_true, beq_self_eq_true]
      refine callK_pl annuluslaw15_small.call (q2) (pl1 (pld_dy _ _ _)) ?_
      simp -implicitDefEqProofs only [go_sem, simprocAttr, -Int.reducePow, DD, x_app, x_ga0, x_gas, x_gan, Int.cast_ofNat_Int, eq_self, Int.zero_lt_one, Bool.not_false, Bool.not_true, beq_self_eq_true]
    · rw [decide_eq_false h2] at q2 ⊢
      simp -implicitDefEqProofs only [go_sem, simprocAttr, -Int.reducePow, Tryz.f10, DD, x_app, x_ga0, x_gas, x_gan, Int.cast_ofNat_Int, eq_self, Int.zero_lt_one, Bool.not_false, Bool.not_true, beq_self_eq_true, Raw.cells]
      refine callK_pl annuluslaw15_small.call (q1) (pl1 (pld_dy _ _ _)) ?_
      simp -implicitDefEqProofs only [go_sem, simprocAttr, -Int.reducePow, DD, x_app, x_ga0, x_gas, x_gan, Int.cast_ofNat_Int, eq_self, Int.zero_lt_one, Bool.not_false, Bool.not_true, beq_self_eq_true]
      refine callK_pl annuluslaw15_small.call (q2) (pl1 (pld_dy _ _ _)) ?_
      simp -implicitDefEqProofs only [go_sem, simprocAttr, -Int.reducePow, DD, x_app, x_ga0, x_gas, x_gan, Int.cast_ofNat_Int, eq_self, Int.zero_lt_one, Bool.not_false, Bool.not_true, beq_self_eq_true]
  · rw [decide_eq_false h1] at q1
    rw [decide_eq_false (show ¬ Raw.sm ⟨b, l, e, c, k, g⟩ from fun h => h1 h.1)]
    simp -implicitDefEqProofs only [go_sem, simprocAttr, -Int.reducePow, Tryz.f10, DD, x_app, x_ga0, x_gas, x_gan, Int.cast_ofNat_Int, eq_self, Int.zero_lt_one, Bool.not_false, Bool.not_true, beq_self_eq_true, Raw.cells]
    refine callK_pl annuluslaw15_small.call (q1) (pl1 (pld_dy _ _ _)) ?_
    simp -implicitDefEqProofs only [go_sem, simprocAttr, -Int.reducePow, DD, x_app, x_ga0, x_gas, x_gan, Int.cast_ofNat_Int, eq_self, Int.zero_lt_one, Bool.not_false, Bool.not_true, beq_self_eq_true]

/-- two roots -/
def pr2 (a b : Cx) : Po := fun i => match i with | 0 => a | 1 => b | _ + 2 => zero
theorem pr2_cl (a b : Cx) : pcl 2 (pr2 a b) = CIc a ++ CIc b := by rw [pclS, pclS, pcl0]; rfl
theorem zI_neg (a b : Int) : -(zI a b) = zI (-a) (-b) := Cx.ext' (dv_neg a 0) (dv_neg b 0)
theorem zI_zero : zero = zI 0 0 := rfl
theorem frm2 (f : Nat → Cx) (u v : Int) (h0 : f 0 = zI u 0) (h1 : f 1 = zI v 0) : frm f 2 0 = zI (u * v) 0 ∧ frm f 2 1 = zI (-(u + v)) 0 ∧ frm f 2 2 = zI 1 0 := by
  have e : ∀ k, frm f 2 k = px (lin (zI u 0)) k + -(zI v 0) * lin (zI u 0) k := fun k => by rw [frm_2, h0, h1, conv_lin]
  refine ⟨?_, ?_, ?_⟩
  · rw [e]
    show zero + -(zI v 0) * -(zI u 0) = _
    rw [zI_neg, zI_neg, zI_mul, zI_zero, zI_add]
    congr 1 <;> grind
  · rw [e]
    show -(zI u 0) + -(zI v 0) * zI 1 0 = _
    rw [zI_neg, zI_neg, zI_mul, zI_add]
    congr 1 <;> grind
  · rw [e]
    show zI 1 0 + -(zI v 0) * zero = _
    rw [zI_neg, zI_zero, zI_mul, zI_add]
    congr 1 <;> grind
theorem tms_I (a ρ : Int) : tms (zI a 0) (dv ρ 0) = zI (a * ρ) 0 := Cx.ext' (dvm0 a ρ) (by show dv 0 0 * dv ρ 0 = dv 0 0; rw [dvm0, Int.zero_mul])
theorem rk_I (ρ : Int) : rk (dv ρ 0) 0 = dv 1 0 ∧ rk (dv ρ 0) 1 = dv ρ 0 ∧ rk (dv ρ 0) 2 = dv (ρ * ρ) 0 := by
  have e1 : rk (dv ρ 0) 1 = dv ρ 0 := by show dv 1 0 * dv ρ 0 = _; rw [dvm0, Int.one_mul]
  exact ⟨rfl, e1, by show rk (dv ρ 0) 1 * dv ρ 0 = _; rw [e1, dvm0]⟩
theorem uni2 (u v γ ρ : Int) : uni 3 (frm (pr2 (zI u 0) (zI v 0)) 2) (zI γ 0) (dv ρ 0) 0 = zI ((u - γ) * (v - γ)) 0 ∧ uni 3 (frm (pr2 (zI u 0) (zI v 0)) 2) (zI γ 0) (dv ρ 0) 1 = zI (-((u - γ) + (v - γ)) * ρ) 0 ∧
    uni 3 (frm (pr2 (zI u 0) (zI v 0)) 2) (zI γ 0) (dv ρ 0) 2 = zI (ρ * ρ) 0 := by
  obtain ⟨k0, k1, k2⟩ := rk_I ρ
  obtain ⟨f0, f1, f2⟩ := frm2 (fun i => pr2 (zI u 0) (zI v 0) i - zI γ 0) (u - γ) (v - γ) (show zI u 0 - zI γ 0 = _ by rw [zI_sub]; rfl) (show zI v 0 - zI γ 0 = _ by rw [zI_sub]; rfl)
  unfold uni
  rw [shf_frm, k0, k1, k2, f0, f1, f2, tms_I, tms_I, tms_I, Int.mul_one, Int.one_mul]
  exact ⟨rfl, rfl, rfl⟩
theorem zI_ne {a : Int} (h : a ≠ 0) : zI a 0 ≠ zero := fun e => h (by
  have := congrArg Cx.re e
  exact dv_eq_zero.1 this)
theorem uni2_dg (u v γ ρ : Int) (h : ρ ≠ 0) : dg 3 (uni 3 (frm (pr2 (zI u 0) (zI v 0)) 2) (zI γ 0) (dv ρ 0)) = 3 := by
  rw [dgS, if_neg (by rw [(uni2 u v γ ρ).2.2]; exact zI_ne (fun e => h (by rcases Int.mul_eq_zero.1 e with q | q <;> exact q)))]
theorem okB_small {D l : Nat} (hD : D ≤ 3) (hl : l ≤ 3) {b : Nat} (hb : b ≤ 1000) : okB 12045 D l b := by
  match l, hl with
  | 0, _ => show b ≤ 12045; omega
  | 1, _ => exact ⟨by omega, (by omega : 2 * b + D + 2 ≤ 12045)⟩
  | 2, _ => exact ⟨by omega, by omega, (by omega : 2 * (2 * b + D + 2) + D + 2 ≤ 12045)⟩
  | 3, _ => exact ⟨by omega, by omega, by omega, (by omega : 2 * (2 * (2 * b + D + 2) + D + 2) + D + 2 ≤ 12045)⟩
theorem of15_s (a b r : Int) (ha : a.natAbs < 1000000) (hb : b.natAbs < 1000000) (hr : r.natAbs < 1000000) : Sat CT false 24 [I64 a, I64 b, I64 r] (TI (zI a b) (dv r 0)) := by
  refine sat_of annuluslaw15_of.ok (by simp) ?_
  have DD := annuluslaw15_of.dr
  simp only [drP, drPx, drPt, drR, drS, drT, bodyOf, Tryz.f24, Nat.reduceEqDiff, reduceIte, true_and, and_true] at DD
  have u1 := rof8_sat a b (by omega) (by omega) (by omega) (by omega)
  have u2 := rof4_sat r (by omega) (by omega)
  simp -implicitDefEqProofs only [go_sem, simprocAttr, -Int.reducePow, Tryz.f24, DD, TI, zI, List.take_succ_cons, List.drop_succ_cons]
  refine callK_q annulusref8_Of.call (u1) rfl rfl ?_
  simp -implicitDefEqProofs only [go_sem, simprocAttr, -Int.reducePow, DD, TI, zI, List.take_succ_cons, List.drop_succ_cons]
  refine callK_q annulusref4_Of.call (u2) rfl rfl ?_
  simp -implicitDefEqProofs only [go_sem, simprocAttr, -Int.reducePow, DD, TI, zI, List.take_succ_cons, List.drop_succ_cons]
  rfl
theorem anyO_eq {k : Nat} (hk : k < d) (h : aYes f d k P) (hn : ∀ i, i < k → ¬ aYes f d i P) : anyO f d P = some k := by
  rcases anyO_spec f d P with ⟨j, j1, j2, j3, j4⟩ | ⟨j1, j2⟩
  · rcases Nat.lt_trichotomy j k with q | q | q
    · exact absurd j3 (hn j q)
    · rw [j1, q]
    · exact absurd h (j4 k q)
  · exact absurd h (j2 k hk)
theorem f19_pb : PB (frm (pr2 (zI 1 0) (zI 9 0)) 2) 60 := fun i => by
  have hrt : ∀ i, i < 2 → CB (pr2 (zI 1 0) (zI 9 0) i) 20 := fun i hi => by
    match i, hi with
    | 0, _ => exact ⟨DB.raw (m := 1) (e := 0) (L := 10) (E := 0) (by decide) (by decide) (by decide), DB.raw (m := 0) (e := 0) (L := 10) (E := 0) (by decide) (by decide) (by decide)⟩
    | 1, _ => exact ⟨DB.raw (m := 9) (e := 0) (L := 10) (E := 0) (by decide) (by decide) (by decide), DB.raw (m := 0) (e := 0) (L := 10) (E := 0) (by decide) (by decide) (by decide)⟩
  have h := PB.frm (N := 2) hrt (by decide) (Nat.le_refl 2) i
  exact ⟨h.1.mono (by decide), h.2.mono (by decide)⟩
theorem f19_rp : RP (pcl 3 (frm (pr2 (zI 1 0) (zI 9 0)) 2)) 3 (frm (pr2 (zI 1 0) (zI 9 0)) 2) 60 := RP_P f19_pb (Sp.frm _ 2) (by decide)
theorem f19_dg : dg 3 (frm (pr2 (zI 1 0) (zI 9 0)) 2) ≠ 0 := by
  rw [dgS, if_neg (by rw [(frm2 (pr2 (zI 1 0) (zI 9 0)) 1 9 rfl rfl).2.2]; exact zI_ne (by decide))]
  decide
theorem any_k {u0 u1 u2 : Int} {F : Po} (h0 : F 0 = zI u0 0) (h1 : F 1 = zI u1 0) (h2 : F 2 = zI u2 0) (b0 : u0.natAbs < 2 ^ 60) (b1 : u1.natAbs < 2 ^ 60) (b2 : u2.natAbs < 2 ^ 60) :
    (u0.natAbs + u1.natAbs + u2.natAbs < 2 * u0.natAbs → anyO F 3 60 = some 0) ∧ (¬ u0.natAbs + u1.natAbs + u2.natAbs < 2 * u0.natAbs → u0.natAbs + u1.natAbs + u2.natAbs < 2 * u1.natAbs → anyO F 3 60 = some 1) := by
  refine ⟨fun g => ?_, fun g g' => ?_⟩
  · exact anyO_eq (by decide) ((yes3 h0 h1 h2 (by decide) b0 b1 b2 h0 b0).2 g) (fun i hi => absurd hi (Nat.not_lt_zero _))
  · exact anyO_eq (by decide) ((yes3 h0 h1 h2 (by decide) b0 b1 b2 h1 b1).2 g') (fun i hi => by
      obtain rfl : i = 0 := by omega
      exact fun q => g ((yes3 h0 h1 h2 (by decide) b0 b1 b2 h0 b0).1 q))
theorem inO_any {l k : Nat} (h : anyO f d P = some k) : inO l f d P = some k := by
  cases l with
  | zero => exact h
  | succ l => unfold inO; rw [h]
theorem k15_in (γ : Int) (k : Nat) (hγ : γ.natAbs < 2 ^ 64) (h : anyO (uni 3 (frm (pr2 (zI 1 0) (zI 9 0)) 2) (zI γ 0) (dv 3 0)) 3 60 = some k) : Sat CT false 14 [PA 3 (frm (pr2 (zI 1 0) (zI 9 0)) 2), TI (zI γ 0) (dv 3 0), I64 3, I64 60] (.tup [I64 (oI (some k)), Bo (some k).isSome]) := by
  have t3 := tI_rt (a := γ) (b := 0) (r := 3) hγ (by decide) (by decide)
  have s3 : ¬ (dnum (dv 3 0)).sign ≤ 0 := by rw [dnum_sign]; decide
  have a1 := cin_s f19_rp (isD_pcl _ _) (by decide) t3 (by decide) (by decide) 3 60 (by decide) f19_dg s3 (L := 3) (by decide) (uni_pb f19_pb t3.cb (rp_db t3.db) 3) (okB_small (dg_le _ _) (by decide) (by decide))
  rw [rp_I 3 (by decide), uni2_dg 1 9 γ 3 (by decide), show heldP 60 = 60 from rfl, inO_any h] at a1
  exact a1
theorem k15_1 : Sat CT false 14 [PA 3 (frm (pr2 (zI 1 0) (zI 9 0)) 2), TI (zI 0 0) (dv 3 0), I64 3, I64 60] (.tup [I64 (oI (some 1)), Bo (some 1).isSome]) := by
  obtain ⟨u0, u1, u2⟩ := uni2 1 9 0 3
  exact k15_in 0 1 (by decide) ((any_k u0 u1 u2 (by decide) (by decide) (by decide)).2 (by decide) (by decide))
theorem k15_2 : Sat CT false 14 [PA 3 (frm (pr2 (zI 1 0) (zI 9 0)) 2), TI (zI 20 0) (dv 3 0), I64 3, I64 60] (.tup [I64 (oI (some 0)), Bo (some 0).isSome]) := by
  obtain ⟨u0, u1, u2⟩ := uni2 1 9 20 3
  exact k15_in 20 0 (by decide) ((any_k u0 u1 u2 (by decide) (by decide) (by decide)).1 (by decide))
set_option maxHeartbeats 4000000 in
theorem known15_s : Sat CT false 8 [] (Bo true) := by
  refine sat_of annuluslaw15_known.ok (by simp) ?_
  have DD := annuluslaw15_known.dr
  simp only [drP, drPx, drPt, drR, drS, drT, bodyOf, Tryz.f8, Nat.reduceEqDiff, reduceIte, true_and, and_true] at DD
  have z1 : CB (zI 1 0) 20 := ⟨DB.raw (m := 1) (e := 0) (L := 10) (E := 0) (by decide) (by decide) (by decide), DB.raw (m := 0) (e := 0) (L := 10) (E := 0) (by decide) (by decide) (by decide)⟩
  have z9 : CB (zI 9 0) 20 := ⟨DB.raw (m := 9) (e := 0) (L := 10) (E := 0) (by decide) (by decide) (by decide), DB.raw (m := 0) (e := 0) (L := 10) (E := 0) (by decide) (by decide) (by decide)⟩
  have o1 := rof8_sat 1 0 (by decide) (by decide) (by decide) (by decide)
  have o9 := rof8_sat 9 0 (by decide) (by decide) (by decide) (by decide)
  have hrt : ∀ i, i < 2 → CB (pr2 (zI 1 0) (zI 9 0) i) 20 := fun i hi => by match i, hi with | 0, _ => exact z1 | 1, _ => exact z9
  have fr := rfrom_s (cs := pcl 2 (pr2 (zI 1 0) (zI 9 0))) (n := 2) (B := 20) (pr2 (zI 1 0) (zI 9 0)) (pcl_len _ _) (fun i hi => by rw [pcl_el _ hi]; exact RC_C (hrt i hi)) (by decide) (by decide) (by decide)
  have t3 := tI_rt (a := 0) (b := 0) (r := 3) (by decide) (by decide) (by decide)
  have t20 := tI_rt (a := 20) (b := 0) (r := 3) (by decide) (by decide) (by decide)
  have t1 := tI_rt (a := 0) (b := 0) (r := 1) (by decide) (by decide) (by decide)
  have t2 := tI_rt (a := 0) (b := 0) (r := 2) (by decide) (by decide) (by decide)
  have r2 := rp_I 2 (by decide)
  have a1 := k15_1
  have a2 := k15_2
  have n1 := cnone_s 3 60 t3 (isD_pcl _ _) a1
  rw [decide_eq_false (by decide)] at n1
  have n2 := cnone_s 3 60 t20 (isD_pcl _ _) a2
  rw [decide_eq_true rfl] at n2
  have a3 := cin_no (RP_P (n := 0) (f := pz) (B := 0) (fun _ => CB.zero 0) (fun _ _ => rfl) (by omega)) (isD_pcl _ _) (by decide) t1 (by decide) 3 60 (.inl (dg0 _))
  rw [pcl0] at a3
  have un := cunit_s f19_rp (isD_pcl _ _) t2 (by decide) (by decide) (by decide)
  rw [r2, uni2_dg 1 9 0 2 (by decide)] at un
  have q1 := of15_s 0 0 3 (by decide) (by decide) (by decide)
  have q2 := of15_s 20 0 3 (by decide) (by decide) (by decide)
  have q3 := of15_s 0 0 1 (by decide) (by decide) (by decide)
  have q4 := of15_s 0 0 2 (by decide) (by decide) (by decide)
  have p3 := pld_TI (zI 0 0) (dv 3 0)
  have hPA : ∀ (d : Nat) (g : Po), PA d g = .sl d (pcl d g) := fun _ _ => rfl
  generalize frm (pr2 (zI 1 0) (zI 9 0)) 2 = F at *
  simp -implicitDefEqProofs only [go_sem, simprocAttr, -Int.reducePow, Tryz.f8, DD]
  refine callK_pl annulusref8_Of.call (o1) (pl2 pld_int pld_int) ?_
  simp -implicitDefEqProofs only [go_sem, simprocAttr, -Int.reducePow, DD]
  refine callK_pl annulusref8_Of.call (o9) (pl2 pld_int pld_int) ?_
  simp -implicitDefEqProofs only [go_sem, simprocAttr, -Int.reducePow, DD]
  refine callK_ar annulusref11_From.call fr (.cons (.row (cs := pcl 2 (pr2 (zI 1 0) (zI 9 0))) (.inr ⟨_, true, rfl, by rw [pr2_cl]; rfl, by simp, pcl_len _ _⟩) (snap0_pcl _ _) (isD_pcl _ _)) .nil) rfl ?_
  intro H' _
  simp -implicitDefEqProofs only [go_sem, simprocAttr, -Int.reducePow, DD, hPA]
  refine callK_q annuluslaw15_of.call (q1) rfl rfl ?_
  simp -implicitDefEqProofs only [go_sem, simprocAttr, -Int.reducePow, DD, hPA]
  refine callK_pl count_In.call (a1) (pl4 (pld_PA 3 F) (pld_TI _ _) pld_int pld_int) ?_
  simp -implicitDefEqProofs only [go_sem, simprocAttr, -Int.reducePow, DD, hPA, oI, Option.isSome]
  refine callK_q annuluslaw15_of.call (q2) rfl rfl ?_
  simp -implicitDefEqProofs only [go_sem, simprocAttr, -Int.reducePow, DD, hPA, oI, Option.isSome]
  refine callK_pl count_In.call (a2) (pl4 (pld_PA 3 F) (pld_TI _ _) pld_int pld_int) ?_
  simp -implicitDefEqProofs only [go_sem, simprocAttr, -Int.reducePow, DD, hPA, oI, Option.isSome]
  refine callK_q annuluslaw15_of.call (q3) rfl rfl ?_
  simp -implicitDefEqProofs only [go_sem, simprocAttr, -Int.reducePow, DD, hPA, oI, Option.isSome]
  refine callK_ar count_In.call a3 (.cons .none (.cons (.pl (pld_TI _ _)) (.cons (.pl pld_int) (.cons (.pl pld_int) .nil)))) rfl ?_
  intro H2 _
  simp -implicitDefEqProofs only [go_sem, simprocAttr, -Int.reducePow, DD, hPA, oI, Option.isSome, Int.natCast_one, Int.natCast_zero]
  refine callK_q annuluslaw15_of.call (q2) rfl rfl ?_
  simp -implicitDefEqProofs only [go_sem, simprocAttr, -Int.reducePow, DD, hPA, oI, Option.isSome, Int.natCast_one, Int.natCast_zero]
  refine callK_pl count_None.call (n2) (pl4 (pld_PA 3 F) (pld_TI _ _) pld_int pld_int) ?_
  simp -implicitDefEqProofs only [go_sem, simprocAttr, -Int.reducePow, DD, hPA, oI, Option.isSome, Int.natCast_one, Int.natCast_zero]
  refine callK_q annuluslaw15_of.call (q1) rfl rfl ?_
  simp -implicitDefEqProofs only [go_sem, simprocAttr, -Int.reducePow, DD, hPA, oI, Option.isSome, Int.natCast_one, Int.natCast_zero]
  refine callK_pl count_None.call (n1) (pl4 (pld_PA 3 F) (pld_TI _ _) pld_int pld_int) ?_
  simp -implicitDefEqProofs only [go_sem, simprocAttr, -Int.reducePow, DD, hPA, oI, Option.isSome, Int.natCast_one, Int.natCast_zero]
  refine callK_q annuluslaw15_of.call (q4) rfl rfl ?_
  simp -implicitDefEqProofs only [go_sem, simprocAttr, -Int.reducePow, DD, hPA, oI, Option.isSome, Int.natCast_one, Int.natCast_zero]
  refine callK_pl count_Unit.call (un) (pl2 (pld_PA 3 F) (pld_TI _ _)) ?_
  simp -implicitDefEqProofs only [go_sem, simprocAttr, -Int.reducePow, DD, hPA, oI, Option.isSome, Int.natCast_one, Int.natCast_zero]
end Go.Ab

set_option linter.unusedVariables false
set_option maxRecDepth 20000
set_option linter.unusedSimpArgs false
set_option linter.unusedSectionVars false
namespace Go.Ab
open Go.Proofs
open Cx (zero one)
attribute [-go_sem] appF newsF
variable {a b : AV} {z w c : Cx} {B C n m d P M D : Nat} {cs ds : List AV} {f g : Po} {r x : Dyadic}
/-! the law of what is told of counts -/
abbrev RawT.sm (t : RawT) : Prop := t.c.sm ∧ (t.p.length ≤ 3 ∧ -200 ≤ t.q ∧ t.q ≤ 200)
theorem RawT.rts {t : RawT} (h : t.ok) (hs : t.sm) : RT (.agg t.cells) t.c.z t.rd 296 296 := ⟨_, _, _, _, _, _, _, _, _, rfl, rd_small h.1.1 hs.1.1, rd_small h.1.2.1 hs.1.2, rd_small h.2 hs.2⟩
theorem tmod_nat (a b : Nat) : ((a : Int)).tmod (b : Int) = ((a % b : Nat) : Int) := by rw [Int.natCast_emod]; exact Int.tmod_eq_emod_of_nonneg (by omega)
end Go.Ab

set_option linter.unusedVariables false
set_option maxRecDepth 20000
set_option linter.unusedSimpArgs false
set_option linter.unusedSectionVars false
namespace Go.Ab
open Go.Proofs
open Cx (zero one)
attribute [-go_sem] appF newsF
variable {a b : AV} {z w c : Cx} {B C n m d P M D : Nat} {cs ds : List AV} {f g s : Po} {r x y : Dyadic}
/-! the law of the unit circle's polynomial: plain -/
theorem tms_tms (z : Cx) (x y : Dyadic) : tms (tms z x) y = tms z (x * y) := Cx.ext' (show z.re * x * y = z.re * (x * y) by grind) (show z.im * x * y = z.im * (x * y) by grind)
theorem tms_add (z w : Cx) (x : Dyadic) : tms z x + tms w x = tms (z + w) x := Cx.ext' (show z.re * x + w.re * x = (z.re + w.re) * x by grind) (show z.im * x + w.im * x = (z.im + w.im) * x by grind)
theorem tms_mul (z w : Cx) (x : Dyadic) : tms z x * w = tms (z * w) x := Cx.ext' (show z.re * x * w.re - z.im * x * w.im = (z.re * w.re - z.im * w.im) * x by grind) (show z.re * x * w.im + z.im * x * w.re = (z.re * w.im + z.im * w.re) * x by grind)
theorem tms_zero (x : Dyadic) : tms zero x = zero := Cx.ext' (show (0 : Dyadic) * x = 0 by grind) (show (0 : Dyadic) * x = 0 by grind)
/-- Horner's, from the top, scaled -/
def hnr (n : Nat) (s : Po) (r : Dyadic) (z : Cx) (j : Nat) : Cx := tms (ev j (dp (n + 1 - j) s) z) (rk r n)
theorem rk_ne (h : r ≠ 0) : ∀ k, rk r k ≠ 0
  | 0 => by show dv 1 0 ≠ 0; decide
  | k + 1 => mul_ne (rk_ne h k) h
theorem tms_ne (hz : z ≠ zero) (hx : x ≠ 0) : tms z x ≠ zero := fun e => by
  have e1 : z.re * x = 0 := congrArg Cx.re e
  have e2 : z.im * x = 0 := congrArg Cx.im e
  apply hz
  refine Cx.ext' ?_ ?_
  · by_cases q : z.re = 0
    · exact q
    · exact absurd e1 (mul_ne q hx)
  · by_cases q : z.im = 0
    · exact q
    · exact absurd e2 (mul_ne q hx)
theorem uni_top (p : Nat → Cx) (n : Nat) (c : Cx) (h : r ≠ 0) : dg (n + 1) (uni (n + 1) (frm p n) c r) = n + 1 := by
  rw [dgS, if_neg ?_]
  unfold uni
  rw [shf_top, frm_top]
  exact tms_ne (fun e => absurd (congrArg Cx.re e) (by decide)) (rk_ne h n)
end Go.Ab

set_option linter.unusedVariables false
set_option maxRecDepth 20000
set_option linter.unusedSimpArgs false
set_option linter.unusedSectionVars false
namespace Go.Ab
open Go.Proofs
open Cx (zero one)
attribute [-go_sem] appF newsF
variable {z w c : Cx} {B C n m d P M D : Nat} {f g s : Po} {r x y : Dyadic}
/-! what is sure of counts: plain -/
def scf (r : Dyadic) (f : Po) : Po := fun k => tms (f k) (rk r k)
def ts (f : Po) (x : Dyadic) : Po := fun k => tms (f k) x
theorem mul_tms (w z : Cx) (x : Dyadic) : w * tms z x = tms (w * z) x := Cx.ext' (show w.re * (z.re * x) - w.im * (z.im * x) = (w.re * z.re - w.im * z.im) * x by grind) (show w.re * (z.im * x) + w.im * (z.re * x) = (w.re * z.im + w.im * z.re) * x by grind)
theorem tms_1 (z : Cx) : tms z (dv 1 0) = z := by
  have e : dv 1 0 = 1 := by decide
  rw [e]
  exact Cx.ext' (show z.re * 1 = z.re by grind) (show z.im * 1 = z.im by grind)
theorem conv_ts (x : Dyadic) (g : Po) : ∀ (k : Nat) (f : Po), conv (ts f x) g k = tms (conv f g k) x
  | 0, f => by rw [conv0, conv0]; exact tms_mul _ _ _
  | k + 1, f => by
    rw [convS, convS, show tl (ts f x) = ts (tl f) x from rfl, conv_ts x g k, show ts f x 0 = tms (f 0) x from rfl, tms_mul, tms_add]
theorem conv_ts_r (x : Dyadic) (g : Po) : ∀ (k : Nat) (f : Po), conv f (ts g x) k = tms (conv f g k) x
  | 0, f => by rw [conv0, conv0]; exact mul_tms _ _ _
  | k + 1, f => by
    rw [convS, convS, conv_ts_r x g k, show ts g x (k + 1) = tms (g (k + 1)) x from rfl, mul_tms, tms_add]
theorem tl_scf (r : Dyadic) (f : Po) : tl (scf r f) = ts (scf r (tl f)) r := by
  funext k
  show tms (f (k + 1)) (rk r k * r) = tms (tms (f (k + 1)) (rk r k)) r
  rw [tms_tms]
theorem conv_scf (r : Dyadic) (g : Po) : ∀ (k : Nat) (f : Po), conv (scf r f) (scf r g) k = tms (conv f g k) (rk r k)
  | 0, f => by
    rw [conv0, conv0]
    show tms (f 0) (dv 1 0) * tms (g 0) (dv 1 0) = tms (f 0 * g 0) (dv 1 0)
    rw [tms_1, tms_1, tms_1]
  | k + 1, f => by
    rw [convS, convS, tl_scf, conv_ts, conv_scf r g k]
    show tms (f 0) (dv 1 0) * tms (g (k + 1)) (rk r (k + 1)) + tms (tms (conv (tl f) g k) (rk r k)) r = _
    rw [tms_1, mul_tms, tms_tms, show rk r k * r = rk r (k + 1) from rfl, tms_add]
theorem rk_sq (r : Dyadic) : ∀ k, rk r (2 * k) = rk (r * r) k
  | 0 => rfl
  | k + 1 => by
    show rk r (2 * k) * r * r = rk (r * r) k * (r * r)
    rw [rk_sq r k]; grind
theorem pE_scf (r : Dyadic) (f : Po) : pE (scf r f) = scf (r * r) (pE f) := by
  funext k
  show tms (f (2 * k)) (rk r (2 * k)) = tms (f (2 * k)) (rk (r * r) k)
  rw [rk_sq]
theorem pO_scf (r : Dyadic) (f : Po) : pO (scf r f) = ts (scf (r * r) (pO f)) r := by
  funext k
  show tms (f (2 * k + 1)) (rk r (2 * k) * r) = tms (tms (f (2 * k + 1)) (rk (r * r) k)) r
  rw [rk_sq, tms_tms]
theorem tms_neg (z : Cx) (x : Dyadic) : -(tms z x) = tms (-z) x := Cx.ext' (show -(z.re * x) = -z.re * x by grind) (show -(z.im * x) = -z.im * x by grind)
theorem sr_scf (r : Dyadic) (f : Po) : sr (scf r f) = scf (r * r) (sr f) := by
  funext k
  show conv (pE (scf r f)) (pE (scf r f)) k - px (conv (pO (scf r f)) (pO (scf r f))) k = tms (conv (pE f) (pE f) k - px (conv (pO f) (pO f)) k) (rk (r * r) k)
  rw [pE_scf, pO_scf, conv_scf]
  have e : px (conv (ts (scf (r * r) (pO f)) r) (ts (scf (r * r) (pO f)) r)) k = tms (px (conv (pO f) (pO f)) k) (rk (r * r) k) := by
    cases k with
    | zero => exact (tms_zero _).symm
    | succ k =>
      show conv (ts (scf (r * r) (pO f)) r) (ts (scf (r * r) (pO f)) r) k = tms (conv (pO f) (pO f) k) (rk (r * r) k * (r * r))
      rw [conv_ts, conv_ts_r, conv_scf, tms_tms, tms_tms]
  rw [e, Cx.sub_eq, Cx.sub_eq, tms_neg, tms_add]
theorem scf_ne (h : r ≠ 0) (f : Po) (k : Nat) : scf r f k = zero ↔ f k = zero := by
  constructor
  · intro e
    by_cases q : f k = zero
    · exact q
    · exact absurd e (tms_ne q (rk_ne h k))
  · intro e
    show tms (f k) _ = zero
    rw [e, tms_zero]
theorem dg_scf (h : r ≠ 0) (f : Po) : ∀ n, dg n (scf r f) = dg n f
  | 0 => by rw [dg0, dg0]
  | n + 1 => by
    rw [dgS, dgS]
    by_cases q : f n = zero
    · rw [if_pos q, if_pos ((scf_ne h f n).2 q), dg_scf h f n]
    · rw [if_neg q, if_neg (fun e => q ((scf_ne h f n).1 e))]
theorem stp_scf (h : r ≠ 0) (n : Nat) (f : Po) : stp n (scf r f) = scf (r * r) (stp n f) := by
  unfold stp
  rw [dg_scf h, sr_scf]
  split
  · funext k; exact tms_neg _ _
  · rfl
theorem uni_scf (p : Nat → Cx) (n : Nat) (c : Cx) (r : Dyadic) : uni (n + 1) (frm p n) c r = scf r (frm (fun i => p i - c) n) := by
  unfold uni scf
  rw [shf_frm]
/-- steps keep who lies within -/
theorem inO_scf : ∀ (l : Nat) (q : Nat → Cx) (r : Dyadic), 0 < r.toRat → ∀ k, inO l (scf r (frm q n)) (n + 1) P = some k →
    ∃ (q' : Nat → Cx) (r' : Dyadic), 0 < r'.toRat ∧ anyO (scf r' (frm q' n)) (n + 1) P = some k ∧ ∀ i, (Rc.nq (toRc (q' i)) < r'.toRat * r'.toRat ↔ Rc.nq (toRc (q i)) < r.toRat * r.toRat) ∧ (Rc.nq (toRc (q' i)) = r'.toRat * r'.toRat ↔ Rc.nq (toRc (q i)) = r.toRat * r.toRat)
  | 0, q, r, hr, k, h => ⟨q, r, hr, h, fun i => ⟨Iff.rfl, Iff.rfl⟩⟩
  | l + 1, q, r, hr, k, h => by
    unfold inO at h
    rcases anyO_spec (scf r (frm q n)) (n + 1) P with ⟨j, j1, _⟩ | ⟨j1, _⟩
    · rw [j1] at h
      exact ⟨q, r, hr, by rw [j1]; exact h, fun i => ⟨Iff.rfl, Iff.rfl⟩⟩
    · rw [j1] at h
      have hr0 : r ≠ 0 := fun e => by rw [e, Dyadic.toRat_zero] at hr; exact absurd hr (by decide)
      have h : inO l (stp (n + 1) (scf r (frm q n))) (n + 1) P = some k := h
      rw [stp_scf hr0, frm_stp] at h
      have hr2 : 0 < (r * r).toRat := by rw [Dyadic.toRat_mul]; exact Rat.mul_pos hr hr
      obtain ⟨q', r', a1, a2, a3⟩ := inO_scf l (fun k => q k * q k) (r * r) hr2 k h
      refine ⟨q', r', a1, a2, fun i => ?_⟩
      obtain ⟨b1, b2⟩ := a3 i
      rw [b1, b2, toRc_mul, Rc.nq_mul, Dyadic.toRat_mul]
      have hn := Rc.nq_nn (toRc (q i))
      have hp := Rat.mul_pos hr hr
      generalize Rc.nq (toRc (q i)) = A at *
      generalize r.toRat * r.toRat = Bq at *
      constructor
      · constructor
        · intro g
          rcases (Rat.le_total : A ≤ Bq ∨ Bq ≤ A) with u | u
          · refine Rat.lt_of_le_of_ne u fun e => ?_
            rw [e] at g; grind
          · have := Rc.mul_le2 (Rat.le_of_lt hp) (Rat.le_of_lt hp) u u
            grind
        · intro g
          have h1 := Rc.mul_le2 hn hn (Rat.le_of_lt g) (Rat.le_of_lt g)
          refine Rat.lt_of_le_of_ne h1 fun e => ?_
          have h2 : 0 < (Bq - A) * (Bq + A) := Rat.mul_pos (by grind) (by grind)
          grind
      · constructor
        · intro g
          have h1 := Rc.le_of_sq (Rat.le_of_lt hp) (a := A) (by rw [g]; exact Rat.le_refl)
          have h2 := Rc.le_of_sq hn (a := Bq) (by rw [g]; exact Rat.le_refl)
          grind
        · intro g; rw [g]
/-! over rational points -/
def scR (u : Rc) (t : Rat) : Rc := ⟨u.re * t, u.im * t⟩
theorem nq_scR (u : Rc) (t : Rat) : Rc.nq (scR u t) = Rc.nq u * (t * t) := by unfold Rc.nq scR; grind
theorem toRc_tms (z : Cx) (x : Dyadic) : toRc (tms z x) = scR (toRc z) x.toRat := Rc.cring (Dyadic.toRat_mul _ _) (Dyadic.toRat_mul _ _)
theorem rk_rat (r : Dyadic) : ∀ k, (rk r k).toRat = Rc.pw r.toRat k
  | 0 => by show (dv 1 0).toRat = 1; rw [dv_rat, Rat.zpow_zero, Rat.mul_one]; rfl
  | k + 1 => by
    show (rk r k * r).toRat = r.toRat * Rc.pw r.toRat k
    rw [Dyadic.toRat_mul, rk_rat r k]; grind
theorem facs_scR {t ρ : Rat} (h : t * ρ = 1) : ∀ (L : List Rc) (j : Nat), scR (Rc.facs ((L.map (fun u => scR u t)).map Rc.rf) Rc.d0 j) (Rc.pw ρ L.length) = scR (Rc.facs (L.map Rc.rf) Rc.d0 j) (Rc.pw ρ j)
  | [], j => by
    cases j with
    | zero => rfl
    | succ j =>
      show scR Rc.zero _ = scR Rc.zero _
      refine Rc.cring ?_ ?_ <;> simp only [scR, Rc.zero_re, Rc.zero_im] <;> grind
  | u :: L, j => by
    have ih := facs_scR h L
    show scR (Rc.fac (Rc.rf (scR u t)) (Rc.facs ((L.map (fun u => scR u t)).map Rc.rf) Rc.d0) j) (ρ * Rc.pw ρ L.length) = scR (Rc.fac (Rc.rf u) (Rc.facs (L.map Rc.rf) Rc.d0) j) (Rc.pw ρ j)
    generalize Rc.facs ((L.map (fun u => scR u t)).map Rc.rf) Rc.d0 = A at *
    generalize Rc.facs (L.map Rc.rf) Rc.d0 = E at *
    cases j with
    | zero =>
      have i0 := ih 0
      have x := congrArg Rc.re i0
      have m := congrArg Rc.im i0
      show scR (Rc.neg (scR u t) * A 0) (ρ * Rc.pw ρ L.length) = scR (Rc.neg u * E 0) (Rc.pw ρ 0)
      refine Rc.cring ?_ ?_ <;> simp only [scR, Rc.neg, Rc.mul_re, Rc.mul_im, Rc.pw] at * <;> grind
    | succ j =>
      have i0 := ih (j + 1)
      have i1 := ih j
      have x := congrArg Rc.re i0
      have m := congrArg Rc.im i0
      have x1 := congrArg Rc.re i1
      have m1 := congrArg Rc.im i1
      show scR (Rc.neg (scR u t) * A (j + 1) + Rc.one * A j) (ρ * Rc.pw ρ L.length) = scR (Rc.neg u * E (j + 1) + Rc.one * E j) (ρ * Rc.pw ρ j)
      refine Rc.cring ?_ ?_ <;> simp only [scR, Rc.neg, Rc.mul_re, Rc.mul_im, Rc.add_re, Rc.add_im, Rc.one_re, Rc.one_im, Rc.pw] at * <;> grind
theorem usum_sc (U : Nat → Rat) (k : Nat) (t : Rat) : ∀ N, Rc.usum (fun j => U j * t) k N = Rc.usum U k N * t
  | 0 => by show (0 : Rat) = 0 * t; grind
  | N + 1 => by
    have ih := usum_sc U k t N
    show (if N = k then Rc.usum (fun j => U j * t) k N else Rc.usum (fun j => U j * t) k N + U N * t) = (if N = k then Rc.usum U k N else Rc.usum U k N + U N) * t
    rw [ih]
    split
    · rfl
    · grind
theorem pw_pos {q : Rat} (h : 0 < q) : ∀ k, 0 < Rc.pw q k
  | 0 => by unfold Rc.pw; grind
  | k + 1 => Rat.mul_pos h (pw_pos h k)
theorem sq4 (a T : Rat) : a * a * (T * T) = (a * T) * (a * T) := by grind
theorem lt_sc {A u v : Rat} (e : u * v = 1) (hu : 0 < u) (hv : 0 < v) : A * u < 1 ↔ A < v := by
  constructor
  · intro g
    have h := Rat.mul_pos (show 0 < 1 - A * u by grind) hv
    have h2 : (1 - A * u) * v = v - A * (u * v) := by grind
    rw [h2, e] at h
    grind
  · intro g
    have h := Rat.mul_pos (show 0 < v - A by grind) hu
    have h2 : (v - A) * u = u * v - A * u := by grind
    rw [h2, e] at h
    grind
/-- a sure yes of a scaled product -/
theorem sure2 (q : Nat → Cx) (n : Nat) (hr : 0 < r.toRat) (hP : 1 ≤ P) (k : Nat) (hk : k ≤ n) (h : tYes (scf r (frm q n)) (n + 1) k P) :
    ((rsl q n).filter (fun x => decide (Rc.nq x < r.toRat * r.toRat))).length = k ∧ ∀ x ∈ rsl q n, Rc.nq x ≠ r.toRat * r.toRat := by
  unfold tYes at h
  have h1 := (dsg_rat _).2.1 h
  rw [sub_rat, osum_rat] at h1
  obtain ⟨t, ht⟩ : ∃ t : Rat, t * r.toRat = 1 := ⟨r.toRat⁻¹, Rat.inv_mul_cancel _ (by grind)⟩
  have tp : 0 < t := by
    rcases (Rat.le_total : t ≤ 0 ∨ 0 ≤ t) with g | g
    · have := Rat.mul_nonneg (show 0 ≤ -t by grind) (Rat.le_of_lt hr)
      grind
    · refine Rat.lt_of_le_of_ne g fun e => ?_
      rw [← e] at ht; grind
  have S0 := pw_pos hr n
  obtain ⟨T, hT⟩ : ∃ T : Rat, T * Rc.pw r.toRat n = 1 := ⟨(Rc.pw r.toRat n)⁻¹, Rat.inv_mul_cancel _ (by grind)⟩
  have Tp : 0 < T := by
    rcases (Rat.le_total : T ≤ 0 ∨ 0 ≤ T) with g | g
    · have := Rat.mul_nonneg (show 0 ≤ -T by grind) (Rat.le_of_lt S0)
      grind
    · refine Rat.lt_of_le_of_ne g fun e => ?_
      rw [← e] at hT; grind
  have hlen : ((rsl q n).map (fun u => scR u t)).length = n := by rw [List.length_map, rsl_len]
  have co : ∀ j, Rc.nq (Rc.facs (((rsl q n).map (fun u => scR u t)).map Rc.rf) Rc.d0 j) = Rc.nq (toRc (scf r (frm q n) j)) * (T * T) := fun j => by
    have e := facs_scR ht (rsl q n) j
    rw [rsl_len, frm_facs, ← rk_rat r j, ← toRc_tms] at e
    have e2 := congrArg Rc.nq e
    rw [nq_scR] at e2
    rw [show scf r (frm q n) j = tms (frm q n j) (rk r j) from rfl, ← e2]
    have : Rc.pw r.toRat n * Rc.pw r.toRat n * (T * T) = 1 := by
      have : Rc.pw r.toRat n * Rc.pw r.toRat n * (T * T) = (T * Rc.pw r.toRat n) * (T * Rc.pw r.toRat n) := by grind
      rw [this, hT]; grind
    generalize Rc.nq _ = Z at *
    grind
  have pc := Rc.pellet_count ((rsl q n).map (fun u => scR u t)) (U := fun j => (far (scf r (frm q n) j) P true).toRat * T) (K := (far (scf r (frm q n) k) P false).toRat * T) (k := k)
    (fun j => Rat.mul_nonneg (far_rat _ hP).1 (Rat.le_of_lt Tp)) (fun j => ?_) (by rw [hlen]; exact hk) ?_ ?_
  · obtain ⟨p1, p2⟩ := pc
    have tt : ∀ x : Rc, Rc.nq (scR x t) = Rc.nq x * (t * t) := fun x => nq_scR x t
    have e1 : (t * t) * (r.toRat * r.toRat) = 1 := by
      have : (t * t) * (r.toRat * r.toRat) = (t * r.toRat) * (t * r.toRat) := by grind
      rw [this, ht]; grind
    have key : ∀ A : Rat, A * (t * t) < 1 ↔ A < r.toRat * r.toRat := fun A => lt_sc e1 (Rat.mul_pos tp tp) (Rat.mul_pos hr hr)
    refine ⟨?_, fun x hx e => ?_⟩
    · rw [← p1, List.filter_map, List.length_map]
      congr 1
      refine List.filter_congr (fun x _ => ?_)
      show decide (Rc.nq x < _) = decide (Rc.nq (scR x t) < 1)
      rw [tt]
      exact decide_eq_decide.2 (key _).symm
    · refine p2 (scR x t) (List.mem_map_of_mem hx) ?_
      rw [tt, e]
      have : r.toRat * r.toRat * (t * t) = (t * r.toRat) * (t * r.toRat) := by grind
      rw [this, ht]; grind
  · rw [co]
    have := (far_rat (scf r (frm q n) j) hP).2.1
    have := Rc.mul_le2 (Rc.nq_nn _) (Rat.mul_nonneg (Rat.le_of_lt Tp) (Rat.le_of_lt Tp)) this (Rat.le_refl)
    rw [sq4] at this; exact this
  · rw [hlen, usum_sc]
    have := Rat.mul_pos (show 0 < (far (scf r (frm q n) k) P false).toRat - Rc.usum (fun j => (far (scf r (frm q n) j) P true).toRat) k (n + 1) by grind) Tp
    grind
  · rw [co]
    have := (far_rat (scf r (frm q n) k) hP).2.2
    have := Rc.mul_le2 (Rc.sq_nn _) (Rat.mul_nonneg (Rat.le_of_lt Tp) (Rat.le_of_lt Tp)) this (Rat.le_refl)
    rw [sq4] at this; exact this
end Go.Ab

set_option linter.unusedVariables false
set_option maxRecDepth 20000
set_option linter.unusedSimpArgs false
set_option linter.unusedSectionVars false
namespace Go.Ab
open Go.Proofs
open Cx (zero one)
attribute [-go_sem] appF newsF
variable {a b : AV} {z w c : Cx} {B C n m d P M D : Nat} {cs ds : List AV} {f g : Po} {r x : Dyadic}
/-! the law of more steps -/
theorem okB_m {D l : Nat} (hD : D ≤ 5) (hl : l ≤ 3) {b : Nat} (hb : b ≤ 1499) : okB 12045 D l b := by
  match l, hl with
  | 0, _ => show b ≤ 12045; omega
  | 1, _ => exact ⟨by omega, (by omega : 2 * b + D + 2 ≤ 12045)⟩
  | 2, _ => exact ⟨by omega, by omega, (by omega : 2 * (2 * b + D + 2) + D + 2 ≤ 12045)⟩
  | 3, _ => exact ⟨by omega, by omega, by omega, (by omega : 2 * (2 * (2 * b + D + 2) + D + 2) + D + 2 ≤ 12045)⟩
end Go.Ab

set_option linter.unusedVariables false
set_option maxRecDepth 20000
set_option linter.unusedSimpArgs false
set_option linter.unusedSectionVars false
namespace Go.Ab
open Go.Proofs
open Cx (zero one)
attribute [-go_sem] appF newsF
variable {a b : AV} {z w c : Cx} {B C n m d P M D : Nat} {cs ds : List AV} {f g s : Po} {r x y : Dyadic}
/-! what is sure of counts -/
theorem dsg_lt2 (x : Dyadic) : dsg x < 0 ↔ x.toRat < 0 := by
  have h1 := (dsg_rat x).1
  have h2 : dsg x = 0 ↔ x.toRat = 0 := by
    rw [dsg_zero]
    exact ⟨fun h => by rw [h]; exact Dyadic.toRat_zero, fun h => by rw [← Dyadic.toRat_inj, h]; exact Dyadic.toRat_zero.symm⟩
  constructor
  · intro h
    have a1 := h1.1 (by omega)
    have a2 : ¬ x.toRat = 0 := fun e => by have := h2.2 e; omega
    grind
  · intro h
    have a1 := h1.2 (by grind)
    have a2 : ¬ dsg x = 0 := fun e => by have := h2.1 e; grind
    omega
def wthP (c : Cx) (r : Dyadic) (w : Cx) : Prop := (dnum (nrm (w - c) - r * r)).sign < 0
instance (c : Cx) (r : Dyadic) (w : Cx) : Decidable (wthP c r w) := by unfold wthP; exact inferInstance
theorem wth_rat : wthP c r w ↔ Rc.nq (toRc (w - c)) < r.toRat * r.toRat := by
  have := dsg_lt2 (nrm (w - c) - r * r)
  unfold wthP
  unfold dsg at this
  rw [this, sub_rat, nrm_rat, Dyadic.toRat_mul]
  constructor <;> (intro h; grind)
theorem fwithin_s (hc : CB c B) (hr : DB r C) (hw : CB w D) (hB : B ≤ 8000) (hC : D ≤ 8000) (hB' : C ≤ 9000) : Sat CT false 50 [TI c r, CI w] (Bo (decide (wthP c r w))) := by
  refine sat_of annulusref8_Within.ok (by simp) ?_
  have DD := annulusref8_Within.dr
  simp only [drP, drPx, drPt, drR, drS, drT, bodyOf, Tryz.f50, Nat.reduceEqDiff, reduceIte, true_and, and_true] at DD
  unfold wthP
  have u1 := rsub8 hw hc (by omega) (by omega)
  have b1 := CB.sub' hw hc
  have u2 := fnorm_s b1 (by omega)
  have u3 := rmul4 (RD_D hr) (RD_D hr) (by omega) (by omega)
  have u4 := fcmp_s (nrm_db b1) (hr.mul hr) (by omega) (by omega)
  simp -implicitDefEqProofs only [go_sem, simprocAttr, -Int.reducePow, Tryz.f50, DD, TI, List.take_succ_cons, List.drop_succ_cons]
  refine callK_q annulusref8_Sub.call (u1) rfl rfl ?_
  simp -implicitDefEqProofs only [go_sem, simprocAttr, -Int.reducePow, DD, TI, List.take_succ_cons, List.drop_succ_cons]
  refine callK_q annulusref8_Norm.call (u2) rfl rfl ?_
  simp -implicitDefEqProofs only [go_sem, simprocAttr, -Int.reducePow, DD, TI, List.take_succ_cons, List.drop_succ_cons]
  refine callK_q annulusref4_Mul.call (u3) rfl rfl ?_
  simp -implicitDefEqProofs only [go_sem, simprocAttr, -Int.reducePow, DD, TI, List.take_succ_cons, List.drop_succ_cons]
  refine callK_q annulusref4_Cmp.call (u4) rfl rfl ?_
  simp -implicitDefEqProofs only [go_sem, simprocAttr, -Int.reducePow, DD, TI, List.take_succ_cons, List.drop_succ_cons]
/-- how many of the first have it -/
def cntB (p : Nat → Bool) : Nat → Nat
  | 0 => 0
  | i + 1 => if p i = true then cntB p i + 1 else cntB p i
theorem cntB_le (p : Nat → Bool) : ∀ i, cntB p i ≤ i
  | 0 => Nat.le_refl _
  | i + 1 => by have := cntB_le p i; unfold cntB; split <;> omega
theorem cntB_congr {p q : Nat → Bool} : ∀ {n}, (∀ i, i < n → p i = q i) → cntB p n = cntB q n
  | 0, _ => rfl
  | n + 1, h => by unfold cntB; rw [h n (by omega), cntB_congr (fun i hi => h i (by omega))]
theorem cntB_rsl (q : Nat → Cx) (t : Rat) : ∀ n, ((rsl q n).filter (fun x => decide (Rc.nq x < t))).length = cntB (fun i => decide (Rc.nq (toRc (q i)) < t)) n
  | 0 => rfl
  | n + 1 => by
    have ih := cntB_rsl q t n
    show ((toRc (q n) :: rsl q n).filter _).length = if decide (Rc.nq (toRc (q n)) < t) = true then _ + 1 else _
    by_cases h : Rc.nq (toRc (q n)) < t
    · rw [if_pos (by simpa using h), List.filter_cons_of_pos (by simpa using h), List.length_cons, ih]
    · rw [if_neg (by simpa using h), List.filter_cons_of_neg (by simpa using h), ih]
theorem rsl_mem2 (r : Nat → Cx) {i : Nat} : ∀ {n}, i < n → toRc (r i) ∈ rsl r n
  | 0, h => absurd h (Nat.not_lt_zero _)
  | n + 1, h => by
    by_cases e : i = n
    · rw [e]; exact List.mem_cons_self ..
    · exact List.mem_cons_of_mem _ (rsl_mem2 r (by omega))
set_option maxHeartbeats 1000000 in
theorem finside_s (h : RP cs n f 296) (hn : n ≤ 1000) (hc : CB c 296) (hr : DB r 296) (hno : ∀ i, i < n → hasP c r (f i) → wthP c r (f i)) :
    Sat CT false 21 [.sl n cs, TI c r] (.tup [I64 (cntB (fun i => decide (wthP c r (f i))) n : Nat), Bo true]) := by
  refine sat_of annulusref11_Inside.ok (by simp) ?_
  have DD := annulusref11_Inside.dr
  simp only [drP, drPx, drPt, drR, drS, drT, bodyOf, Tryz.f21, Nat.reduceEqDiff, reduceIte, true_and, and_true] at DD
  have hlen := h.len
  simp -implicitDefEqProofs only [go_sem, simprocAttr, -Int.reducePow, Tryz.f21, DD, TI]
  refine loop_of aW0_mono (fun q σ => ∃ sl H i, σ = ⟨sl, H⟩ ∧ q = n - i ∧ i ≤ n ∧ look sl 0 = .sl n cs ∧ look sl 3 = .ptr 0 0 ∧ look sl 6 = I64 (cntB (fun i => decide (wthP c r (f i))) i : Nat) ∧ look sl 7 = I64 (i : Nat) ∧ 0 < H.length ∧ H.getD 0 ⟨[], false, false⟩ = ⟨tcl c r, true, true⟩) ?_ (n := n)
    ⟨_, _, 0, rfl, rfl, Nat.zero_le _, by simp [x_look], by simp [x_look], by simp [x_look, cntB], by simp [x_look], by simp, rfl⟩
  rintro q _ ⟨sl, H, i, rfl, rfl, hi, k0, k3, k6, k7, hH, hg0⟩
  by_cases hid : i = n
  · subst hid
    simp -implicitDefEqProofs only [go_sem, simprocAttr, -Int.reducePow, DD, k0, k3, k6, k7, Int.lt_irrefl]
  · have c1 : (i : Int) < (n : Int) := by omega
    have ci : IntKind.i64.wrap ((i : Int) + 1) = ((i + 1 : Nat) : Int) := by rw [wrap_id (by omega)]; omega
    have hcl := cntB_le (fun i => decide (wthP c r (f i))) i
    have cj : IntKind.i64.wrap ((cntB (fun i => decide (wthP c r (f i))) i : Nat) + 1) = ((cntB (fun i => decide (wthP c r (f i))) i + 1 : Nat) : Int) := by rw [wrap_id (by omega)]; omega
    have c2 : (0 : Int) ≤ (i : Int) := by omega
    have c4 : i * 6 < cs.length := by omega
    have c5 : i * 6 + 6 ≤ cs.length := by omega
    obtain ⟨s, l, e, t, kk, gg, hcl', hr'⟩ := h.cells (i := i) (by omega)
    have g0 : ∀ y, (H ++ [y]).getD 0 ⟨[], false, false⟩ = ⟨tcl c r, true, true⟩ := fun y => by rw [getD_hp hH]; exact hg0
    have rc := rcplx_r hr' (by decide)
    have wi := fwithin_s hc hr hr'.cb (by decide) (by decide) (by decide)
    have ho := fholds_s hc hr hr'.cb (by decide) (by decide) (by decide)
    have eC : cntB (fun i => decide (wthP c r (f i))) (i + 1) = if decide (wthP c r (f i)) = true then cntB (fun i => decide (wthP c r (f i))) i + 1 else cntB (fun i => decide (wthP c r (f i))) i := rfl
    have hni := hno i (by omega)
    unfold TI at wi ho
    generalize cntB (fun i => decide (wthP c r (f i))) = K at *
    by_cases q1 : wthP c r (f i)
    · rw [decide_eq_true q1] at wi
      simp -implicitDefEqProofs only [go_sem, simprocAttr, -Int.reducePow, DD, k0, k3, k6, k7, c1, c2, c4, c5, ci, cj, hcl', g0, tcl, List.take_succ_cons, List.drop_succ_cons]
      refine callK_pl annulusref8_Cplx.call (rc) (pl1 (pld_RC hr')) ?_
      simp -implicitDefEqProofs only [go_sem, simprocAttr, -Int.reducePow, DD, k0, k3, k6, k7, c1, c2, c4, c5, ci, cj, hcl', g0, tcl, List.take_succ_cons, List.drop_succ_cons]
      refine callK_q annulusref8_Within.call (wi) rfl rfl ?_
      simp -implicitDefEqProofs only [go_sem, simprocAttr, -Int.reducePow, DD, k0, k3, k6, k7, c1, c2, c4, c5, ci, cj, hcl', g0, tcl, List.take_succ_cons, List.drop_succ_cons]
      exact ⟨n - (i + 1), by omega, _, _, i + 1, rfl, rfl, by omega, by simp [x_look, k0], by simp [x_look, k3], by rw [eC, if_pos (by simpa using q1)]; simp [x_look, k6], by simp [x_look], by simp <;> omega, g0 _⟩
    · rw [decide_eq_false q1] at wi
      rw [decide_eq_false (fun q2 => q1 (hni q2))] at ho
      simp -implicitDefEqProofs only [go_sem, simprocAttr, -Int.reducePow, DD, k0, k3, k6, k7, c1, c2, c4, c5, ci, cj, hcl', g0, tcl, List.take_succ_cons, List.drop_succ_cons]
      refine callK_pl annulusref8_Cplx.call (rc) (pl1 (pld_RC hr')) ?_
      simp -implicitDefEqProofs only [go_sem, simprocAttr, -Int.reducePow, DD, k0, k3, k6, k7, c1, c2, c4, c5, ci, cj, hcl', g0, tcl, List.take_succ_cons, List.drop_succ_cons]
      refine callK_q annulusref8_Within.call (wi) rfl rfl ?_
      simp -implicitDefEqProofs only [go_sem, simprocAttr, -Int.reducePow, DD, k0, k3, k6, k7, c1, c2, c4, c5, ci, cj, hcl', g0, tcl, List.take_succ_cons, List.drop_succ_cons]
      refine callK_q annulusref8_Holds.call (ho) rfl rfl ?_
      simp -implicitDefEqProofs only [go_sem, simprocAttr, -Int.reducePow, DD, k0, k3, k6, k7, c1, c2, c4, c5, ci, cj, hcl', g0, tcl, List.take_succ_cons, List.drop_succ_cons]
      exact ⟨n - (i + 1), by omega, _, _, i + 1, rfl, rfl, by omega, by simp [x_look, k0], by simp [x_look, k3], by rw [eC, if_neg (by simpa using q1)]; simp [x_look, k6], by simp [x_look], by simp <;> omega, g0 _⟩
/-! sizes -/
theorem frm_cb {q : Nat → Cx} {b : Nat} (h1 : 1 ≤ b) : ∀ (n : Nat), (∀ i, i < n → CB (q i) b) → ∀ k, CB (frm q n k) ((n - k) * (b + 1) + n + 1)
  | 0, _, k => by
    rw [frm0]
    match k with
    | 0 => exact CB.one (by omega)
    | _ + 1 => exact CB.zero _
  | n + 1, h, k => by
    have ih := frm_cb h1 n (fun i hi => h i (by omega))
    have add : ∀ {x y : Cx} {A : Nat}, CB x A → CB y A → CB (x + y) (A + 1) := fun h g => ⟨h.1.add g.1, h.2.add g.2⟩
    have mn : ∀ {x : Cx} {A D : Nat}, CB x A → A ≤ D → CB x D := fun h g => ⟨h.1.mono g, h.2.mono g⟩
    have hn : CB (-(q n)) b := CB.neg (h n (by omega))
    by_cases hk : n + 1 < k
    · rw [Sp.frm q (n + 1) k (by omega)]; exact CB.zero _
    · rw [frmS, conv_lin]
      have e1 : CB (-(q n) * frm q n k) ((n + 1 - k) * (b + 1) + n + 1) := by
        by_cases hk2 : n < k
        · rw [Sp.frm q n k (by omega)]
          have e3 : -(q n) * zero = zero := by apply Cx.ext' <;> simp only [Cx.mul_re, Cx.mul_im, Cx.zero_re, Cx.zero_im] <;> grind
          rw [e3]; exact CB.zero _
        · have e2 : (n + 1 - k) * (b + 1) = (n - k) * (b + 1) + (b + 1) := by rw [← Nat.succ_mul]; congr 1; omega
          exact mn (hn.mul (ih k)) (by omega)
      have e2 : CB (px (frm q n) k) ((n + 1 - k) * (b + 1) + n + 1) := by
        cases k with
        | zero => exact CB.zero _
        | succ k =>
          have := ih k
          rw [show n - k = n + 1 - (k + 1) by omega] at this
          exact this
      exact mn (add e2 e1) (by omega)
theorem scf_pb {q : Nat → Cx} {n : Nat} (h : ∀ i, i < n → CB (q i) 297) (hr : DB r 296) : PB (scf r (frm q n)) (n * 299 + 2) := fun k => by
  by_cases hk : n < k
  · have e : scf r (frm q n) k = zero := by show tms (frm q n k) _ = _; rw [Sp.frm q n k (by omega), tms_zero]
    rw [e]; exact CB.zero _
  · have h1 := tms_cb (frm_cb (by decide) n h k) (rk_db hr k)
    have e1 : (n - k) * 298 + k * 298 = n * 298 := by rw [← Nat.add_mul]; congr 1; omega
    exact ⟨h1.1.mono (by omega), h1.2.mono (by omega)⟩
/-! what is told is so -/
theorem sure_in (p : Nat → Cx) (n : Nat) (c : Cx) (hr : 0 < r.toRat) (hP : 1 ≤ P) {l k : Nat} (h : inO l (uni (n + 1) (frm p n) c r) (n + 1) P = some k) :
    k = cntB (fun i => decide (wthP c r (p i))) n ∧ ∀ i, i < n → hasP c r (p i) → wthP c r (p i) := by
  rw [uni_scf] at h
  obtain ⟨q', r', h1, h2, h3⟩ := inO_scf l (fun i => p i - c) r hr k h
  rcases anyO_spec (scf r' (frm q' n)) (n + 1) P with ⟨j, j1, j2, j3, _⟩ | ⟨j1, _⟩
  · rw [j1] at h2
    obtain rfl : j = k := Option.some.inj h2
    obtain ⟨s1, s2⟩ := sure2 q' n h1 hP j (by omega) ((aYes_iff j2).1 j3)
    rw [cntB_rsl] at s1
    refine ⟨?_, fun i hi g => ?_⟩
    · rw [← s1]
      exact cntB_congr (fun i hi => decide_eq_decide.2 (by rw [wth_rat]; exact (h3 i).1))
    · have := s2 _ (rsl_mem2 q' hi)
      have n1 : ¬ Rc.nq (toRc (p i - c)) = r.toRat * r.toRat := fun e => this ((h3 i).2.2 e)
      rw [has_rat] at g
      rw [wth_rat]
      exact Rat.lt_of_le_of_ne g n1
  · rw [j1] at h2; exact absurd h2 (by simp)
end Go.Ab

set_option linter.unusedVariables false
set_option maxRecDepth 20000
set_option linter.unusedSimpArgs false
set_option linter.unusedSectionVars false
namespace Go.Ab
open Go.Proofs
open Cx (zero one)
attribute [-go_sem] appF newsF
variable {a b : AV} {z w c : Cx} {B C n m d P M D : Nat} {cs ds : List AV} {f g s : Po} {r x y : Dyadic}
/-! the law of what is sure -/
theorem sure_both (p : Nat → Cx) (h : RP cs n p 296) (t : RT a c r 296 296) (hn : n ≤ 4) (l P : Nat) (hl : l ≤ 3) (hP1 : 1 ≤ P) (hP : P ≤ 400) :
    Sat CT false 14 [PA (n + 1) (frm p n), a, I64 (l : Nat), I64 (P : Nat)] (.tup [I64 (-1), Bo false]) ∨
    (∃ k : Nat, Sat CT false 14 [PA (n + 1) (frm p n), a, I64 (l : Nat), I64 (P : Nat)] (.tup [I64 (k : Nat), Bo true]) ∧ 0 < (dnum (rp r)).sign ∧
      k = cntB (fun i => decide (wthP c (rp r) (p i))) n ∧ ∀ i, i < n → hasP c (rp r) (p i) → wthP c (rp r) (p i)) := by
  have hcb : ∀ i, i < n → CB (p i) 296 := fun i hi => h.pb i
  have hpb : PB (frm p n) 1500 := fun i => by
    have m1 : n * (296 + 3) ≤ 4 * 299 := Nat.mul_le_mul hn (by decide)
    have := PB.frm (N := n) hcb (by decide) (Nat.le_refl n) i
    exact ⟨this.1.mono (by omega), this.2.mono (by omega)⟩
  have hsp : Sp (n + 1) (frm p n) := Sp.frm _ _
  have hdg := dg_frm p n
  have rp' := RP_P hpb hsp (by omega)
  by_cases h2 : (dnum r).sign ≤ 0
  · exact .inl (cin_no rp' (isD_pcl _ _) (by decide) t (by decide) _ _ (.inr h2))
  · have er : rp r = r := by unfold rp; rw [if_neg (by omega)]
    have h0 : 0 < (dnum r).sign := by omega
    have hr : 0 < (rp r).toRat := by
      rw [er]
      have := (dsg_rat r).2
      unfold dsg at this
      exact this.1 h0
    have hU : PB (uni (n + 1) (frm p n) c (rp r)) 1498 := fun k => by
      have m1 : n * 299 ≤ 4 * 299 := Nat.mul_le_mul_right _ hn
      rw [uni_scf]
      have := scf_pb (n := n) (q := fun i => p i - c) (fun i hi => CB.sub (hcb i hi) t.cb) (rp_db t.db) k
      exact ⟨this.1.mono (by omega), this.2.mono (by omega)⟩
    have hne : rp r ≠ 0 := fun e => by rw [e, Dyadic.toRat_zero] at hr; exact absurd hr (by decide)
    have dU : dg (n + 1) (uni (n + 1) (frm p n) c (rp r)) = n + 1 := uni_top p n c hne
    have hh : heldP (P : Nat) = P := held_n P hP1 (by omega)
    have ci := cin_s rp' (isD_pcl _ _) (by decide) t (by decide) (by omega) (l : Nat) (P : Nat) (by rw [hh]; exact hP) (by rw [hdg]; omega) h2 (L := l) (by omega) hU (by rw [dU]; exact okB_m (by omega) hl (by decide))
    rw [dU, hh] at ci
    cases e : inO l (uni (n + 1) (frm p n) c (rp r)) (n + 1) P with
    | none => rw [e] at ci; exact .inl ci
    | some k =>
      rw [e] at ci
      obtain ⟨s1, s2⟩ := sure_in p n c hr hP1 e
      exact .inr ⟨k, ci, by rw [er]; exact h0, s1, s2⟩
set_option maxHeartbeats 4000000 in
theorem countSure_sat (F : Nat → Raw) (hF : ∀ i, (F i).ok) (hn : n ≤ 9223372036854775807) (T : RawT) (hT : T.ok ∧ (-9223372036854775808 ≤ T.q ∧ T.q ≤ 9223372036854775807)) (u : Nat) (hu : u < 256) (v : Nat) (hv : v < 256) :
    Sat CT false 4 [.sl n (qcl n F), .agg T.cells, .v (.int .u8 (u : Nat)), .v (.int .u8 (v : Nat))] (Bo true) := by
  refine sat_of annuluslaw15_CountSure.ok (by simp) ?_
  have DD := annuluslaw15_CountSure.dr
  simp only [drP, drPx, drPt, drR, drS, drT, bodyOf, Tryz.f4, Nat.reduceEqDiff, reduceIte, true_and, and_true] at DD
  have k0 := known15_s
  have f1 := few15_s F hn
  have f2 := point15_s T.c
  have f3 := small15_s T.o T.p T.q
  obtain ⟨⟨tn, tl, te, tm, tk, tf⟩, to, tp, tq⟩ := T
  simp only [RawT.cells, Raw.cells] at *
  have hq := pld_q n F
  by_cases q1 : (∀ i, i < n → (F i).sm) ∧ n ≤ 14
  · rw [decide_eq_true q1] at f1
    by_cases q2 : (n : Int) ≤ 4
    · have c2 : ¬ (4 : Int) < (n : Int) := by omega
      by_cases q3 : Raw.sm ⟨tn, tl, te, tm, tk, tf⟩
      · rw [decide_eq_true q3] at f2
        by_cases q4 : tp.length ≤ 3 ∧ -200 ≤ tq ∧ tq ≤ 200
        · rw [decide_eq_true q4] at f3
          have rq := RP_q (fun i _ => hF i) q1.1 (by omega)
          have tt := RawT.rts hT.1 ⟨q3, q4⟩
          simp only [RawT.cells, Raw.cells] at tt
          have hpt := pld_RT tt
          have fr := rfrom_s (n := n) (B := 296) (qpo n F) rq.len (fun i hi => rq.el i hi) (by omega) (by decide) (by omega)
          have dd := fdisc_s tt (by decide) (by decide)
          have hcb := tt.cb
          have hrb := rp_db tt.db
          have sg := rsign4_r (RD_D hrb) (by decide)
          obtain ⟨x, hx⟩ : ∃ x : Nat, x = u % 4 := ⟨_, rfl⟩
          obtain ⟨y, hy⟩ : ∃ y : Nat, y = v % 80 := ⟨_, rfl⟩
          have w1 : ((u : Int)).tmod 4 = (x : Nat) := by rw [hx]; exact tmod_nat _ 4
          have w2 : ((v : Int)).tmod 80 = (y : Nat) := by rw [hy]; exact tmod_nat _ 80
          have w3 : IntKind.i64.wrap (x : Nat) = (x : Nat) := wrap_id (by omega)
          have w4 : IntKind.i64.wrap (y : Nat) = (y : Nat) := wrap_id (by omega)
          have w5 : IntKind.i64.wrap ((y : Nat) + 4) = ((y + 4 : Nat) : Int) := by rw [wrap_id (by omega)]; omega
          have sb := sure_both (qpo n F) rq tt (by omega) x (y + 4) (by omega) (by omega) (by omega)
          have ins := finside_s (c := _) (r := _) rq (by omega) hcb hrb
          have hpA := pld_PA (n + 1) (frm (qpo n F) n)
          have hTI := pld_TI (Raw.z ⟨tn, tl, te, tm, tk, tf⟩) (rp (RawT.rd ⟨⟨tn, tl, te, tm, tk, tf⟩, to, tp, tq⟩))
          clear rq tt hT hF q1 q3 q4 hx hy hu hv
          generalize frm (qpo n F) n = G at *
          rcases sb with i1 | ⟨k, i1, i2, rfl, i4⟩
          · skip
            simp -implicitDefEqProofs only [go_sem, simprocAttr, -Int.reducePow, Tryz.f4, DD, c2, w1, w2, w3, w4, w5, gt_iff_lt, List.take_succ_cons, List.drop_succ_cons]
            refine callK_q annuluslaw15_known.call (k0) rfl rfl ?_
            simp -implicitDefEqProofs only [go_sem, simprocAttr, -Int.reducePow, DD, c2, w1, w2, w3, w4, w5, gt_iff_lt, List.take_succ_cons, List.drop_succ_cons]
            refine callK_pl annuluslaw15_few.call (f1) (pl1 hq) ?_
            simp -implicitDefEqProofs only [go_sem, simprocAttr, -Int.reducePow, DD, c2, w1, w2, w3, w4, w5, gt_iff_lt, List.take_succ_cons, List.drop_succ_cons]
            refine callK_q annuluslaw15_point.call (f2) rfl rfl ?_
            simp -implicitDefEqProofs only [go_sem, simprocAttr, -Int.reducePow, DD, c2, w1, w2, w3, w4, w5, gt_iff_lt, List.take_succ_cons, List.drop_succ_cons]
            refine callK_q annuluslaw15_small.call (f3) rfl rfl ?_
            simp -implicitDefEqProofs only [go_sem, simprocAttr, -Int.reducePow, DD, c2, w1, w2, w3, w4, w5, gt_iff_lt, List.take_succ_cons, List.drop_succ_cons]
            refine callK_pl annulusref11_From.call (fr) (pl1 hq) ?_
            simp -implicitDefEqProofs only [go_sem, simprocAttr, -Int.reducePow, DD, c2, w1, w2, w3, w4, w5, gt_iff_lt, List.take_succ_cons, List.drop_succ_cons]
            refine callK_pl count_In.call (i1) (pl4 hpA hpt pld_int pld_int) ?_
            simp -implicitDefEqProofs only [go_sem, simprocAttr, -Int.reducePow, DD, c2, w1, w2, w3, w4, w5, gt_iff_lt, List.take_succ_cons, List.drop_succ_cons]
          · have ins := ins i4
            simp -implicitDefEqProofs only [go_sem, simprocAttr, -Int.reducePow, Tryz.f4, DD, c2, w1, w2, w3, w4, w5, gt_iff_lt, List.take_succ_cons, List.drop_succ_cons]
            refine callK_q annuluslaw15_known.call (k0) rfl rfl ?_
            simp -implicitDefEqProofs only [go_sem, simprocAttr, -Int.reducePow, DD, c2, w1, w2, w3, w4, w5, gt_iff_lt, List.take_succ_cons, List.drop_succ_cons]
            refine callK_pl annuluslaw15_few.call (f1) (pl1 hq) ?_
            simp -implicitDefEqProofs only [go_sem, simprocAttr, -Int.reducePow, DD, c2, w1, w2, w3, w4, w5, gt_iff_lt, List.take_succ_cons, List.drop_succ_cons]
            refine callK_q annuluslaw15_point.call (f2) rfl rfl ?_
            simp -implicitDefEqProofs only [go_sem, simprocAttr, -Int.reducePow, DD, c2, w1, w2, w3, w4, w5, gt_iff_lt, List.take_succ_cons, List.drop_succ_cons]
            refine callK_q annuluslaw15_small.call (f3) rfl rfl ?_
            simp -implicitDefEqProofs only [go_sem, simprocAttr, -Int.reducePow, DD, c2, w1, w2, w3, w4, w5, gt_iff_lt, List.take_succ_cons, List.drop_succ_cons]
            refine callK_pl annulusref11_From.call (fr) (pl1 hq) ?_
            simp -implicitDefEqProofs only [go_sem, simprocAttr, -Int.reducePow, DD, c2, w1, w2, w3, w4, w5, gt_iff_lt, List.take_succ_cons, List.drop_succ_cons]
            refine callK_pl count_In.call (i1) (pl4 hpA hpt pld_int pld_int) ?_
            simp -implicitDefEqProofs only [go_sem, simprocAttr, -Int.reducePow, DD, c2, w1, w2, w3, w4, w5, gt_iff_lt, List.take_succ_cons, List.drop_succ_cons]
            refine callK_q annulusref8_Disc.call (dd) rfl rfl ?_
            simp -implicitDefEqProofs only [go_sem, simprocAttr, -Int.reducePow, DD, c2, w1, w2, w3, w4, w5, gt_iff_lt, List.take_succ_cons, List.drop_succ_cons]
            refine callK_pl annulusref11_Inside.call (ins) (pl2 hq hTI) ?_
            simp -implicitDefEqProofs only [go_sem, simprocAttr, -Int.reducePow, DD, c2, w1, w2, w3, w4, w5, gt_iff_lt, List.take_succ_cons, List.drop_succ_cons]
            refine callK_q annulusref8_Disc.call (dd) rfl rfl ?_
            simp -implicitDefEqProofs only [go_sem, simprocAttr, -Int.reducePow, DD, c2, w1, w2, w3, w4, w5, gt_iff_lt, TI, List.take_succ_cons, List.drop_succ_cons]
            refine callK_q annulusref4_Sign.call (sg) rfl rfl ?_
            simp -implicitDefEqProofs only [go_sem, simprocAttr, -Int.reducePow, DD, c2, w1, w2, w3, w4, w5, i2, gt_iff_lt, List.take_succ_cons, List.drop_succ_cons]
        · rw [decide_eq_false q4] at f3
          simp -implicitDefEqProofs only [go_sem, simprocAttr, -Int.reducePow, Tryz.f4, DD, c2, gt_iff_lt, List.take_succ_cons, List.drop_succ_cons]
          refine callK_q annuluslaw15_known.call (k0) rfl rfl ?_
          simp -implicitDefEqProofs only [go_sem, simprocAttr, -Int.reducePow, DD, c2, gt_iff_lt, List.take_succ_cons, List.drop_succ_cons]
          refine callK_pl annuluslaw15_few.call (f1) (pl1 hq) ?_
          simp -implicitDefEqProofs only [go_sem, simprocAttr, -Int.reducePow, DD, c2, gt_iff_lt, List.take_succ_cons, List.drop_succ_cons]
          refine callK_q annuluslaw15_point.call (f2) rfl rfl ?_
          simp -implicitDefEqProofs only [go_sem, simprocAttr, -Int.reducePow, DD, c2, gt_iff_lt, List.take_succ_cons, List.drop_succ_cons]
          refine callK_q annuluslaw15_small.call (f3) rfl rfl ?_
          simp -implicitDefEqProofs only [go_sem, simprocAttr, -Int.reducePow, DD, c2, gt_iff_lt, List.take_succ_cons, List.drop_succ_cons]
      · rw [decide_eq_false q3] at f2
        simp -implicitDefEqProofs only [go_sem, simprocAttr, -Int.reducePow, Tryz.f4, DD, c2, gt_iff_lt, List.take_succ_cons, List.drop_succ_cons]
        refine callK_q annuluslaw15_known.call (k0) rfl rfl ?_
        simp -implicitDefEqProofs only [go_sem, simprocAttr, -Int.reducePow, DD, c2, gt_iff_lt, List.take_succ_cons, List.drop_succ_cons]
        refine callK_pl annuluslaw15_few.call (f1) (pl1 hq) ?_
        simp -implicitDefEqProofs only [go_sem, simprocAttr, -Int.reducePow, DD, c2, gt_iff_lt, List.take_succ_cons, List.drop_succ_cons]
        refine callK_q annuluslaw15_point.call (f2) rfl rfl ?_
        simp -implicitDefEqProofs only [go_sem, simprocAttr, -Int.reducePow, DD, c2, gt_iff_lt, List.take_succ_cons, List.drop_succ_cons]
    · have c2 : (4 : Int) < (n : Int) := by omega
      simp -implicitDefEqProofs only [go_sem, simprocAttr, -Int.reducePow, Tryz.f4, DD, c2, gt_iff_lt, List.take_succ_cons, List.drop_succ_cons]
      refine callK_q annuluslaw15_known.call (k0) rfl rfl ?_
      simp -implicitDefEqProofs only [go_sem, simprocAttr, -Int.reducePow, DD, c2, gt_iff_lt, List.take_succ_cons, List.drop_succ_cons]
      refine callK_pl annuluslaw15_few.call (f1) (pl1 hq) ?_
      simp -implicitDefEqProofs only [go_sem, simprocAttr, -Int.reducePow, DD, c2, gt_iff_lt, List.take_succ_cons, List.drop_succ_cons]
  · rw [decide_eq_false q1] at f1
    simp -implicitDefEqProofs only [go_sem, simprocAttr, -Int.reducePow, Tryz.f4, DD, gt_iff_lt]
    refine callK_q annuluslaw15_known.call (k0) rfl rfl ?_
    simp -implicitDefEqProofs only [go_sem, simprocAttr, -Int.reducePow, DD, gt_iff_lt]
    refine callK_pl annuluslaw15_few.call (f1) (pl1 hq) ?_
    simp -implicitDefEqProofs only [go_sem, simprocAttr, -Int.reducePow, DD, gt_iff_lt]
end Go.Ab
