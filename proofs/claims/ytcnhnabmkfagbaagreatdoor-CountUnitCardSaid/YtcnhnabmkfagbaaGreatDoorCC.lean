/- Contracts of this seat's functions (of each call: what it answers), walked over the abstract machine, and the laws of numbers that they want. Conditions: those that each theorem states. -/
import Derived.Test.YtcnhnabmkfagbaaGreatDoorE2
import Derived.Test.YtcnhnabmkfagbaaGreatDoorFH
import Derived.Test.YtcnhnabmkfagbaaGreatDoorC1
import Derived.Test.YtcnhnabmkfagbaaGreatDoorMM
import Derived.Test.YtcnhnabmkfagbaaGreatDoorD16
import Derived.Test.YtcnhnabmkfagbaaGreatDoorD17
import Derived.Test.YtcnhnabmkfagbaaGreatDoorE7
import Derived.Test.YtcnhnabmkfagbaaGreatDoorM7
import Derived.Test.YtcnhnabmkfagbaaGreatDoorM5
import Derived.Test.YtcnhnabmkfagbaaGreatDoorE6
set_option linter.unusedVariables false
set_option maxRecDepth 20000
set_option linter.unusedSimpArgs false
set_option linter.unusedSectionVars false
namespace Go.Ab
open Go.Proofs
open Cx (zero one)
attribute [-go_sem] appF newsF
variable {a b : AV} {z w c : Cx} {B C n m : Nat} {cs ds : List AV} {f g : Po} {r x : Dyadic}
/-! what is asked of the unit circle -/
theorem x_hget' {H H0 : Heap} {x d : AObj} (h : H.length = H0.length) : (H ++ [x]).getD H0.length d = x := by rw [← h]; exact x_hget
theorem pshift_h (h : RP cs n f B) (hz : RC a z C) (hB : B + n * C + 2 * n * n + n * (C + 2) + C ≤ 19990) (hcs : ∀ c ∈ cs, IsD c) (hn : n ≤ 100000) : HSat CT 41 [.sl n cs, a] [] (fun r H => ASl 6 r H (pcl (dg n f) (shf n f z)) (dg n f)) := by
  refine hsat_of poly_Shift.ok poly_Shift.call (by simp) ?_
  have DD := poly_Shift.dr
  simp only [drP, drPx, drPt, drR, drS, drT, bodyOf, Tryz.f41, Nat.reduceEqDiff, reduceIte, true_and, and_true] at DD
  have hs := dg_sp h.sp
  have hle := dg_le n f
  have hself := dg_self h.sp
  have hpb := h.pb
  have hzb := hz.cb
  have q0 := ptrim_s h (by omega)
  have hshf : shf n f z = shf (dg n f) f z := ev_uniq (Sp.shf n f z) ((Sp.shf (dg n f) f z).mono hle) (fun w => by
    rw [ev_shf, ev_le (Sp.shf (dg n f) f z) hle, ev_shf, ev_le hs hle])
  rw [hshf]
  generalize dg n f = d at *
  have hwb := hpb.wb (C := C) hs
  have m1 := Nat.mul_le_mul_right C hle
  have m2 := Nat.mul_le_mul (Nat.mul_le_mul_left 2 hle) hle
  have m3 := Nat.mul_le_mul_right (C + 2) hle
  have hI : ∀ i, i ≤ d → PB (pqI d f z i) (B + d * C + 2 * d * d) := fun i hi => ((hwb.pqI hzb i).pb).mono (Nat.add_le_add_left (Nat.mul_le_mul_left (2 * d) hi) _)
  have hO : PB (shf d f z) (B + d * C + 2 * d * d) := hwb.shf d hzb
  have qe : ∀ i, i < d → Sat CT false 72 [PA (d - i) (pqI d f z i), a] (.tup [PA (d - (i + 1)) (pqI d f z (i + 1)), CI (shf d f z i)]) := fun i hi => by
    obtain ⟨t1, t2⟩ := pqI_top z hs hself i (by omega)
    have m4 := Nat.mul_le_mul_right (C + 2) (show d - i ≤ n by omega)
    have q := ppart_s (RP_P (hI i (by omega)) t1 (by omega)) hz (by omega) (by omega)
    obtain ⟨t3, t4⟩ := pqI_top z hs hself (i + 1) hi
    rw [← pqIS, ← shf_at d f z i hi, dg_ind (t3.mono (by omega)) t3, t4] at q
    exact q
  have qt := ptrim_h (RP_P hO (Sp.shf d f z) (by omega)) (by omega)
  rw [dg_shf hs hself] at qt
  have hz0 := hz
  obtain ⟨s, l, e, t, k, g, rfl, _⟩ := hz
  simp -implicitDefEqProofs only [go_sem, simprocAttr, -Int.reducePow, Tryz.f41, DD, x_app, x_ga0, x_gas, x_gan, Int.cast_ofNat_Int, eq_self, Int.zero_lt_one, Bool.not_false, Bool.not_true, beq_self_eq_true]
  refine callK_pl poly_Trim.call (q0) (pl1 (pld_sl hcs)) ?_
  simp -implicitDefEqProofs only [go_sem, simprocAttr, -Int.reducePow, DD, x_app, x_ga0, x_gas, x_gan, Int.cast_ofNat_Int, eq_self, Int.zero_lt_one, Bool.not_false, Bool.not_true, beq_self_eq_true]
  refine loop_of aW0_mono (fun q σ => ∃ sl H i, σ = ⟨sl, H⟩ ∧ q = d - i ∧ i ≤ d ∧ look sl 3 = .ptr 0 0 ∧ look sl 6 = PA (d - i) (pqI d f z i) ∧ 0 < H.length ∧ H.getD 0 ⟨[], false, false⟩ = ⟨[Bo s, U32 l, I64 e, Bo t, U32 k, I64 g], true, true⟩ ∧ ASl 6 (look sl 5) H (pcl i (shf d f z)) i ∧ ∀ x, look sl 5 ≠ .own 6 0 0 x) ?_ (n := d)
    ⟨_, _, 0, rfl, rfl, Nat.zero_le _, by simp [x_look], by simp only [x_look, reduceIte, Nat.reduceEqDiff, pqI0]; rfl, by simp, rfl, by simp [x_look, pcl0, ASl.nil], fun x e => by simp [x_look] at e⟩
  rintro q _ ⟨sl, H, i, rfl, rfl, hi, k3, k6, hH, hg0, hA, hne⟩
  have hP : PA (d - i) (pqI d f z i) = .sl (d - i) (pcl (d - i) (pqI d f z i)) := rfl
  by_cases hid : i = d
  · subst hid
    have c1 : ((i - i : Nat) : Int) = 0 := by omega
    simp -implicitDefEqProofs only [go_sem, simprocAttr, -Int.reducePow, DD, x_app, x_ga0, x_gas, x_gan, Int.cast_ofNat_Int, eq_self, Int.zero_lt_one, Bool.not_false, Bool.not_true, beq_self_eq_true, k3, k6, hP, c1, Int.lt_irrefl]
    refine callK_fr qt (isD_pcl _ _) (.cons (.row hA.rsl (snap0_pcl _ _) (isD_pcl _ _)) .nil) (fun e1 e2 _ _ => ?_) (fun e1 hk _ => ?_) rfl
    · subst e2
      simp -implicitDefEqProofs only [go_sem, simprocAttr, -Int.reducePow, DD, x_app, x_ga0, x_gas, x_gan, Int.cast_ofNat_Int, eq_self, Int.zero_lt_one, Bool.not_false, Bool.not_true, beq_self_eq_true, k3, k6, hP]
      rw [pcl0]; exact ASl.nil _ _
    · simp -implicitDefEqProofs only [go_sem, simprocAttr, -Int.reducePow, DD, x_app, x_ga0, x_gas, x_gan, Int.cast_ofNat_Int, eq_self, Int.zero_lt_one, Bool.not_false, Bool.not_true, beq_self_eq_true, k3, k6, hP]
      exact .inr ⟨_, rfl, x_hget' hk.1, by simp [hk.1], pcl_len _ _⟩
  · have c1 : (0 : Int) < ((d - i : Nat) : Int) := by omega
    have g0 : ∀ y, (H ++ [y]).getD 0 ⟨[], false, false⟩ = ⟨[Bo s, U32 l, I64 e, Bo t, U32 k, I64 g], true, true⟩ := fun y => by rw [getD_hp hH]; exact hg0
    simp -implicitDefEqProofs only [go_sem, simprocAttr, -Int.reducePow, DD, x_app, x_ga0, x_gas, x_gan, Int.cast_ofNat_Int, eq_self, Int.zero_lt_one, Bool.not_false, Bool.not_true, beq_self_eq_true, k3, k6, hP, c1, hg0, g0]
    refine callK_pl poly_Part.call (qe i (by omega)) (pl2 (pld_PA _ _) (pld_RC hz0)) ?_
    simp -implicitDefEqProofs only [go_sem, simprocAttr, -Int.reducePow, DD, x_app, x_ga0, x_gas, x_gan, Int.cast_ofNat_Int, eq_self, Int.zero_lt_one, Bool.not_false, Bool.not_true, beq_self_eq_true, k3, k6, hP, c1, hg0, g0]
    refine app_step (P := Tryz.prog) tk22 rfl tk29 tk22 rfl rfl (by decide) (n := i) (m := 1) ((hA.ext _).ext _) (.inl ⟨rfl, x_hget⟩) rfl (by decide) rfl (Nat.le_trans (Nat.mul_le_mul_right _ (show i + 1 ≤ 1000001 by omega)) (by decide)) (by omega) ?_
    intro H' hg hl' hk'
    have g2 : H'.getD 0 ⟨[], false, false⟩ = ⟨[Bo s, U32 l, I64 e, Bo t, U32 k, I64 g], true, true⟩ := by rw [hk' 0 (by simp) (hne i), getD_hp (by simp)]; exact g0 _
    have hlen : H'.length = H.length + 3 := by rw [hl']; simp
    simp -implicitDefEqProofs only [go_sem, simprocAttr, -Int.reducePow, DD, x_app, x_ga0, x_gas, x_gan, Int.cast_ofNat_Int, eq_self, Int.zero_lt_one, Bool.not_false, Bool.not_true, beq_self_eq_true, k3, k6, hP, c1, hg0, g0]
    exact ⟨d - (i + 1), by omega, _, _, i + 1, rfl, rfl, by omega, by simp [x_look, k3], by simp only [x_look, reduceIte, Nat.reduceEqDiff], by omega, g2, by simp only [x_look, reduceIte, Nat.reduceEqDiff]; exact ASl.lastP (g := shf d f z) hg hl', fun x e => by simp [x_look] at e⟩
/-- powers of the radius -/
def rk (r : Dyadic) : Nat → Dyadic
  | 0 => dv 1 0
  | k + 1 => rk r k * r
/-- times a number -/
def tms (z : Cx) (x : Dyadic) : Cx := ⟨z.re * x, z.im * x⟩
/-- p of c + r z -/
def uni (n : Nat) (f : Po) (c : Cx) (r : Dyadic) : Po := fun k => tms (shf n f c k) (rk r k)
theorem rk_db (h : DB r C) : ∀ k, DB (rk r k) (k * C + 1)
  | 0 => by rw [Nat.zero_mul]; exact DB.raw (m := 1) (e := 0) (L := 1) (E := 0) (by decide) (by decide) (by decide)
  | k + 1 => by have := (rk_db h k).mul h; rw [Nat.succ_mul]; exact this.mono (by omega)
theorem shf_cb (hz : CB z C) : ∀ (n : Nat) {f : Po} (hf : PB f B) (k : Nat), k < n → CB (shf n f z k) (B + (n - 1 - k) * (C + 2) + 2 * n)
  | 0, _, _, k, hk => absurd hk (Nat.not_lt_zero _)
  | n + 1, f, hf, k, hk => by
    have ih := shf_cb hz n (f := tl f) (fun i => hf (i + 1))
    have sz := Sp.shf n (tl f) z
    have add : ∀ {x y : Cx} {A : Nat}, CB x A → CB y A → CB (x + y) (A + 1) := fun h g => ⟨h.1.add g.1, h.2.add g.2⟩
    have mn : ∀ {x : Cx} {A D : Nat}, CB x A → A ≤ D → CB x D := fun h g => ⟨h.1.mono g, h.2.mono g⟩
    rw [shf_add]
    have e : n + 1 - 1 - k = n - k := by omega
    rw [e]
    have h2 : CB (px (shf n (tl f) z) k) (B + (n - k) * (C + 2) + 2 * n) := by
      cases k with
      | zero => exact CB.zero _
      | succ k =>
        have := ih k (by omega)
        rw [show n - 1 - k = n - (k + 1) by omega] at this
        exact this
    have h3 : CB (z * shf n (tl f) z k) (B + (n - k) * (C + 2) + 2 * n) := by
      by_cases hkn : k < n
      · have := hz.mul (ih k hkn)
        have e2 : (n - k) * (C + 2) = (n - 1 - k) * (C + 2) + (C + 2) := by rw [← Nat.succ_mul]; congr 1; omega
        exact mn this (by omega)
      · rw [sz k (by omega)]
        have e3 : z * zero = zero := by apply Cx.ext' <;> simp only [Cx.mul_re, Cx.mul_im, Cx.zero_re, Cx.zero_im] <;> grind
        rw [e3]; exact CB.zero _
    cases k with
    | zero => exact mn (add (mn (A := B) (D := B + (n - 0) * (C + 2) + 2 * n + 1) (hf 0) (by omega)) (add h2 h3)) (by omega)
    | succ k => exact mn (add (mn (A := B) (D := B + (n - (k + 1)) * (C + 2) + 2 * n + 1) (CB.zero B) (by omega)) (add h2 h3)) (by omega)
theorem uni_pb (hf : PB f B) (hz : CB z C) (hr : DB r C) (n : Nat) : PB (uni n f z r) (B + n * (C + 2) + 2 * n + 1) := fun k => by
  by_cases hk : k < n
  · have h1 := shf_cb hz n hf k hk
    have h2 := rk_db hr k
    have e : n * (C + 2) = (n - 1 - k) * (C + 2) + (k + 1) * (C + 2) := by rw [← Nat.add_mul]; congr 1; omega
    have e2 : k * C ≤ k * (C + 2) := Nat.mul_le_mul_left k (by omega)
    have e3 : (k + 1) * (C + 2) = k * (C + 2) + (C + 2) := Nat.succ_mul ..
    exact ⟨(h1.1.mul h2).mono (by omega), (h1.2.mul h2).mono (by omega)⟩
  · have : uni n f z r k = zero := by
      unfold uni
      rw [Sp.shf n f z k (by omega)]
      exact Cx.ext' (show (0 : Dyadic) * _ = 0 by grind) (show (0 : Dyadic) * _ = 0 by grind)
    rw [this]; exact CB.zero _
theorem uni_sp (n : Nat) (f : Po) (c : Cx) (r : Dyadic) : Sp n (uni n f c r) := fun k hk => by
  unfold uni
  rw [Sp.shf n f c k hk]
  exact Cx.ext' (show (0 : Dyadic) * _ = 0 by grind) (show (0 : Dyadic) * _ = 0 by grind)
end Go.Ab

set_option linter.unusedVariables false
set_option maxRecDepth 20000
set_option linter.unusedSimpArgs false
set_option linter.unusedSectionVars false
namespace Go.Ab
open Go.Proofs
open Cx (zero one)
attribute [-go_sem] appF newsF
variable {a b : AV} {z w c : Cx} {B C n m d P : Nat} {cs ds : List AV} {f g : Po} {r x : Dyadic}
/-! how many, in plain: the first place that is sure, of as many steps as there may be -/
def frs (p : Nat → Bool) : Nat → Option Nat
  | 0 => none
  | d + 1 => match frs p d with
    | some j => some j
    | none => if p d then some d else none
theorem frs_spec (p : Nat → Bool) : ∀ d, (∃ j, frs p d = some j ∧ j < d ∧ p j = true ∧ ∀ i, i < j → p i = false) ∨ (frs p d = none ∧ ∀ i, i < d → p i = false)
  | 0 => .inr ⟨rfl, fun i h => absurd h (Nat.not_lt_zero _)⟩
  | d + 1 => by
    rcases frs_spec p d with ⟨j, h1, h2, h3, h4⟩ | ⟨h1, h2⟩
    · exact .inl ⟨j, by unfold frs; rw [h1], by omega, h3, h4⟩
    · by_cases q : p d = true
      · exact .inl ⟨d, by unfold frs; rw [h1]; exact if_pos q, by omega, q, h2⟩
      · refine .inr ⟨by unfold frs; rw [h1]; exact if_neg q, fun i hi => ?_⟩
        by_cases e : i = d
        · rw [e]; simpa using q
        · exact h2 i (by omega)
noncomputable def anyO (f : Po) (d P : Nat) : Option Nat := frs (fun k => decide (0 < dsg (far (f k) P false - (osum f (-1) P true d - far (f k) P true)))) d
noncomputable def inO : Nat → Po → Nat → Nat → Option Nat
  | 0, f, d, P => anyO f d P
  | l + 1, f, d, P => match anyO f d P with
    | some k => some k
    | none => inO l (stp d f) d P
/-- what is told of it -/
def oI : Option Nat → Int
  | some k => (k : Nat)
  | none => -1
theorem anyO_spec (f : Po) (d P : Nat) : (∃ j, anyO f d P = some j ∧ j < d ∧ aYes f d j P ∧ ∀ i, i < j → ¬ aYes f d i P) ∨ (anyO f d P = none ∧ ∀ i, i < d → ¬ aYes f d i P) := by
  rcases frs_spec (fun k => decide (0 < dsg (far (f k) P false - (osum f (-1) P true d - far (f k) P true)))) d with ⟨j, h1, h2, h3, h4⟩ | ⟨h1, h2⟩
  · exact .inl ⟨j, h1, h2, by unfold aYes; exact of_decide_eq_true h3, fun i hi => by unfold aYes; exact of_decide_eq_false (h4 i hi)⟩
  · exact .inr ⟨h1, fun i hi => by unfold aYes; exact of_decide_eq_false (h2 i hi)⟩
theorem cany_s (h : RP cs n f B) (hB : B ≤ 12045) (hcs : ∀ c ∈ cs, IsD c) (hn : n ≤ 1000) (p : Int) (hp : heldP p ≤ 400) :
    Sat CT false 36 [.sl n cs, I64 p] (.tup [I64 (oI (anyO f (dg n f) (heldP p))), Bo (anyO f (dg n f) (heldP p)).isSome]) := by
  obtain ⟨a1, a2⟩ := any_sB h hB hcs hn p hp
  rcases anyO_spec f (dg n f) (heldP p) with ⟨j, h1, h2, h3, h4⟩ | ⟨h1, h2⟩
  · rw [h1]; exact a1 j h2 h4 h3
  · rw [h1]; exact a2 h2
/-! three whole coefficients -/
theorem far_Ia (v : Int) {P : Nat} (hP : 1 ≤ P) (hv : v.natAbs < 2 ^ P) (up : Bool) : far (zI v 0) P up = dv (v.natAbs : Nat) 0 := by
  unfold far
  rw [nrm_zI]
  have e : v * v + 0 * 0 = (v.natAbs : Int) * (v.natAbs : Int) := by rw [← Int.natCast_mul, Int.natAbs_mul_self]; omega
  rw [e]
  by_cases h : v = 0
  · subst h
    exact droot_0 (by decide) _ _
  · rw [← dvm0]
    obtain ⟨e1, e2⟩ := bl_dnum (m := ((v.natAbs : Nat) : Int)) (by omega) (e := 0)
    have := bl_le_of hv
    rw [Int.natAbs_natCast] at e1
    exact droot_exact (dnum_pos.2 (by omega)) hP (by omega) up
theorem yes3 {v0 v1 v2 : Int} (h0 : f 0 = zI v0 0) (h1 : f 1 = zI v1 0) (h2 : f 2 = zI v2 0) (hP : 1 ≤ P) (b0 : v0.natAbs < 2 ^ P) (b1 : v1.natAbs < 2 ^ P) (b2 : v2.natAbs < 2 ^ P) {k : Nat} {v : Int} (hk : f k = zI v 0) (bk : v.natAbs < 2 ^ P) :
    aYes f 3 k P ↔ v0.natAbs + v1.natAbs + v2.natAbs < 2 * v.natAbs := by
  have e : osum f (-1) P true 3 = dv ((v0.natAbs + v1.natAbs + v2.natAbs : Nat) : Int) 0 := by
    show (if ((2 : Nat) : Int) = -1 then _ else (if ((1 : Nat) : Int) = -1 then _ else (if ((0 : Nat) : Int) = -1 then (0 : Dyadic) else 0 + far (f 0) P true) + far (f 1) P true) + far (f 2) P true) = _
    rw [if_neg (by decide), if_neg (by decide), if_neg (by decide), h0, h1, h2, far_Ia _ hP b0, far_Ia _ hP b1, far_Ia _ hP b2, show (0 : Dyadic) = dv 0 0 from rfl, dv_add, dv_add, dv_add]
    congr 1
    omega
  unfold aYes
  rw [e, hk, far_Ia _ hP bk, far_Ia _ hP bk, dv_sub, dv_sub, dsg_dv, sgn_gt0]
  omega
end Go.Ab

set_option linter.unusedVariables false
set_option maxRecDepth 20000
set_option linter.unusedSimpArgs false
set_option linter.unusedSectionVars false
namespace Go.Ab
open Go.Proofs
open Cx (zero one)
attribute [-go_sem] appF newsF
variable {a b : AV} {z w c : Cx} {B C n m d P : Nat} {cs ds : List AV} {f g : Po} {r x : Dyadic}
/-! what is asked of the unit circle: of the code -/
/-- the row with the first ones done -/
def gU (n : Nat) (f : Po) (c : Cx) (r : Dyadic) (i : Nat) : Po := fun k => if k < i then uni n f c r k else shf n f c k
theorem gU_S (n : Nat) (f : Po) (c : Cx) (r : Dyadic) (i : Nat) : (fun s => if s = i then uni n f c r i else gU n f c r i s) = gU n f c r (i + 1) := by
  funext s
  unfold gU
  by_cases h : s = i
  · rw [if_pos h, if_pos (by omega), h]
  · rw [if_neg h]
    by_cases g : s < i
    · rw [if_pos g, if_pos (by omega)]
    · rw [if_neg g, if_neg (by omega)]
theorem shf_sp (h : Sp n f) (c : Cx) : Sp (dg n f) (shf n f c) ∧ dg n (shf n f c) = dg n f := by
  have hs := dg_sp h
  have hle := dg_le n f
  have e : shf n f c = shf (dg n f) f c := ev_uniq (Sp.shf n f c) ((Sp.shf (dg n f) f c).mono hle) (fun w => by
    rw [ev_shf, ev_le (Sp.shf (dg n f) f c) hle, ev_shf, ev_le hs hle])
  have s1 := Sp.shf (dg n f) f c
  refine ⟨by rw [e]; exact s1, ?_⟩
  rw [e, dg_ind (s1.mono hle) s1, dg_shf hs (dg_self h)]
theorem uni_spD (h : Sp n f) (c : Cx) (r : Dyadic) : Sp (dg n f) (uni n f c r) := fun k hk => by
  unfold uni
  rw [(shf_sp h c).1 k hk]
  exact Cx.ext' (show (0 : Dyadic) * _ = 0 by grind) (show (0 : Dyadic) * _ = 0 by grind)
theorem uni_dg (h : Sp n f) (c : Cx) (r : Dyadic) : dg (dg n f) (uni n f c r) = dg n (uni n f c r) := dg_ind (uni_spD h c r) (uni_sp n f c r)
theorem tms_cb (h : CB z B) (g : DB x C) : CB (tms z x) (B + C) := ⟨h.1.mul g, h.2.mul g⟩
set_option maxHeartbeats 2000000 in
theorem cunit_s (h : RP cs n f B) (hcs : ∀ c ∈ cs, IsD c) (t : RT a c r C C) (hn : n ≤ 20) (hB : B ≤ 1500) (hC : C ≤ 300) : Sat CT false 17 [.sl n cs, a] (PA (dg n (uni n f c (rp r))) (uni n f c (rp r))) := by
  refine sat_of count_Unit.ok (by simp) ?_
  have DD := count_Unit.dr
  simp only [drP, drPx, drPt, drR, drS, drT, bodyOf, Tryz.f17, Nat.reduceEqDiff, reduceIte, true_and, and_true] at DD
  have m1 : n * C ≤ 20 * 300 := Nat.mul_le_mul hn hC
  have m2 : 2 * n * n ≤ 2 * 20 * 20 := Nat.mul_le_mul (Nat.mul_le_mul_left 2 hn) hn
  have m3 : n * (C + 2) ≤ 20 * 302 := Nat.mul_le_mul hn (by omega)
  have hD := dg_le n f
  have sD := (shf_sp h.sp c).1
  have uD := uni_spD h.sp c (rp r)
  have ue := uni_dg h.sp c (rp r)
  have hsb : PB (shf n f c) (B + n * C + 2 * n * n) := (h.pb.wb (C := C) h.sp).shf n t.cb
  have hub := uni_pb h.pb t.cb (rp_db t.db) n
  obtain ⟨n', l, e, m', k', f', o, p', q', rfl, hc, hr⟩ := t.ex
  have q0 := pshift_h h hc (by omega) hcs (by omega)
  have o1 := dofn_sat 1 (by decide) (by decide)
  have k1 := dmax_r hr rd0 (by omega) (by decide)
  rw [rp_dmx] at k1
  have rb := rp_db hr.db
  have rkb := rk_db rb
  generalize hDe : dg n f = D at *
  have qt := ptrim_P hub uD (by omega) (by omega)
  rw [ue] at qt
  simp -implicitDefEqProofs only [go_sem, simprocAttr, -Int.reducePow, Tryz.f17, DD, List.take_succ_cons, List.drop_succ_cons]
  refine callK_fr q0 (isD_pcl _ _) (.cons (.pl (pld_sl hcs)) (.cons (.pl (pld_RC hc)) .nil)) (fun e1 e2 _ _ => ?_) (fun e1 hk _ => ?_) rfl
  · subst e2
    have e3 : dg n (uni n f c (rp r)) = 0 := by rw [← ue]; rfl
    rw [e3] at qt ⊢
    simp -implicitDefEqProofs only [go_sem, simprocAttr, -Int.reducePow, DD, List.take_succ_cons, List.drop_succ_cons]
    refine callK_q dyad_Of.call (o1) rfl rfl ?_
    simp -implicitDefEqProofs only [go_sem, simprocAttr, -Int.reducePow, DD, List.take_succ_cons, List.drop_succ_cons]
    refine callK_q dyad_Max.call (k1) rfl rfl ?_
    simp -implicitDefEqProofs only [go_sem, simprocAttr, -Int.reducePow, DD, List.take_succ_cons, List.drop_succ_cons]
    refine loop_of aW0_mono (fun q σ => ∃ sl H, σ = ⟨sl, H⟩ ∧ look sl 5 = .v (.slice none 0 0) ∧ look sl 20 = I64 0 ∧ look sl 21 = I64 0) ?_ (n := 0) ⟨_, _, rfl, by simp [x_look], by simp [x_look], by simp [x_look]⟩
    rintro q _ ⟨sl, H, rfl, k5, k20, k21⟩
    simp -implicitDefEqProofs only [go_sem, simprocAttr, -Int.reducePow, DD, k5, k20, k21, Int.lt_irrefl]
    refine callK_ar poly_Trim.call (qt) (.cons .none .nil) rfl ?_
    intro H' _
    simp -implicitDefEqProofs only [go_sem, simprocAttr, -Int.reducePow, DD, k5, k20, k21]
    exact ⟨trivial, isD_PA _ _, rfl⟩
  · simp -implicitDefEqProofs only [go_sem, simprocAttr, -Int.reducePow, DD, List.take_succ_cons, List.drop_succ_cons]
    refine callK_q dyad_Of.call (o1) rfl rfl ?_
    simp -implicitDefEqProofs only [go_sem, simprocAttr, -Int.reducePow, DD, List.take_succ_cons, List.drop_succ_cons]
    refine callK_q dyad_Max.call (k1) rfl rfl ?_
    simp -implicitDefEqProofs only [go_sem, simprocAttr, -Int.reducePow, DD, List.take_succ_cons, List.drop_succ_cons]
    have hg00 : gU n f c (rp r) 0 = shf n f c := funext (fun k => if_neg (by omega))
    refine loop_of aW0_mono (fun q σ => ∃ sl H i, σ = ⟨sl, H⟩ ∧ q = D - i ∧ i ≤ D ∧ look sl 5 = .own 6 1 0 D ∧ look sl 6 = .ptr 2 0 ∧ look sl 7 = .ptr 3 0 ∧ look sl 19 = .own 6 1 0 D ∧ look sl 20 = I64 (D : Nat) ∧ look sl 21 = I64 (i : Nat) ∧ 3 < H.length ∧ H.getD 1 ⟨[], false, false⟩ = ⟨pcl D (gU n f c (rp r) i), true, true⟩ ∧ H.getD 2 ⟨[], false, false⟩ = ⟨dcl (rk (rp r) i), true, true⟩ ∧ H.getD 3 ⟨[], false, false⟩ = ⟨dcl (rp r), true, true⟩) ?_ (n := D)
      ⟨_, _, 0, rfl, rfl, Nat.zero_le _, by simp [x_look], by simp [x_look], by simp [x_look], by simp [x_look], by simp [x_look], by simp [x_look], by simp, by rw [hg00]; rfl, rfl, rfl⟩
    rintro q _ ⟨sl, H, i, rfl, rfl, hi, k5, k6, k7, k19, k20, k21, hH, hg1, hg2, hg3⟩
    have hL := pcl_len D (gU n f c (rp r) i)
    by_cases hid : i = D
    · have eg : pcl D (gU n f c (rp r) i) = pcl D (uni n f c (rp r)) := pcl_congr (fun k hk => if_pos (by omega))
      rw [eg] at hg1
      have hA : ASl 6 (.own 6 1 0 D) H (pcl D (uni n f c (rp r))) D := .inr ⟨1, rfl, hg1, by omega, pcl_len _ _⟩
      rw [hid] at k21
      simp -implicitDefEqProofs only [go_sem, simprocAttr, -Int.reducePow, DD, k5, k6, k7, k19, k20, k21, Int.lt_irrefl]
      refine callK_ar poly_Trim.call (qt) (.cons (.row hA.rsl (snap0_pcl _ _) (isD_pcl _ _)) .nil) rfl ?_
      intro H' _
      simp -implicitDefEqProofs only [go_sem, simprocAttr, -Int.reducePow, DD, k5, k6, k7, k19, k20, k21]
      exact ⟨trivial, isD_PA _ _, rfl⟩
    · have c1 : (i : Int) < (D : Int) := by omega
      have ci : IntKind.i64.wrap ((i : Int) + 1) = ((i + 1 : Nat) : Int) := by rw [wrap_id (by omega)]; omega
      have c2 : (0 : Int) ≤ (i : Int) := by omega
      have c4 : i * 6 < D * 6 := by omega
      have c5 : i * 6 + 6 ≤ D * 6 := by omega
      have hcc := pcl_el (gU n f c (rp r) i) (show i < D by omega)
      rw [show gU n f c (rp r) i i = shf n f c i from if_neg (by omega)] at hcc
      have iC : i * C ≤ 20 * 300 := Nat.mul_le_mul (by omega) hC
      have tm : Sat CT false 44 [CI (shf n f c i), DI (rk (rp r) i)] (CI (uni n f c (rp r) i)) := gtimes_r (RC_C (hsb i)) (RD_D (rkb i)) (by omega)
      have mu : Sat CT false 45 [DI (rk (rp r) i), DI (rp r)] (DI (rk (rp r) (i + 1))) := dmul_r (RD_D (rkb i)) (RD_D rb) (by omega) (by omega)
      have g1 : ∀ y, (H ++ [y]).getD 1 ⟨[], false, false⟩ = ⟨pcl D (gU n f c (rp r) i), true, true⟩ := fun y => by rw [getD_hp (by omega)]; exact hg1
      have g2 : ∀ y, (H ++ [y]).getD 2 ⟨[], false, false⟩ = ⟨dcl (rk (rp r) i), true, true⟩ := fun y => by rw [getD_hp (by omega)]; exact hg2
      have g3 : ∀ y, (H ++ [y]).getD 3 ⟨[], false, false⟩ = ⟨dcl (rp r), true, true⟩ := fun y => by rw [getD_hp (by omega)]; exact hg3
      have s2 : ∀ y o, ((H ++ [y]).set 1 o).getD 2 ⟨[], false, false⟩ = ⟨dcl (rk (rp r) i), true, true⟩ := fun y o => by rw [getD_set (by simp; omega), if_neg (by decide)]; exact g2 y
      have s3 : ∀ y o, ((H ++ [y]).set 1 o).getD 3 ⟨[], false, false⟩ = ⟨dcl (rp r), true, true⟩ := fun y o => by rw [getD_set (by simp; omega), if_neg (by decide)]; exact g3 y
      simp -implicitDefEqProofs only [go_sem, simprocAttr, -Int.reducePow, DD, k5, k6, k7, k19, k20, k21, ci, c1, c2, c4, c5, hL, hcc, hg1, hg2, hg3, g1, g2, g3, dcl]
      refine callK_pl gauss_Times.call (tm) (pl2 (pld_CI _) (pld_DI _)) ?_
      simp -implicitDefEqProofs only [go_sem, simprocAttr, -Int.reducePow, DD, k5, k6, k7, k19, k20, k21, ci, c1, c2, c4, c5, hL, hcc, hg1, hg2, hg3, g1, g2, g3, s2, s3, dcl]
      refine callK_pl dyad_Mul.call (mu) (pl2 (pld_DI _) (pld_DI _)) ?_
      simp -implicitDefEqProofs only [go_sem, simprocAttr, -Int.reducePow, DD, k5, k6, k7, k19, k20, k21, ci, c1, c2, c4, c5, hL, hcc, hg1, hg2, hg3, g1, g2, g3, s2, s3, dcl]
      refine ⟨D - (i + 1), by omega, _, _, i + 1, rfl, rfl, by omega, by simp [x_look, k5], by simp [x_look, k6], by simp [x_look, k7], by simp [x_look, k19], by simp [x_look, k20], by simp [x_look], by simp <;> omega, ?_, ?_, ?_⟩
      · (rw [getD_set (by simp; omega), if_neg (by decide), getD_set (by simp; omega), if_pos rfl, ← gU_S, ← pcl_set (show i < D by omega) (uni n f c (rp r) i)]) <;> rfl
      · (rw [getD_set (by simp; omega), if_pos rfl]) <;> rfl
      · rw [getD_set (by simp; omega), if_neg (by decide)]
        exact s3 _ _
end Go.Ab

set_option linter.unusedVariables false
set_option maxRecDepth 20000
set_option linter.unusedSimpArgs false
set_option linter.unusedSectionVars false
namespace Go.Ab
open Go.Proofs
open Cx (zero one)
attribute [-go_sem] appF newsF
variable {a b : AV} {z w c : Cx} {B C n m d P M D : Nat} {cs ds : List AV} {f g : Po} {r x : Dyadic}
/-! how many: of the code -/
def okB (M D : Nat) : Nat → Nat → Prop
  | 0, b => b ≤ M
  | l + 1, b => b ≤ M ∧ okB M D l (2 * b + D + 2)
theorem okB.top {l b : Nat} (h : okB M D l b) : b ≤ M := by
  cases l with
  | zero => exact h
  | succ l => exact h.1
theorem pld_RT (h : RT a c r B C) : PlD a := by
  obtain ⟨n, l, e, m, k, f, o, p, q, rfl, _⟩ := h
  refine pld_agg (fun c hc => ?_)
  simp only [List.mem_cons, List.not_mem_nil, or_false] at hc
  rcases hc with rfl | rfl | rfl | rfl | rfl | rfl | rfl | rfl | rfl <;> first | exact lf_bool | exact lf_int | exact lf_u32 _
set_option maxHeartbeats 2000000 in
theorem cin_no (h : RP cs n f B) (hcs : ∀ c ∈ cs, IsD c) (hB : B ≤ 300) (t : RT a c r C C) (hC : C ≤ 300) (s p : Int) (h0 : dg n f = 0 ∨ (dnum r).sign ≤ 0) : Sat CT false 14 [.sl n cs, a, I64 s, I64 p] (.tup [I64 (-1), Bo false]) := by
  refine sat_of count_In.ok (by simp) ?_
  have DD := count_In.dr
  simp only [drP, drPx, drPt, drR, drS, drT, bodyOf, Tryz.f14, Nat.reduceEqDiff, reduceIte, true_and, and_true] at DD
  have q1 := pdeg_s h (by omega) hcs
  obtain ⟨n', l, e, m', k', f', o, p', q', rfl, hc, hr⟩ := t.ex
  have s1 := dsign_r hr (by omega)
  by_cases e0 : dg n f = 0
  · rw [e0] at q1
    have c1 : (((0 : Nat) : Int) - 1 < 0) = True := by simp
    simp -implicitDefEqProofs only [go_sem, simprocAttr, -Int.reducePow, Tryz.f14, DD]
    refine scope0 aW0_mono ?_
    simp -implicitDefEqProofs only [go_sem, simprocAttr, -Int.reducePow, DD]
    refine callK_pl poly_Degree.call (q1) (pl1 (pld_sl hcs)) ?_
    simp -implicitDefEqProofs only [go_sem, simprocAttr, -Int.reducePow, DD, c1]
  · have c1 : ¬ ((dg n f : Nat) : Int) - 1 < 0 := by omega
    have c2 : (dnum r).sign ≤ 0 := h0.resolve_left e0
    simp -implicitDefEqProofs only [go_sem, simprocAttr, -Int.reducePow, Tryz.f14, DD]
    refine scope0 aW0_mono ?_
    simp -implicitDefEqProofs only [go_sem, simprocAttr, -Int.reducePow, DD, c1, c2]
    refine callK_pl poly_Degree.call (q1) (pl1 (pld_sl hcs)) ?_
    simp -implicitDefEqProofs only [go_sem, simprocAttr, -Int.reducePow, DD, c1, c2, List.take_succ_cons, List.drop_succ_cons]
    refine callK_q dyad_Sign.call (s1) rfl rfl ?_
    simp -implicitDefEqProofs only [go_sem, simprocAttr, -Int.reducePow, DD, c1, c2, List.take_succ_cons, List.drop_succ_cons]
/-- what stands at the label -/
def Lab15 (p : Int) (D P : Nat) (o : Option Nat) (l : Nat) (σ : AState) : Prop := ∃ sl H g Bg, σ = ⟨sl, H⟩ ∧ l ≤ 5 ∧ look sl 3 = I64 p ∧ look sl 10 = I64 (l : Nat) ∧ look sl 11 = PA D g ∧ PB g Bg ∧ Sp D g ∧ dg D g = D ∧ okB 12045 D l Bg ∧ inO l g D P = o
set_option maxHeartbeats 4000000 in
theorem cin_s (h : RP cs n f B) (hcs : ∀ c ∈ cs, IsD c) (hB : B ≤ 300) (t : RT a c r C C) (hC : C ≤ 300) (hn : n ≤ 20) (s p : Int) (hp : heldP p ≤ 400) (h0 : dg n f ≠ 0) (h1 : ¬ (dnum r).sign ≤ 0)
    {L : Nat} (hL : min (max s 0) 5 = (L : Int)) {U : Nat} (hU : PB (uni n f c (rp r)) U) (hok : okB 12045 (dg n (uni n f c (rp r))) L U) :
    Sat CT false 14 [.sl n cs, a, I64 s, I64 p] (.tup [I64 (oI (inO L (uni n f c (rp r)) (dg n (uni n f c (rp r))) (heldP p))), Bo (inO L (uni n f c (rp r)) (dg n (uni n f c (rp r))) (heldP p)).isSome]) := by
  refine sat_of count_In.ok (by simp) ?_
  have DD := count_In.dr
  simp only [drP, drPx, drPt, drR, drS, drT, bodyOf, Tryz.f14, Nat.reduceEqDiff, reduceIte, true_and, and_true] at DD
  have q1 := pdeg_s h (by omega) hcs
  have u1 := cunit_s h hcs t hn (by omega) hC
  have hpt := pld_RT t
  have uD := dg_sp (uni_sp n f c (rp r))
  have ug := dg_self (uni_sp n f c (rp r))
  have hDn := dg_le n (uni n f c (rp r))
  obtain ⟨n', l, e, m', k', f', o, p', q', rfl, hc, hr⟩ := t.ex
  have s1 := dsign_r hr (by omega)
  have c1 : ¬ ((dg n f : Nat) : Int) - 1 < 0 := by omega
  have c3 : max s 0 = s ∨ max s 0 = 0 := by omega
  generalize uni n f c (rp r) = F at *
  generalize dg n F = D at *
  have any := fun (g : Po) (Bg : Nat) (hg : PB g Bg) (hs : Sp D g) (hd0 : dg D g = D) (hb : Bg ≤ 12045) => by
    have q := cany_s (RP_P hg hs (by omega)) hb (isD_pcl _ _) (by omega) p hp
    rw [hd0] at q
    exact q
  have stp' := fun (g : Po) (Bg : Nat) (hg : PB g Bg) (hs : Sp D g) (hd0 : dg D g = D) (hb : 2 * Bg + D + 2 ≤ 12045) => by
    have q := gstep_s (RP_P hg hs (by omega)) (by omega) (isD_pcl _ _) (by omega)
    rw [hd0] at q
    exact q
  have hPA : ∀ g : Po, PA D g = .sl D (pcl D g) := fun _ => rfl
  generalize hoe : inO L F D (heldP p) = oo at *
  have key : ∀ (l : Nat) (g : Po) (Bg : Nat), PB g Bg → Sp D g → dg D g = D → okB 12045 D l Bg → inO l g D (heldP p) = oo →
      (anyO g D (heldP p) = oo ∧ oo.isSome = true) ∨ (anyO g D (heldP p) = none ∧ oo = none ∧ l = 0) ∨ (anyO g D (heldP p) = none ∧ ∃ l', l = l' + 1 ∧ PB (stp D g) (2 * Bg + D + 2) ∧ Sp D (stp D g) ∧ dg D (stp D g) = D ∧ okB 12045 D l' (2 * Bg + D + 2) ∧ inO l' (stp D g) D (heldP p) = oo) := by
    intro l g Bg hg hs hd0 hb ho
    rcases anyO_spec g D (heldP p) with ⟨j, j1, _⟩ | ⟨j1, _⟩
    · refine .inl ?_
      cases l with
      | zero => have ho : anyO g D (heldP p) = oo := ho; rw [j1] at ho ⊢; subst ho; exact ⟨rfl, rfl⟩
      | succ l => unfold inO at ho; rw [j1] at ho ⊢; subst ho; exact ⟨rfl, rfl⟩
    · cases l with
      | zero => have ho : anyO g D (heldP p) = oo := ho; rw [j1] at ho; exact .inr (.inl ⟨j1, ho.symm, rfl⟩)
      | succ l =>
        unfold inO at ho
        rw [j1] at ho
        exact .inr (.inr ⟨j1, l, rfl, hg.stp hs, hs.stp, by rw [dg_stp hs, hd0], hb.2, ho⟩)
  simp -implicitDefEqProofs only [go_sem, simprocAttr, -Int.reducePow, Tryz.f14, DD]
  refine scope_inv aW0_mono (aW_mono aW0_mono) 0 rfl (Lab15 p D (heldP p) oo) (fun l σ hσ => ?_) (n := L) ?_
  · obtain ⟨sl, H, g, Bg, rfl, hl5, k3, k10, k11, hg, hs, hd0, hb, ho⟩ := hσ
    have a1 := any g Bg hg hs hd0 hb.top
    rcases key l g Bg hg hs hd0 hb ho with ⟨j1, j2⟩ | ⟨j1, rfl, rfl⟩ | ⟨j1, l', rfl, b1, b2, b3, b4, b5⟩
    · rw [j1, j2] at a1
      simp -implicitDefEqProofs only [go_sem, simprocAttr, -Int.reducePow, DD, k3, k10, k11, hPA, x_gp1, x_gp2, x_gp3]
      refine callK_pl pellet_Any.call (a1) (pl2 (pld_PA _ _) pld_int) ?_
      simp -implicitDefEqProofs only [go_sem, simprocAttr, -Int.reducePow, DD, k3, k10, k11, hPA, x_gp1, x_gp2, x_gp3, j2]
    · rw [j1] at a1
      simp -implicitDefEqProofs only [go_sem, simprocAttr, -Int.reducePow, DD, k3, k10, k11, hPA, x_gp1, x_gp2, x_gp3]
      refine callK_pl pellet_Any.call (a1) (pl2 (pld_PA _ _) pld_int) ?_
      simp -implicitDefEqProofs only [go_sem, simprocAttr, -Int.reducePow, DD, k3, k10, k11, hPA, x_gp1, x_gp2, x_gp3, Option.isSome, oI, Int.natCast_zero]
    · rw [j1] at a1
      have st := stp' g Bg hg hs hd0 b4.top
      have w1 : IntKind.i64.wrap (((l' + 1 : Nat) : Int) - 1) = (l' : Nat) := by rw [wrap_id (by omega)]; omega
      have w2 : ¬ ((l' + 1 : Nat) : Int) = 0 := by omega
      simp -implicitDefEqProofs only [go_sem, simprocAttr, -Int.reducePow, DD, k3, k10, k11, hPA, x_gp0, x_gp1, x_gp2, x_gp3]
      refine callK_pl pellet_Any.call (a1) (pl2 (pld_PA _ _) pld_int) ?_
      simp -implicitDefEqProofs only [go_sem, simprocAttr, -Int.reducePow, DD, k3, k10, k11, hPA, x_gp0, x_gp1, x_gp2, x_gp3, Option.isSome, oI, w1, w2]
      refine callK_pl graeffe_Step.call (st) (pl1 (pld_PA _ _)) ?_
      simp -implicitDefEqProofs only [go_sem, simprocAttr, -Int.reducePow, DD, k3, k10, k11, hPA, x_gp0, x_gp1, x_gp2, x_gp3, Option.isSome, oI, w1, w2]
      exact ⟨l', by omega, _, _, stp D g, _, rfl, by omega, by simp [x_look, k3], by simp [x_look], by simp [x_look, hPA], b1, b2, b3, b4, b5⟩
  · have a1 := any F U hU uD ug hok.top
    have hL5 : L ≤ 5 := by omega
    have hF : PA D F = .sl D (pcl D F) := rfl
    have cm : max s 0 = max s 0 := rfl
    have hA : ∀ x : Int, x = max s 0 → min x 5 = (L : Int) := fun x e => by rw [e]; exact hL
    rcases key L F U hU uD ug hok hoe with ⟨j1, j2⟩ | ⟨j1, rfl, rfl⟩ | ⟨j1, l', rfl, b1, b2, b3, b4, b5⟩
    · rw [j1, j2] at a1
      simp -implicitDefEqProofs only [go_sem, simprocAttr, -Int.reducePow, DD, c1, h1, hL]
      refine callK_pl poly_Degree.call (q1) (pl1 (pld_sl hcs)) ?_
      simp -implicitDefEqProofs only [go_sem, simprocAttr, -Int.reducePow, DD, c1, h1, hL, List.take_succ_cons, List.drop_succ_cons]
      refine callK_q dyad_Sign.call (s1) rfl rfl ?_
      simp -implicitDefEqProofs only [go_sem, simprocAttr, -Int.reducePow, DD, c1, h1, hL, List.take_succ_cons, List.drop_succ_cons]
      refine callK_pl count_Unit.call (u1) (pl2 (pld_sl hcs) hpt) ?_
      simp -implicitDefEqProofs only [go_sem, simprocAttr, -Int.reducePow, DD, c1, h1, hL, hF, x_gp1, x_gp2, x_gp3]
      refine callK_pl pellet_Any.call (a1) (pl2 (pld_PA _ _) pld_int) ?_
      simp -implicitDefEqProofs only [go_sem, simprocAttr, -Int.reducePow, DD, c1, h1, hL, hF, x_gp1, x_gp2, x_gp3, j2]
    · rw [j1] at a1
      simp -implicitDefEqProofs only [go_sem, simprocAttr, -Int.reducePow, DD, c1, h1, hL]
      refine callK_pl poly_Degree.call (q1) (pl1 (pld_sl hcs)) ?_
      simp -implicitDefEqProofs only [go_sem, simprocAttr, -Int.reducePow, DD, c1, h1, hL, List.take_succ_cons, List.drop_succ_cons]
      refine callK_q dyad_Sign.call (s1) rfl rfl ?_
      simp -implicitDefEqProofs only [go_sem, simprocAttr, -Int.reducePow, DD, c1, h1, hL, List.take_succ_cons, List.drop_succ_cons]
      refine callK_pl count_Unit.call (u1) (pl2 (pld_sl hcs) hpt) ?_
      simp -implicitDefEqProofs only [go_sem, simprocAttr, -Int.reducePow, DD, c1, h1, hL, hF, x_gp1, x_gp2, x_gp3]
      refine callK_pl pellet_Any.call (a1) (pl2 (pld_PA _ _) pld_int) ?_
      simp -implicitDefEqProofs only [go_sem, simprocAttr, -Int.reducePow, DD, c1, h1, hL, hF, x_gp1, x_gp2, x_gp3, Option.isSome, oI, Int.natCast_zero]
    · rw [j1] at a1
      have st := stp' F U hU uD ug b4.top
      have w1 : IntKind.i64.wrap (((l' + 1 : Nat) : Int) - 1) = (l' : Nat) := by rw [wrap_id (by omega)]; omega
      have w2 : ¬ ((l' + 1 : Nat) : Int) = 0 := by omega
      simp -implicitDefEqProofs only [go_sem, simprocAttr, -Int.reducePow, DD, c1, h1, hL]
      refine callK_pl poly_Degree.call (q1) (pl1 (pld_sl hcs)) ?_
      simp -implicitDefEqProofs only [go_sem, simprocAttr, -Int.reducePow, DD, c1, h1, hL, List.take_succ_cons, List.drop_succ_cons]
      refine callK_q dyad_Sign.call (s1) rfl rfl ?_
      simp -implicitDefEqProofs only [go_sem, simprocAttr, -Int.reducePow, DD, c1, h1, hL, List.take_succ_cons, List.drop_succ_cons]
      refine callK_pl count_Unit.call (u1) (pl2 (pld_sl hcs) hpt) ?_
      simp -implicitDefEqProofs only [go_sem, simprocAttr, -Int.reducePow, DD, c1, h1, hL, hF, x_gp0, x_gp1, x_gp2, x_gp3]
      refine callK_pl pellet_Any.call (a1) (pl2 (pld_PA _ _) pld_int) ?_
      simp -implicitDefEqProofs only [go_sem, simprocAttr, -Int.reducePow, DD, c1, h1, hL, hF, x_gp0, x_gp1, x_gp2, x_gp3, Option.isSome, oI, w1, w2]
      refine callK_pl graeffe_Step.call (st) (pl1 (pld_PA _ _)) ?_
      simp -implicitDefEqProofs only [go_sem, simprocAttr, -Int.reducePow, DD, c1, h1, hL, hF, x_gp0, x_gp1, x_gp2, x_gp3, Option.isSome, oI, w1, w2]
      exact ⟨l', by omega, _, _, stp D F, _, rfl, by omega, by simp [x_look], by simp [x_look], by simp [x_look, hPA], b1, b2, b3, b4, b5⟩
theorem cnone_s {o : Option Nat} (s p : Int) (t : RT a c r B C) (hcs : ∀ c ∈ cs, IsD c) (h : Sat CT false 14 [.sl n cs, a, I64 s, I64 p] (.tup [I64 (oI o), Bo o.isSome])) : Sat CT false 19 [.sl n cs, a, I64 s, I64 p] (Bo (decide (o = some 0))) := by
  refine sat_of count_None.ok (by simp) ?_
  have DD := count_None.dr
  simp only [drP, drPx, drPt, drR, drS, drT, bodyOf, Tryz.f19, Nat.reduceEqDiff, reduceIte, true_and, and_true] at DD
  have hpt := pld_RT t
  obtain ⟨n', l, e, m', k', f', o', p', q', rfl, _⟩ := t
  cases o with
  | none =>
    rw [decide_eq_false (by simp)]
    simp -implicitDefEqProofs only [go_sem, simprocAttr, -Int.reducePow, Tryz.f19, DD]
    refine callK_pl count_In.call (h) (pl4 (pld_sl hcs) hpt pld_int pld_int) ?_
    simp -implicitDefEqProofs only [go_sem, simprocAttr, -Int.reducePow, DD, Option.isSome, oI]
  | some k =>
    by_cases hk : k = 0
    · subst hk
      rw [decide_eq_true rfl]
      simp -implicitDefEqProofs only [go_sem, simprocAttr, -Int.reducePow, Tryz.f19, DD]
      refine callK_pl count_In.call (h) (pl4 (pld_sl hcs) hpt pld_int pld_int) ?_
      simp -implicitDefEqProofs only [go_sem, simprocAttr, -Int.reducePow, DD, Option.isSome, oI, Int.natCast_zero]
    · have hk' : ¬ (k : Int) = 0 := by omega
      rw [decide_eq_false (fun e => hk (Option.some.inj e))]
      simp -implicitDefEqProofs only [go_sem, simprocAttr, -Int.reducePow, Tryz.f19, DD]
      refine callK_pl count_In.call (h) (pl4 (pld_sl hcs) hpt pld_int pld_int) ?_
      simp -implicitDefEqProofs only [go_sem, simprocAttr, -Int.reducePow, DD, Option.isSome, oI, hk']
end Go.Ab

set_option linter.unusedVariables false
set_option maxRecDepth 20000
set_option linter.unusedSimpArgs false
set_option linter.unusedSectionVars false
namespace Go.Ab
open Go.Proofs
open Cx (zero one)
attribute [-go_sem] appF newsF
variable {a b : AV} {z w c : Cx} {B C n m d P M D : Nat} {cs ds : List AV} {f g : Po} {r x : Dyadic}
/-! how many: of the document -/
theorem pld_TI (c : Cx) (r : Dyadic) : PlD (TI c r) := pld_agg (fun c hc => by
  simp only [List.mem_cons, List.not_mem_nil, or_false] at hc
  rcases hc with rfl | rfl | rfl | rfl | rfl | rfl | rfl | rfl | rfl <;> first | exact lf_bool | exact lf_int | exact lf_u32 _)
end Go.Ab

set_option linter.unusedVariables false
set_option maxRecDepth 20000
set_option linter.unusedSimpArgs false
set_option linter.unusedSectionVars false
namespace Go.Ab
open Go.Proofs
open Cx (zero one)
attribute [-go_sem] appF newsF
variable {a b : AV} {z w c : Cx} {B C n m d P M D : Nat} {cs ds : List AV} {f g : Po} {r x : Dyadic}
/-! what is known of counts, what comes in -/
theorem small15_s (b : Bool) (l : List Nat) (e : Int) : Sat CT false 11 [.agg [Bo b, U32 l, I64 e]] (Bo (decide (l.length ≤ 3 ∧ -200 ≤ e ∧ e ≤ 200))) := by
  refine sat_of annuluslaw15_small.ok (by simp) ?_
  have DD := annuluslaw15_small.dr
  simp only [drP, drPx, drPt, drR, drS, drT, bodyOf, Tryz.f11, Nat.reduceEqDiff, reduceIte, true_and, and_true] at DD
  by_cases h1 : l.length ≤ 3
  · have c1 : (l.length : Int) ≤ 3 := by omega
    by_cases h2 : -200 ≤ e
    · by_cases h3 : e ≤ 200
      · rw [decide_eq_true ⟨h1, h2, h3⟩]
        simp -implicitDefEqProofs only [go_sem, simprocAttr, -Int.reducePow, Tryz.f11, DD, x_app, x_ga0, x_gas, x_gan, Int.cast_ofNat_Int, eq_self, Int.zero_lt_one, Bool.not_false, Bool.not_true, beq_self_eq_true, c1, h2, h3]
      · rw [decide_eq_false (fun h => h3 h.2.2)]
        simp -implicitDefEqProofs only [go_sem, simprocAttr, -Int.reducePow, Tryz.f11, DD, x_app, x_ga0, x_gas, x_gan, Int.cast_ofNat_Int, eq_self, Int.zero_lt_one, Bool.not_false, Bool.not_true, beq_self_eq_true, c1, h2, h3]
    · rw [decide_eq_false (fun h => h2 h.2.1)]
      simp -implicitDefEqProofs only [go_sem, simprocAttr, -Int.reducePow, Tryz.f11, DD, x_app, x_ga0, x_gas, x_gan, Int.cast_ofNat_Int, eq_self, Int.zero_lt_one, Bool.not_false, Bool.not_true, beq_self_eq_true, c1, h2]
  · have c1 : ¬ (l.length : Int) ≤ 3 := by omega
    rw [decide_eq_false (fun h => h1 h.1)]
    simp -implicitDefEqProofs only [go_sem, simprocAttr, -Int.reducePow, Tryz.f11, DD, x_app, x_ga0, x_gas, x_gan, Int.cast_ofNat_Int, eq_self, Int.zero_lt_one, Bool.not_false, Bool.not_true, beq_self_eq_true, c1]
theorem few15_s (F : Nat → Raw) (hn : n ≤ 9223372036854775807) : Sat CT false 9 [.sl n (qcl n F)] (Bo (decide ((∀ i, i < n → (F i).sm) ∧ n ≤ 14))) := by
  refine sat_of annuluslaw15_few.ok (by simp) ?_
  have DD := annuluslaw15_few.dr
  simp only [drP, drPx, drPt, drR, drS, drT, bodyOf, Tryz.f9, Nat.reduceEqDiff, reduceIte, true_and, and_true] at DD
  have hL := qcl_len n F
  simp -implicitDefEqProofs only [go_sem, simprocAttr, -Int.reducePow, Tryz.f9, DD, x_app, x_ga0, x_gas, x_gan, Int.cast_ofNat_Int, eq_self, Int.zero_lt_one, Bool.not_false, Bool.not_true, beq_self_eq_true]
  refine loop_of aW0_mono (fun q σ => ∃ sl i, σ = ⟨sl, []⟩ ∧ q = n - i ∧ i ≤ n ∧ look sl 0 = .sl n (qcl n F) ∧ look sl 3 = I64 (i : Nat) ∧ ∀ j, j < i → (F j).sm) ?_ (n := n)
    ⟨_, 0, rfl, rfl, Nat.zero_le _, by simp [x_look], by simp [x_look], fun j hj => by omega⟩
  rintro q _ ⟨sl, i, rfl, rfl, hi, k0, k3, hinv⟩
  by_cases hid : i = n
  · subst hid
    have ed : decide ((∀ j, j < i → (F j).sm) ∧ i ≤ 14) = decide ((i : Int) ≤ 14) := decide_eq_decide.2 ⟨fun h => by omega, fun h => ⟨hinv, by omega⟩⟩
    rw [ed]
    simp -implicitDefEqProofs only [go_sem, simprocAttr, -Int.reducePow, DD, x_app, x_ga0, x_gas, x_gan, Int.cast_ofNat_Int, eq_self, Int.zero_lt_one, Bool.not_false, Bool.not_true, beq_self_eq_true, k0, k3, Int.lt_irrefl]
  · have c1 : (i : Int) < (n : Int) := by omega
    have ci : IntKind.i64.wrap ((i : Int) + 1) = ((i + 1 : Nat) : Int) := by rw [wrap_i64 (by omega) (by omega)]; omega
    have c2 : (0 : Int) ≤ (i : Int) := by omega
    have c4 : i * 6 < n * 6 := by omega
    have c5 : i * 6 + 3 ≤ n * 6 := by omega
    have c6 : i * 6 + 3 + 3 ≤ n * 6 := by omega
    have hc := qcl_lo F (show i < n by omega)
    have hc' := qcl_hi F (show i < n by omega)
    have q1 := small15_s (F i).n (F i).l (F i).e
    have q2 := small15_s (F i).m (F i).k (F i).f
    by_cases h1 : (F i).l.length ≤ 3 ∧ -200 ≤ (F i).e ∧ (F i).e ≤ 200
    · rw [decide_eq_true h1] at q1
      by_cases h2 : (F i).k.length ≤ 3 ∧ -200 ≤ (F i).f ∧ (F i).f ≤ 200
      · rw [decide_eq_true h2] at q2
        simp -implicitDefEqProofs only [go_sem, simprocAttr, -Int.reducePow, DD, x_app, x_ga0, x_gas, x_gan, Int.cast_ofNat_Int, eq_self, Int.zero_lt_one, Bool.not_false, Bool.not_true, beq_self_eq_true, k0, k3, ci, c1, c2, c4, c5, c6, hc, hc', hL]
        refine callK_pl annuluslaw15_small.call (q1) (pl1 (pld_dy _ _ _)) ?_
        simp -implicitDefEqProofs only [go_sem, simprocAttr, -Int.reducePow, DD, x_app, x_ga0, x_gas, x_gan, Int.cast_ofNat_Int, eq_self, Int.zero_lt_one, Bool.not_false, Bool.not_true, beq_self_eq_true, k0, k3, ci, c1, c2, c4, c5, c6, hc, hc', hL]
        refine callK_pl annuluslaw15_small.call (q2) (pl1 (pld_dy _ _ _)) ?_
        simp -implicitDefEqProofs only [go_sem, simprocAttr, -Int.reducePow, DD, x_app, x_ga0, x_gas, x_gan, Int.cast_ofNat_Int, eq_self, Int.zero_lt_one, Bool.not_false, Bool.not_true, beq_self_eq_true, k0, k3, ci, c1, c2, c4, c5, c6, hc, hc', hL]
        exact ⟨n - (i + 1), by omega, _, i + 1, rfl, rfl, by omega, by simp [x_look, k0], by simp [x_look], fun j hj => by
          rcases Nat.lt_or_ge j i with h | h
          · exact hinv j h
          · rw [show j = i by omega]; exact ⟨h1, h2⟩⟩
      · rw [decide_eq_false h2] at q2
        rw [decide_eq_false (fun h => h2 (h.1 i (by omega)).2)]
        simp -implicitDefEqProofs only [go_sem, simprocAttr, -Int.reducePow, DD, x_app, x_ga0, x_gas, x_gan, Int.cast_ofNat_Int, eq_self, Int.zero_lt_one, Bool.not_false, Bool.not_true, beq_self_eq_true, k0, k3, ci, c1, c2, c4, c5, c6, hc, hc', hL]
        refine callK_pl annuluslaw15_small.call (q1) (pl1 (pld_dy _ _ _)) ?_
        simp -implicitDefEqProofs only [go_sem, simprocAttr, -Int.reducePow, DD, x_app, x_ga0, x_gas, x_gan, Int.cast_ofNat_Int, eq_self, Int.zero_lt_one, Bool.not_false, Bool.not_true, beq_self_eq_true, k0, k3, ci, c1, c2, c4, c5, c6, hc, hc', hL]
        refine callK_pl annuluslaw15_small.call (q2) (pl1 (pld_dy _ _ _)) ?_
        simp -implicitDefEqProofs only [go_sem, simprocAttr, -Int.reducePow, DD, x_app, x_ga0, x_gas, x_gan, Int.cast_ofNat_Int, eq_self, Int.zero_lt_one, Bool.not_false, Bool.not_true, beq_self_eq_true, k0, k3, ci, c1, c2, c4, c5, c6, hc, hc', hL]
    · rw [decide_eq_false h1] at q1
      rw [decide_eq_false (fun h => h1 (h.1 i (by omega)).1)]
      simp -implicitDefEqProofs only [go_sem, simprocAttr, -Int.reducePow, DD, x_app, x_ga0, x_gas, x_gan, Int.cast_ofNat_Int, eq_self, Int.zero_lt_one, Bool.not_false, Bool.not_true, beq_self_eq_true, k0, k3, ci, c1, c2, c4, c5, c6, hc, hc', hL]
      refine callK_pl annuluslaw15_small.call (q1) (pl1 (pld_dy _ _ _)) ?_
      simp -implicitDefEqProofs only [go_sem, simprocAttr, -Int.reducePow, DD, x_app, x_ga0, x_gas, x_gan, Int.cast_ofNat_Int, eq_self, Int.zero_lt_one, Bool.not_false, Bool.not_true, beq_self_eq_true, k0, k3, ci, c1, c2, c4, c5, c6, hc, hc', hL]
theorem point15_s (r : Raw) : Sat CT false 10 [.agg r.cells] (Bo (decide r.sm)) := by
  refine sat_of annuluslaw15_point.ok (by simp) ?_
  have DD := annuluslaw15_point.dr
  simp only [drP, drPx, drPt, drR, drS, drT, bodyOf, Tryz.f10, Nat.reduceEqDiff, reduceIte, true_and, and_true] at DD
  obtain ⟨b, l, e, c, k, g⟩ := r
  have q1 := small15_s b l e
  have q2 := small15_s c k g
  by_cases h1 : l.length ≤ 3 ∧ -200 ≤ e ∧ e ≤ 200
  · rw [decide_eq_true h1] at q1
    have ed : decide (Raw.sm ⟨b, l, e, c, k, g⟩) = decide (k.length ≤ 3 ∧ -200 ≤ g ∧ g ≤ 200) := decide_eq_decide.2 ⟨fun h => h.2, fun h => ⟨h1, h⟩⟩
    rw [ed]
    by_cases h2 : k.length ≤ 3 ∧ -200 ≤ g ∧ g ≤ 200
    · rw [decide_eq_true h2] at q2 ⊢
      simp -implicitDefEqProofs only [go_sem, simprocAttr, -Int.reducePow, Tryz.f10, DD, x_app, x_ga0, x_gas, x_gan, Int.cast_ofNat_Int, eq_self, Int.zero_lt_one, Bool.not_false, Bool.not_true, beq_self_eq_true, Raw.cells]
      refine callK_pl annuluslaw15_small.call (q1) (pl1 (pld_dy _ _ _)) ?_
      simp -implicitDefEqProofs only [go_sem, simprocAttr, -Int.reducePow, DD, x_app, x_ga0, x_gas, x_gan, Int.cast_ofNat_Int, eq_self, Int.zero_lt_one, Bool.not_false, Bool.not_true, beq_self_eq_true]
      refine callK_pl annuluslaw15_small.call (q2) (pl1 (pld_dy _ _ _)) ?_
      simp -implicitDefEqProofs only [go_sem, simprocAttr, -Int.reducePow, DD, x_app, x_ga0, x_gas, x_gan, Int.cast_ofNat_Int, eq_self, Int.zero_lt_one, Bool.not_false, Bool.not_true, beq_self_eq_true]
    · rw [decide_eq_false h2] at q2 ⊢
      simp -implicitDefEqProofs only [go_sem, simprocAttr, -Int.reducePow, Tryz.f10, DD, x_app, x_ga0, x_gas, x_gan, Int.cast_ofNat_Int, eq_self, Int.zero_lt_one, Bool.not_false, Bool.not_true, beq_self_eq_true, Raw.cells]
      refine callK_pl annuluslaw15_small.call (q1) (pl1 (pld_dy _ _ _)) ?_
      simp -implicitDefEqProofs only [go_sem, simprocAttr, -Int.reducePow, DD, x_app, x_ga0, x_gas, x_gan, Int.cast_ofNat_Int, eq_self, Int.zero_lt_one, Bool.not_false, Bool.not_true, beq_self_eq_true]
      refine callK_pl annuluslaw15_small.call (q2) (pl1 (pld_dy _ _ _)) ?_
      simp -implicitDefEqProofs only [go_sem, simprocAttr, -Int.reducePow, DD, x_app, x_ga0, x_gas, x_gan, Int.cast_ofNat_Int, eq_self, Int.zero_lt_one, Bool.not_false, Bool.not_true, beq_self_eq_true]
  · rw [decide_eq_false h1] at q1
    rw [decide_eq_false (show ¬ Raw.sm ⟨b, l, e, c, k, g⟩ from fun h => h1 h.1)]
    simp -implicitDefEqProofs only [go_sem, simprocAttr, -Int.reducePow, Tryz.f10, DD, x_app, x_ga0, x_gas, x_gan, Int.cast_ofNat_Int, eq_self, Int.zero_lt_one, Bool.not_false, Bool.not_true, beq_self_eq_true, Raw.cells]
    refine callK_pl annuluslaw15_small.call (q1) (pl1 (pld_dy _ _ _)) ?_
    simp -implicitDefEqProofs only [go_sem, simprocAttr, -Int.reducePow, DD, x_app, x_ga0, x_gas, x_gan, Int.cast_ofNat_Int, eq_self, Int.zero_lt_one, Bool.not_false, Bool.not_true, beq_self_eq_true]

/-- two roots -/
def pr2 (a b : Cx) : Po := fun i => match i with | 0 => a | 1 => b | _ + 2 => zero
theorem pr2_cl (a b : Cx) : pcl 2 (pr2 a b) = CIc a ++ CIc b := by rw [pclS, pclS, pcl0]; rfl
theorem zI_neg (a b : Int) : -(zI a b) = zI (-a) (-b) := Cx.ext' (dv_neg a 0) (dv_neg b 0)
theorem zI_zero : zero = zI 0 0 := rfl
theorem frm2 (f : Nat → Cx) (u v : Int) (h0 : f 0 = zI u 0) (h1 : f 1 = zI v 0) : frm f 2 0 = zI (u * v) 0 ∧ frm f 2 1 = zI (-(u + v)) 0 ∧ frm f 2 2 = zI 1 0 := by
  have e : ∀ k, frm f 2 k = px (lin (zI u 0)) k + -(zI v 0) * lin (zI u 0) k := fun k => by rw [frm_2, h0, h1, conv_lin]
  refine ⟨?_, ?_, ?_⟩
  · rw [e]
    show zero + -(zI v 0) * -(zI u 0) = _
    rw [zI_neg, zI_neg, zI_mul, zI_zero, zI_add]
    congr 1 <;> grind
  · rw [e]
    show -(zI u 0) + -(zI v 0) * zI 1 0 = _
    rw [zI_neg, zI_neg, zI_mul, zI_add]
    congr 1 <;> grind
  · rw [e]
    show zI 1 0 + -(zI v 0) * zero = _
    rw [zI_neg, zI_zero, zI_mul, zI_add]
    congr 1 <;> grind
theorem tms_I (a ρ : Int) : tms (zI a 0) (dv ρ 0) = zI (a * ρ) 0 := Cx.ext' (dvm0 a ρ) (by show dv 0 0 * dv ρ 0 = dv 0 0; rw [dvm0, Int.zero_mul])
theorem rk_I (ρ : Int) : rk (dv ρ 0) 0 = dv 1 0 ∧ rk (dv ρ 0) 1 = dv ρ 0 ∧ rk (dv ρ 0) 2 = dv (ρ * ρ) 0 := by
  have e1 : rk (dv ρ 0) 1 = dv ρ 0 := by show dv 1 0 * dv ρ 0 = _; rw [dvm0, Int.one_mul]
  exact ⟨rfl, e1, by show rk (dv ρ 0) 1 * dv ρ 0 = _; rw [e1, dvm0]⟩
theorem uni2 (u v γ ρ : Int) : uni 3 (frm (pr2 (zI u 0) (zI v 0)) 2) (zI γ 0) (dv ρ 0) 0 = zI ((u - γ) * (v - γ)) 0 ∧ uni 3 (frm (pr2 (zI u 0) (zI v 0)) 2) (zI γ 0) (dv ρ 0) 1 = zI (-((u - γ) + (v - γ)) * ρ) 0 ∧
    uni 3 (frm (pr2 (zI u 0) (zI v 0)) 2) (zI γ 0) (dv ρ 0) 2 = zI (ρ * ρ) 0 := by
  obtain ⟨k0, k1, k2⟩ := rk_I ρ
  obtain ⟨f0, f1, f2⟩ := frm2 (fun i => pr2 (zI u 0) (zI v 0) i - zI γ 0) (u - γ) (v - γ) (show zI u 0 - zI γ 0 = _ by rw [zI_sub]; rfl) (show zI v 0 - zI γ 0 = _ by rw [zI_sub]; rfl)
  unfold uni
  rw [shf_frm, k0, k1, k2, f0, f1, f2, tms_I, tms_I, tms_I, Int.mul_one, Int.one_mul]
  exact ⟨rfl, rfl, rfl⟩
theorem zI_ne {a : Int} (h : a ≠ 0) : zI a 0 ≠ zero := fun e => h (by
  have := congrArg Cx.re e
  exact dv_eq_zero.1 this)
theorem uni2_dg (u v γ ρ : Int) (h : ρ ≠ 0) : dg 3 (uni 3 (frm (pr2 (zI u 0) (zI v 0)) 2) (zI γ 0) (dv ρ 0)) = 3 := by
  rw [dgS, if_neg (by rw [(uni2 u v γ ρ).2.2]; exact zI_ne (fun e => h (by rcases Int.mul_eq_zero.1 e with q | q <;> exact q)))]
theorem okB_small {D l : Nat} (hD : D ≤ 3) (hl : l ≤ 3) {b : Nat} (hb : b ≤ 1000) : okB 12045 D l b := by
  match l, hl with
  | 0, _ => show b ≤ 12045; omega
  | 1, _ => exact ⟨by omega, (by omega : 2 * b + D + 2 ≤ 12045)⟩
  | 2, _ => exact ⟨by omega, by omega, (by omega : 2 * (2 * b + D + 2) + D + 2 ≤ 12045)⟩
  | 3, _ => exact ⟨by omega, by omega, by omega, (by omega : 2 * (2 * (2 * b + D + 2) + D + 2) + D + 2 ≤ 12045)⟩
theorem of15_s (a b r : Int) (ha : a.natAbs < 1000000) (hb : b.natAbs < 1000000) (hr : r.natAbs < 1000000) : Sat CT false 24 [I64 a, I64 b, I64 r] (TI (zI a b) (dv r 0)) := by
  refine sat_of annuluslaw15_of.ok (by simp) ?_
  have DD := annuluslaw15_of.dr
  simp only [drP, drPx, drPt, drR, drS, drT, bodyOf, Tryz.f24, Nat.reduceEqDiff, reduceIte, true_and, and_true] at DD
  have u1 := rof8_sat a b (by omega) (by omega) (by omega) (by omega)
  have u2 := rof4_sat r (by omega) (by omega)
  simp -implicitDefEqProofs only [go_sem, simprocAttr, -Int.reducePow, Tryz.f24, DD, TI, zI, List.take_succ_cons, List.drop_succ_cons]
  refine callK_q annulusref8_Of.call (u1) rfl rfl ?_
  simp -implicitDefEqProofs only [go_sem, simprocAttr, -Int.reducePow, DD, TI, zI, List.take_succ_cons, List.drop_succ_cons]
  refine callK_q annulusref4_Of.call (u2) rfl rfl ?_
  simp -implicitDefEqProofs only [go_sem, simprocAttr, -Int.reducePow, DD, TI, zI, List.take_succ_cons, List.drop_succ_cons]
  rfl
theorem anyO_eq {k : Nat} (hk : k < d) (h : aYes f d k P) (hn : ∀ i, i < k → ¬ aYes f d i P) : anyO f d P = some k := by
  rcases anyO_spec f d P with ⟨j, j1, j2, j3, j4⟩ | ⟨j1, j2⟩
  · rcases Nat.lt_trichotomy j k with q | q | q
    · exact absurd j3 (hn j q)
    · rw [j1, q]
    · exact absurd h (j4 k q)
  · exact absurd h (j2 k hk)
theorem f19_pb : PB (frm (pr2 (zI 1 0) (zI 9 0)) 2) 60 := fun i => by
  have hrt : ∀ i, i < 2 → CB (pr2 (zI 1 0) (zI 9 0) i) 20 := fun i hi => by
    match i, hi with
    | 0, _ => exact ⟨DB.raw (m := 1) (e := 0) (L := 10) (E := 0) (by decide) (by decide) (by decide), DB.raw (m := 0) (e := 0) (L := 10) (E := 0) (by decide) (by decide) (by decide)⟩
    | 1, _ => exact ⟨DB.raw (m := 9) (e := 0) (L := 10) (E := 0) (by decide) (by decide) (by decide), DB.raw (m := 0) (e := 0) (L := 10) (E := 0) (by decide) (by decide) (by decide)⟩
  have h := PB.frm (N := 2) hrt (by decide) (Nat.le_refl 2) i
  exact ⟨h.1.mono (by decide), h.2.mono (by decide)⟩
theorem f19_rp : RP (pcl 3 (frm (pr2 (zI 1 0) (zI 9 0)) 2)) 3 (frm (pr2 (zI 1 0) (zI 9 0)) 2) 60 := RP_P f19_pb (Sp.frm _ 2) (by decide)
theorem f19_dg : dg 3 (frm (pr2 (zI 1 0) (zI 9 0)) 2) ≠ 0 := by
  rw [dgS, if_neg (by rw [(frm2 (pr2 (zI 1 0) (zI 9 0)) 1 9 rfl rfl).2.2]; exact zI_ne (by decide))]
  decide
theorem any_k {u0 u1 u2 : Int} {F : Po} (h0 : F 0 = zI u0 0) (h1 : F 1 = zI u1 0) (h2 : F 2 = zI u2 0) (b0 : u0.natAbs < 2 ^ 60) (b1 : u1.natAbs < 2 ^ 60) (b2 : u2.natAbs < 2 ^ 60) :
    (u0.natAbs + u1.natAbs + u2.natAbs < 2 * u0.natAbs → anyO F 3 60 = some 0) ∧ (¬ u0.natAbs + u1.natAbs + u2.natAbs < 2 * u0.natAbs → u0.natAbs + u1.natAbs + u2.natAbs < 2 * u1.natAbs → anyO F 3 60 = some 1) := by
  refine ⟨fun g => ?_, fun g g' => ?_⟩
  · exact anyO_eq (by decide) ((yes3 h0 h1 h2 (by decide) b0 b1 b2 h0 b0).2 g) (fun i hi => absurd hi (Nat.not_lt_zero _))
  · exact anyO_eq (by decide) ((yes3 h0 h1 h2 (by decide) b0 b1 b2 h1 b1).2 g') (fun i hi => by
      obtain rfl : i = 0 := by omega
      exact fun q => g ((yes3 h0 h1 h2 (by decide) b0 b1 b2 h0 b0).1 q))
theorem inO_any {l k : Nat} (h : anyO f d P = some k) : inO l f d P = some k := by
  cases l with
  | zero => exact h
  | succ l => unfold inO; rw [h]
theorem k15_in (γ : Int) (k : Nat) (hγ : γ.natAbs < 2 ^ 64) (h : anyO (uni 3 (frm (pr2 (zI 1 0) (zI 9 0)) 2) (zI γ 0) (dv 3 0)) 3 60 = some k) : Sat CT false 14 [PA 3 (frm (pr2 (zI 1 0) (zI 9 0)) 2), TI (zI γ 0) (dv 3 0), I64 3, I64 60] (.tup [I64 (oI (some k)), Bo (some k).isSome]) := by
  have t3 := tI_rt (a := γ) (b := 0) (r := 3) hγ (by decide) (by decide)
  have s3 : ¬ (dnum (dv 3 0)).sign ≤ 0 := by rw [dnum_sign]; decide
  have a1 := cin_s f19_rp (isD_pcl _ _) (by decide) t3 (by decide) (by decide) 3 60 (by decide) f19_dg s3 (L := 3) (by decide) (uni_pb f19_pb t3.cb (rp_db t3.db) 3) (okB_small (dg_le _ _) (by decide) (by decide))
  rw [rp_I 3 (by decide), uni2_dg 1 9 γ 3 (by decide), show heldP 60 = 60 from rfl, inO_any h] at a1
  exact a1
theorem k15_1 : Sat CT false 14 [PA 3 (frm (pr2 (zI 1 0) (zI 9 0)) 2), TI (zI 0 0) (dv 3 0), I64 3, I64 60] (.tup [I64 (oI (some 1)), Bo (some 1).isSome]) := by
  obtain ⟨u0, u1, u2⟩ := uni2 1 9 0 3
  exact k15_in 0 1 (by decide) ((any_k u0 u1 u2 (by decide) (by decide) (by decide)).2 (by decide) (by decide))
theorem k15_2 : Sat CT false 14 [PA 3 (frm (pr2 (zI 1 0) (zI 9 0)) 2), TI (zI 20 0) (dv 3 0), I64 3, I64 60] (.tup [I64 (oI (some 0)), Bo (some 0).isSome]) := by
  obtain ⟨u0, u1, u2⟩ := uni2 1 9 20 3
  exact k15_in 20 0 (by decide) ((any_k u0 u1 u2 (by decide) (by decide) (by decide)).1 (by decide))
set_option maxHeartbeats 4000000 in
theorem known15_s : Sat CT false 8 [] (Bo true) := by
  refine sat_of annuluslaw15_known.ok (by simp) ?_
  have DD := annuluslaw15_known.dr
  simp only [drP, drPx, drPt, drR, drS, drT, bodyOf, Tryz.f8, Nat.reduceEqDiff, reduceIte, true_and, and_true] at DD
  have z1 : CB (zI 1 0) 20 := ⟨DB.raw (m := 1) (e := 0) (L := 10) (E := 0) (by decide) (by decide) (by decide), DB.raw (m := 0) (e := 0) (L := 10) (E := 0) (by decide) (by decide) (by decide)⟩
  have z9 : CB (zI 9 0) 20 := ⟨DB.raw (m := 9) (e := 0) (L := 10) (E := 0) (by decide) (by decide) (by decide), DB.raw (m := 0) (e := 0) (L := 10) (E := 0) (by decide) (by decide) (by decide)⟩
  have o1 := rof8_sat 1 0 (by decide) (by decide) (by decide) (by decide)
  have o9 := rof8_sat 9 0 (by decide) (by decide) (by decide) (by decide)
  have hrt : ∀ i, i < 2 → CB (pr2 (zI 1 0) (zI 9 0) i) 20 := fun i hi => by match i, hi with | 0, _ => exact z1 | 1, _ => exact z9
  have fr := rfrom_s (cs := pcl 2 (pr2 (zI 1 0) (zI 9 0))) (n := 2) (B := 20) (pr2 (zI 1 0) (zI 9 0)) (pcl_len _ _) (fun i hi => by rw [pcl_el _ hi]; exact RC_C (hrt i hi)) (by decide) (by decide) (by decide)
  have t3 := tI_rt (a := 0) (b := 0) (r := 3) (by decide) (by decide) (by decide)
  have t20 := tI_rt (a := 20) (b := 0) (r := 3) (by decide) (by decide) (by decide)
  have t1 := tI_rt (a := 0) (b := 0) (r := 1) (by decide) (by decide) (by decide)
  have t2 := tI_rt (a := 0) (b := 0) (r := 2) (by decide) (by decide) (by decide)
  have r2 := rp_I 2 (by decide)
  have a1 := k15_1
  have a2 := k15_2
  have n1 := cnone_s 3 60 t3 (isD_pcl _ _) a1
  rw [decide_eq_false (by decide)] at n1
  have n2 := cnone_s 3 60 t20 (isD_pcl _ _) a2
  rw [decide_eq_true rfl] at n2
  have a3 := cin_no (RP_P (n := 0) (f := pz) (B := 0) (fun _ => CB.zero 0) (fun _ _ => rfl) (by omega)) (isD_pcl _ _) (by decide) t1 (by decide) 3 60 (.inl (dg0 _))
  rw [pcl0] at a3
  have un := cunit_s f19_rp (isD_pcl _ _) t2 (by decide) (by decide) (by decide)
  rw [r2, uni2_dg 1 9 0 2 (by decide)] at un
  have q1 := of15_s 0 0 3 (by decide) (by decide) (by decide)
  have q2 := of15_s 20 0 3 (by decide) (by decide) (by decide)
  have q3 := of15_s 0 0 1 (by decide) (by decide) (by decide)
  have q4 := of15_s 0 0 2 (by decide) (by decide) (by decide)
  have p3 := pld_TI (zI 0 0) (dv 3 0)
  have hPA : ∀ (d : Nat) (g : Po), PA d g = .sl d (pcl d g) := fun _ _ => rfl
  generalize frm (pr2 (zI 1 0) (zI 9 0)) 2 = F at *
  simp -implicitDefEqProofs only [go_sem, simprocAttr, -Int.reducePow, Tryz.f8, DD]
  refine callK_pl annulusref8_Of.call (o1) (pl2 pld_int pld_int) ?_
  simp -implicitDefEqProofs only [go_sem, simprocAttr, -Int.reducePow, DD]
  refine callK_pl annulusref8_Of.call (o9) (pl2 pld_int pld_int) ?_
  simp -implicitDefEqProofs only [go_sem, simprocAttr, -Int.reducePow, DD]
  refine callK_ar annulusref11_From.call fr (.cons (.row (cs := pcl 2 (pr2 (zI 1 0) (zI 9 0))) (.inr ⟨_, true, rfl, by rw [pr2_cl]; rfl, by simp, pcl_len _ _⟩) (snap0_pcl _ _) (isD_pcl _ _)) .nil) rfl ?_
  intro H' _
  simp -implicitDefEqProofs only [go_sem, simprocAttr, -Int.reducePow, DD, hPA]
  refine callK_q annuluslaw15_of.call (q1) rfl rfl ?_
  simp -implicitDefEqProofs only [go_sem, simprocAttr, -Int.reducePow, DD, hPA]
  refine callK_pl count_In.call (a1) (pl4 (pld_PA 3 F) (pld_TI _ _) pld_int pld_int) ?_
  simp -implicitDefEqProofs only [go_sem, simprocAttr, -Int.reducePow, DD, hPA, oI, Option.isSome]
  refine callK_q annuluslaw15_of.call (q2) rfl rfl ?_
  simp -implicitDefEqProofs only [go_sem, simprocAttr, -Int.reducePow, DD, hPA, oI, Option.isSome]
  refine callK_pl count_In.call (a2) (pl4 (pld_PA 3 F) (pld_TI _ _) pld_int pld_int) ?_
  simp -implicitDefEqProofs only [go_sem, simprocAttr, -Int.reducePow, DD, hPA, oI, Option.isSome]
  refine callK_q annuluslaw15_of.call (q3) rfl rfl ?_
  simp -implicitDefEqProofs only [go_sem, simprocAttr, -Int.reducePow, DD, hPA, oI, Option.isSome]
  refine callK_ar count_In.call a3 (.cons .none (.cons (.pl (pld_TI _ _)) (.cons (.pl pld_int) (.cons (.pl pld_int) .nil)))) rfl ?_
  intro H2 _
  simp -implicitDefEqProofs only [go_sem, simprocAttr, -Int.reducePow, DD, hPA, oI, Option.isSome, Int.natCast_one, Int.natCast_zero]
  refine callK_q annuluslaw15_of.call (q2) rfl rfl ?_
  simp -implicitDefEqProofs only [go_sem, simprocAttr, -Int.reducePow, DD, hPA, oI, Option.isSome, Int.natCast_one, Int.natCast_zero]
  refine callK_pl count_None.call (n2) (pl4 (pld_PA 3 F) (pld_TI _ _) pld_int pld_int) ?_
  simp -implicitDefEqProofs only [go_sem, simprocAttr, -Int.reducePow, DD, hPA, oI, Option.isSome, Int.natCast_one, Int.natCast_zero]
  refine callK_q annuluslaw15_of.call (q1) rfl rfl ?_
  simp -implicitDefEqProofs only [go_sem, simprocAttr, -Int.reducePow, DD, hPA, oI, Option.isSome, Int.natCast_one, Int.natCast_zero]
  refine callK_pl count_None.call (n1) (pl4 (pld_PA 3 F) (pld_TI _ _) pld_int pld_int) ?_
  simp -implicitDefEqProofs only [go_sem, simprocAttr, -Int.reducePow, DD, hPA, oI, Option.isSome, Int.natCast_one, Int.natCast_zero]
  refine callK_q annuluslaw15_of.call (q4) rfl rfl ?_
  simp -implicitDefEqProofs only [go_sem, simprocAttr, -Int.reducePow, DD, hPA, oI, Option.isSome, Int.natCast_one, Int.natCast_zero]
  refine callK_pl count_Unit.call (un) (pl2 (pld_PA 3 F) (pld_TI _ _)) ?_
  simp -implicitDefEqProofs only [go_sem, simprocAttr, -Int.reducePow, DD, hPA, oI, Option.isSome, Int.natCast_one, Int.natCast_zero]
end Go.Ab

set_option linter.unusedVariables false
set_option maxRecDepth 20000
set_option linter.unusedSimpArgs false
set_option linter.unusedSectionVars false
namespace Go.Ab
open Go.Proofs
open Cx (zero one)
attribute [-go_sem] appF newsF
variable {a b : AV} {z w c : Cx} {B C n m d P M D : Nat} {cs ds : List AV} {f g : Po} {r x : Dyadic}
/-! the law of what is told of counts -/
abbrev RawT.sm (t : RawT) : Prop := t.c.sm ∧ (t.p.length ≤ 3 ∧ -200 ≤ t.q ∧ t.q ≤ 200)
theorem RawT.rts {t : RawT} (h : t.ok) (hs : t.sm) : RT (.agg t.cells) t.c.z t.rd 296 296 := ⟨_, _, _, _, _, _, _, _, _, rfl, rd_small h.1.1 hs.1.1, rd_small h.1.2.1 hs.1.2, rd_small h.2 hs.2⟩
end Go.Ab

set_option linter.unusedVariables false
set_option maxRecDepth 20000
set_option linter.unusedSimpArgs false
set_option linter.unusedSectionVars false
namespace Go.Ab
open Go.Proofs
open Cx (zero one)
attribute [-go_sem] appF newsF
variable {a b : AV} {z w c : Cx} {B C n m d P M D : Nat} {cs ds : List AV} {f g s : Po} {r x y : Dyadic}
/-! the law of the unit circle's polynomial: plain -/
theorem dv1x (x : Dyadic) : dv 1 0 * x = x := by
  have e : dv 1 0 = 1 := by decide
  rw [e]; grind
theorem rk_add (r : Dyadic) (a : Nat) : ∀ b, rk r a * rk r b = rk r (a + b)
  | 0 => by show rk r a * dv 1 0 = rk r a; rw [show rk r a * dv 1 0 = dv 1 0 * rk r a by grind, dv1x]
  | b + 1 => by
    show rk r a * (rk r b * r) = rk r (a + b) * r
    rw [← rk_add r a b]; grind
theorem tms_tms (z : Cx) (x y : Dyadic) : tms (tms z x) y = tms z (x * y) := Cx.ext' (show z.re * x * y = z.re * (x * y) by grind) (show z.im * x * y = z.im * (x * y) by grind)
theorem tms_add (z w : Cx) (x : Dyadic) : tms z x + tms w x = tms (z + w) x := Cx.ext' (show z.re * x + w.re * x = (z.re + w.re) * x by grind) (show z.im * x + w.im * x = (z.im + w.im) * x by grind)
theorem tms_mul (z w : Cx) (x : Dyadic) : tms z x * w = tms (z * w) x := Cx.ext' (show z.re * x * w.re - z.im * x * w.im = (z.re * w.re - z.im * w.im) * x by grind) (show z.re * x * w.im + z.im * x * w.re = (z.re * w.im + z.im * w.re) * x by grind)
theorem tms_zero (x : Dyadic) : tms zero x = zero := Cx.ext' (show (0 : Dyadic) * x = 0 by grind) (show (0 : Dyadic) * x = 0 by grind)
/-- Horner's, from the top, scaled -/
def hnr (n : Nat) (s : Po) (r : Dyadic) (z : Cx) (j : Nat) : Cx := tms (ev j (dp (n + 1 - j) s) z) (rk r n)
theorem hnr_0 (n : Nat) (s : Po) (r : Dyadic) (z : Cx) : hnr n s r z 0 = zero := by unfold hnr; rw [ev0, tms_zero]
theorem hnr_S {j : Nat} (h : j ≤ n) : hnr n s r z (j + 1) = hnr n s r z j * z + tms (tms (s (n - j)) (rk r (n - j))) (rk r j) := by
  unfold hnr
  rw [show n + 1 - (j + 1) = n - j by omega, ev_dp, show n + 1 - j = n - j + 1 by omega, tms_mul, tms_tms, rk_add, show n - j + j = n by omega, tms_add]
theorem hnr_end (n : Nat) (s : Po) (r : Dyadic) (z : Cx) : hnr n s r z (n + 1) = tms (ev (n + 1) s z) (rk r n) := by
  unfold hnr
  rw [show n + 1 - (n + 1) = 0 by omega]
  rfl
theorem rk_ne (h : r ≠ 0) : ∀ k, rk r k ≠ 0
  | 0 => by show dv 1 0 ≠ 0; decide
  | k + 1 => mul_ne (rk_ne h k) h
theorem tms_ne (hz : z ≠ zero) (hx : x ≠ 0) : tms z x ≠ zero := fun e => by
  have e1 : z.re * x = 0 := congrArg Cx.re e
  have e2 : z.im * x = 0 := congrArg Cx.im e
  apply hz
  refine Cx.ext' ?_ ?_
  · by_cases q : z.re = 0
    · exact q
    · exact absurd e1 (mul_ne q hx)
  · by_cases q : z.im = 0
    · exact q
    · exact absurd e2 (mul_ne q hx)
theorem uni_top (p : Nat → Cx) (n : Nat) (c : Cx) (h : r ≠ 0) : dg (n + 1) (uni (n + 1) (frm p n) c r) = n + 1 := by
  rw [dgS, if_neg ?_]
  unfold uni
  rw [shf_top, frm_top]
  exact tms_ne (fun e => absurd (congrArg Cx.re e) (by decide)) (rk_ne h n)
theorem rk_0 : ∀ k, rk 0 (k + 1) = 0 := fun k => by show rk 0 k * 0 = 0; grind
theorem uni_flat (n : Nat) (f : Po) (c : Cx) : ∀ m, dg m (uni n f c 0) ≤ 1
  | 0 => by rw [dg0]; omega
  | 1 => dg_le 1 _
  | m + 2 => by
    rw [dgS, if_pos (show uni n f c 0 (m + 1) = zero by
      unfold uni
      rw [rk_0]
      exact Cx.ext' (show _ * (0 : Dyadic) = 0 by grind) (show _ * (0 : Dyadic) = 0 by grind))]
    exact uni_flat n f c (m + 1)
theorem hnr_root (p : Nat → Cx) (n i : Nat) (hi : i < n) (c : Cx) (r : Dyadic) : hnr n (shf (n + 1) (frm p n) c) r (p i - c) (n + 1) = zero := by
  rw [hnr_end, shf_frm, ev_frm, show p i - c = (fun j => p j - c) i from rfl, pev_root _ hi, tms_zero]
theorem hnr_cb {B K : Nat} (hz : CB z B) (hq : ∀ j, j ≤ n → CB (tms (tms (s (n - j)) (rk r (n - j))) (rk r j)) K) : ∀ j, j ≤ n + 1 → CB (hnr n s r z j) (K + j * (B + 2))
  | 0, _ => by rw [hnr_0]; exact CB.zero _
  | j + 1, hj => by
    rw [hnr_S (by omega)]
    have h1 := (hnr_cb hz hq j (by omega)).mul hz
    have h2 := hq j (by omega)
    have e : (j + 1) * (B + 2) = j * (B + 2) + (B + 2) := Nat.succ_mul ..
    exact ⟨((h1.1.mono (by omega)).add (h2.1.mono (C := K + j * (B + 2) + B + 1) (by omega))).mono (by omega), ((h1.2.mono (by omega)).add (h2.2.mono (C := K + j * (B + 2) + B + 1) (by omega))).mono (by omega)⟩
end Go.Ab

set_option linter.unusedVariables false
set_option maxRecDepth 20000
set_option linter.unusedSimpArgs false
set_option linter.unusedSectionVars false
namespace Go.Ab
open Go.Proofs
open Cx (zero one)
attribute [-go_sem] appF newsF
variable {a b : AV} {z w c : Cx} {B C n m d P M D : Nat} {cs ds : List AV} {f g s : Po} {r x y : Dyadic}
/-! the law of the unit circle's polynomial: the walk -/
theorem x_hget2 {H : Heap} {x d : AObj} {k : Nat} (h : k = H.length) : (H ++ [x]).getD k d = x := by rw [h]; exact x_hget
set_option maxHeartbeats 8000000 in
theorem cu_main (F : Nat → Raw) (hF : ∀ i, (F i).ok) (hsm : ∀ i, i < n → (F i).sm) (hn : n ≤ 5) (tn : Bool) (tl : List Nat) (te : Int) (tm : Bool) (tk : List Nat) (tf : Int) (to : Bool) (tp : List Nat) (tq : Int)
    (t : RT (.agg [Bo tn, U32 tl, I64 te, Bo tm, U32 tk, I64 tf, Bo to, U32 tp, I64 tq]) c r 296 296) (k0 : Sat CT false 8 [] (Bo true)) (f1 : Sat CT false 9 [.sl n (qcl n F)] (Bo true)) (c2 : ¬ (5 : Int) < (n : Int))
    (f2 : Sat CT false 10 [.agg [Bo tn, U32 tl, I64 te, Bo tm, U32 tk, I64 tf]] (Bo true)) (f3 : Sat CT false 11 [.agg [Bo to, U32 tp, I64 tq]] (Bo true)) :
    Sat CT false 6 [.sl n (qcl n F), .agg [Bo tn, U32 tl, I64 te, Bo tm, U32 tk, I64 tf, Bo to, U32 tp, I64 tq]] (Bo true) := by
  refine sat_of annuluslaw15_CountUnit.ok (by simp) ?_
  have DD := annuluslaw15_CountUnit.dr
  simp only [drP, drPx, drPt, drR, drS, drT, bodyOf, Tryz.f6, Nat.reduceEqDiff, reduceIte, true_and, and_true] at DD
  have hq := pld_q n F
  have hpt := pld_RT t
  have dd := fdisc_s t (by decide) (by decide)
  have hrc : ∀ i, i < n → RC (.agg (F i).cells) (F i).z 296 := fun i hi => Raw.rc (hF i) (hsm i hi)
  have fr := rfrom_s (cs := qcl n F) (n := n) (B := 296) (fun i => (F i).z) (qcl_len n F) (fun i hi => by rw [qcl_el F hi]; exact hrc i hi) (by omega) (by decide) (by omega)
  have m1 : n * (296 + 3) ≤ 5 * 299 := Nat.mul_le_mul hn (by decide)
  have hG : PB (frm (fun i => (F i).z) n) 1500 := fun i => ⟨(PB.frm (N := n) (fun i hi => (hrc i hi).cb) (by decide) (Nat.le_refl n) i).1.mono (by omega), (PB.frm (N := n) (fun i hi => (hrc i hi).cb) (by decide) (Nat.le_refl n) i).2.mono (by omega)⟩
  have sG := Sp.frm (fun i => (F i).z) n
  have rG := RP_P hG sG (by omega)
  have un := cunit_s rG (isD_pcl _ _) t (by omega) (by decide) (by decide)
  have hU := uni_pb hG t.cb (rp_db t.db) (n + 1)
  have m2 : (n + 1) * (296 + 2) ≤ 6 * 298 := Nat.mul_le_mul (by omega) (by decide)
  have sg := rsign4_r (RD_D (rp_db t.db)) (by decide)
  have hPA : ∀ (d : Nat) (g : Po), PA d g = .sl d (pcl d g) := fun _ _ => rfl
  have hfl := uni_flat (n + 1) (frm (fun i => (F i).z) n) c
  have htop := fun h => uni_top (r := rp r) (fun i => (F i).z) n c h
  have hroot := fun i hi => hnr_root (fun i => (F i).z) n i hi c (rp r)
  have hcb := t.cb
  have hrb := rp_db t.db
  have hS : ∀ j, uni (n + 1) (frm (fun i => (F i).z) n) c (rp r) j = tms (shf (n + 1) (frm (fun i => (F i).z) n) c j) (rk (rp r) j) := fun j => rfl
  generalize frm (fun i => (F i).z) n = G at *
  by_cases h0 : rp r = 0
  · rw [h0] at un sg dd
    have l1 := hfl (n + 1)
    generalize uni (n + 1) G c 0 = U at *
    generalize dg (n + 1) U = E at *
    have c1 : (E : Int) ≤ 1 := by omega
    have z1 : (dnum (0 : Dyadic)).sign = 0 := rfl
    rw [z1] at sg
    simp -implicitDefEqProofs only [go_sem, simprocAttr, -Int.reducePow, Tryz.f6, DD, c1, c2, TI, hPA, gt_iff_lt, List.take_succ_cons, List.drop_succ_cons]
    refine callK_q annuluslaw15_known.call (k0) rfl rfl ?_
    simp -implicitDefEqProofs only [go_sem, simprocAttr, -Int.reducePow, DD, c1, c2, TI, hPA, gt_iff_lt, List.take_succ_cons, List.drop_succ_cons]
    refine callK_pl annuluslaw15_few.call (f1) (pl1 hq) ?_
    simp -implicitDefEqProofs only [go_sem, simprocAttr, -Int.reducePow, DD, c1, c2, TI, hPA, gt_iff_lt, List.take_succ_cons, List.drop_succ_cons]
    refine callK_q annuluslaw15_point.call (f2) rfl rfl ?_
    simp -implicitDefEqProofs only [go_sem, simprocAttr, -Int.reducePow, DD, c1, c2, TI, hPA, gt_iff_lt, List.take_succ_cons, List.drop_succ_cons]
    refine callK_q annuluslaw15_small.call (f3) rfl rfl ?_
    simp -implicitDefEqProofs only [go_sem, simprocAttr, -Int.reducePow, DD, c1, c2, TI, hPA, gt_iff_lt, List.take_succ_cons, List.drop_succ_cons]
    refine callK_q annulusref8_Disc.call (dd) rfl rfl ?_
    simp -implicitDefEqProofs only [go_sem, simprocAttr, -Int.reducePow, DD, c1, c2, TI, hPA, gt_iff_lt, List.take_succ_cons, List.drop_succ_cons]
    refine callK_pl annulusref11_From.call (fr) (pl1 hq) ?_
    simp -implicitDefEqProofs only [go_sem, simprocAttr, -Int.reducePow, DD, c1, c2, TI, hPA, gt_iff_lt, List.take_succ_cons, List.drop_succ_cons]
    refine callK_pl count_Unit.call (un) (pl2 (pld_PA (n + 1) G) hpt) ?_
    simp -implicitDefEqProofs only [go_sem, simprocAttr, -Int.reducePow, DD, c1, c2, TI, hPA, gt_iff_lt, List.take_succ_cons, List.drop_succ_cons]
    refine callK_q annulusref4_Sign.call (sg) rfl rfl ?_
    simp -implicitDefEqProofs only [go_sem, simprocAttr, -Int.reducePow, DD, c1, c2, TI, hPA, gt_iff_lt, List.take_succ_cons, List.drop_succ_cons]
  · have et := htop h0
    rw [et] at un
    have s1 : ¬ (dnum (rp r)).sign = 0 := sg_ne h0
    generalize hUe : uni (n + 1) G c (rp r) = U at *
    have hL := pcl_len (n + 1) U
    have wn : IntKind.i64.wrap (((n + 1 : Nat) : Int) - 1) = (n : Nat) := by rw [wrap_id (by omega)]; omega
    have wn1 : IntKind.i64.wrap ((n : Int) + 1) = ((n + 1 : Nat) : Int) := by rw [wrap_id (by omega)]; omega
    have o1 := rof4_sat 1 (by decide) (by decide)
    simp -implicitDefEqProofs only [go_sem, simprocAttr, -Int.reducePow, Tryz.f6, DD, c2, s1, TI, hPA, gt_iff_lt, List.take_succ_cons, List.drop_succ_cons]
    refine callK_q annuluslaw15_known.call (k0) rfl rfl ?_
    simp -implicitDefEqProofs only [go_sem, simprocAttr, -Int.reducePow, DD, c2, s1, TI, hPA, gt_iff_lt, List.take_succ_cons, List.drop_succ_cons]
    refine callK_pl annuluslaw15_few.call (f1) (pl1 hq) ?_
    simp -implicitDefEqProofs only [go_sem, simprocAttr, -Int.reducePow, DD, c2, s1, TI, hPA, gt_iff_lt, List.take_succ_cons, List.drop_succ_cons]
    refine callK_q annuluslaw15_point.call (f2) rfl rfl ?_
    simp -implicitDefEqProofs only [go_sem, simprocAttr, -Int.reducePow, DD, c2, s1, TI, hPA, gt_iff_lt, List.take_succ_cons, List.drop_succ_cons]
    refine callK_q annuluslaw15_small.call (f3) rfl rfl ?_
    simp -implicitDefEqProofs only [go_sem, simprocAttr, -Int.reducePow, DD, c2, s1, TI, hPA, gt_iff_lt, List.take_succ_cons, List.drop_succ_cons]
    refine callK_q annulusref8_Disc.call (dd) rfl rfl ?_
    simp -implicitDefEqProofs only [go_sem, simprocAttr, -Int.reducePow, DD, c2, s1, TI, hPA, gt_iff_lt, List.take_succ_cons, List.drop_succ_cons]
    refine callK_pl annulusref11_From.call (fr) (pl1 hq) ?_
    simp -implicitDefEqProofs only [go_sem, simprocAttr, -Int.reducePow, DD, c2, s1, TI, hPA, gt_iff_lt, List.take_succ_cons, List.drop_succ_cons]
    refine callK_pl count_Unit.call (un) (pl2 (pld_PA (n + 1) G) hpt) ?_
    simp -implicitDefEqProofs only [go_sem, simprocAttr, -Int.reducePow, DD, c2, s1, TI, hPA, gt_iff_lt, List.take_succ_cons, List.drop_succ_cons]
    refine callK_q annulusref4_Sign.call (sg) rfl rfl ?_
    simp -implicitDefEqProofs only [go_sem, simprocAttr, -Int.reducePow, DD, c2, s1, TI, hPA, gt_iff_lt, List.take_succ_cons, List.drop_succ_cons]
    have hrk := rk_db hrb
    have hUk : ∀ j, j ≤ n → CB (tms (U (n - j)) (rk (rp r) j)) 4800 := fun j hj => by
      have h1 := tms_cb (hU (n - j)) (hrk j)
      have h2 : j * 296 ≤ 5 * 296 := Nat.mul_le_mul_right _ (by omega)
      exact ⟨h1.1.mono (by omega), h1.2.mono (by omega)⟩
    have hq' : ∀ j, j ≤ n → CB (tms (tms (shf (n + 1) G c (n - j)) (rk (rp r) (n - j))) (rk (rp r) j)) 4800 := fun j hj => by
      have := hUk j hj
      rw [hS] at this
      exact this
    have hQ := qcl_len n F
    refine loop_of aW0_mono (fun q σ => ∃ sl H i, σ = ⟨sl, H⟩ ∧ q = n - i ∧ i ≤ n ∧ look sl 0 = .sl n (qcl n F) ∧ look sl 5 = .ptr 1 0 ∧ look sl 6 = .sl (n + 1) (pcl (n + 1) U) ∧ look sl 7 = I64 (i : Nat) ∧ 1 < H.length ∧ H.getD 1 ⟨[], false, false⟩ = ⟨tcl c (rp r), true, true⟩) ?_ (n := n)
      ⟨_, _, 0, rfl, rfl, Nat.zero_le _, by simp [x_look], by simp [x_look], by simp [x_look], by simp [x_look], by simp, rfl⟩
    rintro q _ ⟨sl, H, i, rfl, rfl, hi, k0s, k5, k6, k7, hH, hg1⟩
    by_cases hid : i = n
    · have c1 : ¬ (i : Int) < (n : Int) := by omega
      simp -implicitDefEqProofs only [go_sem, simprocAttr, -Int.reducePow, DD, k0s, k5, k6, k7, c1, wn1]
    · have c1 : (i : Int) < (n : Int) := by omega
      have ci : IntKind.i64.wrap ((i : Int) + 1) = ((i + 1 : Nat) : Int) := by rw [wrap_id (by omega)]; omega
      have c20 : (0 : Int) ≤ (i : Int) := by omega
      have c4 : i * 6 < n * 6 := by omega
      have c5 : i * 6 + 6 ≤ n * 6 := by omega
      have hcl := qcl_el F (show i < n by omega)
      have hri := hrc i (by omega)
      have rc := rcplx_r hri (by decide)
      have sb := rsub8 hri.cb hcb (by decide) (by decide)
      have hz : CB ((F i).z - c) 297 := CB.sub' hri.cb hcb
      have hr0 := hroot i (by omega)
      have hcbv := hnr_cb hz hq'
      generalize (F i).z - c = zz at *
      have g1 : ∀ y, (H ++ [y]).getD 1 ⟨[], false, false⟩ = ⟨tcl c (rp r), true, true⟩ := fun y => by rw [getD_hp hH]; exact hg1
      simp -implicitDefEqProofs only [go_sem, simprocAttr, -Int.reducePow, DD, k0s, k5, k6, k7, c1, c20, c4, c5, hQ, hcl, hg1, g1, tcl, List.take_succ_cons, List.drop_succ_cons]
      refine callK_pl annulusref8_Cplx.call (rc) (pl1 (pld_RC hri)) ?_
      simp -implicitDefEqProofs only [go_sem, simprocAttr, -Int.reducePow, DD, k0s, k5, k6, k7, c1, c20, c4, c5, hQ, hcl, hg1, g1, tcl, List.take_succ_cons, List.drop_succ_cons]
      refine callK_q annulusref8_Sub.call (sb) rfl rfl ?_
      simp -implicitDefEqProofs only [go_sem, simprocAttr, -Int.reducePow, DD, k0s, k5, k6, k7, c1, c20, c4, c5, hQ, hcl, hg1, g1, tcl, List.take_succ_cons, List.drop_succ_cons]
      refine callK_q annulusref4_Of.call (o1) rfl rfl ?_
      simp -implicitDefEqProofs only [go_sem, simprocAttr, -Int.reducePow, DD, k0s, k5, k6, k7, c1, c20, c4, c5, hQ, hcl, hg1, g1, tcl, wn, List.take_succ_cons, List.drop_succ_cons]
      refine loop_of aW0_mono (fun q σ => ∃ sl2 H2 j oc, σ = ⟨sl2, H2⟩ ∧ q = n + 1 - j ∧ j ≤ n + 1 ∧ look sl2 0 = .sl n (qcl n F) ∧ look sl2 5 = .ptr 1 0 ∧ look sl2 6 = .sl (n + 1) (pcl (n + 1) U) ∧ look sl2 7 = I64 (i : Nat) ∧ look sl2 8 = .ptr H.length 0 ∧ look sl2 9 = .ptr (H.length + 1) 0 ∧ look sl2 10 = .ptr (H.length + 2) 0 ∧ look sl2 11 = I64 (((n + 1 - j : Nat) : Int) - 1) ∧ H.length + 2 < H2.length ∧
        H2.getD 1 ⟨[], false, false⟩ = ⟨tcl c (rp r), true, true⟩ ∧ H2.getD H.length ⟨[], false, false⟩ = ⟨CIc zz, true, true⟩ ∧ H2.getD (H.length + 1) ⟨[], false, false⟩ = ⟨oc, true, true⟩ ∧ H2.getD (H.length + 2) ⟨[], false, false⟩ = ⟨dcl (rk (rp r) j), true, true⟩ ∧ (oc = zc6 ∧ j = 0 ∨ oc = CIc (hnr n (shf (n + 1) G c) (rp r) zz j))) ?_ (n := n + 1)
        ?_
      · rintro q _ ⟨sl2, H2, j, oc, rfl, rfl, hj, l0, l5, l6, l7, l8, l9, l10, l11, hH2, hh1, hhz, hhv, hhr, ho⟩
        by_cases hjd : j = n + 1
        · have e1 : (((n + 1 - j : Nat) : Int) - 1) = -1 := by omega
          rw [e1] at l11
          have c3 : ¬ (0 : Int) ≤ -1 := by decide
          have eo : oc = CIc zero := by
            rcases ho with ⟨_, e⟩ | e
            · omega
            · rw [e, hjd, hr0]
          subst eo
          have rz := rzero_r (RC_C (CB.zero 0)) (by decide)
          rw [decide_eq_true rfl] at rz
          simp -implicitDefEqProofs only [go_sem, simprocAttr, -Int.reducePow, DD, l0, l5, l6, l7, l8, l9, l10, l11, c3, ge_iff_le, hhv, ci, List.take_succ_cons, List.drop_succ_cons]
          refine callK_pl annulusref8_Zero.call (rz) (pl1 (pld_CI _)) ?_
          simp -implicitDefEqProofs only [go_sem, simprocAttr, -Int.reducePow, DD, l0, l5, l6, l7, l8, l9, l10, l11, c3, ge_iff_le, hhv, ci, List.take_succ_cons, List.drop_succ_cons]
          exact ⟨n - (i + 1), by omega, _, _, i + 1, rfl, rfl, by omega, by simp [x_look, l0], by simp [x_look, l5], by simp [x_look, l6], by simp [x_look], by omega, hh1⟩
        · have e1 : (((n + 1 - j : Nat) : Int) - 1) = ((n - j : Nat) : Int) := by omega
          rw [e1] at l11
          have c3 : (0 : Int) ≤ ((n - j : Nat) : Int) := by omega
          have c6 : (n - j) * 6 < (n + 1) * 6 := by omega
          have c8 : ((n - j : Nat) : Int) < ((n + 1 : Nat) : Int) := by omega
          have c7 : (n - j) * 6 + 6 ≤ (n + 1) * 6 := by omega
          have cj : IntKind.i64.wrap (((n - j : Nat) : Int) - 1) = (((n + 1 - (j + 1) : Nat) : Int) - 1) := by rw [wrap_id (by omega)]; omega
          have hce := pcl_el U (show n - j < n + 1 by omega)
          have cv := hcbv j (by omega)
          have mu := rmul8 cv hz (by have : j * (297 + 2) ≤ 6 * 299 := Nat.mul_le_mul_right _ (by omega); omega)
          have tm := rtimes8 (hU (n - j)) (hrk j) (by have : j * 296 ≤ 5 * 296 := Nat.mul_le_mul_right _ (by omega); omega)
          have ad := radd8 (cv.mul hz) (hUk j (by omega)) (by have : j * (297 + 2) ≤ 6 * 299 := Nat.mul_le_mul_right _ (by omega); omega) (by decide)
          rw [hS (n - j), ← hnr_S (by omega)] at ad
          rw [← hS (n - j)] at ad
          have rm := rmul4 (RD_D (hrk j)) (RD_D hrb) (by have : j * 296 ≤ 5 * 296 := Nat.mul_le_mul_right _ (by omega); omega) (by decide)
          have s1v : ∀ o, (H2.set (H.length + 1) o).getD 1 ⟨[], false, false⟩ = ⟨tcl c (rp r), true, true⟩ := fun o => by rw [getD_set (by omega), if_neg (by omega)]; exact hh1
          have s2v : ∀ o, (H2.set (H.length + 1) o).getD (H.length + 2) ⟨[], false, false⟩ = ⟨dcl (rk (rp r) j), true, true⟩ := fun o => by rw [getD_set (by omega), if_neg (by omega)]; exact hhr
          rcases ho with ⟨rfl, hj0⟩ | rfl
          · rw [show hnr n (shf (n + 1) G c) (rp r) zz j = zero by rw [hj0]; exact hnr_0 _ _ _ _] at mu ad
            rw [CI_0] at mu
            simp -implicitDefEqProofs only [go_sem, simprocAttr, -Int.reducePow, DD, l0, l5, l6, l7, l8, l9, l10, l11, c3, ge_iff_le, hhv, hhz, hhr, hh1, hce, hL, c6, c7, c8, cj, s1v, s2v, zc6, CIc, dcl, tcl, List.take_succ_cons, List.drop_succ_cons]
            refine callK_q annulusref8_Mul.call (mu) rfl rfl ?_
            simp -implicitDefEqProofs only [go_sem, simprocAttr, -Int.reducePow, DD, l0, l5, l6, l7, l8, l9, l10, l11, c3, ge_iff_le, hhv, hhz, hhr, hh1, hce, hL, c6, c7, c8, cj, s1v, s2v, zc6, CIc, dcl, tcl, List.take_succ_cons, List.drop_succ_cons]
            refine callK_q annulusref8_Times.call (tm) rfl rfl ?_
            simp -implicitDefEqProofs only [go_sem, simprocAttr, -Int.reducePow, DD, l0, l5, l6, l7, l8, l9, l10, l11, c3, ge_iff_le, hhv, hhz, hhr, hh1, hce, hL, c6, c7, c8, cj, s1v, s2v, zc6, CIc, dcl, tcl, List.take_succ_cons, List.drop_succ_cons]
            refine callK_q annulusref8_Add.call (ad) rfl rfl ?_
            simp -implicitDefEqProofs only [go_sem, simprocAttr, -Int.reducePow, DD, l0, l5, l6, l7, l8, l9, l10, l11, c3, ge_iff_le, hhv, hhz, hhr, hh1, hce, hL, c6, c7, c8, cj, s1v, s2v, zc6, CIc, dcl, tcl, List.take_succ_cons, List.drop_succ_cons]
            refine callK_q annulusref4_Mul.call (rm) rfl rfl ?_
            simp -implicitDefEqProofs only [go_sem, simprocAttr, -Int.reducePow, DD, l0, l5, l6, l7, l8, l9, l10, l11, c3, ge_iff_le, hhv, hhz, hhr, hh1, hce, hL, c6, c7, c8, cj, s1v, s2v, zc6, CIc, dcl, tcl, List.take_succ_cons, List.drop_succ_cons]
            refine ⟨n + 1 - (j + 1), by omega, _, _, j + 1, CIc (hnr n (shf (n + 1) G c) (rp r) zz (j + 1)), rfl, rfl, by omega, by simp [x_look, l0], by simp [x_look, l5], by simp [x_look, l6], by simp [x_look, l7], by simp [x_look, l8], by simp [x_look, l9], by simp [x_look, l10], by simp [x_look], by simp <;> omega, ?_, ?_, ?_, ?_, .inr rfl⟩
            · rw [getD_set (by simp <;> omega), if_neg (by omega)]; exact s1v _
            · rw [getD_set (by simp <;> omega), if_neg (by omega), getD_set (by omega), if_neg (by omega)]; exact hhz
            · rw [getD_set (by simp <;> omega), if_neg (by omega), getD_set (by omega), if_pos rfl]; rfl
            · rw [getD_set (by simp <;> omega), if_pos rfl]; rfl
          · skip
            simp -implicitDefEqProofs only [go_sem, simprocAttr, -Int.reducePow, DD, l0, l5, l6, l7, l8, l9, l10, l11, c3, ge_iff_le, hhv, hhz, hhr, hh1, hce, hL, c6, c7, c8, cj, s1v, s2v, zc6, CIc, dcl, tcl, List.take_succ_cons, List.drop_succ_cons]
            refine callK_q annulusref8_Mul.call (mu) rfl rfl ?_
            simp -implicitDefEqProofs only [go_sem, simprocAttr, -Int.reducePow, DD, l0, l5, l6, l7, l8, l9, l10, l11, c3, ge_iff_le, hhv, hhz, hhr, hh1, hce, hL, c6, c7, c8, cj, s1v, s2v, zc6, CIc, dcl, tcl, List.take_succ_cons, List.drop_succ_cons]
            refine callK_q annulusref8_Times.call (tm) rfl rfl ?_
            simp -implicitDefEqProofs only [go_sem, simprocAttr, -Int.reducePow, DD, l0, l5, l6, l7, l8, l9, l10, l11, c3, ge_iff_le, hhv, hhz, hhr, hh1, hce, hL, c6, c7, c8, cj, s1v, s2v, zc6, CIc, dcl, tcl, List.take_succ_cons, List.drop_succ_cons]
            refine callK_q annulusref8_Add.call (ad) rfl rfl ?_
            simp -implicitDefEqProofs only [go_sem, simprocAttr, -Int.reducePow, DD, l0, l5, l6, l7, l8, l9, l10, l11, c3, ge_iff_le, hhv, hhz, hhr, hh1, hce, hL, c6, c7, c8, cj, s1v, s2v, zc6, CIc, dcl, tcl, List.take_succ_cons, List.drop_succ_cons]
            refine callK_q annulusref4_Mul.call (rm) rfl rfl ?_
            simp -implicitDefEqProofs only [go_sem, simprocAttr, -Int.reducePow, DD, l0, l5, l6, l7, l8, l9, l10, l11, c3, ge_iff_le, hhv, hhz, hhr, hh1, hce, hL, c6, c7, c8, cj, s1v, s2v, zc6, CIc, dcl, tcl, List.take_succ_cons, List.drop_succ_cons]
            refine ⟨n + 1 - (j + 1), by omega, _, _, j + 1, CIc (hnr n (shf (n + 1) G c) (rp r) zz (j + 1)), rfl, rfl, by omega, by simp [x_look, l0], by simp [x_look, l5], by simp [x_look, l6], by simp [x_look, l7], by simp [x_look, l8], by simp [x_look, l9], by simp [x_look, l10], by simp [x_look], by simp <;> omega, ?_, ?_, ?_, ?_, .inr rfl⟩
            · rw [getD_set (by simp <;> omega), if_neg (by omega)]; exact s1v _
            · rw [getD_set (by simp <;> omega), if_neg (by omega), getD_set (by omega), if_neg (by omega)]; exact hhz
            · rw [getD_set (by simp <;> omega), if_neg (by omega), getD_set (by omega), if_pos rfl]; rfl
            · rw [getD_set (by simp <;> omega), if_pos rfl]; rfl
      · exact ⟨_, _, 0, zc6, rfl, rfl, Nat.zero_le _, by simp [x_look, k0s], by simp [x_look, k5], by simp [x_look, k6], by simp [x_look, k7], by simp [x_look], by simp [x_look], by simp [x_look], by rw [show ((n + 1 - 0 : Nat) : Int) - 1 = (n : Nat) by omega]; simp [x_look], by simp, by rw [getD_hp (by simp <;> omega), getD_hp (by simp <;> omega), getD_hp hH]; exact hg1, by rw [getD_hp (by simp), getD_hp (by simp)]; exact x_hget2 rfl, by rw [getD_hp (by simp)]; exact x_hget2 (by simp), x_hget2 (by simp), .inl ⟨rfl, rfl⟩⟩
set_option maxHeartbeats 4000000 in
theorem cu_out (F : Nat → Raw) (hF : ∀ i, (F i).ok) (hn : n ≤ 9223372036854775807) (T : RawT) (hT : T.ok ∧ (-9223372036854775808 ≤ T.q ∧ T.q ≤ 9223372036854775807))
    (hno : ¬ ((∀ i, i < n → (F i).sm) ∧ n ≤ 5 ∧ T.sm)) : Sat CT false 6 [.sl n (qcl n F), .agg T.cells] (Bo true) := by
  refine sat_of annuluslaw15_CountUnit.ok (by simp) ?_
  have DD := annuluslaw15_CountUnit.dr
  simp only [drP, drPx, drPt, drR, drS, drT, bodyOf, Tryz.f6, Nat.reduceEqDiff, reduceIte, true_and, and_true] at DD
  have k0 := known15_s
  have f1 := few15_s F hn
  have f2 := point15_s T.c
  have f3 := small15_s T.o T.p T.q
  obtain ⟨⟨tn, tl, te, tm, tk, tf⟩, to, tp, tq⟩ := T
  simp only [RawT.cells, Raw.cells] at *
  have hq := pld_q n F
  by_cases q1 : (∀ i, i < n → (F i).sm) ∧ n ≤ 14
  · rw [decide_eq_true q1] at f1
    by_cases q2 : (n : Int) ≤ 5
    · have c2 : ¬ (5 : Int) < (n : Int) := by omega
      by_cases q3 : Raw.sm ⟨tn, tl, te, tm, tk, tf⟩
      · rw [decide_eq_true q3] at f2
        by_cases q4 : tp.length ≤ 3 ∧ -200 ≤ tq ∧ tq ≤ 200
        · exact absurd ⟨q1.1, by omega, q3, q4⟩ hno
        · rw [decide_eq_false q4] at f3
          simp -implicitDefEqProofs only [go_sem, simprocAttr, -Int.reducePow, Tryz.f6, DD, c2, gt_iff_lt, List.take_succ_cons, List.drop_succ_cons]
          refine callK_q annuluslaw15_known.call (k0) rfl rfl ?_
          simp -implicitDefEqProofs only [go_sem, simprocAttr, -Int.reducePow, DD, c2, gt_iff_lt, List.take_succ_cons, List.drop_succ_cons]
          refine callK_pl annuluslaw15_few.call (f1) (pl1 hq) ?_
          simp -implicitDefEqProofs only [go_sem, simprocAttr, -Int.reducePow, DD, c2, gt_iff_lt, List.take_succ_cons, List.drop_succ_cons]
          refine callK_q annuluslaw15_point.call (f2) rfl rfl ?_
          simp -implicitDefEqProofs only [go_sem, simprocAttr, -Int.reducePow, DD, c2, gt_iff_lt, List.take_succ_cons, List.drop_succ_cons]
          refine callK_q annuluslaw15_small.call (f3) rfl rfl ?_
          simp -implicitDefEqProofs only [go_sem, simprocAttr, -Int.reducePow, DD, c2, gt_iff_lt, List.take_succ_cons, List.drop_succ_cons]
      · rw [decide_eq_false q3] at f2
        simp -implicitDefEqProofs only [go_sem, simprocAttr, -Int.reducePow, Tryz.f6, DD, c2, gt_iff_lt, List.take_succ_cons, List.drop_succ_cons]
        refine callK_q annuluslaw15_known.call (k0) rfl rfl ?_
        simp -implicitDefEqProofs only [go_sem, simprocAttr, -Int.reducePow, DD, c2, gt_iff_lt, List.take_succ_cons, List.drop_succ_cons]
        refine callK_pl annuluslaw15_few.call (f1) (pl1 hq) ?_
        simp -implicitDefEqProofs only [go_sem, simprocAttr, -Int.reducePow, DD, c2, gt_iff_lt, List.take_succ_cons, List.drop_succ_cons]
        refine callK_q annuluslaw15_point.call (f2) rfl rfl ?_
        simp -implicitDefEqProofs only [go_sem, simprocAttr, -Int.reducePow, DD, c2, gt_iff_lt, List.take_succ_cons, List.drop_succ_cons]
    · have c2 : (5 : Int) < (n : Int) := by omega
      simp -implicitDefEqProofs only [go_sem, simprocAttr, -Int.reducePow, Tryz.f6, DD, c2, gt_iff_lt, List.take_succ_cons, List.drop_succ_cons]
      refine callK_q annuluslaw15_known.call (k0) rfl rfl ?_
      simp -implicitDefEqProofs only [go_sem, simprocAttr, -Int.reducePow, DD, c2, gt_iff_lt, List.take_succ_cons, List.drop_succ_cons]
      refine callK_pl annuluslaw15_few.call (f1) (pl1 hq) ?_
      simp -implicitDefEqProofs only [go_sem, simprocAttr, -Int.reducePow, DD, c2, gt_iff_lt, List.take_succ_cons, List.drop_succ_cons]
  · rw [decide_eq_false q1] at f1
    simp -implicitDefEqProofs only [go_sem, simprocAttr, -Int.reducePow, Tryz.f6, DD, gt_iff_lt]
    refine callK_q annuluslaw15_known.call (k0) rfl rfl ?_
    simp -implicitDefEqProofs only [go_sem, simprocAttr, -Int.reducePow, DD, gt_iff_lt]
    refine callK_pl annuluslaw15_few.call (f1) (pl1 hq) ?_
    simp -implicitDefEqProofs only [go_sem, simprocAttr, -Int.reducePow, DD, gt_iff_lt]
theorem countUnit_sat (F : Nat → Raw) (hF : ∀ i, (F i).ok) (hn : n ≤ 9223372036854775807) (T : RawT) (hT : T.ok ∧ (-9223372036854775808 ≤ T.q ∧ T.q ≤ 9223372036854775807)) :
    Sat CT false 6 [.sl n (qcl n F), .agg T.cells] (Bo true) := by
  by_cases h : (∀ i, i < n → (F i).sm) ∧ n ≤ 5 ∧ T.sm
  · have f1 := few15_s F hn
    have f2 := point15_s T.c
    have f3 := small15_s T.o T.p T.q
    rw [decide_eq_true ⟨h.1, by omega⟩] at f1
    rw [decide_eq_true h.2.2.1] at f2
    rw [decide_eq_true h.2.2.2] at f3
    exact cu_main F hF h.1 h.2.1 _ _ _ _ _ _ _ _ _ (RawT.rts hT.1 h.2.2) known15_s f1 (by omega) f2 f3
  · exact cu_out F hF hn T hT h
end Go.Ab
