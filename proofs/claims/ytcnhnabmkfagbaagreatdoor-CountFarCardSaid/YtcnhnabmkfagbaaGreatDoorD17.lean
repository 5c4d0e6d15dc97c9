/- Contracts of this seat's functions (of each call: what it answers), walked over the abstract machine, and the laws of numbers that they want. Conditions: those that each theorem states. -/
import Derived.Test.YtcnhnabmkfagbaaGreatDoorD13
set_option linter.unusedVariables false
set_option maxRecDepth 20000
set_option linter.unusedSimpArgs false
set_option linter.unusedSectionVars false
namespace Go.Ab
open Go.Proofs
open Cx (zero one)
attribute [-go_sem] appF newsF
variable {a b : AV} {z w : Cx} {B C n m : Nat} {cs ds : List AV} {f g : Po}
theorem AR.ext {H : Heap} {a d : AV} (h : AR H a d) (x : AObj) : AR (H ++ [x]) a d := by
  cases h with
  | pl h => exact .pl h
  | row h e hd => exact .row (h.ext x) e hd
  | none => exact .none
theorem own1_t {H : Heap} {a : AV} (h : own1 H false a) : own1 H true a := by
  cases a with
  | own sz k o n => exact ⟨h.1, .inl rfl, h.2.2⟩
  | _ => trivial
theorem ownOK_t {H : Heap} {a : AV} (h : ownOK H false a) : ownOK H true a := by
  cases a with
  | own sz k o n => exact ⟨h.1, .inl rfl, h.2.2⟩
  | agg cs => exact fun c hc => own1_t (h c hc)
  | tup cs => exact fun c hc => own1_t (h c hc)
  | _ => trivial
theorem ret_AR {H : Heap} {a d : AV} (h : AR H a d) : ownOK H true a ∧ IsD d ∧ snap H a = d := by
  cases h with
  | pl h => exact ⟨ownOK_t (h.own H), h.isd, h.snp H⟩
  | none => exact ⟨trivial, isD_nil 0, rfl⟩
  | row h e hd =>
    rcases h with ⟨rfl, rfl, rfl⟩ | ⟨k, wr, rfl, h2, h3, h4⟩
    · subst e; exact ⟨trivial, isD_nil 0, rfl⟩
    · refine ⟨?_, isD_sl hd, ?_⟩
      · simp only [ownOK, Go.Ab.hd, h2]; exact ⟨trivial, .inl trivial, by omega⟩
      · simp only [snap, Go.Ab.hd, h2, List.drop_zero]
        rw [← h4, List.take_length, e]
theorem rfrom_h (r : Nat → Cx) (hcs : cs.length = n * 6) (hr : ∀ i, i < n → RC (.agg ((cs.drop (i * 6)).take 6)) (r i) B) (hB : n * (B + 4) + B + 10 ≤ 19990) (hB1 : 1 ≤ B) (hn : n ≤ 100000) : HSat CT 20 [.sl n cs] [] (fun a H => AR H a (PA (n + 1) (frm r n))) := by
  refine hsat_of annulusref11_From.ok annulusref11_From.call (by simp) ?_
  have DD := annulusref11_From.dr
  simp only [drP, drPx, drPt, drR, drS, drT, bodyOf, Tryz.f20, Nat.reduceEqDiff, reduceIte, true_and, and_true] at DD
  have hcb : ∀ i, i < n → CB (r i) B := fun i hi => (hr i hi).cb
  have q0 := rof8_sat 1 0 (by omega) (by omega) (by omega) (by omega)
  rw [one_dv] at q0
  simp -implicitDefEqProofs only [go_sem, simprocAttr, -Int.reducePow, Tryz.f20, DD, x_app, x_ga0, x_gas, x_gan, Int.cast_ofNat_Int, eq_self, Int.zero_lt_one, Bool.not_false, Bool.not_true, beq_self_eq_true]
  refine callK_pl annulusref8_Of.call (q0) (pl2 pld_int pld_int) ?_
  simp -implicitDefEqProofs only [go_sem, simprocAttr, -Int.reducePow, DD, x_app, x_ga0, x_gas, x_gan, Int.cast_ofNat_Int, eq_self, Int.zero_lt_one, Bool.not_false, Bool.not_true, beq_self_eq_true]
  refine loop_of aW0_mono (fun q σ => ∃ sl H i, σ = ⟨sl, H⟩ ∧ q = n - i ∧ i ≤ n ∧ look sl 0 = .sl n cs ∧ look sl 4 = I64 (i : Nat) ∧ AR H (look sl 3) (PA (i + 1) (frm r i))) ?_ (n := n)
    ⟨_, _, 0, rfl, rfl, Nat.zero_le _, by simp [x_look], by simp [x_look], by simp only [x_look, reduceIte, Nat.reduceEqDiff]; exact .row (cs := CIc one) (.inr ⟨0, true, rfl, rfl, by simp, rfl⟩) (by rw [frm0]; rfl) (isD_pcl _ _)⟩
  rintro q _ ⟨sl, H, i, rfl, rfl, hi, k0, k4, hA⟩
  by_cases hid : i = n
  · subst hid
    simp -implicitDefEqProofs only [go_sem, simprocAttr, -Int.reducePow, DD, x_app, x_ga0, x_gas, x_gan, Int.cast_ofNat_Int, eq_self, Int.zero_lt_one, Bool.not_false, Bool.not_true, beq_self_eq_true, k0, k4, Int.lt_irrefl]
    exact hA
  · have c1 : (i : Int) < (n : Int) := by omega
    have ci : IntKind.i64.wrap ((i : Int) + 1) = ((i + 1 : Nat) : Int) := by rw [wrap_id (by omega)]; omega
    have c2 : (0 : Int) ≤ (i : Int) := by omega
    have c4 : i * 6 < cs.length := by omega
    have c5 : i * 6 + 6 ≤ cs.length := by omega
    have hri := hr i (by omega)
    obtain ⟨s, l, e, t, kk, gg, hc, _⟩ := id hri
    rw [hc] at hri
    have hc : (cs.drop (i * 6)).take 6 = [Bo s, U32 l, I64 e, Bo t, U32 kk, I64 gg] := AV.agg.inj hc
    have hbi := PB.frm hcb hB1 (i := i) (by omega)
    have hle := Nat.mul_le_mul_right (B + 4) (show i + 1 ≤ n by omega)
    have e1 : (i + 1) * (B + 4) = i * (B + 3) + i + B + 4 := by rw [Nat.succ_mul, Nat.mul_succ i (B + 3)]; omega
    have q1 := rcplx_r hri (by omega)
    have q2 := rneg8 hri.cb (by omega)
    have q3 := rmul_s hbi (PB.lin hri.cb hB1) (Sp.frm r i) (Sp.lin (r i)) (by omega) (by omega)
    rw [dg_frmS r i (dg_frm r i), ← frmS] at q3
    simp -implicitDefEqProofs only [go_sem, simprocAttr, -Int.reducePow, DD, x_app, x_ga0, x_gas, x_gan, Int.cast_ofNat_Int, eq_self, Int.zero_lt_one, Bool.not_false, Bool.not_true, beq_self_eq_true, k0, k4, ci, c1, c2, c4, c5, hc]
    refine callK_pl annulusref8_Cplx.call (q1) (pl1 (pld_RC hri)) ?_
    simp -implicitDefEqProofs only [go_sem, simprocAttr, -Int.reducePow, DD, x_app, x_ga0, x_gas, x_gan, Int.cast_ofNat_Int, eq_self, Int.zero_lt_one, Bool.not_false, Bool.not_true, beq_self_eq_true, k0, k4, ci, c1, c2, c4, c5, hc]
    refine callK_pl annulusref8_Neg.call (q2) (pl1 (pld_CI _)) ?_
    simp -implicitDefEqProofs only [go_sem, simprocAttr, -Int.reducePow, DD, x_app, x_ga0, x_gas, x_gan, Int.cast_ofNat_Int, eq_self, Int.zero_lt_one, Bool.not_false, Bool.not_true, beq_self_eq_true, k0, k4, ci, c1, c2, c4, c5, hc]
    refine callK_pl annulusref8_Of.call (q0) (pl2 pld_int pld_int) ?_
    simp -implicitDefEqProofs only [go_sem, simprocAttr, -Int.reducePow, DD, x_app, x_ga0, x_gas, x_gan, Int.cast_ofNat_Int, eq_self, Int.zero_lt_one, Bool.not_false, Bool.not_true, beq_self_eq_true, k0, k4, ci, c1, c2, c4, c5, hc, CIc]
    refine callK_ar annulusref11_Mul.call q3 (.cons (hA.ext _) (.cons (.row (cs := CIc (- r i) ++ CIc one) (.inr ⟨_, true, rfl, x_hget, by simp, rfl⟩) rfl (isD_pcl _ _)) .nil)) rfl ?_
    intro H' _
    simp -implicitDefEqProofs only [go_sem, simprocAttr, -Int.reducePow, DD, x_app, x_ga0, x_gas, x_gan, Int.cast_ofNat_Int, eq_self, Int.zero_lt_one, Bool.not_false, Bool.not_true, beq_self_eq_true, k0, k4, ci, c1, c2, c4, c5, hc]
    exact ⟨n - (i + 1), by omega, _, _, i + 1, rfl, rfl, by omega, by simp [x_look, k0], by simp [x_look], by simp only [x_look, reduceIte, Nat.reduceEqDiff]; exact .pl (pld_PA _ _)⟩
theorem rfrom_s (r : Nat → Cx) (hcs : cs.length = n * 6) (hr : ∀ i, i < n → RC (.agg ((cs.drop (i * 6)).take 6)) (r i) B) (hB : n * (B + 4) + B + 10 ≤ 19990) (hB1 : 1 ≤ B) (hn : n ≤ 100000) : Sat CT false 20 [.sl n cs] (PA (n + 1) (frm r n)) := sat_of_hsat (rfrom_h r hcs hr hB hB1 hn) (fun a H' q => ret_AR q)
end Go.Ab
