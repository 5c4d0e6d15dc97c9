/- Contracts of this seat's functions (of each call: what it answers), walked over the abstract machine, and the laws of numbers that they want. Conditions: those that each theorem states. -/
import Derived.Test.YtikhbokeaikcpaaGreatDoorK2
set_option linter.unusedVariables false
set_option maxRecDepth 20000
set_option linter.unusedSimpArgs false
set_option linter.unusedSectionVars false
namespace Go.Ab
open Go.Proofs
open Cx (zero one)
attribute [-go_sem] appF newsF
variable {a b : AV} {x y r s t : Dyadic} {z w c d e : Cx} {B C B' C' n m P : Nat} {cs ds : List AV} {u u' : Nat → Cx} {v v' : Nat → Dyadic} {f g : Po}
/-! balls: of the code, more -/
def bsC (n m : Nat) (u u' : Nat → Cx) (i : Nat) : Cx := (if i < n then u i else zero) + (if i < m then u' i else zero)
def bsR (n m : Nat) (v v' : Nat → Dyadic) (i : Nat) : Dyadic := (if i < n then rp (v i) else 0) + (if i < m then rp (v' i) else 0)
theorem bsC_comm (n m : Nat) (u u' : Nat → Cx) : bsC m n u' u = bsC n m u u' := funext fun i => Cx.ext' (Dyadic.add_comm _ _) (Dyadic.add_comm _ _)
theorem bsR_comm (n m : Nat) (v v' : Nat → Dyadic) : bsR m n v' v = bsR n m v v' := funext fun i => Dyadic.add_comm _ _
theorem zer_len9 (N : Nat) {a b c d e f g h i : Value} : (zerosA [a, b, c, d, e, f, g, h, i] N).length = N * 9 := by simp [zerosA]
theorem spl_row9 {cells : List AV} {N i : Nat} (hl : cells.length = N * 9) (ht : cells.take (i * 9) = tls i u v) (hi : i < N) : (spl cells (i * 9) (tcl (u i) (v i))).length = N * 9 ∧ (spl cells (i * 9) (tcl (u i) (v i))).take ((i + 1) * 9) = tls (i + 1) u v := by
  have h9 : (tcl (u i) (v i)).length = 9 := rfl
  unfold spl
  refine ⟨?_, ?_⟩
  · rw [List.length_append, List.length_append, List.length_take, List.length_drop, h9]; omega
  · rw [ht, ← tlsS, List.take_append_of_le_length (by rw [tls_len]; exact Nat.le_refl _), List.take_of_length_le (by rw [tls_len]; exact Nat.le_refl _)]
theorem row_end9 {cells : List AV} {N : Nat} (hl : cells.length = N * 9) (ht : cells.take (N * 9) = tls N u v) : cells = tls N u v := by rw [← ht, ← hl, List.take_length]
section
attribute [local go_sem] x_takeT x_lenT x_leafT x_cellsTI x_hget2 x_hget3 x_hget4 x_zerA9 List.cons_append List.length_cons List.set_cons_succ List.getD_cons_succ List.getD_cons_zero List.set_cons_zero
set_option maxHeartbeats 1000000 in
theorem bat_s (h : RTs cs n u v 296 296) (hn : n ≤ 10) (g : RT a c r 296 296) (p : Int) (hp : heldP p ≤ 260) :
    Sat CT false 49 [.sl n cs, a, I64 p] (TI (atC n u c n) (atR n u (fun i => rp (v i)) c (rp r) (heldP p) n)) := by
  refine sat_of balls_At.ok (by simp) ?_
  have DD := balls_At.dr
  simp only [drP, drPx, drPt, drR, drS, drT, bodyOf, Tryz.f49, Nat.reduceEqDiff, reduceIte, true_and, and_true] at DD
  have hlen := h.len
  have hP1 := (heldP_v p).2.2.1
  have hub : ∀ i, i < n → CB (u i) 296 := fun i hi => (h.el i hi).cb
  have hvb : ∀ i, i < n → DB (rp (v i)) 296 := fun i hi => rp_db (h.el i hi).db
  have hcb := g.cb
  have hrb := rp_db g.db
  have hvn : ∀ i, 0 ≤ (rp (v i)).toRat := fun i => rp_nn _
  have hrn := rp_nn r
  obtain ⟨P, hPe⟩ : ∃ P, heldP p = P := ⟨_, rfl⟩
  rw [hPe] at hp hP1 ⊢
  have aC : ∀ j, j ≤ n → CB (atC n u c j) 2980 := fun j hj => (atC_cb hub hcb j hj).mono (by omega)
  have aR : ∀ j, j ≤ n → DB (atR n u (fun i => rp (v i)) c (rp r) P j) (j * 861) := fun j hj => (atR_db hub hvb hcb hrb hP1 j hj).mono (Nat.mul_le_mul_left j (by omega))
  have aN := atR_nn (n := n) (u := u) (c := c) (v := fun i => rp (v i)) hvn hrn hP1
  have g0 := g
  have step : ∀ k, k < n → ∀ b, RT b (u k) (v k) 296 296 → Sat CT false 90 [TI (atC n u c (n - (k + 1))) (atR n u (fun i => rp (v i)) c (rp r) P (n - (k + 1))), a, I64 p] (TI (atC n u c (n - (k + 1)) * c) (mrad (atC n u c (n - (k + 1))) (atR n u (fun i => rp (v i)) c (rp r) P (n - (k + 1))) c (rp r) P)) ∧ Sat CT false 89 [TI (atC n u c (n - (k + 1)) * c) (mrad (atC n u c (n - (k + 1))) (atR n u (fun i => rp (v i)) c (rp r) P (n - (k + 1))) c (rp r) P), b] (TI (atC n u c (n - k)) (atR n u (fun i => rp (v i)) c (rp r) P (n - k))) := by
    intro k hk b hr
    have b1 := aC (n - (k + 1)) (by omega)
    have b2 := (aR (n - (k + 1)) (by omega)).mono (C := 7749) (Nat.le_trans (Nat.mul_le_mul_right _ (show n - (k + 1) ≤ 9 by omega)) (by decide))
    have n2 := aN (n - (k + 1))
    have q1 := dmuls_s (RT_T b1 b2) g (by decide) (by decide) (by decide) (by decide) p (K := 9000) (by omega) (by omega) (by decide) (by decide)
    have b3 := mrad_db b1 b2 hcb hrb hP1 (K := 9000) (by omega) (by omega) (by decide)
    have b4 := b1.mul hcb
    have n3 : 0 ≤ (mrad (atC n u c (n - (k + 1))) (atR n u (fun i => rp (v i)) c (rp r) P (n - (k + 1))) c (rp r) P).toRat := upr_nn hP1 (mra_nn n2 hrn hP1)
    have q2 := dadds_s (RT_T (B := 3300) ⟨b4.1.mono (by omega), b4.2.mono (by omega)⟩ b3) hr (by decide) (by decide) (by decide) (by decide)
    rw [rp_id n2, hPe] at q1
    rw [rp_id n3] at q2
    refine ⟨q1, ?_⟩
    have e1 : n - k = n - (k + 1) + 1 := by omega
    have e2 : n - 1 - (n - (k + 1)) = k := by omega
    have e3 : atC n u c (n - k) = atC n u c (n - (k + 1)) * c + u k := by rw [e1]; show _ * c + u (n - 1 - (n - (k + 1))) = _; rw [e2]
    have e4 : atR n u (fun i => rp (v i)) c (rp r) P (n - k) = mrad (atC n u c (n - (k + 1))) (atR n u (fun i => rp (v i)) c (rp r) P (n - (k + 1))) c (rp r) P + rp (v k) := by rw [e1]; show mrad _ _ c (rp r) P + rp (v (n - 1 - (n - (k + 1)))) = _; rw [e2]
    rw [e3, e4]
    exact q2
  obtain ⟨s, l, e, t, kk, gg, o, q, qq, rfl, _⟩ := g
  have hb : Blt zc9 (atC n u c (n - n)) (atR n u (fun i => rp (v i)) c (rp r) P (n - n)) := .inr ⟨by rw [Nat.sub_self]; rfl, by rw [Nat.sub_self]; rfl, rfl⟩
  simp -implicitDefEqProofs only [go_sem, simprocAttr, -Int.reducePow, Tryz.f49, DD]
  refine scope_inv aW0_mono (aW_mono aW0_mono) 0 rfl (fun k σ => ∃ sl l2, σ = ⟨sl, [⟨[Bo s, U32 l, I64 e, Bo t, U32 kk, I64 gg, Bo o, U32 q, I64 qq], true, true⟩, ⟨zc9, true, true⟩, ⟨l2, true, true⟩]⟩ ∧ k ≤ n ∧ look sl 0 = .sl n cs ∧ look sl 2 = I64 p ∧ look sl 4 = .ptr 0 0 ∧ look sl 6 = .ptr 1 0 ∧ look sl 7 = .ptr 2 0 ∧ look sl 8 = I64 (k : Nat) ∧ Blt l2 (atC n u c (n - k)) (atR n u (fun i => rp (v i)) c (rp r) P (n - k))) (fun k σ hσ => ?_) (n := n) ?_
  · obtain ⟨sl, l2, rfl, hk, k0, k2, k4, k6, k7, k8, hb⟩ := hσ
    cases k with
    | zero =>
      have c1 : IntKind.i64.wrap (-1) = -1 := rfl
      rw [Nat.sub_zero] at hb
      rcases hb with rfl | ⟨h1, h2, rfl⟩
      · simp -implicitDefEqProofs only [go_sem, simprocAttr, -Int.reducePow, DD, x_app, x_ga0, x_gas, x_gan, Int.cast_ofNat_Int, eq_self, Int.zero_lt_one, Bool.not_false, Bool.not_true, beq_self_eq_true, WI, IA, DI, DA, CI, k0, k2, k4, k6, k7, k8, c1, zc9, tcl, TI, x_gp0, x_gp1, x_gp2, x_gp3]
      · rw [h1, h2, TI_z]
        simp -implicitDefEqProofs only [go_sem, simprocAttr, -Int.reducePow, DD, x_app, x_ga0, x_gas, x_gan, Int.cast_ofNat_Int, eq_self, Int.zero_lt_one, Bool.not_false, Bool.not_true, beq_self_eq_true, WI, IA, DI, DA, CI, k0, k2, k4, k6, k7, k8, c1, zc9, x_gp0, x_gp1, x_gp2, x_gp3]
    | succ k =>
      obtain ⟨s', l', e', t', k', gg', o', p', qq', hc, hr⟩ := h.cells (i := k) (by omega)
      obtain ⟨q1, q2⟩ := step k (by omega) _ hr
      have c1 : IntKind.i64.wrap (((k + 1 : Nat) : Int) - 1) = (k : Int) := by rw [wrap_id (by omega)]; omega
      have c0 : ¬ (k : Int) < 0 := by omega
      have c2 : (0 : Int) ≤ (k : Int) := by omega
      have c3 : (k : Int) < (n : Int) := by omega
      have c4 : k * 9 < cs.length := by omega
      have c5 : k * 9 + 9 ≤ cs.length := by omega
      have hl2 := hb.len
      have ht2 := hb.take
      simp -implicitDefEqProofs only [go_sem, simprocAttr, -Int.reducePow, DD, x_app, x_ga0, x_gas, x_gan, Int.cast_ofNat_Int, eq_self, Int.zero_lt_one, Bool.not_false, Bool.not_true, beq_self_eq_true, k0, k2, k4, k6, k7, k8, c0, c1, c2, c3, c4, c5, hl2, ht2, hc, x_gp0, x_gp1, x_gp2, x_gp3]
      refine callK_pr disc_Mul.call q1 (.cons hb.plr (.cons (pld_RT g0).r (.cons pld_int.r .nil))) ?_
      simp -implicitDefEqProofs only [go_sem, simprocAttr, -Int.reducePow, DD, x_app, x_ga0, x_gas, x_gan, Int.cast_ofNat_Int, eq_self, Int.zero_lt_one, Bool.not_false, Bool.not_true, beq_self_eq_true, k0, k2, k4, k6, k7, k8, c0, c1, c2, c3, c4, c5, hl2, ht2, hc, x_gp0, x_gp1, x_gp2, x_gp3]
      refine callK_pr disc_Add.call q2 (.cons (pld_TI _ _).r (.cons (pld_RT hr).r .nil)) ?_
      simp -implicitDefEqProofs only [go_sem, simprocAttr, -Int.reducePow, DD, x_app, x_ga0, x_gas, x_gan, Int.cast_ofNat_Int, eq_self, Int.zero_lt_one, Bool.not_false, Bool.not_true, beq_self_eq_true, TI_c, k0, k2, k4, k6, k7, k8, c0, c1, c2, c3, c4, c5, hl2, ht2, hc, x_gp0, x_gp1, x_gp2, x_gp3]
      exact ⟨k, by omega, _, _, rfl, by omega, by simp [x_look, k0], by simp [x_look, k2], by simp [x_look, k4], by simp [x_look, k6], by simp [x_look, k7], by simp [x_look], .inl rfl⟩
  · by_cases hn0 : n = 0
    · subst hn0
      have c1 : IntKind.i64.wrap (-1) = -1 := rfl
      rw [show atC 0 u c 0 = zero from rfl, show atR 0 u (fun i => rp (v i)) c (rp r) P 0 = 0 from rfl, TI_z]
      simp -implicitDefEqProofs only [go_sem, simprocAttr, -Int.reducePow, DD, x_app, x_ga0, x_gas, x_gan, Int.cast_ofNat_Int, eq_self, Int.zero_lt_one, Bool.not_false, Bool.not_true, beq_self_eq_true, WI, IA, DI, DA, CI, c1, zc9, x_gp0, x_gp1, x_gp2, x_gp3]
    · obtain ⟨k, hk⟩ := pos_of hn0
      have hb : Blt zc9 (atC n u c (n - (k + 1))) (atR n u (fun i => rp (v i)) c (rp r) P (n - (k + 1))) := by rw [← hk]; exact hb
      obtain ⟨s', l', e', t', k', gg', o', p', qq', hc, hr⟩ := h.cells (i := k) (by omega)
      obtain ⟨q1, q2⟩ := step k (by omega) _ hr
      have c1 : IntKind.i64.wrap ((n : Int) - 1) = (k : Int) := by rw [wrap_id (by omega)]; omega
      have c0 : ¬ (k : Int) < 0 := by omega
      have c2 : (0 : Int) ≤ (k : Int) := by omega
      have c3 : (k : Int) < (n : Int) := by omega
      have c4 : k * 9 < cs.length := by omega
      have c5 : k * 9 + 9 ≤ cs.length := by omega
      have hl2 := hb.len
      have ht2 := hb.take
      simp -implicitDefEqProofs only [go_sem, simprocAttr, -Int.reducePow, DD, x_app, x_ga0, x_gas, x_gan, Int.cast_ofNat_Int, eq_self, Int.zero_lt_one, Bool.not_false, Bool.not_true, beq_self_eq_true, c0, c1, c2, c3, c4, c5, hl2, ht2, hc, x_gp0, x_gp1, x_gp2, x_gp3]
      refine callK_pr disc_Mul.call q1 (.cons hb.plr (.cons (pld_RT g0).r (.cons pld_int.r .nil))) ?_
      simp -implicitDefEqProofs only [go_sem, simprocAttr, -Int.reducePow, DD, x_app, x_ga0, x_gas, x_gan, Int.cast_ofNat_Int, eq_self, Int.zero_lt_one, Bool.not_false, Bool.not_true, beq_self_eq_true, c0, c1, c2, c3, c4, c5, hl2, ht2, hc, x_gp0, x_gp1, x_gp2, x_gp3]
      refine callK_pr disc_Add.call q2 (.cons (pld_TI _ _).r (.cons (pld_RT hr).r .nil)) ?_
      simp -implicitDefEqProofs only [go_sem, simprocAttr, -Int.reducePow, DD, x_app, x_ga0, x_gas, x_gan, Int.cast_ofNat_Int, eq_self, Int.zero_lt_one, Bool.not_false, Bool.not_true, beq_self_eq_true, TI_c, c0, c1, c2, c3, c4, c5, hl2, ht2, hc, x_gp0, x_gp1, x_gp2, x_gp3]
      exact ⟨k, by omega, _, _, rfl, by omega, by simp [x_look], by simp [x_look], by simp [x_look], by simp [x_look], by simp [x_look], by simp [x_look], .inl rfl⟩
theorem badd_s (h : RTs cs n u v 296 296) (hcs : ∀ c ∈ cs, IsD c) (hn : n ≤ 1000000) (g : RTs ds m u' v' 296 296) (hds : ∀ c ∈ ds, IsD c) (hm : m ≤ 1000000) :
    Sat CT false 60 [.sl n cs, .sl m ds] (TA (max n m) (bsC n m u u') (bsR n m v v')) := by
  refine sat_of balls_Add.ok (by simp) ?_
  have DD := balls_Add.dr
  simp only [drP, drPx, drPt, drR, drS, drT, bodyOf, Tryz.f60, Nat.reduceEqDiff, reduceIte, true_and, and_true] at DD
  by_cases c0 : (n : Int) < (m : Int)
  · rw [show max n m = m by omega, ← bsC_comm, ← bsR_comm]
    simp -implicitDefEqProofs only [go_sem, simprocAttr, -Int.reducePow, Tryz.f60, DD, x_app, x_ga0, x_gas, x_gan, Int.cast_ofNat_Int, eq_self, Int.zero_lt_one, Bool.not_false, Bool.not_true, beq_self_eq_true, c0]

    refine ⟨by omega, ?_⟩
    refine loop_of aW0_mono (fun k σ => ∃ sl cells T i, σ = ⟨sl, ⟨cells, true, true⟩ :: T⟩ ∧ k = m - i ∧ i ≤ m ∧ look sl 0 = .sl m ds ∧ look sl 1 = .sl n cs ∧ look sl 5 = .own 9 0 0 m ∧ look sl 19 = .sl m ds ∧ look sl 20 = I64 (m : Nat) ∧ look sl 21 = I64 (i : Nat) ∧ cells.length = m * 9 ∧ cells.take (i * 9) = tls i (bsC m n u' u) (bsR m n v' v)) ?_ (n := m)
      ⟨_, _, [], 0, rfl, rfl, Nat.zero_le _, by simp [x_look], by simp [x_look], by simp [x_look], by simp [x_look], by simp [x_look], by simp [x_look], zer_len9 m, by rw [Nat.zero_mul, tls0]; rfl⟩
    rintro k _ ⟨sl, cells, T, i, rfl, rfl, hi, k0, k1, k5, k19, k20, k21, hl, ht⟩
    by_cases hid : i = m
    · subst hid
      have he := row_end9 hl ht
      subst he
      simp -implicitDefEqProofs only [go_sem, simprocAttr, -Int.reducePow, DD, x_app, x_ga0, x_gas, x_gan, Int.cast_ofNat_Int, eq_self, Int.zero_lt_one, Bool.not_false, Bool.not_true, beq_self_eq_true, k0, k1, k5, k19, k20, k21, Int.lt_irrefl]
      have hr := ret_ASt (a := .own 9 0 0 i) (H := ⟨tls i (bsC i n u' u) (bsR i n v' v), true, true⟩ :: T) (n := i) (u := (bsC i n u' u)) (v := (bsR i n v' v)) (.inr ⟨0, rfl, rfl, Nat.succ_pos _, hl⟩)
      refine ⟨?_, hr.2⟩
      simpa [ownOK, own1, hd] using hr.1
    · have c1 : (i : Int) < (m : Int) := by omega
      have c2 : (0 : Int) ≤ (i : Int) := by omega
      have c3 : IntKind.i64.wrap ((i : Int) + 1) = ((i + 1 : Nat) : Int) := by rw [wrap_id (by omega)]; omega
      have c4 : i * 9 < ds.length := by have := g.len; omega
      have c5 : i * 9 + 9 ≤ ds.length := by have := g.len; omega
      have c6 : i * 9 + 9 ≤ cells.length := by omega
      have c7 : i * 9 < cells.length := by omega
      obtain ⟨s, l, e, t, k, gg, o, p, qq, hc, hr⟩ := g.cells (i := i) (by omega)
      by_cases hid2 : i < n
      · have d1 : (i : Int) < (n : Int) := by omega
        have d4 : i * 9 < cs.length := by have := h.len; omega
        have d5 : i * 9 + 9 ≤ cs.length := by have := h.len; omega
        obtain ⟨s', l', e', t', k', gg', o', p', qq', hc', hr'⟩ := h.cells (i := i) (by omega)
        have q1 := dadds_s hr hr' (by omega) (by omega) (by omega) (by omega)
        rw [show u' i + u i = (bsC m n u' u) i by simp only [bsC, if_pos (show i < m by omega), if_pos hid2], show rp (v' i) + rp (v i) = (bsR m n v' v) i by simp only [bsR, if_pos (show i < m by omega), if_pos hid2]] at q1
        simp -implicitDefEqProofs only [go_sem, simprocAttr, -Int.reducePow, DD, x_app, x_ga0, x_gas, x_gan, Int.cast_ofNat_Int, eq_self, Int.zero_lt_one, Bool.not_false, Bool.not_true, beq_self_eq_true, k0, k1, k5, k19, k20, k21, c1, c2, c3, c4, c5, c6, c7, hc, d1, d4, d5, hc']
        refine callK_pl disc_Add.call (q1) (pl2 (pld_RT hr) (pld_RT hr')) ?_
        simp -implicitDefEqProofs only [go_sem, simprocAttr, -Int.reducePow, DD, x_app, x_ga0, x_gas, x_gan, Int.cast_ofNat_Int, eq_self, Int.zero_lt_one, Bool.not_false, Bool.not_true, beq_self_eq_true, k0, k1, k5, k19, k20, k21, c1, c2, c3, c4, c5, c6, c7, hc, d1, d4, d5, hc', TI_c]
        obtain ⟨e1, e2⟩ := spl_row9 hl ht (show i < m by omega)
        exact ⟨m - (i + 1), by omega, _, _, _, i + 1, rfl, rfl, by omega, by simp [x_look, k0], by simp [x_look, k1], by simp [x_look, k5], by simp [x_look, k19], by simp [x_look, k20], by simp [x_look], e1, e2⟩
      · have d1 : ¬ (i : Int) < (n : Int) := by omega
        have q1 := dadds_s hr (RT_T (CB.zero 296) (DB.zero 296)) (by omega) (by omega) (by omega) (by omega)
        rw [show u' i + zero = (bsC m n u' u) i by simp only [bsC, if_pos (show i < m by omega), if_neg hid2], show rp (v' i) + rp 0 = (bsR m n v' v) i by simp only [bsR, if_pos (show i < m by omega), if_neg hid2, rp0]] at q1
        simp -implicitDefEqProofs only [go_sem, simprocAttr, -Int.reducePow, DD, x_app, x_ga0, x_gas, x_gan, Int.cast_ofNat_Int, eq_self, Int.zero_lt_one, Bool.not_false, Bool.not_true, beq_self_eq_true, k0, k1, k5, k19, k20, k21, c1, c2, c3, c4, c5, c6, c7, hc, d1]
        refine callK_pr disc_Add.call q1 (.cons (pld_RT hr).r (.cons (Blt.plr (.inr ⟨rfl, rfl, rfl⟩)) .nil)) ?_
        simp -implicitDefEqProofs only [go_sem, simprocAttr, -Int.reducePow, DD, x_app, x_ga0, x_gas, x_gan, Int.cast_ofNat_Int, eq_self, Int.zero_lt_one, Bool.not_false, Bool.not_true, beq_self_eq_true, k0, k1, k5, k19, k20, k21, c1, c2, c3, c4, c5, c6, c7, hc, d1, TI_c]
        obtain ⟨e1, e2⟩ := spl_row9 hl ht (show i < m by omega)
        exact ⟨m - (i + 1), by omega, _, _, _, i + 1, rfl, rfl, by omega, by simp [x_look, k0], by simp [x_look, k1], by simp [x_look, k5], by simp [x_look, k19], by simp [x_look, k20], by simp [x_look], e1, e2⟩
  · rw [show max n m = n by omega]
    simp -implicitDefEqProofs only [go_sem, simprocAttr, -Int.reducePow, Tryz.f60, DD, x_app, x_ga0, x_gas, x_gan, Int.cast_ofNat_Int, eq_self, Int.zero_lt_one, Bool.not_false, Bool.not_true, beq_self_eq_true, c0]

    refine ⟨by omega, ?_⟩
    refine loop_of aW0_mono (fun k σ => ∃ sl cells T i, σ = ⟨sl, ⟨cells, true, true⟩ :: T⟩ ∧ k = n - i ∧ i ≤ n ∧ look sl 0 = .sl n cs ∧ look sl 1 = .sl m ds ∧ look sl 5 = .own 9 0 0 n ∧ look sl 19 = .sl n cs ∧ look sl 20 = I64 (n : Nat) ∧ look sl 21 = I64 (i : Nat) ∧ cells.length = n * 9 ∧ cells.take (i * 9) = tls i (bsC n m u u') (bsR n m v v')) ?_ (n := n)
      ⟨_, _, [], 0, rfl, rfl, Nat.zero_le _, by simp [x_look], by simp [x_look], by simp [x_look], by simp [x_look], by simp [x_look], by simp [x_look], zer_len9 n, by rw [Nat.zero_mul, tls0]; rfl⟩
    rintro k _ ⟨sl, cells, T, i, rfl, rfl, hi, k0, k1, k5, k19, k20, k21, hl, ht⟩
    by_cases hid : i = n
    · subst hid
      have he := row_end9 hl ht
      subst he
      simp -implicitDefEqProofs only [go_sem, simprocAttr, -Int.reducePow, DD, x_app, x_ga0, x_gas, x_gan, Int.cast_ofNat_Int, eq_self, Int.zero_lt_one, Bool.not_false, Bool.not_true, beq_self_eq_true, k0, k1, k5, k19, k20, k21, Int.lt_irrefl]
      have hr := ret_ASt (a := .own 9 0 0 i) (H := ⟨tls i (bsC i m u u') (bsR i m v v'), true, true⟩ :: T) (n := i) (u := (bsC i m u u')) (v := (bsR i m v v')) (.inr ⟨0, rfl, rfl, Nat.succ_pos _, hl⟩)
      refine ⟨?_, hr.2⟩
      simpa [ownOK, own1, hd] using hr.1
    · have c1 : (i : Int) < (n : Int) := by omega
      have c2 : (0 : Int) ≤ (i : Int) := by omega
      have c3 : IntKind.i64.wrap ((i : Int) + 1) = ((i + 1 : Nat) : Int) := by rw [wrap_id (by omega)]; omega
      have c4 : i * 9 < cs.length := by have := h.len; omega
      have c5 : i * 9 + 9 ≤ cs.length := by have := h.len; omega
      have c6 : i * 9 + 9 ≤ cells.length := by omega
      have c7 : i * 9 < cells.length := by omega
      obtain ⟨s, l, e, t, k, gg, o, p, qq, hc, hr⟩ := h.cells (i := i) (by omega)
      by_cases hid2 : i < m
      · have d1 : (i : Int) < (m : Int) := by omega
        have d4 : i * 9 < ds.length := by have := g.len; omega
        have d5 : i * 9 + 9 ≤ ds.length := by have := g.len; omega
        obtain ⟨s', l', e', t', k', gg', o', p', qq', hc', hr'⟩ := g.cells (i := i) (by omega)
        have q1 := dadds_s hr hr' (by omega) (by omega) (by omega) (by omega)
        rw [show u i + u' i = (bsC n m u u') i by simp only [bsC, if_pos (show i < n by omega), if_pos hid2], show rp (v i) + rp (v' i) = (bsR n m v v') i by simp only [bsR, if_pos (show i < n by omega), if_pos hid2]] at q1
        simp -implicitDefEqProofs only [go_sem, simprocAttr, -Int.reducePow, DD, x_app, x_ga0, x_gas, x_gan, Int.cast_ofNat_Int, eq_self, Int.zero_lt_one, Bool.not_false, Bool.not_true, beq_self_eq_true, k0, k1, k5, k19, k20, k21, c1, c2, c3, c4, c5, c6, c7, hc, d1, d4, d5, hc']
        refine callK_pl disc_Add.call (q1) (pl2 (pld_RT hr) (pld_RT hr')) ?_
        simp -implicitDefEqProofs only [go_sem, simprocAttr, -Int.reducePow, DD, x_app, x_ga0, x_gas, x_gan, Int.cast_ofNat_Int, eq_self, Int.zero_lt_one, Bool.not_false, Bool.not_true, beq_self_eq_true, k0, k1, k5, k19, k20, k21, c1, c2, c3, c4, c5, c6, c7, hc, d1, d4, d5, hc', TI_c]
        obtain ⟨e1, e2⟩ := spl_row9 hl ht (show i < n by omega)
        exact ⟨n - (i + 1), by omega, _, _, _, i + 1, rfl, rfl, by omega, by simp [x_look, k0], by simp [x_look, k1], by simp [x_look, k5], by simp [x_look, k19], by simp [x_look, k20], by simp [x_look], e1, e2⟩
      · have d1 : ¬ (i : Int) < (m : Int) := by omega
        have q1 := dadds_s hr (RT_T (CB.zero 296) (DB.zero 296)) (by omega) (by omega) (by omega) (by omega)
        rw [show u i + zero = (bsC n m u u') i by simp only [bsC, if_pos (show i < n by omega), if_neg hid2], show rp (v i) + rp 0 = (bsR n m v v') i by simp only [bsR, if_pos (show i < n by omega), if_neg hid2, rp0]] at q1
        simp -implicitDefEqProofs only [go_sem, simprocAttr, -Int.reducePow, DD, x_app, x_ga0, x_gas, x_gan, Int.cast_ofNat_Int, eq_self, Int.zero_lt_one, Bool.not_false, Bool.not_true, beq_self_eq_true, k0, k1, k5, k19, k20, k21, c1, c2, c3, c4, c5, c6, c7, hc, d1]
        refine callK_pr disc_Add.call q1 (.cons (pld_RT hr).r (.cons (Blt.plr (.inr ⟨rfl, rfl, rfl⟩)) .nil)) ?_
        simp -implicitDefEqProofs only [go_sem, simprocAttr, -Int.reducePow, DD, x_app, x_ga0, x_gas, x_gan, Int.cast_ofNat_Int, eq_self, Int.zero_lt_one, Bool.not_false, Bool.not_true, beq_self_eq_true, k0, k1, k5, k19, k20, k21, c1, c2, c3, c4, c5, c6, c7, hc, d1, TI_c]
        obtain ⟨e1, e2⟩ := spl_row9 hl ht (show i < n by omega)
        exact ⟨n - (i + 1), by omega, _, _, _, i + 1, rfl, rfl, by omega, by simp [x_look, k0], by simp [x_look, k1], by simp [x_look, k5], by simp [x_look, k19], by simp [x_look, k20], by simp [x_look], e1, e2⟩
end
end Go.Ab
