/- Contracts of this seat's functions (of each call: what it answers), walked over the abstract machine, and the laws of numbers that they want. Conditions: those that each theorem states. -/
import Derived.Test.YtcnhnabmkfagbaaGreatDoorD18
set_option linter.unusedVariables false
set_option maxRecDepth 20000
set_option linter.unusedSimpArgs false
set_option linter.unusedSectionVars false
namespace Go.Ab
open Go.Proofs
open Cx (zero one)
attribute [-go_sem] appF newsF
variable {a b : AV} {z w : Cx} {B C n m : Nat} {cs ds : List AV} {f g : Po}
theorem pld_tup2 {x y : AV} (hx : PlD x) (hy : PlD y) : IsD (.tup [x, y]) := isD_tup (fun c hc => by
  simp only [List.mem_cons, List.not_mem_nil, or_false] at hc
  rcases hc with rfl | rfl
  · exact hx.isd
  · exact hy.isd)
variable {x y : Dyadic}
theorem gtimes_r {b : AV} (ha : RC a z B) (hb : RD b x C) (hB : B + C ≤ 20000) : Sat CT false 44 [a, b] (CI ⟨z.re * x, z.im * x⟩) := by
  refine sat_of gauss_Times.ok (by simp) ?_
  have DD := gauss_Times.dr
  simp only [drP, drPx, drPt, drR, drS, drT, bodyOf, Tryz.f44, Nat.reduceEqDiff, reduceIte, true_and, and_true] at DD
  obtain ⟨n, l, e, m, k, f, rfl, hr, hi⟩ := ha
  have q1 := dmul_r hr hb (by omega) (by omega)
  have q2 := dmul_r hi hb (by omega) (by omega)
  obtain ⟨n', l', e', rfl, _⟩ := hb
  simp -implicitDefEqProofs only [go_sem, simprocAttr, -Int.reducePow, Tryz.f44, DD, x_app, x_ga0, x_gas, x_gan, Int.cast_ofNat_Int, eq_self, Int.zero_lt_one, Bool.not_false, Bool.not_true, beq_self_eq_true, WI, IA, DI, DA, CI]
  refine callK_of false dyad_Mul.call (q1) rfl rfl (by simp [ownOK, own1, hd, fzH, fzArgs, fzCells, fz, IA, WI, DI, DA, CI, U32]) (by simp [U32, isD_u32, isD_v, isD_nil, isD_agg, IA, WI, DI, DA, CI]) ?_
  simp -implicitDefEqProofs only [go_sem, simprocAttr, -Int.reducePow, DD, x_app, x_ga0, x_gas, x_gan, Int.cast_ofNat_Int, eq_self, Int.zero_lt_one, Bool.not_false, Bool.not_true, beq_self_eq_true, WI, IA, DI, DA, CI]
  refine callK_of false dyad_Mul.call (q2) rfl rfl (by simp [ownOK, own1, hd, fzH, fzArgs, fzCells, fz, IA, WI, DI, DA, CI, U32]) (by simp [U32, isD_u32, isD_v, isD_nil, isD_agg, IA, WI, DI, DA, CI]) ?_
  simp -implicitDefEqProofs only [go_sem, simprocAttr, -Int.reducePow, DD, x_app, x_ga0, x_gas, x_gan, Int.cast_ofNat_Int, eq_self, Int.zero_lt_one, Bool.not_false, Bool.not_true, beq_self_eq_true, WI, IA, DI, DA, CI]
theorem MR.setB {cells l : List AV} {N s0 : Nat} {F : Po} {v : Cx} (h : MR cells N F) (h0 : s0 < N) (hb : Blk l v) : MR (spl cells (s0 * 6) l) N (fun s => if s = s0 then v else F s) := by
  have hl := hb.len
  refine ⟨by rw [spl_len (by have := h.1; omega)]; exact h.1, fun s hs => ?_⟩
  rw [blk_spl h.1 hl h0]
  show Blk _ (if s = s0 then v else F s)
  by_cases e : s = s0
  · rw [if_pos e, if_pos e]; exact hb
  · rw [if_neg e, if_neg e]; exact h.2 s hs
theorem pld_DI (d : Dyadic) : PlD (DI d) := pld_dy _ _ _
theorem ppart_s (h : RP cs n f B) (hz : RC a z C) (hB : n * (C + 2) + B + C ≤ 19990) (hn0 : 0 < n) : Sat CT false 72 [.sl n cs, a] (.tup [PA (dg n (pq n f z)) (pq n f z), CI (ev n f z)]) := by
  refine sat_of poly_Part.ok (by simp) ?_
  have DD := poly_Part.dr
  simp only [drP, drPx, drPt, drR, drS, drT, bodyOf, Tryz.f72, Nat.reduceEqDiff, reduceIte, true_and, and_true] at DD
  have hlen := h.len
  have hn := h.small
  have hzc := hz.cb
  have hpb := h.pb
  have hz0 := hz
  have hvb : ∀ i, CB (ev (n - i) (dp i f) z) (n * (C + 2) + B) := fun i => (CB.ev (hpb.dp i) hzc (n - i)).mono (by have := Nat.mul_le_mul_right (C + 2) (show n - i ≤ n by omega); omega)
  have hqb : PB (pq n f z) (n * (C + 2) + B) := fun i => by
    have := hvb (i + 1)
    rwa [show n - (i + 1) = n - 1 - i by omega] at this
  have hqs : Sp n (pq n f z) := (Sp.pq' f z).mono (by omega)
  have qt := ptrim_P hqb hqs hn (by omega)
  obtain ⟨s, l, e, t, k, g, rfl, _⟩ := hz
  have cn : IntKind.i64.wrap ((n : Int) - 1) = (n : Int) - 1 := wrap_id (by omega)
  simp -implicitDefEqProofs only [go_sem, simprocAttr, -Int.reducePow, Tryz.f72, DD, x_app, x_ga0, x_gas, x_gan, Int.cast_ofNat_Int, eq_self, Int.zero_lt_one, Bool.not_false, Bool.not_true, beq_self_eq_true, cn]
  refine ⟨by omega, ?_⟩
  refine loop_fk [2] aW0_mono (fun r σ => ∃ sl l2 cells, σ = ⟨sl, [⟨[Bo s, U32 l, I64 e, Bo t, U32 k, I64 g], true, true⟩, ⟨zc6, true, true⟩, ⟨cells, true, true⟩, ⟨l2, true, true⟩]⟩ ∧ r ≤ n ∧ look sl 0 = .sl n cs ∧ look sl 3 = .ptr 0 0 ∧ look sl 5 = .ptr 1 0 ∧ look sl 6 = .own 6 2 0 n ∧ look sl 7 = .ptr 3 0 ∧ look sl 8 = I64 ((r : Int) - 1) ∧ Blk l2 (ev (n - r) (dp r f) z) ∧ (r < n → l2 = CIc (ev (n - r) (dp r f) z)) ∧ MR cells n (fun i => if r ≤ i then pq n f z i else zero)) ?_ (n := n)
    ⟨_, _, _, rfl, Nat.le_refl _, by simp [x_look], by simp [x_look], by simp [x_look], by simp [x_look], by simp [x_look], by simp [x_look], .inr ⟨by rw [Nat.sub_self, ev0], rfl⟩, fun q => absurd q (Nat.lt_irrefl n), (mr_zero n).congr (fun i => by
      show zero = if n ≤ i then pq n f z i else zero
      split
      · rename_i q; exact (hqs i q).symm
      · rfl)⟩
  rintro r _ ⟨sl, l2, cells, rfl, hr, k0, k3, k5, k6, k7, k8, hb, hb1, hm⟩
  by_cases hr0 : r = 0
  · subst hr0
    have hb1 := hb1 hn0
    rw [Nat.sub_zero, dp0] at hb1
    subst hb1
    have hm := hm.congr (G := pq n f z) (fun i => if_pos (Nat.zero_le i))
    have c1 : ¬ (0 : Int) ≤ ((0 : Nat) : Int) - 1 := by omega
    simp -implicitDefEqProofs only [go_sem, simprocAttr, -Int.reducePow, DD, x_app, x_ga0, x_gas, x_gan, Int.cast_ofNat_Int, eq_self, Int.zero_lt_one, Bool.not_false, Bool.not_true, beq_self_eq_true, k0, k3, k5, k6, k7, k8, c1, zc6, fzL]
    refine callK_fz poly_Trim.call qt (.inr ⟨2, rfl, rfl, hm.1⟩) hm.snp (isD_pcl _ _) rfl ?_
    simp -implicitDefEqProofs only [go_sem, simprocAttr, -Int.reducePow, DD, x_app, x_ga0, x_gas, x_gan, Int.cast_ofNat_Int, eq_self, Int.zero_lt_one, Bool.not_false, Bool.not_true, beq_self_eq_true, WI, IA, DI, DA, CI, k0, k3, k5, k6, k7, k8, c1, zc6, CIc, fzL]
    exact ⟨trivial, pld_tup2 (pld_PA _ _) (pld_CI _), rfl⟩
  · obtain ⟨i, rfl⟩ := pos_of hr0
    have c1 : ((i + 1 : Nat) : Int) - 1 = (i : Int) := by omega
    rw [c1] at k8
    have c2 : (0 : Int) ≤ (i : Int) := by omega
    have c3 : (i : Int) < (n : Int) := by omega
    have c4 : i * 6 < cs.length := by omega
    have c5 : i * 6 + 6 ≤ cs.length := by omega
    have c6 : i * 6 + 6 ≤ cells.length := by have := hm.1; omega
    have cw : IntKind.i64.wrap ((i : Int) - 1) = (i : Int) - 1 := wrap_id (by omega)
    have hl2 := hb.len
    have ht2 := hb.take
    have hleaf : l2.all leafA = true := by rcases hb with rfl | ⟨_, rfl⟩ <;> rfl
    have hev : ev (n - i) (dp i f) z = ev (n - (i + 1)) (dp (i + 1) f) z * z + f i := by rw [show n - i = n - (i + 1) + 1 by omega, ev_dp]
    obtain ⟨s', l', e', t', k', g', hc, hr'⟩ := h.cells (i := i) (by omega)
    have q1 := gmul_r (RC_C (hvb (i + 1))) hz0 (by omega)
    have q2 := gadd_r (RC_C ((hvb (i + 1)).mul hzc)) hr' (by omega) (by omega)
    rw [← hev] at q2
    have hm2 := hm.setB (s0 := i) (by omega) hb
    have hm2 := hm2.congr (G := fun j => if i ≤ j then pq n f z j else zero) (fun j => by
      show (if j = i then ev (n - (i + 1)) (dp (i + 1) f) z else if i + 1 ≤ j then pq n f z j else zero) = if i ≤ j then pq n f z j else zero
      by_cases e1 : j = i
      · rw [if_pos e1, if_pos (by omega), e1]; show _ = ev (n - 1 - i) _ z; rw [show n - (i + 1) = n - 1 - i by omega]
      · rw [if_neg e1]
        by_cases e2 : i ≤ j
        · rw [if_pos (by omega), if_pos e2]
        · rw [if_neg (by omega), if_neg e2])
    simp -implicitDefEqProofs only [go_sem, simprocAttr, -Int.reducePow, DD, x_app, x_ga0, x_gas, x_gan, Int.cast_ofNat_Int, eq_self, Int.zero_lt_one, Bool.not_false, Bool.not_true, beq_self_eq_true, k0, k3, k5, k6, k7, k8, c2, c3, c4, c5, c6, cw, hl2, ht2, hleaf, hc]
    refine callK_pr gauss_Mul.call q1 (.cons hb.plr (.cons (pld_RC hz0).r .nil)) ?_
    simp -implicitDefEqProofs only [go_sem, simprocAttr, -Int.reducePow, DD, x_app, x_ga0, x_gas, x_gan, Int.cast_ofNat_Int, eq_self, Int.zero_lt_one, Bool.not_false, Bool.not_true, beq_self_eq_true, k0, k3, k5, k6, k7, k8, c2, c3, c4, c5, c6, cw, hl2, ht2, hleaf, hc]
    refine callK_pr gauss_Add.call q2 (.cons (pld_CI _).r (.cons (pld_RC hr').r .nil)) ?_
    simp -implicitDefEqProofs only [go_sem, simprocAttr, -Int.reducePow, DD, x_app, x_ga0, x_gas, x_gan, Int.cast_ofNat_Int, eq_self, Int.zero_lt_one, Bool.not_false, Bool.not_true, beq_self_eq_true, k0, k3, k5, k6, k7, k8, c2, c3, c4, c5, c6, cw, hl2, ht2, hleaf, hc]
    exact ⟨i, by omega, _, _, _, rfl, by omega, by simp [x_look, k0], by simp [x_look, k3], by simp [x_look, k5], by simp [x_look, k6], by simp [x_look, k7], by simp [x_look], .inl rfl, fun _ => rfl, hm2⟩
end Go.Ab
