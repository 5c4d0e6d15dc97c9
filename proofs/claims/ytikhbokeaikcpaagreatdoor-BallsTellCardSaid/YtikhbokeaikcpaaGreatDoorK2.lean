/- Contracts of this seat's functions (of each call: what it answers), walked over the abstract machine, and the laws of numbers that they want. Conditions: those that each theorem states. -/
import Derived.Test.YtikhbokeaikcpaaGreatDoorK1
set_option linter.unusedVariables false
set_option maxRecDepth 20000
set_option linter.unusedSimpArgs false
set_option linter.unusedSectionVars false
namespace Go.Ab
open Go.Proofs
open Cx (zero one)
attribute [-go_sem] appF newsF
variable {a b : AV} {x y r s t : Dyadic} {z w c d e : Cx} {B C B' C' n m P : Nat} {cs ds : List AV} {u u' : Nat → Cx} {v v' : Nat → Dyadic} {f g : Po}
/-! balls: of the code -/
instance (n : Nat) (u : Nat → Cx) (v : Nat → Dyadic) (d : Nat) (f : Po) : Decidable (mayP n u v d f) := by unfold mayP; exact inferInstance
def zc9 : List AV := [Bo false, .v (.slice none 0 0), I64 0, Bo false, .v (.slice none 0 0), I64 0, Bo false, .v (.slice none 0 0), I64 0]
/-- nine cells that read as a disc -/
def Blt (l : List AV) (c : Cx) (r : Dyadic) : Prop := l = tcl c r ∨ (c = zero ∧ r = 0 ∧ l = zc9)
theorem tcl_0 : tcl zero 0 = [Bo false, .sl 0 [], I64 0, Bo false, .sl 0 [], I64 0, Bo false, .sl 0 [], I64 0] := AV.agg.inj TI_z
theorem pld_TI (c : Cx) (r : Dyadic) : PlD (TI c r) := by
  refine ⟨isD_agg (isD_tcl c r), fun H => rfl, fun H a ha => ?_, fun H l => rfl⟩
  simp only [List.mem_cons, List.not_mem_nil, or_false] at ha
  rcases ha with rfl | rfl | rfl | rfl | rfl | rfl | rfl | rfl | rfl <;> trivial
theorem Blt.plr {l : List AV} (h : Blt l c r) : PlR (.agg l) (TI c r) := by
  rcases h with rfl | ⟨rfl, rfl, rfl⟩
  · exact (pld_TI c r).r
  · refine ⟨(pld_TI zero 0).isd, fun H => by rw [TI_z]; rfl, fun H c hc => ?_, fun H l => rfl⟩
    simp only [zc9, List.mem_cons, List.not_mem_nil, or_false] at hc
    rcases hc with rfl | rfl | rfl | rfl | rfl | rfl | rfl | rfl | rfl <;> trivial
theorem Blt.len {l : List AV} (h : Blt l c r) : l.length = 9 := by rcases h with rfl | ⟨_, _, rfl⟩ <;> rfl
theorem Blt.take {l : List AV} (h : Blt l c r) : l.take 9 = l := List.take_of_length_le (Nat.le_of_eq h.len)
theorem pld_RT (h : RT a c r B B') : PlD a := by
  obtain ⟨n, l, e, m, k, f, o, p, q, rfl, _⟩ := h
  refine ⟨isD_agg (fun a ha => ?_), fun H => rfl, fun H a ha => ?_, fun H l => rfl⟩
  · simp only [List.mem_cons, List.not_mem_nil, or_false] at ha
    rcases ha with rfl | rfl | rfl | rfl | rfl | rfl | rfl | rfl | rfl <;> first | exact .v _ | exact isD_u32 _ _
  · simp only [List.mem_cons, List.not_mem_nil, or_false] at ha
    rcases ha with rfl | rfl | rfl | rfl | rfl | rfl | rfl | rfl | rfl <;> trivial
theorem x_takeT {c : Cx} {r : Dyadic} : (tcl c r).take 9 = tcl c r := rfl
theorem x_lenT {c : Cx} {r : Dyadic} : (tcl c r).length = 9 := rfl
theorem x_leafT {c : Cx} {r : Dyadic} : (tcl c r).all leafA = true := rfl
theorem x_cellsTI {c : Cx} {r : Dyadic} : cellsA (TI c r) = some (tcl c r) := rfl
theorem x_zerA9 {a b c d e f g h i : Value} : zerosA [a, b, c, d, e, f, g, h, i] 1 = [.v a, .v b, .v c, .v d, .v e, .v f, .v g, .v h, .v i] := rfl
theorem x_hget2 {H : Heap} {x y d : AObj} : ((H ++ [x]) ++ [y]).getD H.length d = x := by simp [List.getD_eq_getElem?_getD]
theorem x_hget3 {H : Heap} {x y d : AObj} : (H ++ [x, y]).getD H.length d = x := by simp [List.getD_eq_getElem?_getD]
theorem x_hget4 {H : Heap} {x y d : AObj} : (H ++ [x, y]).getD (H.length + 1) d = y := by simp [List.getD_eq_getElem?_getD]
theorem ASl.lastT {H : Heap} {k i : Nat} (h : H.getD k ⟨[], false, false⟩ = ⟨tls i u v ++ tcl (u i) (v i), true, true⟩) (hl : H.length = k + 1) : ASl 9 (.own 9 k 0 (i + 1)) H (tls (i + 1) u v) (i + 1) :=
  ASl.last (by rw [tlsS]; exact h) hl (tls_len _ _ _)
theorem ret_ASt {H : Heap} (h : ASl 9 a H (tls n u v) n) : ownOK H true a ∧ IsD (TA n u v) ∧ snap H a = TA n u v := by
  rcases h with ⟨rfl, rfl, _⟩ | ⟨k, rfl, h2, h3, h4⟩
  · exact ⟨trivial, isD_TA 0 u v, by unfold TA; rw [tls0]; rfl⟩
  · refine ⟨?_, isD_TA n u v, ?_⟩
    · simp only [ownOK, hd, h2]
      exact ⟨trivial, .inl trivial, by omega⟩
    · simp only [snap, hd, h2, List.drop_zero]
      rw [← h4, List.take_length, snap0_tls]; rfl
section
attribute [local go_sem] x_takeT x_lenT x_leafT x_cellsTI x_hget2 x_hget3 x_hget4 x_zerA9
theorem bhas_s (h : RTs cs n u v B B') (hcs : ∀ c ∈ cs, IsD c) (hn : n ≤ 1000000) (g : RP ds m f C) (hds : ∀ c ∈ ds, IsD c) (hB : B ≤ 8000) (hC : C ≤ 8000) (hB' : B' ≤ 9000) :
    Sat CT false 45 [.sl n cs, .sl m ds] (Bo (decide (mayP n u (fun i => rp (v i)) (dg m f) f))) := by
  refine sat_of balls_Has.ok (by simp) ?_
  have DD := balls_Has.dr
  simp only [drP, drPx, drPt, drR, drS, drT, bodyOf, Tryz.f45, Nat.reduceEqDiff, reduceIte, true_and, and_true] at DD
  have hlen := h.len
  have hm := g.small
  have hle := dg_le m f
  have q := ptrim_s g (by omega)
  have hfb := g.pb
  have hsp : Sp (dg m f) f := dg_sp g.sp
  generalize dg m f = d at *
  simp -implicitDefEqProofs only [go_sem, simprocAttr, -Int.reducePow, Tryz.f45, DD, x_app, x_ga0, x_gas, x_gan, Int.cast_ofNat_Int, eq_self, Int.zero_lt_one, Bool.not_false, Bool.not_true, beq_self_eq_true]
  refine callK_pl poly_Trim.call (q) (pl1 (pld_sl hds)) ?_
  by_cases c0 : (n : Int) < (d : Int)
  · rw [decide_eq_false (fun (p : mayP n u (fun i => rp (v i)) d f) => absurd p.1 (by omega))]
    simp -implicitDefEqProofs only [go_sem, simprocAttr, -Int.reducePow, DD, x_app, x_ga0, x_gas, x_gan, Int.cast_ofNat_Int, eq_self, Int.zero_lt_one, Bool.not_false, Bool.not_true, beq_self_eq_true, PA, c0, gt_iff_lt]
  · simp -implicitDefEqProofs only [go_sem, simprocAttr, -Int.reducePow, DD, x_app, x_ga0, x_gas, x_gan, Int.cast_ofNat_Int, eq_self, Int.zero_lt_one, Bool.not_false, Bool.not_true, beq_self_eq_true, PA, c0, gt_iff_lt]
    refine loop_of aW0_mono (fun k σ => ∃ sl H i, σ = ⟨sl, H⟩ ∧ k = n - i ∧ i ≤ n ∧ look sl 1 = .sl d (pcl d f) ∧ look sl 15 = .sl n cs ∧ look sl 16 = I64 (n : Nat) ∧ look sl 17 = I64 (i : Nat) ∧ ∀ j, j < i → hasP (u j) (rp (v j)) (f j)) ?_ (n := n)
      ⟨_, _, 0, rfl, rfl, Nat.zero_le _, by simp [x_look], by simp [x_look], by simp [x_look], by simp [x_look], fun j hj => by omega⟩
    rintro k _ ⟨sl, H, i, rfl, rfl, hi, k1, k15, k16, k17, hall⟩
    by_cases hid : i = n
    · subst hid
      rw [decide_eq_true (show mayP i u (fun i => rp (v i)) d f from ⟨by omega, hall⟩)]
      simp -implicitDefEqProofs only [go_sem, simprocAttr, -Int.reducePow, DD, x_app, x_ga0, x_gas, x_gan, Int.cast_ofNat_Int, eq_self, Int.zero_lt_one, Bool.not_false, Bool.not_true, beq_self_eq_true, k1, k15, k16, k17, Int.lt_irrefl]
    · have c1 : (i : Int) < (n : Int) := by omega
      have c2 : (0 : Int) ≤ (i : Int) := by omega
      have c3 : IntKind.i64.wrap ((i : Int) + 1) = ((i + 1 : Nat) : Int) := by rw [wrap_id (by omega)]; omega
      have c4 : i * 9 < cs.length := by omega
      have c5 : i * 9 + 9 ≤ cs.length := by omega
      obtain ⟨s, l, e, t, k, gg, o, p, qq, hc, hr⟩ := h.cells (i := i) (by omega)
      have q1 := dhas_s hr (RC_C (hfb i)) (by omega) (by omega) (by omega)
      by_cases hh : hasP (u i) (rp (v i)) (f i)
      · rw [decide_eq_true hh] at q1
        have hnext : ∀ j, j < i + 1 → hasP (u j) (rp (v j)) (f j) := fun j hj => by
          by_cases e : j = i
          · rw [e]; exact hh
          · exact hall j (by omega)
        by_cases hid2 : i < d
        · have d1 : (i : Int) < (d : Int) := by omega
          have d4 : i * 6 < d * 6 := by omega
          have d5 : i * 6 + 6 ≤ d * 6 := by omega
          have hc2 := pcl_el f hid2
          have hL := pcl_len d f
          simp -implicitDefEqProofs only [go_sem, simprocAttr, -Int.reducePow, DD, x_app, x_ga0, x_gas, x_gan, Int.cast_ofNat_Int, eq_self, Int.zero_lt_one, Bool.not_false, Bool.not_true, beq_self_eq_true, k1, k15, k16, k17, c1, c2, c3, c4, c5, hc, d1, d4, d5, hc2, hL]
          refine callK_pl disc_Has.call (q1) (pl2 (pld_RT hr) (pld_CI _)) ?_
          simp -implicitDefEqProofs only [go_sem, simprocAttr, -Int.reducePow, DD, x_app, x_ga0, x_gas, x_gan, Int.cast_ofNat_Int, eq_self, Int.zero_lt_one, Bool.not_false, Bool.not_true, beq_self_eq_true, k1, k15, k16, k17, c1, c2, c3, c4, c5, hc, d1, d4, d5, hc2, hL]
          exact ⟨n - (i + 1), by omega, _, _, i + 1, rfl, rfl, by omega, by simp [x_look, k1], by simp [x_look, k15], by simp [x_look, k16], by simp [x_look], hnext⟩
        · have d1 : ¬ (i : Int) < (d : Int) := by omega
          have e0 : f i = zero := hsp i (by omega)
          simp -implicitDefEqProofs only [go_sem, simprocAttr, -Int.reducePow, DD, x_app, x_ga0, x_gas, x_gan, Int.cast_ofNat_Int, eq_self, Int.zero_lt_one, Bool.not_false, Bool.not_true, beq_self_eq_true, k1, k15, k16, k17, c1, c2, c3, c4, c5, hc, d1]
          refine callK_pr disc_Has.call q1 (.cons (pld_RT hr).r (.cons (Blk.plr (.inr ⟨e0, rfl⟩)) .nil)) ?_
          simp -implicitDefEqProofs only [go_sem, simprocAttr, -Int.reducePow, DD, x_app, x_ga0, x_gas, x_gan, Int.cast_ofNat_Int, eq_self, Int.zero_lt_one, Bool.not_false, Bool.not_true, beq_self_eq_true, k1, k15, k16, k17, c1, c2, c3, c4, c5, hc, d1]
          exact ⟨n - (i + 1), by omega, _, _, i + 1, rfl, rfl, by omega, by simp [x_look, k1], by simp [x_look, k15], by simp [x_look, k16], by simp [x_look], hnext⟩
      · rw [decide_eq_false hh] at q1
        rw [decide_eq_false (fun (p : mayP n u (fun i => rp (v i)) d f) => hh (p.2 i (by omega)))]
        by_cases hid2 : i < d
        · have d1 : (i : Int) < (d : Int) := by omega
          have d4 : i * 6 < d * 6 := by omega
          have d5 : i * 6 + 6 ≤ d * 6 := by omega
          have hc2 := pcl_el f hid2
          have hL := pcl_len d f
          simp -implicitDefEqProofs only [go_sem, simprocAttr, -Int.reducePow, DD, x_app, x_ga0, x_gas, x_gan, Int.cast_ofNat_Int, eq_self, Int.zero_lt_one, Bool.not_false, Bool.not_true, beq_self_eq_true, k1, k15, k16, k17, c1, c2, c3, c4, c5, hc, d1, d4, d5, hc2, hL]
          refine callK_pl disc_Has.call (q1) (pl2 (pld_RT hr) (pld_CI _)) ?_
          simp -implicitDefEqProofs only [go_sem, simprocAttr, -Int.reducePow, DD, x_app, x_ga0, x_gas, x_gan, Int.cast_ofNat_Int, eq_self, Int.zero_lt_one, Bool.not_false, Bool.not_true, beq_self_eq_true, k1, k15, k16, k17, c1, c2, c3, c4, c5, hc, d1, d4, d5, hc2, hL]
        · have d1 : ¬ (i : Int) < (d : Int) := by omega
          have e0 : f i = zero := hsp i (by omega)
          simp -implicitDefEqProofs only [go_sem, simprocAttr, -Int.reducePow, DD, x_app, x_ga0, x_gas, x_gan, Int.cast_ofNat_Int, eq_self, Int.zero_lt_one, Bool.not_false, Bool.not_true, beq_self_eq_true, k1, k15, k16, k17, c1, c2, c3, c4, c5, hc, d1]
          refine callK_pr disc_Has.call q1 (.cons (pld_RT hr).r (.cons (Blk.plr (.inr ⟨e0, rfl⟩)) .nil)) ?_
          simp -implicitDefEqProofs only [go_sem, simprocAttr, -Int.reducePow, DD, x_app, x_ga0, x_gas, x_gan, Int.cast_ofNat_Int, eq_self, Int.zero_lt_one, Bool.not_false, Bool.not_true, beq_self_eq_true, k1, k15, k16, k17, c1, c2, c3, c4, c5, hc, d1]
theorem RP_nil : RP [] 0 (fun _ => zero) 0 := ⟨rfl, fun i hi => absurd hi (Nat.not_lt_zero i), fun i _ => rfl, by decide⟩
theorem bzero_s (h : RTs cs n u v B B') (hcs : ∀ c ∈ cs, IsD c) (hn : n ≤ 1000000) (hB : B ≤ 8000) (hB' : B' ≤ 9000) :
    Sat CT false 46 [.sl n cs] (Bo (decide (mayP n u (fun i => rp (v i)) 0 (fun _ => zero)))) := by
  refine sat_of balls_Zero.ok (by simp) ?_
  have DD := balls_Zero.dr
  simp only [drP, drPx, drPt, drR, drS, drT, bodyOf, Tryz.f46, Nat.reduceEqDiff, reduceIte, true_and, and_true] at DD
  have q1 := bhas_s h hcs hn RP_nil (fun c hc => by cases hc) hB (Nat.zero_le _) hB'
  rw [dg0] at q1
  simp -implicitDefEqProofs only [go_sem, simprocAttr, -Int.reducePow, Tryz.f46, DD, x_app, x_ga0, x_gas, x_gan, Int.cast_ofNat_Int, eq_self, Int.zero_lt_one, Bool.not_false, Bool.not_true, beq_self_eq_true]
  refine callK_ar balls_Has.call (q1) (.cons (.pl (pld_sl hcs)) (.cons .none .nil)) rfl ?_
  intro H' _
  simp -implicitDefEqProofs only [go_sem, simprocAttr, -Int.reducePow, DD, x_app, x_ga0, x_gas, x_gan, Int.cast_ofNat_Int, eq_self, Int.zero_lt_one, Bool.not_false, Bool.not_true, beq_self_eq_true]
theorem bof_s (g : RP ds m f C) (hds : ∀ c ∈ ds, IsD c) (hC : C ≤ 19000) : Sat CT false 58 [.sl m ds] (TA (dg m f) f (fun _ => 0)) := by
  refine sat_of balls_Of.ok (by simp) ?_
  have DD := balls_Of.dr
  simp only [drP, drPx, drPt, drR, drS, drT, bodyOf, Tryz.f58, Nat.reduceEqDiff, reduceIte, true_and, and_true] at DD
  have hm := g.small
  have hle := dg_le m f
  have q := ptrim_s g (by omega)
  have hfb := g.pb
  generalize dg m f = d at *
  have hL := pcl_len d f
  simp -implicitDefEqProofs only [go_sem, simprocAttr, -Int.reducePow, Tryz.f58, DD, x_app, x_ga0, x_gas, x_gan, Int.cast_ofNat_Int, eq_self, Int.zero_lt_one, Bool.not_false, Bool.not_true, beq_self_eq_true]
  refine callK_pl poly_Trim.call (q) (pl1 (pld_sl hds)) ?_
  simp -implicitDefEqProofs only [go_sem, simprocAttr, -Int.reducePow, DD, x_app, x_ga0, x_gas, x_gan, Int.cast_ofNat_Int, eq_self, Int.zero_lt_one, Bool.not_false, Bool.not_true, beq_self_eq_true, PA]
  refine loop_of aW0_mono (fun k σ => ∃ sl H i, σ = ⟨sl, H⟩ ∧ k = d - i ∧ i ≤ d ∧ look sl 7 = .sl d (pcl d f) ∧ look sl 8 = I64 (d : Nat) ∧ look sl 9 = I64 (i : Nat) ∧ ASl 9 (look sl 3) H (tls i f (fun _ => 0)) i) ?_ (n := d)
    ⟨_, _, 0, rfl, rfl, Nat.zero_le _, by simp [x_look], by simp [x_look], by simp [x_look], by simp [x_look, tls0, ASl.nil]⟩
  rintro k _ ⟨sl, H, i, rfl, rfl, hi, k7, k8, k9, hA⟩
  by_cases hid : i = d
  · subst hid
    simp -implicitDefEqProofs only [go_sem, simprocAttr, -Int.reducePow, DD, x_app, x_ga0, x_gas, x_gan, Int.cast_ofNat_Int, eq_self, Int.zero_lt_one, Bool.not_false, Bool.not_true, beq_self_eq_true, k7, k8, k9, Int.lt_irrefl]
    have hr := ret_ASt hA
    refine ⟨?_, hr.2⟩
    have h1 := hr.1
    clear hr hA k7 k8 k9
    generalize look sl 3 = av at *
    cases av <;> simp_all [ownOK, own1, hd]
  · have c1 : (i : Int) < (d : Int) := by omega
    have c2 : (0 : Int) ≤ (i : Int) := by omega
    have c3 : IntKind.i64.wrap ((i : Int) + 1) = ((i + 1 : Nat) : Int) := by rw [wrap_id (by omega)]; omega
    have c4 : i * 6 < d * 6 := by omega
    have c5 : i * 6 + 6 ≤ d * 6 := by omega
    have hc := pcl_el f (show i < d by omega)
    have q1 := dofc_s (RC_C (hfb i)) (by omega)
    simp -implicitDefEqProofs only [go_sem, simprocAttr, -Int.reducePow, DD, x_app, x_ga0, x_gas, x_gan, Int.cast_ofNat_Int, eq_self, Int.zero_lt_one, Bool.not_false, Bool.not_true, beq_self_eq_true, k7, k8, k9, c1, c2, c3, c4, c5, hc, hL]
    refine callK_pl disc_Of.call (q1) (pl1 (pld_CI _)) ?_
    simp -implicitDefEqProofs only [go_sem, simprocAttr, -Int.reducePow, DD, x_app, x_ga0, x_gas, x_gan, Int.cast_ofNat_Int, eq_self, Int.zero_lt_one, Bool.not_false, Bool.not_true, beq_self_eq_true, k7, k8, k9, c1, c2, c3, c4, c5, hc, hL, TI]
    refine app_step (P := Tryz.prog) tk44 rfl tk47 tk44 rfl rfl (by decide) (n := i) (m := 1) ((hA.ext _).ext _) (.inl ⟨rfl, x_hget⟩) rfl (by decide) rfl (Nat.le_trans (Nat.mul_le_mul_right _ (show i + 1 ≤ 1000001 by omega)) (by decide)) (by omega) ?_
    intro H' hg hl' hk'
    simp -implicitDefEqProofs only [go_sem, simprocAttr, -Int.reducePow, DD, x_app, x_ga0, x_gas, x_gan, Int.cast_ofNat_Int, eq_self, Int.zero_lt_one, Bool.not_false, Bool.not_true, beq_self_eq_true, k7, k8, k9, c1, c2, c3, c4, c5, hc, hL]
    exact ⟨d - (i + 1), by omega, _, _, i + 1, rfl, rfl, by omega, by simp [x_look, k7], by simp [x_look, k8], by simp [x_look], by simp only [x_look, reduceIte, Nat.reduceEqDiff]; exact ASl.lastT (u := f) (v := fun _ => 0) hg hl'⟩
end
end Go.Ab
