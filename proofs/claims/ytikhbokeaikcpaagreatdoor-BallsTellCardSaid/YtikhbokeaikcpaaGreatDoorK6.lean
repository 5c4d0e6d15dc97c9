/- Contracts of this seat's functions (of each call: what it answers), walked over the abstract machine, and the laws of numbers that they want. Conditions: those that each theorem states. -/
import Derived.Test.YtikhbokeaikcpaaGreatDoorK5
set_option linter.unusedVariables false
set_option maxRecDepth 20000
set_option linter.unusedSimpArgs false
set_option linter.unusedSectionVars false
namespace Go.Ab
open Go.Proofs
open Cx (zero one)
attribute [-go_sem] appF newsF
variable {a b : AV} {x y r s t : Dyadic} {z w c d e : Cx} {B C B' C' n m P : Nat} {cs ds : List AV} {u u' : Nat → Cx} {v v' : Nat → Dyadic} {f g : Po}
/-! balls: what is known of them -/
structure FV (H : Heap) (a d : AV) : Prop where
  snp : snap H a = d
  own : ownOK H false a
  isd : IsD d
inductive FVs (H : Heap) : List AV → List AV → Prop
  | nil : FVs H [] []
  | cons {a d : AV} {l m : List AV} (h : FV H a d) (t : FVs H l m) : FVs H (a :: l) (d :: m)
theorem FVs.snp {H : Heap} {l m : List AV} (h : FVs H l m) : l.map (snap H) = m := by
  induction h with
  | nil => rfl
  | cons h t ih => rw [List.map_cons, h.snp, ih]
theorem FVs.own {H : Heap} {l m : List AV} (h : FVs H l m) : ∀ a ∈ l, ownOK H false a := by
  induction h with
  | nil => intro a q; cases q
  | cons h t ih => intro a q; rcases List.mem_cons.1 q with rfl | q; exact h.own; exact ih a q
theorem FVs.isd {H : Heap} {l m : List AV} (h : FVs H l m) : ∀ d ∈ m, IsD d := by
  induction h with
  | nil => intro a q; cases q
  | cons h t ih => intro a q; rcases List.mem_cons.1 q with rfl | q; exact h.isd; exact ih a q
theorem callK_fvs {C : Ctx} {d : Bool} {f : FuncId} {args ds : List AV} {H : Heap} {r : AV} {K : AV → Heap → Prop} (hc : callable C.P f = true) (h : Sat C false f ds r) (ha : FVs H args ds) (hd1 : d = true) (hK : K r H) : callK C d f args H K := by
  subst hd1
  exact callK_of false (H' := H) hc h rfl ha.snp ha.own ha.isd hK
theorem PlD.fv {d : AV} (h : PlD d) (H : Heap) : FV H d d := ⟨h.snp H, h.own H, h.isd⟩
theorem fv_nil (H : Heap) : FV H (.v (.slice none 0 0)) (.sl 0 []) := ⟨rfl, trivial, isD_sl (fun c hc => by cases hc)⟩
/-- an own row that is written no more -/
def FZ (sz : Nat) (a : AV) (H : Heap) (cs : List AV) (n : Nat) : Prop := ∃ k, a = .own sz k 0 n ∧ H.getD k ⟨[], false, false⟩ = ⟨cs, true, false⟩ ∧ k < H.length ∧ cs.length = n * sz
theorem FZ.ext {sz : Nat} {H : Heap} (h : FZ sz a H cs n) (x : AObj) : FZ sz a (H ++ [x]) cs n := by
  obtain ⟨k, h1, h2, h3, h4⟩ := h
  exact ⟨k, h1, by rw [getD_hp h3]; exact h2, by simp; omega, h4⟩
theorem FZ.fv {sz : Nat} {H : Heap} (h : FZ sz a H cs n) (e : cs.map snap0 = cs) (hd' : ∀ c ∈ cs, IsD c) : FV H a (.sl n cs) := by
  obtain ⟨k, rfl, h2, h3, h4⟩ := h
  refine ⟨?_, ?_, isD_sl hd'⟩
  · show AV.sl n ((((H.getD k ⟨[], false, false⟩).cells.drop 0).take (n * sz)).map snap0) = _
    rw [h2, List.drop_zero, ← h4, List.take_length, e]
  · show (H.getD k ⟨[], false, false⟩).rd = true ∧ (false = true ∨ (H.getD k ⟨[], false, false⟩).wr = false) ∧ 0 + n * sz ≤ (H.getD k ⟨[], false, false⟩).cells.length
    rw [h2]; exact ⟨rfl, .inr rfl, by show 0 + n * sz ≤ cs.length; omega⟩
theorem RSl.fzA {sz : Nat} {H : Heap} (h : RSl sz a H cs n) (hn : n ≠ 0) : FZ sz a (fzAll H) cs n := by
  rcases h with ⟨_, h, _⟩ | ⟨k, wr, h1, h2, h3, h4⟩
  · exact absurd h hn
  · refine ⟨k, h1, ?_, by simpa [fzAll] using h3, h4⟩
    have := hd_fzAll H k
    unfold hd at this
    rw [this, h2]
def kU : Nat → Cx := fun i => match i with | 0 => zI 1 0 | _ + 1 => zI 2 0
def kV : Nat → Dyadic := fun i => match i with | 0 => dv 1 0 | _ + 1 => dv 0 0
def kF : Po := fun i => if i < 2 then zI 2 0 else zero
theorem kU_cb (i : Nat) : CB (kU i) 64 := by cases i <;> exact zI_db (by decide) (by decide)
theorem kV_db (i : Nat) : DB (kV i) 64 := by cases i <;> exact dI_db (by decide)
theorem kF_pb : PB kF 64 := fun i => by unfold kF; split; exact zI_db (by decide) (by decide); exact CB.zero _
theorem kF_sp : Sp 2 kF := fun k hk => if_neg (by omega)
theorem zI_ne0 {a : Int} (h : a ≠ 0) : zI a 0 ≠ zero := fun e => h (by
  have := congrArg Cx.re e
  exact dv_eq_zero.1 this)
theorem kF_dg : dg 2 kF = 2 := dg_uniq kF_sp kF_sp (.inr (by show kF 1 ≠ zero; unfold kF; rw [if_pos (by decide)]; exact zI_ne0 (by decide)))
theorem k_tls : tls 2 kU kV = tcl (zI 1 0) (dv 1 0) ++ tcl (zI 2 0) (dv 0 0) := by rw [tlsS, tlsS, tls0]; rfl
theorem k_pcl : pcl 2 kF = CIc (zI 2 0) ++ CIc (zI 2 0) := by rw [pclS, pclS, pcl0]; rfl
theorem k_rts : RTs (tls 2 kU kV) 2 kU kV 296 296 := RTs_T (fun i _ => CB.mono (kU_cb i) (by decide)) (fun i _ => (kV_db i).mono (by decide))
theorem k_rp : RP (pcl 2 kF) 2 kF 64 := RP_P kF_pb kF_sp (by decide)
theorem k_may : mayP 2 kU (fun i => rp (kV i)) (dg 2 kF) kF := ⟨dg_le _ _, fun i hi => by
  match i, hi with
  | 0, _ => show hasP (zI 1 0) (rp (dv 1 0)) (zI 2 0); rw [rp_I 1 (by decide)]; exact (hasI _ _ _ _ _).2 (by decide)
  | 1, _ => show hasP (zI 2 0) (rp (dv 0 0)) (zI 2 0); rw [rp_I 0 (by decide)]; exact (hasI _ _ _ _ _).2 (by decide)⟩
theorem k_may0 : ¬ mayP 2 kU (fun i => rp (kV i)) 0 (fun _ => zero) := fun h => by
  have h1 := h.2 1 (by decide)
  have h1 : hasP (zI 2 0) (rp (dv 0 0)) (zI 0 0) := h1
  rw [rp_I 0 (by decide)] at h1
  exact absurd ((hasI _ _ _ _ _).1 h1) (by decide)
theorem k_at : atC 2 kU (zI 1 0) 2 = zI 3 0 := by
  show (zero * zI 1 0 + zI 2 0) * zI 1 0 + zI 1 0 = _
  rw [show zero * zI 1 0 = zI 0 0 from (zI_mul 0 0 1 0).trans rfl, zI_add, zI_mul, zI_add]; rfl
theorem dmx_I (a b : Int) : dmx (dv a 0) (dv b 0) = dv (if b ≤ a then a else b) 0 := by
  unfold dmx
  rw [sign_dI]
  have := sgn_ge0 (z := a - b)
  by_cases h : b ≤ a
  · rw [if_pos (by omega), if_pos h]
  · rw [if_neg (by omega), if_neg h]
theorem k_wide : wide kV 2 = dv 1 0 := by
  show dmx (dmx (dv 0 0) (dv 1 0)) (dv 0 0) = _
  rw [dmx_I, dmx_I]; rfl
theorem k_der : dvC kU 0 = zI 2 0 ∧ dvR kV 0 = dv 0 0 := by
  refine ⟨?_, ?_⟩
  · show (⟨dv 2 0 * dv 1 0, dv 0 0 * dv 1 0⟩ : Cx) = _
    rw [dvm0, dvm0]; rfl
  · show rp (dv 0 0) * dv 1 0 = _
    rw [rp_I 0 (by decide), dvm0]; rfl
theorem x_zerB9 {a b c d e f g h i : Value} : zerosA [a, b, c, d, e, f, g, h, i] 2 = [.v a, .v b, .v c, .v d, .v e, .v f, .v g, .v h, .v i, .v a, .v b, .v c, .v d, .v e, .v f, .v g, .v h, .v i] := by simp [zerosA, List.range_succ]
theorem requal8_y (h : CB z B) (hB : B ≤ 19000) : Sat CT false 13 [CI z, CI z] (Bo true) := by
  have := requal8d h h (by omega) (by omega)
  rwa [decide_eq_true rfl] at this
section
attribute [local go_sem] x_takeT x_lenT x_leafT x_hget2 x_hget3 x_hget4 x_zerA9 x_zerB9
set_option maxHeartbeats 4000000 in
theorem known12_s : Sat CT false 37 [] (Bo true) := by
  refine sat_ofX annuluslaw12_known.ok (by simp) ?_
  have DD := annuluslaw12_known.dr
  simp only [drP, drPx, drPt, drR, drS, drT, bodyOf, Tryz.f37, Nat.reduceEqDiff, reduceIte, true_and, and_true] at DD
  have q11 := of12_s 1 1 (by decide) (by decide)
  have q20 := of12_s 2 0 (by decide) (by decide)
  have q10 := of12_s 1 0 (by decide) (by decide)
  have q00 := of12_s 0 0 (by decide) (by decide)
  have o2 := rof8_sat 2 0 (by decide) (by decide) (by decide) (by decide)
  have o3 := rof8_sat 3 0 (by decide) (by decide) (by decide) (by decide)
  have o1 := rof4_sat 1 (by decide) (by decide)
  have p1 := bat_s k_rts (by decide) ((tI_rt (a := 1) (b := 0) (r := 0) (by decide) (by decide) (by decide)).mono (C := 296) (C' := 296) (by decide) (by decide)) 20 (by decide)
  rw [k_at] at p1
  generalize atR 2 kU (fun i => rp (kV i)) (zI 1 0) (rp (dv 0 0)) (heldP 20) 2 = R at *
  have p2 := bderiv_s k_rts (isD_tls _ _ _) (by decide)
  have eTA : TA (2 - 1) (dvC kU) (dvR kV) = .sl 1 (tcl (zI 2 0) (dv 0 0)) := by unfold TA; rw [tlsS, tls0, k_der.1, k_der.2]; rfl
  rw [eTA] at p2
  have p3 := bhas_s k_rts (isD_tls _ _ _) (by decide) k_rp (isD_pcl _ _) (by decide) (by decide) (by decide)
  rw [decide_eq_true k_may] at p3
  have p4 := bhas_s k_rts (isD_tls _ _ _) (by decide) RP_nil (fun c hc => by cases hc) (by decide) (by decide) (by decide)
  rw [dg0, decide_eq_false k_may0] at p4
  have r00 : RTs (tls 1 (fun _ => zI 0 0) (fun _ => dv 0 0)) 1 (fun _ => zI 0 0) (fun _ => dv 0 0) 64 64 := RTs_T (fun _ _ => zI_db (by decide) (by decide)) (fun _ _ => dI_db (by decide))
  have p5 := bhas_s r00 (isD_tls _ _ _) (by decide) RP_nil (fun c hc => by cases hc) (by decide) (by decide) (by decide)
  rw [dg0, decide_eq_true ⟨by decide, fun i _ => by show hasP (zI 0 0) (rp (dv 0 0)) (zI 0 0); rw [rp_I 0 (by decide)]; exact (hasI _ _ _ _ _).2 (by decide)⟩] at p5
  have p6 := requal8_y (zI_db (a := 3) (b := 0) (by decide) (by decide)) (by decide)
  have p7 := bwide_s k_rts (by decide)
  rw [k_wide] at p7
  have p8 := requal4d (dI_db (v := 1) (by decide)) (dI_db (v := 1) (by decide)) (by decide) (by decide)
  rw [decide_eq_true rfl] at p8
  have p9 := bzero_s k_rts (isD_tls _ _ _) (by decide) (by decide) (by decide)
  rw [decide_eq_false k_may0] at p9
  have e2 := fequal_s (zI_db (a := 2) (b := 0) (by decide) (by decide)) (dI_db (v := 0) (by decide)) (zI_db (a := 2) (b := 0) (by decide) (by decide)) (dI_db (v := 0) (by decide)) (by decide) (by decide) (by decide) (by decide)
  rw [decide_eq_true ⟨rfl, rfl⟩] at e2
  have pA := bof_s k_rp (isD_pcl _ _) (by decide)
  rw [kF_dg] at pA
  have pB := badd_s k_rts (isD_tls _ _ _) (by decide) (RTs_T (n := 0) (u := kU) (v := kV) (fun _ h => by omega) (fun _ h => by omega)) (isD_tls _ _ _) (by decide)
  rw [tls0, show max 2 0 = 2 from rfl] at pB
  unfold TA at pA pB
  unfold aX1
  simp only [bodyOf, aW1, Tryz.f37]
  refine aX_seq aW0_mono ?_
  simp -implicitDefEqProofs only [go_sem, simprocAttr, -Int.reducePow, DD, x_app, x_ga0, x_gas, x_gan, Int.cast_ofNat_Int, eq_self, Int.zero_lt_one, Bool.not_false, Bool.not_true, beq_self_eq_true]
  rw [x_HY]
  refine aX_seq aW0_mono ?_
  simp -implicitDefEqProofs only [go_sem, simprocAttr, -Int.reducePow, DD, x_app, x_ga0, x_gas, x_gan, Int.cast_ofNat_Int, eq_self, Int.zero_lt_one, Bool.not_false, Bool.not_true, beq_self_eq_true]
  refine callK_pl annuluslaw12_of.call (q11) (pl2 pld_int pld_int) ?_
  simp -implicitDefEqProofs only [go_sem, simprocAttr, -Int.reducePow, DD, x_app, x_ga0, x_gas, x_gan, Int.cast_ofNat_Int, eq_self, Int.zero_lt_one, Bool.not_false, Bool.not_true, beq_self_eq_true]
  refine callK_pl annuluslaw12_of.call (q20) (pl2 pld_int pld_int) ?_
  simp -implicitDefEqProofs only [go_sem, simprocAttr, -Int.reducePow, DD, x_app, x_ga0, x_gas, x_gan, Int.cast_ofNat_Int, eq_self, Int.zero_lt_one, Bool.not_false, Bool.not_true, beq_self_eq_true, TI]
  rw [x_HY]
  refine aX_seq aW0_mono ?_
  simp -implicitDefEqProofs only [go_sem, simprocAttr, -Int.reducePow, DD, x_app, x_ga0, x_gas, x_gan, Int.cast_ofNat_Int, eq_self, Int.zero_lt_one, Bool.not_false, Bool.not_true, beq_self_eq_true]
  refine callK_pl annulusref8_Of.call (o2) (pl2 pld_int pld_int) ?_
  simp -implicitDefEqProofs only [go_sem, simprocAttr, -Int.reducePow, DD, x_app, x_ga0, x_gas, x_gan, Int.cast_ofNat_Int, eq_self, Int.zero_lt_one, Bool.not_false, Bool.not_true, beq_self_eq_true]
  refine callK_pl annulusref8_Of.call (o2) (pl2 pld_int pld_int) ?_
  simp -implicitDefEqProofs only [go_sem, simprocAttr, -Int.reducePow, DD, x_app, x_ga0, x_gas, x_gan, Int.cast_ofNat_Int, eq_self, Int.zero_lt_one, Bool.not_false, Bool.not_true, beq_self_eq_true]
  rw [x_HY]
  refine aX_cut aW0_mono (fun σ => ∃ sl H, σ = ⟨sl, H⟩ ∧ RSl 9 (look sl 1) H (tls 2 kU kV) 2 ∧ RSl 6 (look sl 2) H (pcl 2 kF) 2 ∧ ∃ k, look sl 3 = .ptr k 0 ∧ RSl 9 (.own 9 k 0 1) H (tcl (zI 3 0) R) 1) ?_ ?_
  · simp -implicitDefEqProofs only [go_sem, simprocAttr, -Int.reducePow, DD, x_app, x_ga0, x_gas, x_gan, Int.cast_ofNat_Int, eq_self, Int.zero_lt_one, Bool.not_false, Bool.not_true, beq_self_eq_true]
    refine callK_pl annuluslaw12_of.call (q10) (pl2 pld_int pld_int) ?_
    simp -implicitDefEqProofs only [go_sem, simprocAttr, -Int.reducePow, DD, x_app, x_ga0, x_gas, x_gan, Int.cast_ofNat_Int, eq_self, Int.zero_lt_one, Bool.not_false, Bool.not_true, beq_self_eq_true]
    refine callK_ar balls_At.call p1 (.cons (.row (cs := tls 2 kU kV) (.inr ⟨0, true, rfl, by rw [k_tls]; rfl, by simp, tls_len _ _ _⟩) (snap0_tls _ _ _) (isD_tls _ _ _)) (.cons (.pl (pld_TI _ _)) (.cons (.pl pld_int) .nil))) rfl ?_
    intro H1 hk
    have g1 : RSl 9 (.own 9 0 0 2) H1 (tls 2 kU kV) 2 := hk.2 _ _ _ _ (.inr ⟨0, true, rfl, by rw [k_tls]; rfl, by simp, tls_len _ _ _⟩)
    have g2 : RSl 6 (.own 6 1 0 2) H1 (pcl 2 kF) 2 := hk.2 _ _ _ _ (.inr ⟨1, true, rfl, by rw [k_pcl]; rfl, by simp, pcl_len _ _⟩)
    simp -implicitDefEqProofs only [go_sem, simprocAttr, -Int.reducePow, DD, x_app, x_ga0, x_gas, x_gan, Int.cast_ofNat_Int, eq_self, Int.zero_lt_one, Bool.not_false, Bool.not_true, beq_self_eq_true, TI_c]
    exact ⟨_, _, rfl, by simp only [x_look, reduceIte, Nat.reduceEqDiff]; exact g1.ext _, by simp only [x_look, reduceIte, Nat.reduceEqDiff]; exact g2.ext _, _, by simp [x_look], .inr ⟨_, true, rfl, x_hget, by simp, rfl⟩⟩
  rintro _ ⟨sl, H, rfl, g1, g2, k, k3, g3⟩
  refine aX_fz aW0_mono (fun σ => ∃ sl H, σ = ⟨sl, H⟩ ∧ RSl 9 (look sl 1) H (tls 2 kU kV) 2 ∧ RSl 6 (look sl 2) H (pcl 2 kF) 2 ∧ (∃ k, look sl 3 = .ptr k 0 ∧ RSl 9 (.own 9 k 0 1) H (tcl (zI 3 0) R) 1) ∧ look sl 4 = .sl 1 (tcl (zI 2 0) (dv 0 0))) ?_ ?_
  · simp -implicitDefEqProofs only [go_sem, simprocAttr, -Int.reducePow, DD, x_app, x_ga0, x_gas, x_gan, Int.cast_ofNat_Int, eq_self, Int.zero_lt_one, Bool.not_false, Bool.not_true, beq_self_eq_true]
    refine callK_ar balls_Deriv.call p2 (.cons (.row g1 (snap0_tls _ _ _) (isD_tls _ _ _)) .nil) rfl ?_
    intro H1 hk
    have g1 := hk.2 _ _ _ _ g1
    have g2 := hk.2 _ _ _ _ g2
    have g3 := hk.2 _ _ _ _ g3
    simp -implicitDefEqProofs only [go_sem, simprocAttr, -Int.reducePow, DD, x_app, x_ga0, x_gas, x_gan, Int.cast_ofNat_Int, eq_self, Int.zero_lt_one, Bool.not_false, Bool.not_true, beq_self_eq_true]
    exact ⟨_, _, rfl, by simp only [x_look, reduceIte, Nat.reduceEqDiff]; exact g1, by simp only [x_look, reduceIte, Nat.reduceEqDiff]; exact g2, ⟨k, by simp only [x_look, reduceIte, Nat.reduceEqDiff]; exact k3, g3⟩, by simp [x_look]⟩
  clear g1 g2 g3 k3
  rintro _ ⟨sl, H, rfl, g1, g2, ⟨k, k3, g3⟩, k4⟩
  have f1 := g1.fzA (by decide)
  have f2 := g2.fzA (by decide)
  obtain ⟨k', e3, f3, h3, _⟩ := g3.fzA (by decide)
  obtain rfl : k = k' := by injection e3
  clear g1 g2 g3 e3
  simp only
  generalize fzAll H = G at *
  have v1 := f1.fv (snap0_tls _ _ _) (isD_tls _ _ _)
  have v2 := f2.fv (snap0_pcl _ _) (isD_pcl _ _)
  have v1' := fun y => (f1.ext y).fv (snap0_tls _ _ _) (isD_tls _ _ _)
  have v2' := fun y => (f2.ext y).fv (snap0_pcl _ _) (isD_pcl _ _)
  have f3' : ∀ y, (G ++ [y]).getD k ⟨[], false, false⟩ = ⟨tcl (zI 3 0) R, true, false⟩ := fun y => by rw [getD_hp h3]; exact f3
  refine aX_w ?_
  simp -implicitDefEqProofs only [go_sem, simprocAttr, -Int.reducePow, DD, x_app, x_ga0, x_gas, x_gan, Int.cast_ofNat_Int, eq_self, Int.zero_lt_one, Bool.not_false, Bool.not_true, beq_self_eq_true, k3, k4, f3, f3', Int.natCast_one, Int.cast_ofNat_Int]
  refine callK_fvs balls_Has.call p3 (.cons v1 (.cons v2 .nil)) rfl ?_
  simp -implicitDefEqProofs only [go_sem, simprocAttr, -Int.reducePow, DD, x_app, x_ga0, x_gas, x_gan, Int.cast_ofNat_Int, eq_self, Int.zero_lt_one, Bool.not_false, Bool.not_true, beq_self_eq_true, k3, k4, f3, f3', Int.natCast_one, Int.cast_ofNat_Int]
  refine callK_fvs balls_Has.call p4 (.cons v1 (.cons (fv_nil _) .nil)) rfl ?_
  simp -implicitDefEqProofs only [go_sem, simprocAttr, -Int.reducePow, DD, x_app, x_ga0, x_gas, x_gan, Int.cast_ofNat_Int, eq_self, Int.zero_lt_one, Bool.not_false, Bool.not_true, beq_self_eq_true, k3, k4, f3, f3', Int.natCast_one, Int.cast_ofNat_Int]
  refine callK_pl annuluslaw12_of.call (q00) (pl2 pld_int pld_int) ?_
  simp -implicitDefEqProofs only [go_sem, simprocAttr, -Int.reducePow, DD, x_app, x_ga0, x_gas, x_gan, Int.cast_ofNat_Int, eq_self, Int.zero_lt_one, Bool.not_false, Bool.not_true, beq_self_eq_true, k3, k4, f3, f3', Int.natCast_one, Int.cast_ofNat_Int, TI, List.take_succ_cons, List.drop_succ_cons, List.take_zero, List.drop_zero]
  refine callK_fvs balls_Has.call p5 (.cons (FZ.fv (sz := 9) ⟨_, rfl, by rw [x_hget]; rw [tlsS, tls0]; rfl, by simp, tls_len _ _ _⟩ (snap0_tls _ _ _) (isD_tls _ _ _)) (.cons (fv_nil _) .nil)) rfl ?_
  simp -implicitDefEqProofs only [go_sem, simprocAttr, -Int.reducePow, DD, x_app, x_ga0, x_gas, x_gan, Int.cast_ofNat_Int, eq_self, Int.zero_lt_one, Bool.not_false, Bool.not_true, beq_self_eq_true, k3, k4, f3, f3', Int.natCast_one, Int.cast_ofNat_Int, List.take_succ_cons, List.drop_succ_cons, List.take_zero, List.drop_zero]
  refine callK_pl annulusref8_Of.call (o3) (pl2 pld_int pld_int) ?_
  simp -implicitDefEqProofs only [go_sem, simprocAttr, -Int.reducePow, DD, x_app, x_ga0, x_gas, x_gan, Int.cast_ofNat_Int, eq_self, Int.zero_lt_one, Bool.not_false, Bool.not_true, beq_self_eq_true, k3, k4, f3, f3', Int.natCast_one, Int.cast_ofNat_Int, List.take_succ_cons, List.drop_succ_cons, List.take_zero, List.drop_zero, tcl]
  refine callK_pl annulusref8_Equal.call (p6) (pl2 (pld_CI (zI 3 0)) (pld_CI (zI 3 0))) ?_
  simp -implicitDefEqProofs only [go_sem, simprocAttr, -Int.reducePow, DD, x_app, x_ga0, x_gas, x_gan, Int.cast_ofNat_Int, eq_self, Int.zero_lt_one, Bool.not_false, Bool.not_true, beq_self_eq_true, k3, k4, f3, f3', Int.natCast_one, Int.cast_ofNat_Int]
  refine callK_fvs balls_Wide.call p7 (.cons (v1' _) .nil) rfl ?_
  simp -implicitDefEqProofs only [go_sem, simprocAttr, -Int.reducePow, DD, x_app, x_ga0, x_gas, x_gan, Int.cast_ofNat_Int, eq_self, Int.zero_lt_one, Bool.not_false, Bool.not_true, beq_self_eq_true, k3, k4, f3, f3', Int.natCast_one, Int.cast_ofNat_Int]
  refine callK_pl annulusref4_Of.call (o1) (pl1 pld_int) ?_
  simp -implicitDefEqProofs only [go_sem, simprocAttr, -Int.reducePow, DD, x_app, x_ga0, x_gas, x_gan, Int.cast_ofNat_Int, eq_self, Int.zero_lt_one, Bool.not_false, Bool.not_true, beq_self_eq_true, k3, k4, f3, f3', Int.natCast_one, Int.cast_ofNat_Int]
  refine callK_pl annulusref4_Equal.call (p8) (pl2 (pld_DI _) (pld_DI _)) ?_
  simp -implicitDefEqProofs only [go_sem, simprocAttr, -Int.reducePow, DD, x_app, x_ga0, x_gas, x_gan, Int.cast_ofNat_Int, eq_self, Int.zero_lt_one, Bool.not_false, Bool.not_true, beq_self_eq_true, k3, k4, f3, f3', Int.natCast_one, Int.cast_ofNat_Int]
  refine callK_fvs balls_Zero.call p9 (.cons (v1' _) .nil) rfl ?_
  simp -implicitDefEqProofs only [go_sem, simprocAttr, -Int.reducePow, DD, x_app, x_ga0, x_gas, x_gan, Int.cast_ofNat_Int, eq_self, Int.zero_lt_one, Bool.not_false, Bool.not_true, beq_self_eq_true, k3, k4, f3, f3', Int.natCast_one, Int.cast_ofNat_Int, List.take_succ_cons, List.drop_succ_cons, List.take_zero, List.drop_zero, x_lenT, x_takeT]
  refine callK_pl annuluslaw12_of.call (q20) (pl2 pld_int pld_int) ?_
  simp -implicitDefEqProofs only [go_sem, simprocAttr, -Int.reducePow, DD, x_app, x_ga0, x_gas, x_gan, Int.cast_ofNat_Int, eq_self, Int.zero_lt_one, Bool.not_false, Bool.not_true, beq_self_eq_true, k3, k4, f3, f3', Int.natCast_one, Int.cast_ofNat_Int, List.take_succ_cons, List.drop_succ_cons, List.take_zero, List.drop_zero, x_lenT, x_takeT]
  refine callK_pl annulusref8_EqualDisc.call (e2) (pl2 (pld_TI _ _) (pld_TI _ _)) ?_
  simp -implicitDefEqProofs only [go_sem, simprocAttr, -Int.reducePow, DD, x_app, x_ga0, x_gas, x_gan, Int.cast_ofNat_Int, eq_self, Int.zero_lt_one, Bool.not_false, Bool.not_true, beq_self_eq_true, k3, k4, f3, f3', Int.natCast_one, Int.cast_ofNat_Int]
  refine callK_fvs balls_Of.call pA (.cons (v2' _) .nil) rfl ?_
  simp -implicitDefEqProofs only [go_sem, simprocAttr, -Int.reducePow, DD, x_app, x_ga0, x_gas, x_gan, Int.cast_ofNat_Int, eq_self, Int.zero_lt_one, Bool.not_false, Bool.not_true, beq_self_eq_true, k3, k4, f3, f3', Int.natCast_one, Int.cast_ofNat_Int]
  refine callK_fvs balls_Add.call pB (.cons (v1' _) (.cons (fv_nil _) .nil)) rfl ?_
  simp -implicitDefEqProofs only [go_sem, simprocAttr, -Int.reducePow, DD, x_app, x_ga0, x_gas, x_gan, Int.cast_ofNat_Int, eq_self, Int.zero_lt_one, Bool.not_false, Bool.not_true, beq_self_eq_true, k3, k4, f3, f3', Int.natCast_one, Int.cast_ofNat_Int]
end
end Go.Ab
