/- Contracts of this seat's functions (of each call: what it answers), walked over the abstract machine, and the laws of numbers that they want. Conditions: those that each theorem states. -/
import Derived.Test.YtikhbokeaikcpaaGreatDoorM7
import Derived.Test.YtikhbokeaikcpaaGreatDoorE1
import Derived.Test.YtikhbokeaikcpaaGreatDoorAX
import Derived.Test.YtikhbokeaikcpaaGreatDoorM5
set_option linter.unusedVariables false
set_option maxRecDepth 20000
set_option linter.unusedSimpArgs false
set_option linter.unusedSectionVars false
namespace Go.Ab
open Go.Proofs
open Cx (zero one)
attribute [-go_sem] appF newsF
variable {a b : AV} {x y r s t : Dyadic} {z w c d e : Cx} {B C B' C' n m : Nat} {cs : List AV}
/-! rows of discs -/
theorem TI_c (c : Cx) (r : Dyadic) : TI c r = .agg (tcl c r) := rfl
def tls : Nat → (Nat → Cx) → (Nat → Dyadic) → List AV
  | 0, _, _ => []
  | n + 1, u, v => tls n u v ++ tcl (u n) (v n)
theorem tls0 (u : Nat → Cx) (v : Nat → Dyadic) : tls 0 u v = [] := by rw [tls]
theorem tlsS (n : Nat) (u : Nat → Cx) (v : Nat → Dyadic) : tls (n + 1) u v = tls n u v ++ tcl (u n) (v n) := by rw [tls]
theorem tls_len (n : Nat) (u : Nat → Cx) (v : Nat → Dyadic) : (tls n u v).length = n * 9 := by
  induction n with
  | zero => rw [tls0]; rfl
  | succ n ih => rw [tlsS, List.length_append, ih]; show n * 9 + 9 = _; omega
theorem tls_pre (n d : Nat) (u : Nat → Cx) (v : Nat → Dyadic) : ∃ l, tls (n + d) u v = tls n u v ++ l := by
  induction d with
  | zero => exact ⟨[], by simp⟩
  | succ d ih =>
    obtain ⟨l, hl⟩ := ih
    exact ⟨l ++ tcl (u (n + d)) (v (n + d)), by rw [← Nat.add_assoc, tlsS, hl, List.append_assoc]⟩
theorem tls_el {i : Nat} (u : Nat → Cx) (v : Nat → Dyadic) (h : i < n) : ((tls n u v).drop (i * 9)).take 9 = tcl (u i) (v i) := by
  obtain ⟨l, hl⟩ := tls_pre (i + 1) (n - (i + 1)) u v
  rw [show i + 1 + (n - (i + 1)) = n by omega] at hl
  rw [hl, tlsS, List.append_assoc, ← tls_len i u v, List.drop_left]; rfl
def TA (n : Nat) (u : Nat → Cx) (v : Nat → Dyadic) : AV := .sl n (tls n u v)
theorem isD_tcl (c : Cx) (r : Dyadic) : ∀ a ∈ tcl c r, IsD a := fun a ha => by
  simp only [tcl, List.mem_cons, List.not_mem_nil, or_false] at ha
  rcases ha with rfl | rfl | rfl | rfl | rfl | rfl | rfl | rfl | rfl <;> first | exact .v _ | exact isD_u32 _ _
theorem isD_tls (n : Nat) (u : Nat → Cx) (v : Nat → Dyadic) : ∀ a ∈ tls n u v, IsD a := by
  induction n with
  | zero => rw [tls0]; intro a ha; cases ha
  | succ n ih =>
    rw [tlsS]
    intro a ha
    rcases List.mem_append.1 ha with h | h
    · exact ih a h
    · exact isD_tcl _ _ a h
theorem snap0_tls (n : Nat) (u : Nat → Cx) (v : Nat → Dyadic) : (tls n u v).map snap0 = tls n u v := by
  induction n with
  | zero => rw [tls0]; rfl
  | succ n ih => rw [tlsS, List.map_append, ih]; rfl
theorem pld_TA (n : Nat) (u : Nat → Cx) (v : Nat → Dyadic) : PlD (TA n u v) := pld_sl (isD_tls n u v)
theorem isD_TA (n : Nat) (u : Nat → Cx) (v : Nat → Dyadic) : IsD (TA n u v) := isD_sl (isD_tls n u v)
/-- reads as n discs -/
structure RTs (cs : List AV) (n : Nat) (u : Nat → Cx) (v : Nat → Dyadic) (B B' : Nat) : Prop where
  len : cs.length = n * 9
  el : ∀ i, i < n → RT (.agg ((cs.drop (i * 9)).take 9)) (u i) (v i) B B'
variable {u u' : Nat → Cx} {v v' : Nat → Dyadic}
theorem RTs_T (hu : ∀ i, i < n → CB (u i) B) (hv : ∀ i, i < n → DB (v i) B') : RTs (tls n u v) n u v B B' := ⟨tls_len n u v, fun i hi => by rw [tls_el u v hi]; exact RT_T (hu i hi) (hv i hi)⟩
theorem RTs.cells (h : RTs cs n u v B B') {i : Nat} (hi : i < n) : ∃ s l e t k g o p q, (cs.drop (i * 9)).take 9 = [Bo s, U32 l, I64 e, Bo t, U32 k, I64 g, Bo o, U32 p, I64 q] ∧ RT (.agg [Bo s, U32 l, I64 e, Bo t, U32 k, I64 g, Bo o, U32 p, I64 q]) (u i) (v i) B B' := by
  obtain ⟨s, l, e, t, k, g, o, p, q, h0, h1⟩ := h.el i hi
  have h0 := AV.agg.inj h0
  exact ⟨s, l, e, t, k, g, o, p, q, h0, s, l, e, t, k, g, o, p, q, rfl, h1⟩
theorem TI_z : TI zero 0 = .agg [Bo false, .sl 0 [], I64 0, Bo false, .sl 0 [], I64 0, Bo false, .sl 0 [], I64 0] := by
  unfold TI
  rw [show zero.re = 0 from rfl, show zero.im = 0 from rfl, z0a, z0b, de0]
  rfl
end Go.Ab

set_option linter.unusedVariables false
set_option maxRecDepth 20000
set_option linter.unusedSimpArgs false
set_option linter.unusedSectionVars false
namespace Go.Ab
open Go.Proofs
open Cx (zero one)
attribute [-go_sem] appF newsF
variable {a b : AV} {x y r s t : Dyadic} {z w c d e : Cx} {B C B' C' n m P : Nat} {cs : List AV} {u u' : Nat → Cx} {v v' : Nat → Dyadic} {f g : Po}
/-! balls: plain -/
/-- Horner's, of discs -/
def atC (n : Nat) (u : Nat → Cx) (c : Cx) : Nat → Cx
  | 0 => zero
  | j + 1 => atC n u c j * c + u (n - 1 - j)
def atR (n : Nat) (u : Nat → Cx) (v : Nat → Dyadic) (c : Cx) (r : Dyadic) (P : Nat) : Nat → Dyadic
  | 0 => 0
  | j + 1 => mrad (atC n u c j) (atR n u v c r P j) c r P + v (n - 1 - j)
theorem atR_nn (hv : ∀ i, 0 ≤ (v i).toRat) (hr : 0 ≤ r.toRat) (hP : 1 ≤ P) : ∀ j, 0 ≤ (atR n u v c r P j).toRat
  | 0 => by show 0 ≤ (0 : Dyadic).toRat; rw [Dyadic.toRat_zero]; exact Rat.le_refl
  | j + 1 => nn_add (upr_nn hP (mra_nn (atR_nn hv hr hP j) hr hP)) (hv _)
theorem atC_cb (hu : ∀ i, i < n → CB (u i) 296) (hc : CB c 296) : ∀ j, j ≤ n → CB (atC n u c j) (j * 298)
  | 0, _ => CB.zero _
  | j + 1, hj => by
    have ih := atC_cb hu hc j (by omega)
    have h1 := hu (n - 1 - j) (by omega)
    have h2 := ih.mul hc
    have e : (j + 1) * 298 = j * 298 + 298 := Nat.succ_mul ..
    exact ⟨((h2.1.mono (C := j * 298 + 297) (by omega)).add (h1.1.mono (by omega))).mono (by omega), ((h2.2.mono (C := j * 298 + 297) (by omega)).add (h1.2.mono (by omega))).mono (by omega)⟩
theorem atR_db (hu : ∀ i, i < n → CB (u i) 296) (hv : ∀ i, i < n → DB (v i) 296) (hc : CB c 296) (hr : DB r 296) (hP : 1 ≤ P) : ∀ j, j ≤ n → DB (atR n u v c r P j) (j * (P + 601))
  | 0, _ => DB.zero _
  | j + 1, hj => by
    have ih := atR_db hu hv hc hr hP j (by omega)
    have ic := atC_cb hu hc j (by omega)
    have h1 := hv (n - 1 - j) (by omega)
    have e : (j + 1) * (P + 601) = j * (P + 601) + (P + 601) := Nat.succ_mul ..
    have e2 : j * 298 ≤ j * (P + 601) := Nat.mul_le_mul_left j (by omega)
    have := mrad_db ic ih hc hr hP (K := j * (P + 601) + P + 299) (by omega) (by omega) (by omega)
    exact ((this.mono (C := j * (P + 601) + P + 302) (by omega)).add (h1.mono (by omega))).mono (by omega)
/-- a value of what is known exactly -/
theorem mrad_0 : mrad c 0 d 0 P = 0 := by
  have e : mra c 0 d 0 P = 0 := by unfold mra; grind
  unfold mrad upr
  rw [e, if_pos rfl]
theorem atR_0 (hv : ∀ i, v i = 0) : ∀ j, atR n u v c 0 P j = 0
  | 0 => rfl
  | j + 1 => by
    show mrad (atC n u c j) (atR n u v c 0 P j) c 0 P + v (n - 1 - j) = 0
    rw [atR_0 hv j, mrad_0, hv]; grind
theorem atC_ev (f : Po) (c : Cx) (n : Nat) : ∀ j, j ≤ n → atC n f c j = ev j (dp (n - j) f) c
  | 0, _ => by rw [ev0]; rfl
  | j + 1, hj => by
    show atC n f c j * c + f (n - 1 - j) = _
    rw [atC_ev f c n j (by omega), ev_dp, show n - (j + 1) + 1 = n - j by omega, show n - (j + 1) = n - 1 - j by omega]
theorem atC_end (f : Po) (c : Cx) (n : Nat) : atC n f c n = ev n f c := by
  rw [atC_ev f c n n (Nat.le_refl n), Nat.sub_self]; rfl
/-- whether it may be a polynomial -/
def mayP (n : Nat) (u : Nat → Cx) (v : Nat → Dyadic) (d : Nat) (f : Po) : Prop := d ≤ n ∧ ∀ i, i < n → hasP (u i) (v i) (f i)
/-- the greatest radius -/
def wide (v : Nat → Dyadic) : Nat → Dyadic
  | 0 => 0
  | i + 1 => dmx (wide v i) (v i)
theorem wide_0 (h : ∀ i, v i = 0) : ∀ n, wide v n = 0
  | 0 => rfl
  | n + 1 => by
    show dmx (wide v n) (v n) = 0
    rw [wide_0 h n, h]
    unfold dmx; split <;> rfl
theorem has_0 : hasP c 0 w ↔ w = c := by
  rw [has_rat, Dyadic.toRat_zero]
  constructor
  · intro h
    have h0 : Rc.nq (toRc (w - c)) ≤ 0 := by grind
    have h1 := Rc.nq_eq0 h0
    have h2 := congrArg Rc.re h1
    have h3 := congrArg Rc.im h1
    have h2 : (w.re - c.re).toRat = 0 := h2
    have h3 : (w.im - c.im).toRat = 0 := h3
    rw [← Dyadic.toRat_zero, Dyadic.toRat_inj] at h2 h3
    exact Cx.ext' (by grind) (by grind)
  · intro h
    rw [h, nq_self]; grind
/-- times a number -/
def tmz (z : Cx) (x : Dyadic) : Cx := ⟨z.re * x, z.im * x⟩
theorem nat_nn (k : Nat) : 0 ≤ (dv (k : Int) 0).toRat := by
  rw [dv_rat, Rat.zpow_zero, Rat.mul_one]
  exact_mod_cast Int.natCast_nonneg k
end Go.Ab

set_option linter.unusedVariables false
set_option maxRecDepth 20000
set_option linter.unusedSimpArgs false
set_option linter.unusedSectionVars false
namespace Go.Ab
open Go.Proofs
open Cx (zero one)
attribute [-go_sem] appF newsF
variable {a b : AV} {x y r s t : Dyadic} {z w c d e : Cx} {B C B' C' n m P : Nat} {cs ds : List AV} {u u' : Nat → Cx} {v v' : Nat → Dyadic} {f g : Po}
/-! balls: of the code -/
instance (n : Nat) (u : Nat → Cx) (v : Nat → Dyadic) (d : Nat) (f : Po) : Decidable (mayP n u v d f) := by unfold mayP; exact inferInstance
def zc9 : List AV := [Bo false, .v (.slice none 0 0), I64 0, Bo false, .v (.slice none 0 0), I64 0, Bo false, .v (.slice none 0 0), I64 0]
/-- nine cells that read as a disc -/
def Blt (l : List AV) (c : Cx) (r : Dyadic) : Prop := l = tcl c r ∨ (c = zero ∧ r = 0 ∧ l = zc9)
theorem pld_TI (c : Cx) (r : Dyadic) : PlD (TI c r) := by
  refine ⟨isD_agg (isD_tcl c r), fun H => rfl, fun H a ha => ?_, fun H l => rfl⟩
  simp only [List.mem_cons, List.not_mem_nil, or_false] at ha
  rcases ha with rfl | rfl | rfl | rfl | rfl | rfl | rfl | rfl | rfl <;> trivial
theorem Blt.plr {l : List AV} (h : Blt l c r) : PlR (.agg l) (TI c r) := by
  rcases h with rfl | ⟨rfl, rfl, rfl⟩
  · exact (pld_TI c r).r
  · refine ⟨(pld_TI zero 0).isd, fun H => by rw [TI_z]; rfl, fun H c hc => ?_, fun H l => rfl⟩
    simp only [zc9, List.mem_cons, List.not_mem_nil, or_false] at hc
    rcases hc with rfl | rfl | rfl | rfl | rfl | rfl | rfl | rfl | rfl <;> trivial
theorem Blt.len {l : List AV} (h : Blt l c r) : l.length = 9 := by rcases h with rfl | ⟨_, _, rfl⟩ <;> rfl
theorem Blt.take {l : List AV} (h : Blt l c r) : l.take 9 = l := List.take_of_length_le (Nat.le_of_eq h.len)
theorem pld_RT (h : RT a c r B B') : PlD a := by
  obtain ⟨n, l, e, m, k, f, o, p, q, rfl, _⟩ := h
  refine ⟨isD_agg (fun a ha => ?_), fun H => rfl, fun H a ha => ?_, fun H l => rfl⟩
  · simp only [List.mem_cons, List.not_mem_nil, or_false] at ha
    rcases ha with rfl | rfl | rfl | rfl | rfl | rfl | rfl | rfl | rfl <;> first | exact .v _ | exact isD_u32 _ _
  · simp only [List.mem_cons, List.not_mem_nil, or_false] at ha
    rcases ha with rfl | rfl | rfl | rfl | rfl | rfl | rfl | rfl | rfl <;> trivial
theorem x_takeT {c : Cx} {r : Dyadic} : (tcl c r).take 9 = tcl c r := rfl
theorem x_lenT {c : Cx} {r : Dyadic} : (tcl c r).length = 9 := rfl
theorem x_leafT {c : Cx} {r : Dyadic} : (tcl c r).all leafA = true := rfl
theorem x_cellsTI {c : Cx} {r : Dyadic} : cellsA (TI c r) = some (tcl c r) := rfl
theorem x_zerA9 {a b c d e f g h i : Value} : zerosA [a, b, c, d, e, f, g, h, i] 1 = [.v a, .v b, .v c, .v d, .v e, .v f, .v g, .v h, .v i] := rfl
theorem x_hget2 {H : Heap} {x y d : AObj} : ((H ++ [x]) ++ [y]).getD H.length d = x := by simp [List.getD_eq_getElem?_getD]
theorem x_hget3 {H : Heap} {x y d : AObj} : (H ++ [x, y]).getD H.length d = x := by simp [List.getD_eq_getElem?_getD]
theorem x_hget4 {H : Heap} {x y d : AObj} : (H ++ [x, y]).getD (H.length + 1) d = y := by simp [List.getD_eq_getElem?_getD]
theorem ASl.lastT {H : Heap} {k i : Nat} (h : H.getD k ⟨[], false, false⟩ = ⟨tls i u v ++ tcl (u i) (v i), true, true⟩) (hl : H.length = k + 1) : ASl 9 (.own 9 k 0 (i + 1)) H (tls (i + 1) u v) (i + 1) :=
  ASl.last (by rw [tlsS]; exact h) hl (tls_len _ _ _)
theorem ret_ASt {H : Heap} (h : ASl 9 a H (tls n u v) n) : ownOK H true a ∧ IsD (TA n u v) ∧ snap H a = TA n u v := by
  rcases h with ⟨rfl, rfl, _⟩ | ⟨k, rfl, h2, h3, h4⟩
  · exact ⟨trivial, isD_TA 0 u v, by unfold TA; rw [tls0]; rfl⟩
  · refine ⟨?_, isD_TA n u v, ?_⟩
    · simp only [ownOK, hd, h2]
      exact ⟨trivial, .inl trivial, by omega⟩
    · simp only [snap, hd, h2, List.drop_zero]
      rw [← h4, List.take_length, snap0_tls]; rfl
section
attribute [local go_sem] x_takeT x_lenT x_leafT x_cellsTI x_hget2 x_hget3 x_hget4 x_zerA9
theorem bhas_s (h : RTs cs n u v B B') (hcs : ∀ c ∈ cs, IsD c) (hn : n ≤ 1000000) (g : RP ds m f C) (hds : ∀ c ∈ ds, IsD c) (hB : B ≤ 8000) (hC : C ≤ 8000) (hB' : B' ≤ 9000) :
    Sat CT false 45 [.sl n cs, .sl m ds] (Bo (decide (mayP n u (fun i => rp (v i)) (dg m f) f))) := by
  refine sat_of balls_Has.ok (by simp) ?_
  have DD := balls_Has.dr
  simp only [drP, drPx, drPt, drR, drS, drT, bodyOf, Tryz.f45, Nat.reduceEqDiff, reduceIte, true_and, and_true] at DD
  have hlen := h.len
  have hm := g.small
  have hle := dg_le m f
  have q := ptrim_s g (by omega)
  have hfb := g.pb
  have hsp : Sp (dg m f) f := dg_sp g.sp
  generalize dg m f = d at *
  simp -implicitDefEqProofs only [go_sem, simprocAttr, -Int.reducePow, Tryz.f45, DD, x_app, x_ga0, x_gas, x_gan, Int.cast_ofNat_Int, eq_self, Int.zero_lt_one, Bool.not_false, Bool.not_true, beq_self_eq_true]
  refine callK_pl poly_Trim.call (q) (pl1 (pld_sl hds)) ?_
  by_cases c0 : (n : Int) < (d : Int)
  · rw [decide_eq_false (fun (p : mayP n u (fun i => rp (v i)) d f) => absurd p.1 (by omega))]
    simp -implicitDefEqProofs only [go_sem, simprocAttr, -Int.reducePow, DD, x_app, x_ga0, x_gas, x_gan, Int.cast_ofNat_Int, eq_self, Int.zero_lt_one, Bool.not_false, Bool.not_true, beq_self_eq_true, PA, c0, gt_iff_lt]
  · simp -implicitDefEqProofs only [go_sem, simprocAttr, -Int.reducePow, DD, x_app, x_ga0, x_gas, x_gan, Int.cast_ofNat_Int, eq_self, Int.zero_lt_one, Bool.not_false, Bool.not_true, beq_self_eq_true, PA, c0, gt_iff_lt]
    refine loop_of aW0_mono (fun k σ => ∃ sl H i, σ = ⟨sl, H⟩ ∧ k = n - i ∧ i ≤ n ∧ look sl 1 = .sl d (pcl d f) ∧ look sl 15 = .sl n cs ∧ look sl 16 = I64 (n : Nat) ∧ look sl 17 = I64 (i : Nat) ∧ ∀ j, j < i → hasP (u j) (rp (v j)) (f j)) ?_ (n := n)
      ⟨_, _, 0, rfl, rfl, Nat.zero_le _, by simp [x_look], by simp [x_look], by simp [x_look], by simp [x_look], fun j hj => by omega⟩
    rintro k _ ⟨sl, H, i, rfl, rfl, hi, k1, k15, k16, k17, hall⟩
    by_cases hid : i = n
    · subst hid
      rw [decide_eq_true (show mayP i u (fun i => rp (v i)) d f from ⟨by omega, hall⟩)]
      simp -implicitDefEqProofs only [go_sem, simprocAttr, -Int.reducePow, DD, x_app, x_ga0, x_gas, x_gan, Int.cast_ofNat_Int, eq_self, Int.zero_lt_one, Bool.not_false, Bool.not_true, beq_self_eq_true, k1, k15, k16, k17, Int.lt_irrefl]
    · have c1 : (i : Int) < (n : Int) := by omega
      have c2 : (0 : Int) ≤ (i : Int) := by omega
      have c3 : IntKind.i64.wrap ((i : Int) + 1) = ((i + 1 : Nat) : Int) := by rw [wrap_id (by omega)]; omega
      have c4 : i * 9 < cs.length := by omega
      have c5 : i * 9 + 9 ≤ cs.length := by omega
      obtain ⟨s, l, e, t, k, gg, o, p, qq, hc, hr⟩ := h.cells (i := i) (by omega)
      have q1 := dhas_s hr (RC_C (hfb i)) (by omega) (by omega) (by omega)
      by_cases hh : hasP (u i) (rp (v i)) (f i)
      · rw [decide_eq_true hh] at q1
        have hnext : ∀ j, j < i + 1 → hasP (u j) (rp (v j)) (f j) := fun j hj => by
          by_cases e : j = i
          · rw [e]; exact hh
          · exact hall j (by omega)
        by_cases hid2 : i < d
        · have d1 : (i : Int) < (d : Int) := by omega
          have d4 : i * 6 < d * 6 := by omega
          have d5 : i * 6 + 6 ≤ d * 6 := by omega
          have hc2 := pcl_el f hid2
          have hL := pcl_len d f
          simp -implicitDefEqProofs only [go_sem, simprocAttr, -Int.reducePow, DD, x_app, x_ga0, x_gas, x_gan, Int.cast_ofNat_Int, eq_self, Int.zero_lt_one, Bool.not_false, Bool.not_true, beq_self_eq_true, k1, k15, k16, k17, c1, c2, c3, c4, c5, hc, d1, d4, d5, hc2, hL]
          refine callK_pl disc_Has.call (q1) (pl2 (pld_RT hr) (pld_CI _)) ?_
          simp -implicitDefEqProofs only [go_sem, simprocAttr, -Int.reducePow, DD, x_app, x_ga0, x_gas, x_gan, Int.cast_ofNat_Int, eq_self, Int.zero_lt_one, Bool.not_false, Bool.not_true, beq_self_eq_true, k1, k15, k16, k17, c1, c2, c3, c4, c5, hc, d1, d4, d5, hc2, hL]
          exact ⟨n - (i + 1), by omega, _, _, i + 1, rfl, rfl, by omega, by simp [x_look, k1], by simp [x_look, k15], by simp [x_look, k16], by simp [x_look], hnext⟩
        · have d1 : ¬ (i : Int) < (d : Int) := by omega
          have e0 : f i = zero := hsp i (by omega)
          simp -implicitDefEqProofs only [go_sem, simprocAttr, -Int.reducePow, DD, x_app, x_ga0, x_gas, x_gan, Int.cast_ofNat_Int, eq_self, Int.zero_lt_one, Bool.not_false, Bool.not_true, beq_self_eq_true, k1, k15, k16, k17, c1, c2, c3, c4, c5, hc, d1]
          refine callK_pr disc_Has.call q1 (.cons (pld_RT hr).r (.cons (Blk.plr (.inr ⟨e0, rfl⟩)) .nil)) ?_
          simp -implicitDefEqProofs only [go_sem, simprocAttr, -Int.reducePow, DD, x_app, x_ga0, x_gas, x_gan, Int.cast_ofNat_Int, eq_self, Int.zero_lt_one, Bool.not_false, Bool.not_true, beq_self_eq_true, k1, k15, k16, k17, c1, c2, c3, c4, c5, hc, d1]
          exact ⟨n - (i + 1), by omega, _, _, i + 1, rfl, rfl, by omega, by simp [x_look, k1], by simp [x_look, k15], by simp [x_look, k16], by simp [x_look], hnext⟩
      · rw [decide_eq_false hh] at q1
        rw [decide_eq_false (fun (p : mayP n u (fun i => rp (v i)) d f) => hh (p.2 i (by omega)))]
        by_cases hid2 : i < d
        · have d1 : (i : Int) < (d : Int) := by omega
          have d4 : i * 6 < d * 6 := by omega
          have d5 : i * 6 + 6 ≤ d * 6 := by omega
          have hc2 := pcl_el f hid2
          have hL := pcl_len d f
          simp -implicitDefEqProofs only [go_sem, simprocAttr, -Int.reducePow, DD, x_app, x_ga0, x_gas, x_gan, Int.cast_ofNat_Int, eq_self, Int.zero_lt_one, Bool.not_false, Bool.not_true, beq_self_eq_true, k1, k15, k16, k17, c1, c2, c3, c4, c5, hc, d1, d4, d5, hc2, hL]
          refine callK_pl disc_Has.call (q1) (pl2 (pld_RT hr) (pld_CI _)) ?_
          simp -implicitDefEqProofs only [go_sem, simprocAttr, -Int.reducePow, DD, x_app, x_ga0, x_gas, x_gan, Int.cast_ofNat_Int, eq_self, Int.zero_lt_one, Bool.not_false, Bool.not_true, beq_self_eq_true, k1, k15, k16, k17, c1, c2, c3, c4, c5, hc, d1, d4, d5, hc2, hL]
        · have d1 : ¬ (i : Int) < (d : Int) := by omega
          have e0 : f i = zero := hsp i (by omega)
          simp -implicitDefEqProofs only [go_sem, simprocAttr, -Int.reducePow, DD, x_app, x_ga0, x_gas, x_gan, Int.cast_ofNat_Int, eq_self, Int.zero_lt_one, Bool.not_false, Bool.not_true, beq_self_eq_true, k1, k15, k16, k17, c1, c2, c3, c4, c5, hc, d1]
          refine callK_pr disc_Has.call q1 (.cons (pld_RT hr).r (.cons (Blk.plr (.inr ⟨e0, rfl⟩)) .nil)) ?_
          simp -implicitDefEqProofs only [go_sem, simprocAttr, -Int.reducePow, DD, x_app, x_ga0, x_gas, x_gan, Int.cast_ofNat_Int, eq_self, Int.zero_lt_one, Bool.not_false, Bool.not_true, beq_self_eq_true, k1, k15, k16, k17, c1, c2, c3, c4, c5, hc, d1]
theorem RP_nil : RP [] 0 (fun _ => zero) 0 := ⟨rfl, fun i hi => absurd hi (Nat.not_lt_zero i), fun i _ => rfl, by decide⟩
theorem bzero_s (h : RTs cs n u v B B') (hcs : ∀ c ∈ cs, IsD c) (hn : n ≤ 1000000) (hB : B ≤ 8000) (hB' : B' ≤ 9000) :
    Sat CT false 46 [.sl n cs] (Bo (decide (mayP n u (fun i => rp (v i)) 0 (fun _ => zero)))) := by
  refine sat_of balls_Zero.ok (by simp) ?_
  have DD := balls_Zero.dr
  simp only [drP, drPx, drPt, drR, drS, drT, bodyOf, Tryz.f46, Nat.reduceEqDiff, reduceIte, true_and, and_true] at DD
  have q1 := bhas_s h hcs hn RP_nil (fun c hc => by cases hc) hB (Nat.zero_le _) hB'
  rw [dg0] at q1
  simp -implicitDefEqProofs only [go_sem, simprocAttr, -Int.reducePow, Tryz.f46, DD, x_app, x_ga0, x_gas, x_gan, Int.cast_ofNat_Int, eq_self, Int.zero_lt_one, Bool.not_false, Bool.not_true, beq_self_eq_true]
  refine callK_ar balls_Has.call (q1) (.cons (.pl (pld_sl hcs)) (.cons .none .nil)) rfl ?_
  intro H' _
  simp -implicitDefEqProofs only [go_sem, simprocAttr, -Int.reducePow, DD, x_app, x_ga0, x_gas, x_gan, Int.cast_ofNat_Int, eq_self, Int.zero_lt_one, Bool.not_false, Bool.not_true, beq_self_eq_true]
theorem bof_s (g : RP ds m f C) (hds : ∀ c ∈ ds, IsD c) (hC : C ≤ 19000) : Sat CT false 58 [.sl m ds] (TA (dg m f) f (fun _ => 0)) := by
  refine sat_of balls_Of.ok (by simp) ?_
  have DD := balls_Of.dr
  simp only [drP, drPx, drPt, drR, drS, drT, bodyOf, Tryz.f58, Nat.reduceEqDiff, reduceIte, true_and, and_true] at DD
  have hm := g.small
  have hle := dg_le m f
  have q := ptrim_s g (by omega)
  have hfb := g.pb
  generalize dg m f = d at *
  have hL := pcl_len d f
  simp -implicitDefEqProofs only [go_sem, simprocAttr, -Int.reducePow, Tryz.f58, DD, x_app, x_ga0, x_gas, x_gan, Int.cast_ofNat_Int, eq_self, Int.zero_lt_one, Bool.not_false, Bool.not_true, beq_self_eq_true]
  refine callK_pl poly_Trim.call (q) (pl1 (pld_sl hds)) ?_
  simp -implicitDefEqProofs only [go_sem, simprocAttr, -Int.reducePow, DD, x_app, x_ga0, x_gas, x_gan, Int.cast_ofNat_Int, eq_self, Int.zero_lt_one, Bool.not_false, Bool.not_true, beq_self_eq_true, PA]
  refine loop_of aW0_mono (fun k σ => ∃ sl H i, σ = ⟨sl, H⟩ ∧ k = d - i ∧ i ≤ d ∧ look sl 7 = .sl d (pcl d f) ∧ look sl 8 = I64 (d : Nat) ∧ look sl 9 = I64 (i : Nat) ∧ ASl 9 (look sl 3) H (tls i f (fun _ => 0)) i) ?_ (n := d)
    ⟨_, _, 0, rfl, rfl, Nat.zero_le _, by simp [x_look], by simp [x_look], by simp [x_look], by simp [x_look, tls0, ASl.nil]⟩
  rintro k _ ⟨sl, H, i, rfl, rfl, hi, k7, k8, k9, hA⟩
  by_cases hid : i = d
  · subst hid
    simp -implicitDefEqProofs only [go_sem, simprocAttr, -Int.reducePow, DD, x_app, x_ga0, x_gas, x_gan, Int.cast_ofNat_Int, eq_self, Int.zero_lt_one, Bool.not_false, Bool.not_true, beq_self_eq_true, k7, k8, k9, Int.lt_irrefl]
    have hr := ret_ASt hA
    refine ⟨?_, hr.2⟩
    have h1 := hr.1
    clear hr hA k7 k8 k9
    generalize look sl 3 = av at *
    cases av <;> simp_all [ownOK, own1, hd]
  · have c1 : (i : Int) < (d : Int) := by omega
    have c2 : (0 : Int) ≤ (i : Int) := by omega
    have c3 : IntKind.i64.wrap ((i : Int) + 1) = ((i + 1 : Nat) : Int) := by rw [wrap_id (by omega)]; omega
    have c4 : i * 6 < d * 6 := by omega
    have c5 : i * 6 + 6 ≤ d * 6 := by omega
    have hc := pcl_el f (show i < d by omega)
    have q1 := dofc_s (RC_C (hfb i)) (by omega)
    simp -implicitDefEqProofs only [go_sem, simprocAttr, -Int.reducePow, DD, x_app, x_ga0, x_gas, x_gan, Int.cast_ofNat_Int, eq_self, Int.zero_lt_one, Bool.not_false, Bool.not_true, beq_self_eq_true, k7, k8, k9, c1, c2, c3, c4, c5, hc, hL]
    refine callK_pl disc_Of.call (q1) (pl1 (pld_CI _)) ?_
    simp -implicitDefEqProofs only [go_sem, simprocAttr, -Int.reducePow, DD, x_app, x_ga0, x_gas, x_gan, Int.cast_ofNat_Int, eq_self, Int.zero_lt_one, Bool.not_false, Bool.not_true, beq_self_eq_true, k7, k8, k9, c1, c2, c3, c4, c5, hc, hL, TI]
    refine app_step (P := Tryz.prog) tk44 rfl tk47 tk44 rfl rfl (by decide) (n := i) (m := 1) ((hA.ext _).ext _) (.inl ⟨rfl, x_hget⟩) rfl (by decide) rfl (Nat.le_trans (Nat.mul_le_mul_right _ (show i + 1 ≤ 1000001 by omega)) (by decide)) (by omega) ?_
    intro H' hg hl' hk'
    simp -implicitDefEqProofs only [go_sem, simprocAttr, -Int.reducePow, DD, x_app, x_ga0, x_gas, x_gan, Int.cast_ofNat_Int, eq_self, Int.zero_lt_one, Bool.not_false, Bool.not_true, beq_self_eq_true, k7, k8, k9, c1, c2, c3, c4, c5, hc, hL]
    exact ⟨d - (i + 1), by omega, _, _, i + 1, rfl, rfl, by omega, by simp [x_look, k7], by simp [x_look, k8], by simp [x_look], by simp only [x_look, reduceIte, Nat.reduceEqDiff]; exact ASl.lastT (u := f) (v := fun _ => 0) hg hl'⟩
end
end Go.Ab

set_option linter.unusedVariables false
set_option maxRecDepth 20000
set_option linter.unusedSimpArgs false
set_option linter.unusedSectionVars false
namespace Go.Ab
open Go.Proofs
open Cx (zero one)
attribute [-go_sem] appF newsF
variable {a b : AV} {x y r s t : Dyadic} {z w c d e : Cx} {B C B' C' n m P : Nat} {cs ds : List AV} {u u' : Nat → Cx} {v v' : Nat → Dyadic} {f g : Po}
/-! balls: of the code, more -/
def bsC (n m : Nat) (u u' : Nat → Cx) (i : Nat) : Cx := (if i < n then u i else zero) + (if i < m then u' i else zero)
def bsR (n m : Nat) (v v' : Nat → Dyadic) (i : Nat) : Dyadic := (if i < n then rp (v i) else 0) + (if i < m then rp (v' i) else 0)
theorem bsC_comm (n m : Nat) (u u' : Nat → Cx) : bsC m n u' u = bsC n m u u' := funext fun i => Cx.ext' (Dyadic.add_comm _ _) (Dyadic.add_comm _ _)
theorem bsR_comm (n m : Nat) (v v' : Nat → Dyadic) : bsR m n v' v = bsR n m v v' := funext fun i => Dyadic.add_comm _ _
theorem zer_len9 (N : Nat) {a b c d e f g h i : Value} : (zerosA [a, b, c, d, e, f, g, h, i] N).length = N * 9 := by simp [zerosA]
theorem spl_row9 {cells : List AV} {N i : Nat} (hl : cells.length = N * 9) (ht : cells.take (i * 9) = tls i u v) (hi : i < N) : (spl cells (i * 9) (tcl (u i) (v i))).length = N * 9 ∧ (spl cells (i * 9) (tcl (u i) (v i))).take ((i + 1) * 9) = tls (i + 1) u v := by
  have h9 : (tcl (u i) (v i)).length = 9 := rfl
  unfold spl
  refine ⟨?_, ?_⟩
  · rw [List.length_append, List.length_append, List.length_take, List.length_drop, h9]; omega
  · rw [ht, ← tlsS, List.take_append_of_le_length (by rw [tls_len]; exact Nat.le_refl _), List.take_of_length_le (by rw [tls_len]; exact Nat.le_refl _)]
theorem row_end9 {cells : List AV} {N : Nat} (hl : cells.length = N * 9) (ht : cells.take (N * 9) = tls N u v) : cells = tls N u v := by rw [← ht, ← hl, List.take_length]
section
attribute [local go_sem] x_takeT x_lenT x_leafT x_cellsTI x_hget2 x_hget3 x_hget4 x_zerA9 List.cons_append List.length_cons List.set_cons_succ List.getD_cons_succ List.getD_cons_zero List.set_cons_zero
set_option maxHeartbeats 1000000 in
theorem bat_s (h : RTs cs n u v 296 296) (hn : n ≤ 10) (g : RT a c r 296 296) (p : Int) (hp : heldP p ≤ 260) :
    Sat CT false 49 [.sl n cs, a, I64 p] (TI (atC n u c n) (atR n u (fun i => rp (v i)) c (rp r) (heldP p) n)) := by
  refine sat_of balls_At.ok (by simp) ?_
  have DD := balls_At.dr
  simp only [drP, drPx, drPt, drR, drS, drT, bodyOf, Tryz.f49, Nat.reduceEqDiff, reduceIte, true_and, and_true] at DD
  have hlen := h.len
  have hP1 := (heldP_v p).2.2.1
  have hub : ∀ i, i < n → CB (u i) 296 := fun i hi => (h.el i hi).cb
  have hvb : ∀ i, i < n → DB (rp (v i)) 296 := fun i hi => rp_db (h.el i hi).db
  have hcb := g.cb
  have hrb := rp_db g.db
  have hvn : ∀ i, 0 ≤ (rp (v i)).toRat := fun i => rp_nn _
  have hrn := rp_nn r
  obtain ⟨P, hPe⟩ : ∃ P, heldP p = P := ⟨_, rfl⟩
  rw [hPe] at hp hP1 ⊢
  have aC : ∀ j, j ≤ n → CB (atC n u c j) 2980 := fun j hj => (atC_cb hub hcb j hj).mono (by omega)
  have aR : ∀ j, j ≤ n → DB (atR n u (fun i => rp (v i)) c (rp r) P j) (j * 861) := fun j hj => (atR_db hub hvb hcb hrb hP1 j hj).mono (Nat.mul_le_mul_left j (by omega))
  have aN := atR_nn (n := n) (u := u) (c := c) (v := fun i => rp (v i)) hvn hrn hP1
  have g0 := g
  have step : ∀ k, k < n → ∀ b, RT b (u k) (v k) 296 296 → Sat CT false 90 [TI (atC n u c (n - (k + 1))) (atR n u (fun i => rp (v i)) c (rp r) P (n - (k + 1))), a, I64 p] (TI (atC n u c (n - (k + 1)) * c) (mrad (atC n u c (n - (k + 1))) (atR n u (fun i => rp (v i)) c (rp r) P (n - (k + 1))) c (rp r) P)) ∧ Sat CT false 89 [TI (atC n u c (n - (k + 1)) * c) (mrad (atC n u c (n - (k + 1))) (atR n u (fun i => rp (v i)) c (rp r) P (n - (k + 1))) c (rp r) P), b] (TI (atC n u c (n - k)) (atR n u (fun i => rp (v i)) c (rp r) P (n - k))) := by
    intro k hk b hr
    have b1 := aC (n - (k + 1)) (by omega)
    have b2 := (aR (n - (k + 1)) (by omega)).mono (C := 7749) (Nat.le_trans (Nat.mul_le_mul_right _ (show n - (k + 1) ≤ 9 by omega)) (by decide))
    have n2 := aN (n - (k + 1))
    have q1 := dmuls_s (RT_T b1 b2) g (by decide) (by decide) (by decide) (by decide) p (K := 9000) (by omega) (by omega) (by decide) (by decide)
    have b3 := mrad_db b1 b2 hcb hrb hP1 (K := 9000) (by omega) (by omega) (by decide)
    have b4 := b1.mul hcb
    have n3 : 0 ≤ (mrad (atC n u c (n - (k + 1))) (atR n u (fun i => rp (v i)) c (rp r) P (n - (k + 1))) c (rp r) P).toRat := upr_nn hP1 (mra_nn n2 hrn hP1)
    have q2 := dadds_s (RT_T (B := 3300) ⟨b4.1.mono (by omega), b4.2.mono (by omega)⟩ b3) hr (by decide) (by decide) (by decide) (by decide)
    rw [rp_id n2, hPe] at q1
    rw [rp_id n3] at q2
    refine ⟨q1, ?_⟩
    have e1 : n - k = n - (k + 1) + 1 := by omega
    have e2 : n - 1 - (n - (k + 1)) = k := by omega
    have e3 : atC n u c (n - k) = atC n u c (n - (k + 1)) * c + u k := by rw [e1]; show _ * c + u (n - 1 - (n - (k + 1))) = _; rw [e2]
    have e4 : atR n u (fun i => rp (v i)) c (rp r) P (n - k) = mrad (atC n u c (n - (k + 1))) (atR n u (fun i => rp (v i)) c (rp r) P (n - (k + 1))) c (rp r) P + rp (v k) := by rw [e1]; show mrad _ _ c (rp r) P + rp (v (n - 1 - (n - (k + 1)))) = _; rw [e2]
    rw [e3, e4]
    exact q2
  obtain ⟨s, l, e, t, kk, gg, o, q, qq, rfl, _⟩ := g
  have hb : Blt zc9 (atC n u c (n - n)) (atR n u (fun i => rp (v i)) c (rp r) P (n - n)) := .inr ⟨by rw [Nat.sub_self]; rfl, by rw [Nat.sub_self]; rfl, rfl⟩
  simp -implicitDefEqProofs only [go_sem, simprocAttr, -Int.reducePow, Tryz.f49, DD]
  refine scope_inv aW0_mono (aW_mono aW0_mono) 0 rfl (fun k σ => ∃ sl l2, σ = ⟨sl, [⟨[Bo s, U32 l, I64 e, Bo t, U32 kk, I64 gg, Bo o, U32 q, I64 qq], true, true⟩, ⟨zc9, true, true⟩, ⟨l2, true, true⟩]⟩ ∧ k ≤ n ∧ look sl 0 = .sl n cs ∧ look sl 2 = I64 p ∧ look sl 4 = .ptr 0 0 ∧ look sl 6 = .ptr 1 0 ∧ look sl 7 = .ptr 2 0 ∧ look sl 8 = I64 (k : Nat) ∧ Blt l2 (atC n u c (n - k)) (atR n u (fun i => rp (v i)) c (rp r) P (n - k))) (fun k σ hσ => ?_) (n := n) ?_
  · obtain ⟨sl, l2, rfl, hk, k0, k2, k4, k6, k7, k8, hb⟩ := hσ
    cases k with
    | zero =>
      have c1 : IntKind.i64.wrap (-1) = -1 := rfl
      rw [Nat.sub_zero] at hb
      rcases hb with rfl | ⟨h1, h2, rfl⟩
      · simp -implicitDefEqProofs only [go_sem, simprocAttr, -Int.reducePow, DD, x_app, x_ga0, x_gas, x_gan, Int.cast_ofNat_Int, eq_self, Int.zero_lt_one, Bool.not_false, Bool.not_true, beq_self_eq_true, WI, IA, DI, DA, CI, k0, k2, k4, k6, k7, k8, c1, zc9, tcl, TI, x_gp0, x_gp1, x_gp2, x_gp3]
      · rw [h1, h2, TI_z]
        simp -implicitDefEqProofs only [go_sem, simprocAttr, -Int.reducePow, DD, x_app, x_ga0, x_gas, x_gan, Int.cast_ofNat_Int, eq_self, Int.zero_lt_one, Bool.not_false, Bool.not_true, beq_self_eq_true, WI, IA, DI, DA, CI, k0, k2, k4, k6, k7, k8, c1, zc9, x_gp0, x_gp1, x_gp2, x_gp3]
    | succ k =>
      obtain ⟨s', l', e', t', k', gg', o', p', qq', hc, hr⟩ := h.cells (i := k) (by omega)
      obtain ⟨q1, q2⟩ := step k (by omega) _ hr
      have c1 : IntKind.i64.wrap (((k + 1 : Nat) : Int) - 1) = (k : Int) := by rw [wrap_id (by omega)]; omega
      have c0 : ¬ (k : Int) < 0 := by omega
      have c2 : (0 : Int) ≤ (k : Int) := by omega
      have c3 : (k : Int) < (n : Int) := by omega
      have c4 : k * 9 < cs.length := by omega
      have c5 : k * 9 + 9 ≤ cs.length := by omega
      have hl2 := hb.len
      have ht2 := hb.take
      simp -implicitDefEqProofs only [go_sem, simprocAttr, -Int.reducePow, DD, x_app, x_ga0, x_gas, x_gan, Int.cast_ofNat_Int, eq_self, Int.zero_lt_one, Bool.not_false, Bool.not_true, beq_self_eq_true, k0, k2, k4, k6, k7, k8, c0, c1, c2, c3, c4, c5, hl2, ht2, hc, x_gp0, x_gp1, x_gp2, x_gp3]
      refine callK_pr disc_Mul.call q1 (.cons hb.plr (.cons (pld_RT g0).r (.cons pld_int.r .nil))) ?_
      simp -implicitDefEqProofs only [go_sem, simprocAttr, -Int.reducePow, DD, x_app, x_ga0, x_gas, x_gan, Int.cast_ofNat_Int, eq_self, Int.zero_lt_one, Bool.not_false, Bool.not_true, beq_self_eq_true, k0, k2, k4, k6, k7, k8, c0, c1, c2, c3, c4, c5, hl2, ht2, hc, x_gp0, x_gp1, x_gp2, x_gp3]
      refine callK_pr disc_Add.call q2 (.cons (pld_TI _ _).r (.cons (pld_RT hr).r .nil)) ?_
      simp -implicitDefEqProofs only [go_sem, simprocAttr, -Int.reducePow, DD, x_app, x_ga0, x_gas, x_gan, Int.cast_ofNat_Int, eq_self, Int.zero_lt_one, Bool.not_false, Bool.not_true, beq_self_eq_true, TI_c, k0, k2, k4, k6, k7, k8, c0, c1, c2, c3, c4, c5, hl2, ht2, hc, x_gp0, x_gp1, x_gp2, x_gp3]
      exact ⟨k, by omega, _, _, rfl, by omega, by simp [x_look, k0], by simp [x_look, k2], by simp [x_look, k4], by simp [x_look, k6], by simp [x_look, k7], by simp [x_look], .inl rfl⟩
  · by_cases hn0 : n = 0
    · subst hn0
      have c1 : IntKind.i64.wrap (-1) = -1 := rfl
      rw [show atC 0 u c 0 = zero from rfl, show atR 0 u (fun i => rp (v i)) c (rp r) P 0 = 0 from rfl, TI_z]
      simp -implicitDefEqProofs only [go_sem, simprocAttr, -Int.reducePow, DD, x_app, x_ga0, x_gas, x_gan, Int.cast_ofNat_Int, eq_self, Int.zero_lt_one, Bool.not_false, Bool.not_true, beq_self_eq_true, WI, IA, DI, DA, CI, c1, zc9, x_gp0, x_gp1, x_gp2, x_gp3]
    · obtain ⟨k, hk⟩ := pos_of hn0
      have hb : Blt zc9 (atC n u c (n - (k + 1))) (atR n u (fun i => rp (v i)) c (rp r) P (n - (k + 1))) := by rw [← hk]; exact hb
      obtain ⟨s', l', e', t', k', gg', o', p', qq', hc, hr⟩ := h.cells (i := k) (by omega)
      obtain ⟨q1, q2⟩ := step k (by omega) _ hr
      have c1 : IntKind.i64.wrap ((n : Int) - 1) = (k : Int) := by rw [wrap_id (by omega)]; omega
      have c0 : ¬ (k : Int) < 0 := by omega
      have c2 : (0 : Int) ≤ (k : Int) := by omega
      have c3 : (k : Int) < (n : Int) := by omega
      have c4 : k * 9 < cs.length := by omega
      have c5 : k * 9 + 9 ≤ cs.length := by omega
      have hl2 := hb.len
      have ht2 := hb.take
      simp -implicitDefEqProofs only [go_sem, simprocAttr, -Int.reducePow, DD, x_app, x_ga0, x_gas, x_gan, Int.cast_ofNat_Int, eq_self, Int.zero_lt_one, Bool.not_false, Bool.not_true, beq_self_eq_true, c0, c1, c2, c3, c4, c5, hl2, ht2, hc, x_gp0, x_gp1, x_gp2, x_gp3]
      refine callK_pr disc_Mul.call q1 (.cons hb.plr (.cons (pld_RT g0).r (.cons pld_int.r .nil))) ?_
      simp -implicitDefEqProofs only [go_sem, simprocAttr, -Int.reducePow, DD, x_app, x_ga0, x_gas, x_gan, Int.cast_ofNat_Int, eq_self, Int.zero_lt_one, Bool.not_false, Bool.not_true, beq_self_eq_true, c0, c1, c2, c3, c4, c5, hl2, ht2, hc, x_gp0, x_gp1, x_gp2, x_gp3]
      refine callK_pr disc_Add.call q2 (.cons (pld_TI _ _).r (.cons (pld_RT hr).r .nil)) ?_
      simp -implicitDefEqProofs only [go_sem, simprocAttr, -Int.reducePow, DD, x_app, x_ga0, x_gas, x_gan, Int.cast_ofNat_Int, eq_self, Int.zero_lt_one, Bool.not_false, Bool.not_true, beq_self_eq_true, TI_c, c0, c1, c2, c3, c4, c5, hl2, ht2, hc, x_gp0, x_gp1, x_gp2, x_gp3]
      exact ⟨k, by omega, _, _, rfl, by omega, by simp [x_look], by simp [x_look], by simp [x_look], by simp [x_look], by simp [x_look], by simp [x_look], .inl rfl⟩
theorem badd_s (h : RTs cs n u v 296 296) (hcs : ∀ c ∈ cs, IsD c) (hn : n ≤ 1000000) (g : RTs ds m u' v' 296 296) (hds : ∀ c ∈ ds, IsD c) (hm : m ≤ 1000000) :
    Sat CT false 60 [.sl n cs, .sl m ds] (TA (max n m) (bsC n m u u') (bsR n m v v')) := by
  refine sat_of balls_Add.ok (by simp) ?_
  have DD := balls_Add.dr
  simp only [drP, drPx, drPt, drR, drS, drT, bodyOf, Tryz.f60, Nat.reduceEqDiff, reduceIte, true_and, and_true] at DD
  by_cases c0 : (n : Int) < (m : Int)
  · rw [show max n m = m by omega, ← bsC_comm, ← bsR_comm]
    simp -implicitDefEqProofs only [go_sem, simprocAttr, -Int.reducePow, Tryz.f60, DD, x_app, x_ga0, x_gas, x_gan, Int.cast_ofNat_Int, eq_self, Int.zero_lt_one, Bool.not_false, Bool.not_true, beq_self_eq_true, c0]

    refine ⟨by omega, ?_⟩
    refine loop_of aW0_mono (fun k σ => ∃ sl cells T i, σ = ⟨sl, ⟨cells, true, true⟩ :: T⟩ ∧ k = m - i ∧ i ≤ m ∧ look sl 0 = .sl m ds ∧ look sl 1 = .sl n cs ∧ look sl 5 = .own 9 0 0 m ∧ look sl 19 = .sl m ds ∧ look sl 20 = I64 (m : Nat) ∧ look sl 21 = I64 (i : Nat) ∧ cells.length = m * 9 ∧ cells.take (i * 9) = tls i (bsC m n u' u) (bsR m n v' v)) ?_ (n := m)
      ⟨_, _, [], 0, rfl, rfl, Nat.zero_le _, by simp [x_look], by simp [x_look], by simp [x_look], by simp [x_look], by simp [x_look], by simp [x_look], zer_len9 m, by rw [Nat.zero_mul, tls0]; rfl⟩
    rintro k _ ⟨sl, cells, T, i, rfl, rfl, hi, k0, k1, k5, k19, k20, k21, hl, ht⟩
    by_cases hid : i = m
    · subst hid
      have he := row_end9 hl ht
      subst he
      simp -implicitDefEqProofs only [go_sem, simprocAttr, -Int.reducePow, DD, x_app, x_ga0, x_gas, x_gan, Int.cast_ofNat_Int, eq_self, Int.zero_lt_one, Bool.not_false, Bool.not_true, beq_self_eq_true, k0, k1, k5, k19, k20, k21, Int.lt_irrefl]
      have hr := ret_ASt (a := .own 9 0 0 i) (H := ⟨tls i (bsC i n u' u) (bsR i n v' v), true, true⟩ :: T) (n := i) (u := (bsC i n u' u)) (v := (bsR i n v' v)) (.inr ⟨0, rfl, rfl, Nat.succ_pos _, hl⟩)
      refine ⟨?_, hr.2⟩
      simpa [ownOK, own1, hd] using hr.1
    · have c1 : (i : Int) < (m : Int) := by omega
      have c2 : (0 : Int) ≤ (i : Int) := by omega
      have c3 : IntKind.i64.wrap ((i : Int) + 1) = ((i + 1 : Nat) : Int) := by rw [wrap_id (by omega)]; omega
      have c4 : i * 9 < ds.length := by have := g.len; omega
      have c5 : i * 9 + 9 ≤ ds.length := by have := g.len; omega
      have c6 : i * 9 + 9 ≤ cells.length := by omega
      have c7 : i * 9 < cells.length := by omega
      obtain ⟨s, l, e, t, k, gg, o, p, qq, hc, hr⟩ := g.cells (i := i) (by omega)
      by_cases hid2 : i < n
      · have d1 : (i : Int) < (n : Int) := by omega
        have d4 : i * 9 < cs.length := by have := h.len; omega
        have d5 : i * 9 + 9 ≤ cs.length := by have := h.len; omega
        obtain ⟨s', l', e', t', k', gg', o', p', qq', hc', hr'⟩ := h.cells (i := i) (by omega)
        have q1 := dadds_s hr hr' (by omega) (by omega) (by omega) (by omega)
        rw [show u' i + u i = (bsC m n u' u) i by simp only [bsC, if_pos (show i < m by omega), if_pos hid2], show rp (v' i) + rp (v i) = (bsR m n v' v) i by simp only [bsR, if_pos (show i < m by omega), if_pos hid2]] at q1
        simp -implicitDefEqProofs only [go_sem, simprocAttr, -Int.reducePow, DD, x_app, x_ga0, x_gas, x_gan, Int.cast_ofNat_Int, eq_self, Int.zero_lt_one, Bool.not_false, Bool.not_true, beq_self_eq_true, k0, k1, k5, k19, k20, k21, c1, c2, c3, c4, c5, c6, c7, hc, d1, d4, d5, hc']
        refine callK_pl disc_Add.call (q1) (pl2 (pld_RT hr) (pld_RT hr')) ?_
        simp -implicitDefEqProofs only [go_sem, simprocAttr, -Int.reducePow, DD, x_app, x_ga0, x_gas, x_gan, Int.cast_ofNat_Int, eq_self, Int.zero_lt_one, Bool.not_false, Bool.not_true, beq_self_eq_true, k0, k1, k5, k19, k20, k21, c1, c2, c3, c4, c5, c6, c7, hc, d1, d4, d5, hc', TI_c]
        obtain ⟨e1, e2⟩ := spl_row9 hl ht (show i < m by omega)
        exact ⟨m - (i + 1), by omega, _, _, _, i + 1, rfl, rfl, by omega, by simp [x_look, k0], by simp [x_look, k1], by simp [x_look, k5], by simp [x_look, k19], by simp [x_look, k20], by simp [x_look], e1, e2⟩
      · have d1 : ¬ (i : Int) < (n : Int) := by omega
        have q1 := dadds_s hr (RT_T (CB.zero 296) (DB.zero 296)) (by omega) (by omega) (by omega) (by omega)
        rw [show u' i + zero = (bsC m n u' u) i by simp only [bsC, if_pos (show i < m by omega), if_neg hid2], show rp (v' i) + rp 0 = (bsR m n v' v) i by simp only [bsR, if_pos (show i < m by omega), if_neg hid2, rp0]] at q1
        simp -implicitDefEqProofs only [go_sem, simprocAttr, -Int.reducePow, DD, x_app, x_ga0, x_gas, x_gan, Int.cast_ofNat_Int, eq_self, Int.zero_lt_one, Bool.not_false, Bool.not_true, beq_self_eq_true, k0, k1, k5, k19, k20, k21, c1, c2, c3, c4, c5, c6, c7, hc, d1]
        refine callK_pr disc_Add.call q1 (.cons (pld_RT hr).r (.cons (Blt.plr (.inr ⟨rfl, rfl, rfl⟩)) .nil)) ?_
        simp -implicitDefEqProofs only [go_sem, simprocAttr, -Int.reducePow, DD, x_app, x_ga0, x_gas, x_gan, Int.cast_ofNat_Int, eq_self, Int.zero_lt_one, Bool.not_false, Bool.not_true, beq_self_eq_true, k0, k1, k5, k19, k20, k21, c1, c2, c3, c4, c5, c6, c7, hc, d1, TI_c]
        obtain ⟨e1, e2⟩ := spl_row9 hl ht (show i < m by omega)
        exact ⟨m - (i + 1), by omega, _, _, _, i + 1, rfl, rfl, by omega, by simp [x_look, k0], by simp [x_look, k1], by simp [x_look, k5], by simp [x_look, k19], by simp [x_look, k20], by simp [x_look], e1, e2⟩
  · rw [show max n m = n by omega]
    simp -implicitDefEqProofs only [go_sem, simprocAttr, -Int.reducePow, Tryz.f60, DD, x_app, x_ga0, x_gas, x_gan, Int.cast_ofNat_Int, eq_self, Int.zero_lt_one, Bool.not_false, Bool.not_true, beq_self_eq_true, c0]

    refine ⟨by omega, ?_⟩
    refine loop_of aW0_mono (fun k σ => ∃ sl cells T i, σ = ⟨sl, ⟨cells, true, true⟩ :: T⟩ ∧ k = n - i ∧ i ≤ n ∧ look sl 0 = .sl n cs ∧ look sl 1 = .sl m ds ∧ look sl 5 = .own 9 0 0 n ∧ look sl 19 = .sl n cs ∧ look sl 20 = I64 (n : Nat) ∧ look sl 21 = I64 (i : Nat) ∧ cells.length = n * 9 ∧ cells.take (i * 9) = tls i (bsC n m u u') (bsR n m v v')) ?_ (n := n)
      ⟨_, _, [], 0, rfl, rfl, Nat.zero_le _, by simp [x_look], by simp [x_look], by simp [x_look], by simp [x_look], by simp [x_look], by simp [x_look], zer_len9 n, by rw [Nat.zero_mul, tls0]; rfl⟩
    rintro k _ ⟨sl, cells, T, i, rfl, rfl, hi, k0, k1, k5, k19, k20, k21, hl, ht⟩
    by_cases hid : i = n
    · subst hid
      have he := row_end9 hl ht
      subst he
      simp -implicitDefEqProofs only [go_sem, simprocAttr, -Int.reducePow, DD, x_app, x_ga0, x_gas, x_gan, Int.cast_ofNat_Int, eq_self, Int.zero_lt_one, Bool.not_false, Bool.not_true, beq_self_eq_true, k0, k1, k5, k19, k20, k21, Int.lt_irrefl]
      have hr := ret_ASt (a := .own 9 0 0 i) (H := ⟨tls i (bsC i m u u') (bsR i m v v'), true, true⟩ :: T) (n := i) (u := (bsC i m u u')) (v := (bsR i m v v')) (.inr ⟨0, rfl, rfl, Nat.succ_pos _, hl⟩)
      refine ⟨?_, hr.2⟩
      simpa [ownOK, own1, hd] using hr.1
    · have c1 : (i : Int) < (n : Int) := by omega
      have c2 : (0 : Int) ≤ (i : Int) := by omega
      have c3 : IntKind.i64.wrap ((i : Int) + 1) = ((i + 1 : Nat) : Int) := by rw [wrap_id (by omega)]; omega
      have c4 : i * 9 < cs.length := by have := h.len; omega
      have c5 : i * 9 + 9 ≤ cs.length := by have := h.len; omega
      have c6 : i * 9 + 9 ≤ cells.length := by omega
      have c7 : i * 9 < cells.length := by omega
      obtain ⟨s, l, e, t, k, gg, o, p, qq, hc, hr⟩ := h.cells (i := i) (by omega)
      by_cases hid2 : i < m
      · have d1 : (i : Int) < (m : Int) := by omega
        have d4 : i * 9 < ds.length := by have := g.len; omega
        have d5 : i * 9 + 9 ≤ ds.length := by have := g.len; omega
        obtain ⟨s', l', e', t', k', gg', o', p', qq', hc', hr'⟩ := g.cells (i := i) (by omega)
        have q1 := dadds_s hr hr' (by omega) (by omega) (by omega) (by omega)
        rw [show u i + u' i = (bsC n m u u') i by simp only [bsC, if_pos (show i < n by omega), if_pos hid2], show rp (v i) + rp (v' i) = (bsR n m v v') i by simp only [bsR, if_pos (show i < n by omega), if_pos hid2]] at q1
        simp -implicitDefEqProofs only [go_sem, simprocAttr, -Int.reducePow, DD, x_app, x_ga0, x_gas, x_gan, Int.cast_ofNat_Int, eq_self, Int.zero_lt_one, Bool.not_false, Bool.not_true, beq_self_eq_true, k0, k1, k5, k19, k20, k21, c1, c2, c3, c4, c5, c6, c7, hc, d1, d4, d5, hc']
        refine callK_pl disc_Add.call (q1) (pl2 (pld_RT hr) (pld_RT hr')) ?_
        simp -implicitDefEqProofs only [go_sem, simprocAttr, -Int.reducePow, DD, x_app, x_ga0, x_gas, x_gan, Int.cast_ofNat_Int, eq_self, Int.zero_lt_one, Bool.not_false, Bool.not_true, beq_self_eq_true, k0, k1, k5, k19, k20, k21, c1, c2, c3, c4, c5, c6, c7, hc, d1, d4, d5, hc', TI_c]
        obtain ⟨e1, e2⟩ := spl_row9 hl ht (show i < n by omega)
        exact ⟨n - (i + 1), by omega, _, _, _, i + 1, rfl, rfl, by omega, by simp [x_look, k0], by simp [x_look, k1], by simp [x_look, k5], by simp [x_look, k19], by simp [x_look, k20], by simp [x_look], e1, e2⟩
      · have d1 : ¬ (i : Int) < (m : Int) := by omega
        have q1 := dadds_s hr (RT_T (CB.zero 296) (DB.zero 296)) (by omega) (by omega) (by omega) (by omega)
        rw [show u i + zero = (bsC n m u u') i by simp only [bsC, if_pos (show i < n by omega), if_neg hid2], show rp (v i) + rp 0 = (bsR n m v v') i by simp only [bsR, if_pos (show i < n by omega), if_neg hid2, rp0]] at q1
        simp -implicitDefEqProofs only [go_sem, simprocAttr, -Int.reducePow, DD, x_app, x_ga0, x_gas, x_gan, Int.cast_ofNat_Int, eq_self, Int.zero_lt_one, Bool.not_false, Bool.not_true, beq_self_eq_true, k0, k1, k5, k19, k20, k21, c1, c2, c3, c4, c5, c6, c7, hc, d1]
        refine callK_pr disc_Add.call q1 (.cons (pld_RT hr).r (.cons (Blt.plr (.inr ⟨rfl, rfl, rfl⟩)) .nil)) ?_
        simp -implicitDefEqProofs only [go_sem, simprocAttr, -Int.reducePow, DD, x_app, x_ga0, x_gas, x_gan, Int.cast_ofNat_Int, eq_self, Int.zero_lt_one, Bool.not_false, Bool.not_true, beq_self_eq_true, k0, k1, k5, k19, k20, k21, c1, c2, c3, c4, c5, c6, c7, hc, d1, TI_c]
        obtain ⟨e1, e2⟩ := spl_row9 hl ht (show i < n by omega)
        exact ⟨n - (i + 1), by omega, _, _, _, i + 1, rfl, rfl, by omega, by simp [x_look, k0], by simp [x_look, k1], by simp [x_look, k5], by simp [x_look, k19], by simp [x_look, k20], by simp [x_look], e1, e2⟩
end
end Go.Ab

set_option linter.unusedVariables false
set_option maxRecDepth 20000
set_option linter.unusedSimpArgs false
set_option linter.unusedSectionVars false
namespace Go.Ab
open Go.Proofs
open Cx (zero one)
attribute [-go_sem] appF newsF
variable {a b : AV} {x y r s t : Dyadic} {z w c d e : Cx} {B C B' C' n m P : Nat} {cs ds : List AV} {u u' : Nat → Cx} {v v' : Nat → Dyadic} {f g : Po}
/-! balls: of the code, the rest; of the document -/
def dvC (u : Nat → Cx) (i : Nat) : Cx := tmz (u (i + 1)) (dv ((i + 1 : Nat) : Int) 0)
def dvR (v : Nat → Dyadic) (i : Nat) : Dyadic := rp (v (i + 1)) * dv ((i + 1 : Nat) : Int) 0
section
attribute [local go_sem] x_takeT x_lenT x_leafT x_cellsTI x_hget2 x_hget3 x_hget4 x_zerA9
set_option maxHeartbeats 1000000 in
theorem bderiv_s (h : RTs cs n u v 296 296) (hcs : ∀ c ∈ cs, IsD c) (hn : n ≤ 1000000) :
    Sat CT false 56 [.sl n cs] (TA (n - 1) (dvC u) (dvR v)) := by
  refine sat_of balls_Deriv.ok (by simp) ?_
  have DD := balls_Deriv.dr
  simp only [drP, drPx, drPt, drR, drS, drT, bodyOf, Tryz.f56, Nat.reduceEqDiff, reduceIte, true_and, and_true] at DD
  have hlen := h.len
  simp -implicitDefEqProofs only [go_sem, simprocAttr, -Int.reducePow, Tryz.f56, DD, x_app, x_ga0, x_gas, x_gan, Int.cast_ofNat_Int, eq_self, Int.zero_lt_one, Bool.not_false, Bool.not_true, beq_self_eq_true]
  refine loop_of aW0_mono (fun q σ => ∃ sl H i, σ = ⟨sl, H⟩ ∧ q = n - i ∧ i ≤ n ∧ look sl 7 = .sl n cs ∧ look sl 8 = I64 (n : Nat) ∧ look sl 9 = I64 (i : Nat) ∧ ASl 9 (look sl 3) H (tls (i - 1) (dvC u) (dvR v)) (i - 1)) ?_ (n := n)
    ⟨_, _, 0, rfl, rfl, Nat.zero_le _, by simp [x_look], by simp [x_look], by simp [x_look], by simp [x_look, tls0, ASl.nil]⟩
  rintro q _ ⟨sl, H, i, rfl, rfl, hi, k7, k8, k9, hA⟩
  by_cases hid : i = n
  · subst hid
    simp -implicitDefEqProofs only [go_sem, simprocAttr, -Int.reducePow, DD, x_app, x_ga0, x_gas, x_gan, Int.cast_ofNat_Int, eq_self, Int.zero_lt_one, Bool.not_false, Bool.not_true, beq_self_eq_true, k7, k8, k9, Int.lt_irrefl]
    have hr := ret_ASt hA
    refine ⟨?_, hr.2⟩
    have h1 := hr.1
    clear hr hA k7 k8 k9
    generalize look sl 3 = av at *
    cases av <;> simp_all [ownOK, own1, hd]
  · have c1 : (i : Int) < (n : Int) := by omega
    have ci : IntKind.i64.wrap ((i : Int) + 1) = ((i + 1 : Nat) : Int) := by rw [wrap_id (by omega)]; omega
    have c2 : (0 : Int) ≤ (i : Int) := by omega
    have c4 : i * 9 < cs.length := by omega
    have c5 : i * 9 + 9 ≤ cs.length := by omega
    obtain ⟨s, l, e, t, kk, gg, o, p, qq, hc, hr⟩ := h.cells (i := i) (by omega)
    by_cases hi0 : i = 0
    · have c6 : ¬ (0 : Int) < (i : Int) := by omega
      simp -implicitDefEqProofs only [go_sem, simprocAttr, -Int.reducePow, DD, x_app, x_ga0, x_gas, x_gan, Int.cast_ofNat_Int, eq_self, Int.zero_lt_one, Bool.not_false, Bool.not_true, beq_self_eq_true, k7, k8, k9, ci, c1, c2, c4, c5, hc, c6, gt_iff_lt]
      exact ⟨n - (i + 1), by omega, _, _, i + 1, rfl, rfl, by omega, by simp [x_look, k7], by simp [x_look, k8], by simp [x_look], by simp only [x_look, reduceIte, Nat.reduceEqDiff]; subst hi0; exact (hA.ext _)⟩
    · have c6 : (0 : Int) < (i : Int) := by omega
      obtain ⟨j, rfl⟩ := pos_of hi0
      have q1 := dofn_sat ((j + 1 : Nat) : Int) (by omega) (by omega)
      obtain ⟨_, _, _, _, _, _, _, _, _, e0, hrc, hrr⟩ := hr.ex
      simp only [AV.agg.injEq, List.cons.injEq, and_true] at e0
      have hrc' : RC (.agg [Bo s, U32 l, I64 e, Bo t, U32 kk, I64 gg]) (u (j + 1)) 296 := by
        obtain ⟨e1, e2, e3, e4, e5, e6, _⟩ := e0
        rw [e1, e2, e3, e4, e5, e6]; exact hrc
      have q2 : Sat CT false 29 [.agg [Bo s, U32 l, I64 e, Bo t, U32 kk, I64 gg], DI (dv ((j + 1 : Nat) : Int) 0)] (CI (dvC u j)) := gtimes_r hrc' (RD_D (dv_small (v := ((j + 1 : Nat) : Int)) (by omega))) (by omega)
      have q3 := dgrow_s hr (by omega) (by omega) ((j + 1 : Nat) : Int) (by omega) (by omega)
      rw [rp_id (nn_mul (rp_nn _) (nat_nn (j + 1))), show rp (v (j + 1)) * dv ((j + 1 : Nat) : Int) 0 = dvR v j from rfl] at q3
      rw [Nat.add_sub_cancel] at hA
      simp -implicitDefEqProofs only [go_sem, simprocAttr, -Int.reducePow, DD, x_app, x_ga0, x_gas, x_gan, Int.cast_ofNat_Int, eq_self, Int.zero_lt_one, Bool.not_false, Bool.not_true, beq_self_eq_true, k7, k8, k9, ci, c1, c2, c4, c5, hc, c6, gt_iff_lt]
      refine callK_pl dyad_Of.call (q1) (pl1 pld_int) ?_
      simp -implicitDefEqProofs only [go_sem, simprocAttr, -Int.reducePow, DD, x_app, x_ga0, x_gas, x_gan, Int.cast_ofNat_Int, eq_self, Int.zero_lt_one, Bool.not_false, Bool.not_true, beq_self_eq_true, k7, k8, k9, ci, c1, c2, c4, c5, hc, c6, gt_iff_lt]
      refine callK_pl gauss_Times.call (q2) (pl2 (pld_RC hrc') (pld_DI _)) ?_
      simp -implicitDefEqProofs only [go_sem, simprocAttr, -Int.reducePow, DD, x_app, x_ga0, x_gas, x_gan, Int.cast_ofNat_Int, eq_self, Int.zero_lt_one, Bool.not_false, Bool.not_true, beq_self_eq_true, k7, k8, k9, ci, c1, c2, c4, c5, hc, c6, gt_iff_lt]
      refine callK_pl disc_Grow.call (q3) (pl2 (pld_RT hr) pld_int) ?_
      simp -implicitDefEqProofs only [go_sem, simprocAttr, -Int.reducePow, DD, x_app, x_ga0, x_gas, x_gan, Int.cast_ofNat_Int, eq_self, Int.zero_lt_one, Bool.not_false, Bool.not_true, beq_self_eq_true, WI, IA, DI, DA, CI, TI, List.take_succ_cons, List.drop_succ_cons, List.drop_zero, List.take_zero, k7, k8, k9, ci, c1, c2, c4, c5, hc, c6, gt_iff_lt]
      refine app_step (P := Tryz.prog) tk44 rfl tk47 tk44 rfl rfl (by decide) (n := j) (m := 1) ((hA.ext _).ext _) (.inl ⟨rfl, x_hget⟩) rfl (by decide) rfl (Nat.le_trans (Nat.mul_le_mul_right _ (show j + 1 ≤ 1000001 by omega)) (by decide)) (by omega) ?_
      intro H' hg hl' hk'
      simp -implicitDefEqProofs only [go_sem, simprocAttr, -Int.reducePow, DD, x_app, x_ga0, x_gas, x_gan, Int.cast_ofNat_Int, eq_self, Int.zero_lt_one, Bool.not_false, Bool.not_true, beq_self_eq_true, k7, k8, k9, ci, c1, c2, c4, c5, hc, c6]
      exact ⟨n - (j + 1 + 1), by omega, _, _, j + 1 + 1, rfl, rfl, by omega, by simp [x_look, k7], by simp [x_look, k8], by simp [x_look], by simp only [x_look, reduceIte, Nat.reduceEqDiff]; exact ASl.lastT (u := dvC u) (v := dvR v) hg hl'⟩
theorem bwide_s (h : RTs cs n u v B 296) (hn : n ≤ 1000000) : Sat CT false 47 [.sl n cs] (DI (wide v n)) := by
  refine sat_of balls_Wide.ok (by simp) ?_
  have DD := balls_Wide.dr
  simp only [drP, drPx, drPt, drR, drS, drT, bodyOf, Tryz.f47, Nat.reduceEqDiff, reduceIte, true_and, and_true] at DD
  have hlen := h.len
  have hvb : ∀ i, i < n → DB (v i) 296 := fun i hi => (h.el i hi).db
  have hwb : ∀ i, i ≤ n → DB (wide v i) 296 := by
    intro i
    induction i with
    | zero => intro _; exact DB.zero _
    | succ i ih =>
      intro hi
      show DB (dmx (wide v i) (v i)) 296
      unfold dmx
      split
      · exact ih (by omega)
      · exact hvb i (by omega)
  simp -implicitDefEqProofs only [go_sem, simprocAttr, -Int.reducePow, Tryz.f47, DD]
  refine loop_of aW0_mono (fun q σ => ∃ sl H i oc, σ = ⟨sl, H⟩ ∧ q = n - i ∧ i ≤ n ∧ look sl 2 = .ptr 0 0 ∧ look sl 3 = .ptr 1 0 ∧ look sl 6 = .sl n cs ∧ look sl 7 = I64 (n : Nat) ∧ look sl 8 = I64 (i : Nat) ∧ 1 < H.length ∧ H.getD 0 ⟨[], false, false⟩ = ⟨zc3, true, true⟩ ∧ H.getD 1 ⟨[], false, false⟩ = ⟨oc, true, true⟩ ∧ (oc = zc3 ∧ wide v i = 0 ∨ oc = dcl (wide v i))) ?_ (n := n)
    ⟨_, _, 0, zc3, rfl, rfl, Nat.zero_le _, by simp [x_look], by simp [x_look], by simp [x_look], by simp [x_look], by simp [x_look], by simp, rfl, rfl, .inl ⟨rfl, rfl⟩⟩
  rintro q _ ⟨sl, H, i, oc, rfl, rfl, hi, k2, k3, k6, k7, k8, hH, hg0, hg1, ho⟩
  by_cases hid : i = n
  · subst hid
    have gs : ∀ x, (H.set 0 x).getD 0 ⟨[], false, false⟩ = x := fun x => by rw [getD_set (by omega), if_pos rfl]
    rcases ho with ⟨rfl, e0⟩ | rfl
    · rw [e0]
      simp -implicitDefEqProofs only [go_sem, simprocAttr, -Int.reducePow, DD, k2, k3, k6, k7, k8, hg0, hg1, Int.lt_irrefl, zc3, gs, z0a, z0b, de0]
      rfl
    · simp -implicitDefEqProofs only [go_sem, simprocAttr, -Int.reducePow, DD, k2, k3, k6, k7, k8, hg0, hg1, Int.lt_irrefl, zc3, dcl, gs]
  · have c1 : (i : Int) < (n : Int) := by omega
    have ci : IntKind.i64.wrap ((i : Int) + 1) = ((i + 1 : Nat) : Int) := by rw [wrap_id (by omega)]; omega
    have c2 : (0 : Int) ≤ (i : Int) := by omega
    have c4 : i * 9 < cs.length := by omega
    have c5 : i * 9 + 9 ≤ cs.length := by omega
    obtain ⟨s, l, e, t, kk, gg, o, p, qq, hc, hr⟩ := h.cells (i := i) (by omega)
    obtain ⟨_, _, _, _, _, _, _, _, _, e0, hrc, hrr⟩ := hr.ex
    simp only [AV.agg.injEq, List.cons.injEq, and_true] at e0
    have hrr' : RD (DA o p qq) (v i) 296 := by
      obtain ⟨e1, e2, e3, e4, e5, e6, e7, e8, e9⟩ := e0
      unfold DA
      rw [e7, e8, e9]; exact hrr
    have g0 : ∀ y, (H ++ [y]).getD 0 ⟨[], false, false⟩ = ⟨zc3, true, true⟩ := fun y => by rw [getD_hp (by omega)]; exact hg0
    have g1 : ∀ y, (H ++ [y]).getD 1 ⟨[], false, false⟩ = ⟨oc, true, true⟩ := fun y => by rw [getD_hp hH]; exact hg1
    have a1 := dmax_r (RD_D (hwb i hi)) hrr' (by decide) (by decide)
    rw [show dmx (wide v i) (v i) = wide v (i + 1) from rfl] at a1
    rcases ho with ⟨rfl, e0⟩ | rfl
    · rw [e0, DI_0] at a1
      simp -implicitDefEqProofs only [go_sem, simprocAttr, -Int.reducePow, DD, k2, k3, k6, k7, k8, c1, c2, c4, c5, ci, hc, g0, g1, zc3, List.take_succ_cons, List.drop_succ_cons, List.drop_zero, List.take_zero]
      refine callK_q dyad_Max.call (a1) rfl rfl ?_
      simp -implicitDefEqProofs only [go_sem, simprocAttr, -Int.reducePow, DD, k2, k3, k6, k7, k8, c1, c2, c4, c5, ci, hc, g0, g1, zc3, List.take_succ_cons, List.drop_succ_cons, List.drop_zero, List.take_zero]
      exact ⟨n - (i + 1), by omega, _, _, i + 1, _, rfl, rfl, by omega, by simp [x_look, k2], by simp [x_look, k3], by simp [x_look, k6], by simp [x_look, k7], by simp [x_look], by simp <;> omega, by rw [getD_set (by simp <;> omega), if_neg (by decide)]; exact g0 _, by (rw [getD_set (by simp <;> omega), if_pos rfl]) <;> rfl, .inr rfl⟩
    · simp -implicitDefEqProofs only [go_sem, simprocAttr, -Int.reducePow, DD, k2, k3, k6, k7, k8, c1, c2, c4, c5, ci, hc, g0, g1, dcl, List.take_succ_cons, List.drop_succ_cons, List.drop_zero, List.take_zero]
      refine callK_q dyad_Max.call (a1) rfl rfl ?_
      simp -implicitDefEqProofs only [go_sem, simprocAttr, -Int.reducePow, DD, k2, k3, k6, k7, k8, c1, c2, c4, c5, ci, hc, g0, g1, dcl, List.take_succ_cons, List.drop_succ_cons, List.drop_zero, List.take_zero]
      exact ⟨n - (i + 1), by omega, _, _, i + 1, _, rfl, rfl, by omega, by simp [x_look, k2], by simp [x_look, k3], by simp [x_look, k6], by simp [x_look, k7], by simp [x_look], by simp <;> omega, by rw [getD_set (by simp <;> omega), if_neg (by decide)]; exact g0 _, by (rw [getD_set (by simp <;> omega), if_pos rfl]) <;> rfl, .inr rfl⟩
end
end Go.Ab

set_option linter.unusedVariables false
set_option maxRecDepth 20000
set_option linter.unusedSimpArgs false
set_option linter.unusedSectionVars false
namespace Go.Ab
open Go.Proofs
open Cx (zero one)
attribute [-go_sem] appF newsF
variable {a b : AV} {x y r s t : Dyadic} {z w c d e : Cx} {B C B' C' n m P : Nat} {cs ds : List AV} {u u' : Nat → Cx} {v v' : Nat → Dyadic} {f g : Po}
/-! balls: what is known of them, what comes in -/
abbrev RawT.sm (t : RawT) : Prop := t.c.sm ∧ (t.p.length ≤ 3 ∧ -200 ≤ t.q ∧ t.q ≤ 200)
theorem small12_s (b : Bool) (l : List Nat) (e : Int) : Sat CT false 84 [.agg [Bo b, U32 l, I64 e]] (Bo (decide (l.length ≤ 3 ∧ -200 ≤ e ∧ e ≤ 200))) := by
  refine sat_of annuluslaw12_small.ok (by simp) ?_
  have DD := annuluslaw12_small.dr
  simp only [drP, drPx, drPt, drR, drS, drT, bodyOf, Tryz.f84, Nat.reduceEqDiff, reduceIte, true_and, and_true] at DD
  by_cases h1 : l.length ≤ 3
  · have c1 : (l.length : Int) ≤ 3 := by omega
    by_cases h2 : -200 ≤ e
    · by_cases h3 : e ≤ 200
      · rw [decide_eq_true ⟨h1, h2, h3⟩]
        simp -implicitDefEqProofs only [go_sem, simprocAttr, -Int.reducePow, Tryz.f84, DD, x_app, x_ga0, x_gas, x_gan, Int.cast_ofNat_Int, eq_self, Int.zero_lt_one, Bool.not_false, Bool.not_true, beq_self_eq_true, c1, h2, h3]
      · rw [decide_eq_false (fun h => h3 h.2.2)]
        simp -implicitDefEqProofs only [go_sem, simprocAttr, -Int.reducePow, Tryz.f84, DD, x_app, x_ga0, x_gas, x_gan, Int.cast_ofNat_Int, eq_self, Int.zero_lt_one, Bool.not_false, Bool.not_true, beq_self_eq_true, c1, h2, h3]
    · rw [decide_eq_false (fun h => h2 h.2.1)]
      simp -implicitDefEqProofs only [go_sem, simprocAttr, -Int.reducePow, Tryz.f84, DD, x_app, x_ga0, x_gas, x_gan, Int.cast_ofNat_Int, eq_self, Int.zero_lt_one, Bool.not_false, Bool.not_true, beq_self_eq_true, c1, h2]
  · have c1 : ¬ (l.length : Int) ≤ 3 := by omega
    rw [decide_eq_false (fun h => h1 h.1)]
    simp -implicitDefEqProofs only [go_sem, simprocAttr, -Int.reducePow, Tryz.f84, DD, x_app, x_ga0, x_gas, x_gan, Int.cast_ofNat_Int, eq_self, Int.zero_lt_one, Bool.not_false, Bool.not_true, beq_self_eq_true, c1]
theorem few12_s (F : Nat → Raw) (hn : n ≤ 9223372036854775807) : Sat CT false 39 [.sl n (qcl n F)] (Bo (decide ((∀ i, i < n → (F i).sm) ∧ n ≤ 14))) := by
  refine sat_of annuluslaw12_few.ok (by simp) ?_
  have DD := annuluslaw12_few.dr
  simp only [drP, drPx, drPt, drR, drS, drT, bodyOf, Tryz.f39, Nat.reduceEqDiff, reduceIte, true_and, and_true] at DD
  have hL := qcl_len n F
  simp -implicitDefEqProofs only [go_sem, simprocAttr, -Int.reducePow, Tryz.f39, DD, x_app, x_ga0, x_gas, x_gan, Int.cast_ofNat_Int, eq_self, Int.zero_lt_one, Bool.not_false, Bool.not_true, beq_self_eq_true]
  refine loop_of aW0_mono (fun q σ => ∃ sl i, σ = ⟨sl, []⟩ ∧ q = n - i ∧ i ≤ n ∧ look sl 0 = .sl n (qcl n F) ∧ look sl 3 = I64 (i : Nat) ∧ ∀ j, j < i → (F j).sm) ?_ (n := n)
    ⟨_, 0, rfl, rfl, Nat.zero_le _, by simp [x_look], by simp [x_look], fun j hj => by omega⟩
  rintro q _ ⟨sl, i, rfl, rfl, hi, k0, k3, hinv⟩
  by_cases hid : i = n
  · subst hid
    have ed : decide ((∀ j, j < i → (F j).sm) ∧ i ≤ 14) = decide ((i : Int) ≤ 14) := decide_eq_decide.2 ⟨fun h => by omega, fun h => ⟨hinv, by omega⟩⟩
    rw [ed]
    simp -implicitDefEqProofs only [go_sem, simprocAttr, -Int.reducePow, DD, x_app, x_ga0, x_gas, x_gan, Int.cast_ofNat_Int, eq_self, Int.zero_lt_one, Bool.not_false, Bool.not_true, beq_self_eq_true, k0, k3, Int.lt_irrefl]
  · have c1 : (i : Int) < (n : Int) := by omega
    have ci : IntKind.i64.wrap ((i : Int) + 1) = ((i + 1 : Nat) : Int) := by rw [wrap_i64 (by omega) (by omega)]; omega
    have c2 : (0 : Int) ≤ (i : Int) := by omega
    have c4 : i * 6 < n * 6 := by omega
    have c5 : i * 6 + 3 ≤ n * 6 := by omega
    have c6 : i * 6 + 3 + 3 ≤ n * 6 := by omega
    have hc := qcl_lo F (show i < n by omega)
    have hc' := qcl_hi F (show i < n by omega)
    have q1 := small12_s (F i).n (F i).l (F i).e
    have q2 := small12_s (F i).m (F i).k (F i).f
    by_cases h1 : (F i).l.length ≤ 3 ∧ -200 ≤ (F i).e ∧ (F i).e ≤ 200
    · rw [decide_eq_true h1] at q1
      by_cases h2 : (F i).k.length ≤ 3 ∧ -200 ≤ (F i).f ∧ (F i).f ≤ 200
      · rw [decide_eq_true h2] at q2
        simp -implicitDefEqProofs only [go_sem, simprocAttr, -Int.reducePow, DD, x_app, x_ga0, x_gas, x_gan, Int.cast_ofNat_Int, eq_self, Int.zero_lt_one, Bool.not_false, Bool.not_true, beq_self_eq_true, k0, k3, ci, c1, c2, c4, c5, c6, hc, hc', hL]
        refine callK_pl annuluslaw12_small.call (q1) (pl1 (pld_dy _ _ _)) ?_
        simp -implicitDefEqProofs only [go_sem, simprocAttr, -Int.reducePow, DD, x_app, x_ga0, x_gas, x_gan, Int.cast_ofNat_Int, eq_self, Int.zero_lt_one, Bool.not_false, Bool.not_true, beq_self_eq_true, k0, k3, ci, c1, c2, c4, c5, c6, hc, hc', hL]
        refine callK_pl annuluslaw12_small.call (q2) (pl1 (pld_dy _ _ _)) ?_
        simp -implicitDefEqProofs only [go_sem, simprocAttr, -Int.reducePow, DD, x_app, x_ga0, x_gas, x_gan, Int.cast_ofNat_Int, eq_self, Int.zero_lt_one, Bool.not_false, Bool.not_true, beq_self_eq_true, k0, k3, ci, c1, c2, c4, c5, c6, hc, hc', hL]
        exact ⟨n - (i + 1), by omega, _, i + 1, rfl, rfl, by omega, by simp [x_look, k0], by simp [x_look], fun j hj => by
          rcases Nat.lt_or_ge j i with h | h
          · exact hinv j h
          · rw [show j = i by omega]; exact ⟨h1, h2⟩⟩
      · rw [decide_eq_false h2] at q2
        rw [decide_eq_false (fun h => h2 (h.1 i (by omega)).2)]
        simp -implicitDefEqProofs only [go_sem, simprocAttr, -Int.reducePow, DD, x_app, x_ga0, x_gas, x_gan, Int.cast_ofNat_Int, eq_self, Int.zero_lt_one, Bool.not_false, Bool.not_true, beq_self_eq_true, k0, k3, ci, c1, c2, c4, c5, c6, hc, hc', hL]
        refine callK_pl annuluslaw12_small.call (q1) (pl1 (pld_dy _ _ _)) ?_
        simp -implicitDefEqProofs only [go_sem, simprocAttr, -Int.reducePow, DD, x_app, x_ga0, x_gas, x_gan, Int.cast_ofNat_Int, eq_self, Int.zero_lt_one, Bool.not_false, Bool.not_true, beq_self_eq_true, k0, k3, ci, c1, c2, c4, c5, c6, hc, hc', hL]
        refine callK_pl annuluslaw12_small.call (q2) (pl1 (pld_dy _ _ _)) ?_
        simp -implicitDefEqProofs only [go_sem, simprocAttr, -Int.reducePow, DD, x_app, x_ga0, x_gas, x_gan, Int.cast_ofNat_Int, eq_self, Int.zero_lt_one, Bool.not_false, Bool.not_true, beq_self_eq_true, k0, k3, ci, c1, c2, c4, c5, c6, hc, hc', hL]
    · rw [decide_eq_false h1] at q1
      rw [decide_eq_false (fun h => h1 (h.1 i (by omega)).1)]
      simp -implicitDefEqProofs only [go_sem, simprocAttr, -Int.reducePow, DD, x_app, x_ga0, x_gas, x_gan, Int.cast_ofNat_Int, eq_self, Int.zero_lt_one, Bool.not_false, Bool.not_true, beq_self_eq_true, k0, k3, ci, c1, c2, c4, c5, c6, hc, hc', hL]
      refine callK_pl annuluslaw12_small.call (q1) (pl1 (pld_dy _ _ _)) ?_
      simp -implicitDefEqProofs only [go_sem, simprocAttr, -Int.reducePow, DD, x_app, x_ga0, x_gas, x_gan, Int.cast_ofNat_Int, eq_self, Int.zero_lt_one, Bool.not_false, Bool.not_true, beq_self_eq_true, k0, k3, ci, c1, c2, c4, c5, c6, hc, hc', hL]
theorem point12_s (r : Raw) : Sat CT false 54 [.agg r.cells] (Bo (decide r.sm)) := by
  refine sat_of annuluslaw12_point.ok (by simp) ?_
  have DD := annuluslaw12_point.dr
  simp only [drP, drPx, drPt, drR, drS, drT, bodyOf, Tryz.f54, Nat.reduceEqDiff, reduceIte, true_and, and_true] at DD
  obtain ⟨b, l, e, c, k, g⟩ := r
  have q1 := small12_s b l e
  have q2 := small12_s c k g
  by_cases h1 : l.length ≤ 3 ∧ -200 ≤ e ∧ e ≤ 200
  · rw [decide_eq_true h1] at q1
    have ed : decide (Raw.sm ⟨b, l, e, c, k, g⟩) = decide (k.length ≤ 3 ∧ -200 ≤ g ∧ g ≤ 200) := decide_eq_decide.2 ⟨fun h => h.2, fun h => ⟨h1, h⟩⟩
    rw [ed]
    by_cases h2 : k.length ≤ 3 ∧ -200 ≤ g ∧ g ≤ 200
    · rw [decide_eq_true h2] at q2 ⊢
      simp -implicitDefEqProofs only [go_sem, simprocAttr, -Int.reducePow, Tryz.f54, DD, x_app, x_ga0, x_gas, x_gan, Int.cast_ofNat_Int, eq_self, Int.zero_lt_one, Bool.not_false, Bool.not_true, beq_self_eq_true, Raw.cells]
      refine callK_pl annuluslaw12_small.call (q1) (pl1 (pld_dy _ _ _)) ?_
      simp -implicitDefEqProofs only [go_sem, simprocAttr, -Int.reducePow, DD, x_app, x_ga0, x_gas, x_gan, Int.cast_ofNat_Int, eq_self, Int.zero_lt_one, Bool.not_false, Bool.not_true, beq_self_eq_true]
      refine callK_pl annuluslaw12_small.call (q2) (pl1 (pld_dy _ _ _)) ?_
      simp -implicitDefEqProofs only [go_sem, simprocAttr, -Int.reducePow, DD, x_app, x_ga0, x_gas, x_gan, Int.cast_ofNat_Int, eq_self, Int.zero_lt_one, Bool.not_false, Bool.not_true, beq_self_eq_true]
    · rw [decide_eq_false h2] at q2 ⊢
      simp -implicitDefEqProofs only [go_sem, simprocAttr, -Int.reducePow, Tryz.f54, DD, x_app, x_ga0, x_gas, x_gan, Int.cast_ofNat_Int, eq_self, Int.zero_lt_one, Bool.not_false, Bool.not_true, beq_self_eq_true, Raw.cells]
      refine callK_pl annuluslaw12_small.call (q1) (pl1 (pld_dy _ _ _)) ?_
      simp -implicitDefEqProofs only [go_sem, simprocAttr, -Int.reducePow, DD, x_app, x_ga0, x_gas, x_gan, Int.cast_ofNat_Int, eq_self, Int.zero_lt_one, Bool.not_false, Bool.not_true, beq_self_eq_true]
      refine callK_pl annuluslaw12_small.call (q2) (pl1 (pld_dy _ _ _)) ?_
      simp -implicitDefEqProofs only [go_sem, simprocAttr, -Int.reducePow, DD, x_app, x_ga0, x_gas, x_gan, Int.cast_ofNat_Int, eq_self, Int.zero_lt_one, Bool.not_false, Bool.not_true, beq_self_eq_true]
  · rw [decide_eq_false h1] at q1
    rw [decide_eq_false (show ¬ Raw.sm ⟨b, l, e, c, k, g⟩ from fun h => h1 h.1)]
    simp -implicitDefEqProofs only [go_sem, simprocAttr, -Int.reducePow, Tryz.f54, DD, x_app, x_ga0, x_gas, x_gan, Int.cast_ofNat_Int, eq_self, Int.zero_lt_one, Bool.not_false, Bool.not_true, beq_self_eq_true, Raw.cells]
    refine callK_pl annuluslaw12_small.call (q1) (pl1 (pld_dy _ _ _)) ?_
    simp -implicitDefEqProofs only [go_sem, simprocAttr, -Int.reducePow, DD, x_app, x_ga0, x_gas, x_gan, Int.cast_ofNat_Int, eq_self, Int.zero_lt_one, Bool.not_false, Bool.not_true, beq_self_eq_true]

theorem of12_s (a r : Int) (ha : a.natAbs < 1000000) (hr : r.natAbs < 1000000) : Sat CT false 83 [I64 a, I64 r] (TI (zI a 0) (dv r 0)) := by
  refine sat_of annuluslaw12_of.ok (by simp) ?_
  have DD := annuluslaw12_of.dr
  simp only [drP, drPx, drPt, drR, drS, drT, bodyOf, Tryz.f83, Nat.reduceEqDiff, reduceIte, true_and, and_true] at DD
  have u1 := rof8_sat a 0 (by omega) (by omega) (by omega) (by omega)
  have u2 := rof4_sat r (by omega) (by omega)
  simp -implicitDefEqProofs only [go_sem, simprocAttr, -Int.reducePow, Tryz.f83, DD, TI, zI, List.take_succ_cons, List.drop_succ_cons]
  refine callK_q annulusref8_Of.call (u1) rfl rfl ?_
  simp -implicitDefEqProofs only [go_sem, simprocAttr, -Int.reducePow, DD, TI, zI, List.take_succ_cons, List.drop_succ_cons]
  refine callK_q annulusref4_Of.call (u2) rfl rfl ?_
  simp -implicitDefEqProofs only [go_sem, simprocAttr, -Int.reducePow, DD, TI, zI, List.take_succ_cons, List.drop_succ_cons]
  rfl
end Go.Ab

set_option linter.unusedVariables false
set_option maxRecDepth 20000
set_option linter.unusedSimpArgs false
set_option linter.unusedSectionVars false
namespace Go.Ab
open Go.Proofs
open Cx (zero one)
attribute [-go_sem] appF newsF
variable {a b : AV} {x y r s t : Dyadic} {z w c d e : Cx} {B C B' C' n m P : Nat} {cs ds : List AV} {u u' : Nat → Cx} {v v' : Nat → Dyadic} {f g : Po}
/-! balls: what is known of them -/
structure FV (H : Heap) (a d : AV) : Prop where
  snp : snap H a = d
  own : ownOK H false a
  isd : IsD d
inductive FVs (H : Heap) : List AV → List AV → Prop
  | nil : FVs H [] []
  | cons {a d : AV} {l m : List AV} (h : FV H a d) (t : FVs H l m) : FVs H (a :: l) (d :: m)
theorem FVs.snp {H : Heap} {l m : List AV} (h : FVs H l m) : l.map (snap H) = m := by
  induction h with
  | nil => rfl
  | cons h t ih => rw [List.map_cons, h.snp, ih]
theorem FVs.own {H : Heap} {l m : List AV} (h : FVs H l m) : ∀ a ∈ l, ownOK H false a := by
  induction h with
  | nil => intro a q; cases q
  | cons h t ih => intro a q; rcases List.mem_cons.1 q with rfl | q; exact h.own; exact ih a q
theorem FVs.isd {H : Heap} {l m : List AV} (h : FVs H l m) : ∀ d ∈ m, IsD d := by
  induction h with
  | nil => intro a q; cases q
  | cons h t ih => intro a q; rcases List.mem_cons.1 q with rfl | q; exact h.isd; exact ih a q
theorem callK_fvs {C : Ctx} {d : Bool} {f : FuncId} {args ds : List AV} {H : Heap} {r : AV} {K : AV → Heap → Prop} (hc : callable C.P f = true) (h : Sat C false f ds r) (ha : FVs H args ds) (hd1 : d = true) (hK : K r H) : callK C d f args H K := by
  subst hd1
  exact callK_of false (H' := H) hc h rfl ha.snp ha.own ha.isd hK
theorem PlD.fv {d : AV} (h : PlD d) (H : Heap) : FV H d d := ⟨h.snp H, h.own H, h.isd⟩
theorem fv_nil (H : Heap) : FV H (.v (.slice none 0 0)) (.sl 0 []) := ⟨rfl, trivial, isD_sl (fun c hc => by cases hc)⟩
/-- an own row that is written no more -/
def FZ (sz : Nat) (a : AV) (H : Heap) (cs : List AV) (n : Nat) : Prop := ∃ k, a = .own sz k 0 n ∧ H.getD k ⟨[], false, false⟩ = ⟨cs, true, false⟩ ∧ k < H.length ∧ cs.length = n * sz
theorem FZ.ext {sz : Nat} {H : Heap} (h : FZ sz a H cs n) (x : AObj) : FZ sz a (H ++ [x]) cs n := by
  obtain ⟨k, h1, h2, h3, h4⟩ := h
  exact ⟨k, h1, by rw [getD_hp h3]; exact h2, by simp; omega, h4⟩
theorem FZ.fv {sz : Nat} {H : Heap} (h : FZ sz a H cs n) (e : cs.map snap0 = cs) (hd' : ∀ c ∈ cs, IsD c) : FV H a (.sl n cs) := by
  obtain ⟨k, rfl, h2, h3, h4⟩ := h
  refine ⟨?_, ?_, isD_sl hd'⟩
  · show AV.sl n ((((H.getD k ⟨[], false, false⟩).cells.drop 0).take (n * sz)).map snap0) = _
    rw [h2, List.drop_zero, ← h4, List.take_length, e]
  · show (H.getD k ⟨[], false, false⟩).rd = true ∧ (false = true ∨ (H.getD k ⟨[], false, false⟩).wr = false) ∧ 0 + n * sz ≤ (H.getD k ⟨[], false, false⟩).cells.length
    rw [h2]; exact ⟨rfl, .inr rfl, by show 0 + n * sz ≤ cs.length; omega⟩
theorem RSl.fzA {sz : Nat} {H : Heap} (h : RSl sz a H cs n) (hn : n ≠ 0) : FZ sz a (fzAll H) cs n := by
  rcases h with ⟨_, h, _⟩ | ⟨k, wr, h1, h2, h3, h4⟩
  · exact absurd h hn
  · refine ⟨k, h1, ?_, by simpa [fzAll] using h3, h4⟩
    have := hd_fzAll H k
    unfold hd at this
    rw [this, h2]
def kU : Nat → Cx := fun i => match i with | 0 => zI 1 0 | _ + 1 => zI 2 0
def kV : Nat → Dyadic := fun i => match i with | 0 => dv 1 0 | _ + 1 => dv 0 0
def kF : Po := fun i => if i < 2 then zI 2 0 else zero
theorem kU_cb (i : Nat) : CB (kU i) 64 := by cases i <;> exact zI_db (by decide) (by decide)
theorem kV_db (i : Nat) : DB (kV i) 64 := by cases i <;> exact dI_db (by decide)
theorem kF_pb : PB kF 64 := fun i => by unfold kF; split; exact zI_db (by decide) (by decide); exact CB.zero _
theorem kF_sp : Sp 2 kF := fun k hk => if_neg (by omega)
theorem zI_ne0 {a : Int} (h : a ≠ 0) : zI a 0 ≠ zero := fun e => h (by
  have := congrArg Cx.re e
  exact dv_eq_zero.1 this)
theorem kF_dg : dg 2 kF = 2 := dg_uniq kF_sp kF_sp (.inr (by show kF 1 ≠ zero; unfold kF; rw [if_pos (by decide)]; exact zI_ne0 (by decide)))
theorem k_tls : tls 2 kU kV = tcl (zI 1 0) (dv 1 0) ++ tcl (zI 2 0) (dv 0 0) := by rw [tlsS, tlsS, tls0]; rfl
theorem k_pcl : pcl 2 kF = CIc (zI 2 0) ++ CIc (zI 2 0) := by rw [pclS, pclS, pcl0]; rfl
theorem k_rts : RTs (tls 2 kU kV) 2 kU kV 296 296 := RTs_T (fun i _ => CB.mono (kU_cb i) (by decide)) (fun i _ => (kV_db i).mono (by decide))
theorem k_rp : RP (pcl 2 kF) 2 kF 64 := RP_P kF_pb kF_sp (by decide)
theorem k_may : mayP 2 kU (fun i => rp (kV i)) (dg 2 kF) kF := ⟨dg_le _ _, fun i hi => by
  match i, hi with
  | 0, _ => show hasP (zI 1 0) (rp (dv 1 0)) (zI 2 0); rw [rp_I 1 (by decide)]; exact (hasI _ _ _ _ _).2 (by decide)
  | 1, _ => show hasP (zI 2 0) (rp (dv 0 0)) (zI 2 0); rw [rp_I 0 (by decide)]; exact (hasI _ _ _ _ _).2 (by decide)⟩
theorem k_may0 : ¬ mayP 2 kU (fun i => rp (kV i)) 0 (fun _ => zero) := fun h => by
  have h1 := h.2 1 (by decide)
  have h1 : hasP (zI 2 0) (rp (dv 0 0)) (zI 0 0) := h1
  rw [rp_I 0 (by decide)] at h1
  exact absurd ((hasI _ _ _ _ _).1 h1) (by decide)
theorem k_at : atC 2 kU (zI 1 0) 2 = zI 3 0 := by
  show (zero * zI 1 0 + zI 2 0) * zI 1 0 + zI 1 0 = _
  rw [show zero * zI 1 0 = zI 0 0 from (zI_mul 0 0 1 0).trans rfl, zI_add, zI_mul, zI_add]; rfl
theorem dmx_I (a b : Int) : dmx (dv a 0) (dv b 0) = dv (if b ≤ a then a else b) 0 := by
  unfold dmx
  rw [sign_dI]
  have := sgn_ge0 (z := a - b)
  by_cases h : b ≤ a
  · rw [if_pos (by omega), if_pos h]
  · rw [if_neg (by omega), if_neg h]
theorem k_wide : wide kV 2 = dv 1 0 := by
  show dmx (dmx (dv 0 0) (dv 1 0)) (dv 0 0) = _
  rw [dmx_I, dmx_I]; rfl
theorem k_der : dvC kU 0 = zI 2 0 ∧ dvR kV 0 = dv 0 0 := by
  refine ⟨?_, ?_⟩
  · show (⟨dv 2 0 * dv 1 0, dv 0 0 * dv 1 0⟩ : Cx) = _
    rw [dvm0, dvm0]; rfl
  · show rp (dv 0 0) * dv 1 0 = _
    rw [rp_I 0 (by decide), dvm0]; rfl
theorem x_zerB9 {a b c d e f g h i : Value} : zerosA [a, b, c, d, e, f, g, h, i] 2 = [.v a, .v b, .v c, .v d, .v e, .v f, .v g, .v h, .v i, .v a, .v b, .v c, .v d, .v e, .v f, .v g, .v h, .v i] := by simp [zerosA, List.range_succ]
theorem requal8_y (h : CB z B) (hB : B ≤ 19000) : Sat CT false 13 [CI z, CI z] (Bo true) := by
  have := requal8d h h (by omega) (by omega)
  rwa [decide_eq_true rfl] at this
section
attribute [local go_sem] x_takeT x_lenT x_leafT x_hget2 x_hget3 x_hget4 x_zerA9 x_zerB9
set_option maxHeartbeats 4000000 in
theorem known12_s : Sat CT false 37 [] (Bo true) := by
  refine sat_ofX annuluslaw12_known.ok (by simp) ?_
  have DD := annuluslaw12_known.dr
  simp only [drP, drPx, drPt, drR, drS, drT, bodyOf, Tryz.f37, Nat.reduceEqDiff, reduceIte, true_and, and_true] at DD
  have q11 := of12_s 1 1 (by decide) (by decide)
  have q20 := of12_s 2 0 (by decide) (by decide)
  have q10 := of12_s 1 0 (by decide) (by decide)
  have q00 := of12_s 0 0 (by decide) (by decide)
  have o2 := rof8_sat 2 0 (by decide) (by decide) (by decide) (by decide)
  have o3 := rof8_sat 3 0 (by decide) (by decide) (by decide) (by decide)
  have o1 := rof4_sat 1 (by decide) (by decide)
  have p1 := bat_s k_rts (by decide) ((tI_rt (a := 1) (b := 0) (r := 0) (by decide) (by decide) (by decide)).mono (C := 296) (C' := 296) (by decide) (by decide)) 20 (by decide)
  rw [k_at] at p1
  generalize atR 2 kU (fun i => rp (kV i)) (zI 1 0) (rp (dv 0 0)) (heldP 20) 2 = R at *
  have p2 := bderiv_s k_rts (isD_tls _ _ _) (by decide)
  have eTA : TA (2 - 1) (dvC kU) (dvR kV) = .sl 1 (tcl (zI 2 0) (dv 0 0)) := by unfold TA; rw [tlsS, tls0, k_der.1, k_der.2]; rfl
  rw [eTA] at p2
  have p3 := bhas_s k_rts (isD_tls _ _ _) (by decide) k_rp (isD_pcl _ _) (by decide) (by decide) (by decide)
  rw [decide_eq_true k_may] at p3
  have p4 := bhas_s k_rts (isD_tls _ _ _) (by decide) RP_nil (fun c hc => by cases hc) (by decide) (by decide) (by decide)
  rw [dg0, decide_eq_false k_may0] at p4
  have r00 : RTs (tls 1 (fun _ => zI 0 0) (fun _ => dv 0 0)) 1 (fun _ => zI 0 0) (fun _ => dv 0 0) 64 64 := RTs_T (fun _ _ => zI_db (by decide) (by decide)) (fun _ _ => dI_db (by decide))
  have p5 := bhas_s r00 (isD_tls _ _ _) (by decide) RP_nil (fun c hc => by cases hc) (by decide) (by decide) (by decide)
  rw [dg0, decide_eq_true ⟨by decide, fun i _ => by show hasP (zI 0 0) (rp (dv 0 0)) (zI 0 0); rw [rp_I 0 (by decide)]; exact (hasI _ _ _ _ _).2 (by decide)⟩] at p5
  have p6 := requal8_y (zI_db (a := 3) (b := 0) (by decide) (by decide)) (by decide)
  have p7 := bwide_s k_rts (by decide)
  rw [k_wide] at p7
  have p8 := requal4d (dI_db (v := 1) (by decide)) (dI_db (v := 1) (by decide)) (by decide) (by decide)
  rw [decide_eq_true rfl] at p8
  have p9 := bzero_s k_rts (isD_tls _ _ _) (by decide) (by decide) (by decide)
  rw [decide_eq_false k_may0] at p9
  have e2 := fequal_s (zI_db (a := 2) (b := 0) (by decide) (by decide)) (dI_db (v := 0) (by decide)) (zI_db (a := 2) (b := 0) (by decide) (by decide)) (dI_db (v := 0) (by decide)) (by decide) (by decide) (by decide) (by decide)
  rw [decide_eq_true ⟨rfl, rfl⟩] at e2
  have pA := bof_s k_rp (isD_pcl _ _) (by decide)
  rw [kF_dg] at pA
  have pB := badd_s k_rts (isD_tls _ _ _) (by decide) (RTs_T (n := 0) (u := kU) (v := kV) (fun _ h => by omega) (fun _ h => by omega)) (isD_tls _ _ _) (by decide)
  rw [tls0, show max 2 0 = 2 from rfl] at pB
  unfold TA at pA pB
  unfold aX1
  simp only [bodyOf, aW1, Tryz.f37]
  refine aX_seq aW0_mono ?_
  simp -implicitDefEqProofs only [go_sem, simprocAttr, -Int.reducePow, DD, x_app, x_ga0, x_gas, x_gan, Int.cast_ofNat_Int, eq_self, Int.zero_lt_one, Bool.not_false, Bool.not_true, beq_self_eq_true]
  rw [x_HY]
  refine aX_seq aW0_mono ?_
  simp -implicitDefEqProofs only [go_sem, simprocAttr, -Int.reducePow, DD, x_app, x_ga0, x_gas, x_gan, Int.cast_ofNat_Int, eq_self, Int.zero_lt_one, Bool.not_false, Bool.not_true, beq_self_eq_true]
  refine callK_pl annuluslaw12_of.call (q11) (pl2 pld_int pld_int) ?_
  simp -implicitDefEqProofs only [go_sem, simprocAttr, -Int.reducePow, DD, x_app, x_ga0, x_gas, x_gan, Int.cast_ofNat_Int, eq_self, Int.zero_lt_one, Bool.not_false, Bool.not_true, beq_self_eq_true]
  refine callK_pl annuluslaw12_of.call (q20) (pl2 pld_int pld_int) ?_
  simp -implicitDefEqProofs only [go_sem, simprocAttr, -Int.reducePow, DD, x_app, x_ga0, x_gas, x_gan, Int.cast_ofNat_Int, eq_self, Int.zero_lt_one, Bool.not_false, Bool.not_true, beq_self_eq_true, TI]
  rw [x_HY]
  refine aX_seq aW0_mono ?_
  simp -implicitDefEqProofs only [go_sem, simprocAttr, -Int.reducePow, DD, x_app, x_ga0, x_gas, x_gan, Int.cast_ofNat_Int, eq_self, Int.zero_lt_one, Bool.not_false, Bool.not_true, beq_self_eq_true]
  refine callK_pl annulusref8_Of.call (o2) (pl2 pld_int pld_int) ?_
  simp -implicitDefEqProofs only [go_sem, simprocAttr, -Int.reducePow, DD, x_app, x_ga0, x_gas, x_gan, Int.cast_ofNat_Int, eq_self, Int.zero_lt_one, Bool.not_false, Bool.not_true, beq_self_eq_true]
  refine callK_pl annulusref8_Of.call (o2) (pl2 pld_int pld_int) ?_
  simp -implicitDefEqProofs only [go_sem, simprocAttr, -Int.reducePow, DD, x_app, x_ga0, x_gas, x_gan, Int.cast_ofNat_Int, eq_self, Int.zero_lt_one, Bool.not_false, Bool.not_true, beq_self_eq_true]
  rw [x_HY]
  refine aX_cut aW0_mono (fun σ => ∃ sl H, σ = ⟨sl, H⟩ ∧ RSl 9 (look sl 1) H (tls 2 kU kV) 2 ∧ RSl 6 (look sl 2) H (pcl 2 kF) 2 ∧ ∃ k, look sl 3 = .ptr k 0 ∧ RSl 9 (.own 9 k 0 1) H (tcl (zI 3 0) R) 1) ?_ ?_
  · simp -implicitDefEqProofs only [go_sem, simprocAttr, -Int.reducePow, DD, x_app, x_ga0, x_gas, x_gan, Int.cast_ofNat_Int, eq_self, Int.zero_lt_one, Bool.not_false, Bool.not_true, beq_self_eq_true]
    refine callK_pl annuluslaw12_of.call (q10) (pl2 pld_int pld_int) ?_
    simp -implicitDefEqProofs only [go_sem, simprocAttr, -Int.reducePow, DD, x_app, x_ga0, x_gas, x_gan, Int.cast_ofNat_Int, eq_self, Int.zero_lt_one, Bool.not_false, Bool.not_true, beq_self_eq_true]
    refine callK_ar balls_At.call p1 (.cons (.row (cs := tls 2 kU kV) (.inr ⟨0, true, rfl, by rw [k_tls]; rfl, by simp, tls_len _ _ _⟩) (snap0_tls _ _ _) (isD_tls _ _ _)) (.cons (.pl (pld_TI _ _)) (.cons (.pl pld_int) .nil))) rfl ?_
    intro H1 hk
    have g1 : RSl 9 (.own 9 0 0 2) H1 (tls 2 kU kV) 2 := hk.2 _ _ _ _ (.inr ⟨0, true, rfl, by rw [k_tls]; rfl, by simp, tls_len _ _ _⟩)
    have g2 : RSl 6 (.own 6 1 0 2) H1 (pcl 2 kF) 2 := hk.2 _ _ _ _ (.inr ⟨1, true, rfl, by rw [k_pcl]; rfl, by simp, pcl_len _ _⟩)
    simp -implicitDefEqProofs only [go_sem, simprocAttr, -Int.reducePow, DD, x_app, x_ga0, x_gas, x_gan, Int.cast_ofNat_Int, eq_self, Int.zero_lt_one, Bool.not_false, Bool.not_true, beq_self_eq_true, TI_c]
    exact ⟨_, _, rfl, by simp only [x_look, reduceIte, Nat.reduceEqDiff]; exact g1.ext _, by simp only [x_look, reduceIte, Nat.reduceEqDiff]; exact g2.ext _, _, by simp [x_look], .inr ⟨_, true, rfl, x_hget, by simp, rfl⟩⟩
  rintro _ ⟨sl, H, rfl, g1, g2, k, k3, g3⟩
  refine aX_fz aW0_mono (fun σ => ∃ sl H, σ = ⟨sl, H⟩ ∧ RSl 9 (look sl 1) H (tls 2 kU kV) 2 ∧ RSl 6 (look sl 2) H (pcl 2 kF) 2 ∧ (∃ k, look sl 3 = .ptr k 0 ∧ RSl 9 (.own 9 k 0 1) H (tcl (zI 3 0) R) 1) ∧ look sl 4 = .sl 1 (tcl (zI 2 0) (dv 0 0))) ?_ ?_
  · simp -implicitDefEqProofs only [go_sem, simprocAttr, -Int.reducePow, DD, x_app, x_ga0, x_gas, x_gan, Int.cast_ofNat_Int, eq_self, Int.zero_lt_one, Bool.not_false, Bool.not_true, beq_self_eq_true]
    refine callK_ar balls_Deriv.call p2 (.cons (.row g1 (snap0_tls _ _ _) (isD_tls _ _ _)) .nil) rfl ?_
    intro H1 hk
    have g1 := hk.2 _ _ _ _ g1
    have g2 := hk.2 _ _ _ _ g2
    have g3 := hk.2 _ _ _ _ g3
    simp -implicitDefEqProofs only [go_sem, simprocAttr, -Int.reducePow, DD, x_app, x_ga0, x_gas, x_gan, Int.cast_ofNat_Int, eq_self, Int.zero_lt_one, Bool.not_false, Bool.not_true, beq_self_eq_true]
    exact ⟨_, _, rfl, by simp only [x_look, reduceIte, Nat.reduceEqDiff]; exact g1, by simp only [x_look, reduceIte, Nat.reduceEqDiff]; exact g2, ⟨k, by simp only [x_look, reduceIte, Nat.reduceEqDiff]; exact k3, g3⟩, by simp [x_look]⟩
  clear g1 g2 g3 k3
  rintro _ ⟨sl, H, rfl, g1, g2, ⟨k, k3, g3⟩, k4⟩
  have f1 := g1.fzA (by decide)
  have f2 := g2.fzA (by decide)
  obtain ⟨k', e3, f3, h3, _⟩ := g3.fzA (by decide)
  obtain rfl : k = k' := by injection e3
  clear g1 g2 g3 e3
  simp only
  generalize fzAll H = G at *
  have v1 := f1.fv (snap0_tls _ _ _) (isD_tls _ _ _)
  have v2 := f2.fv (snap0_pcl _ _) (isD_pcl _ _)
  have v1' := fun y => (f1.ext y).fv (snap0_tls _ _ _) (isD_tls _ _ _)
  have v2' := fun y => (f2.ext y).fv (snap0_pcl _ _) (isD_pcl _ _)
  have f3' : ∀ y, (G ++ [y]).getD k ⟨[], false, false⟩ = ⟨tcl (zI 3 0) R, true, false⟩ := fun y => by rw [getD_hp h3]; exact f3
  refine aX_w ?_
  simp -implicitDefEqProofs only [go_sem, simprocAttr, -Int.reducePow, DD, x_app, x_ga0, x_gas, x_gan, Int.cast_ofNat_Int, eq_self, Int.zero_lt_one, Bool.not_false, Bool.not_true, beq_self_eq_true, k3, k4, f3, f3', Int.natCast_one, Int.cast_ofNat_Int]
  refine callK_fvs balls_Has.call p3 (.cons v1 (.cons v2 .nil)) rfl ?_
  simp -implicitDefEqProofs only [go_sem, simprocAttr, -Int.reducePow, DD, x_app, x_ga0, x_gas, x_gan, Int.cast_ofNat_Int, eq_self, Int.zero_lt_one, Bool.not_false, Bool.not_true, beq_self_eq_true, k3, k4, f3, f3', Int.natCast_one, Int.cast_ofNat_Int]
  refine callK_fvs balls_Has.call p4 (.cons v1 (.cons (fv_nil _) .nil)) rfl ?_
  simp -implicitDefEqProofs only [go_sem, simprocAttr, -Int.reducePow, DD, x_app, x_ga0, x_gas, x_gan, Int.cast_ofNat_Int, eq_self, Int.zero_lt_one, Bool.not_false, Bool.not_true, beq_self_eq_true, k3, k4, f3, f3', Int.natCast_one, Int.cast_ofNat_Int]
  refine callK_pl annuluslaw12_of.call (q00) (pl2 pld_int pld_int) ?_
  simp -implicitDefEqProofs only [go_sem, simprocAttr, -Int.reducePow, DD, x_app, x_ga0, x_gas, x_gan, Int.cast_ofNat_Int, eq_self, Int.zero_lt_one, Bool.not_false, Bool.not_true, beq_self_eq_true, k3, k4, f3, f3', Int.natCast_one, Int.cast_ofNat_Int, TI, List.take_succ_cons, List.drop_succ_cons, List.take_zero, List.drop_zero]
  refine callK_fvs balls_Has.call p5 (.cons (FZ.fv (sz := 9) ⟨_, rfl, by rw [x_hget]; rw [tlsS, tls0]; rfl, by simp, tls_len _ _ _⟩ (snap0_tls _ _ _) (isD_tls _ _ _)) (.cons (fv_nil _) .nil)) rfl ?_
  simp -implicitDefEqProofs only [go_sem, simprocAttr, -Int.reducePow, DD, x_app, x_ga0, x_gas, x_gan, Int.cast_ofNat_Int, eq_self, Int.zero_lt_one, Bool.not_false, Bool.not_true, beq_self_eq_true, k3, k4, f3, f3', Int.natCast_one, Int.cast_ofNat_Int, List.take_succ_cons, List.drop_succ_cons, List.take_zero, List.drop_zero]
  refine callK_pl annulusref8_Of.call (o3) (pl2 pld_int pld_int) ?_
  simp -implicitDefEqProofs only [go_sem, simprocAttr, -Int.reducePow, DD, x_app, x_ga0, x_gas, x_gan, Int.cast_ofNat_Int, eq_self, Int.zero_lt_one, Bool.not_false, Bool.not_true, beq_self_eq_true, k3, k4, f3, f3', Int.natCast_one, Int.cast_ofNat_Int, List.take_succ_cons, List.drop_succ_cons, List.take_zero, List.drop_zero, tcl]
  refine callK_pl annulusref8_Equal.call (p6) (pl2 (pld_CI (zI 3 0)) (pld_CI (zI 3 0))) ?_
  simp -implicitDefEqProofs only [go_sem, simprocAttr, -Int.reducePow, DD, x_app, x_ga0, x_gas, x_gan, Int.cast_ofNat_Int, eq_self, Int.zero_lt_one, Bool.not_false, Bool.not_true, beq_self_eq_true, k3, k4, f3, f3', Int.natCast_one, Int.cast_ofNat_Int]
  refine callK_fvs balls_Wide.call p7 (.cons (v1' _) .nil) rfl ?_
  simp -implicitDefEqProofs only [go_sem, simprocAttr, -Int.reducePow, DD, x_app, x_ga0, x_gas, x_gan, Int.cast_ofNat_Int, eq_self, Int.zero_lt_one, Bool.not_false, Bool.not_true, beq_self_eq_true, k3, k4, f3, f3', Int.natCast_one, Int.cast_ofNat_Int]
  refine callK_pl annulusref4_Of.call (o1) (pl1 pld_int) ?_
  simp -implicitDefEqProofs only [go_sem, simprocAttr, -Int.reducePow, DD, x_app, x_ga0, x_gas, x_gan, Int.cast_ofNat_Int, eq_self, Int.zero_lt_one, Bool.not_false, Bool.not_true, beq_self_eq_true, k3, k4, f3, f3', Int.natCast_one, Int.cast_ofNat_Int]
  refine callK_pl annulusref4_Equal.call (p8) (pl2 (pld_DI _) (pld_DI _)) ?_
  simp -implicitDefEqProofs only [go_sem, simprocAttr, -Int.reducePow, DD, x_app, x_ga0, x_gas, x_gan, Int.cast_ofNat_Int, eq_self, Int.zero_lt_one, Bool.not_false, Bool.not_true, beq_self_eq_true, k3, k4, f3, f3', Int.natCast_one, Int.cast_ofNat_Int]
  refine callK_fvs balls_Zero.call p9 (.cons (v1' _) .nil) rfl ?_
  simp -implicitDefEqProofs only [go_sem, simprocAttr, -Int.reducePow, DD, x_app, x_ga0, x_gas, x_gan, Int.cast_ofNat_Int, eq_self, Int.zero_lt_one, Bool.not_false, Bool.not_true, beq_self_eq_true, k3, k4, f3, f3', Int.natCast_one, Int.cast_ofNat_Int, List.take_succ_cons, List.drop_succ_cons, List.take_zero, List.drop_zero, x_lenT, x_takeT]
  refine callK_pl annuluslaw12_of.call (q20) (pl2 pld_int pld_int) ?_
  simp -implicitDefEqProofs only [go_sem, simprocAttr, -Int.reducePow, DD, x_app, x_ga0, x_gas, x_gan, Int.cast_ofNat_Int, eq_self, Int.zero_lt_one, Bool.not_false, Bool.not_true, beq_self_eq_true, k3, k4, f3, f3', Int.natCast_one, Int.cast_ofNat_Int, List.take_succ_cons, List.drop_succ_cons, List.take_zero, List.drop_zero, x_lenT, x_takeT]
  refine callK_pl annulusref8_EqualDisc.call (e2) (pl2 (pld_TI _ _) (pld_TI _ _)) ?_
  simp -implicitDefEqProofs only [go_sem, simprocAttr, -Int.reducePow, DD, x_app, x_ga0, x_gas, x_gan, Int.cast_ofNat_Int, eq_self, Int.zero_lt_one, Bool.not_false, Bool.not_true, beq_self_eq_true, k3, k4, f3, f3', Int.natCast_one, Int.cast_ofNat_Int]
  refine callK_fvs balls_Of.call pA (.cons (v2' _) .nil) rfl ?_
  simp -implicitDefEqProofs only [go_sem, simprocAttr, -Int.reducePow, DD, x_app, x_ga0, x_gas, x_gan, Int.cast_ofNat_Int, eq_self, Int.zero_lt_one, Bool.not_false, Bool.not_true, beq_self_eq_true, k3, k4, f3, f3', Int.natCast_one, Int.cast_ofNat_Int]
  refine callK_fvs balls_Add.call pB (.cons (v1' _) (.cons (fv_nil _) .nil)) rfl ?_
  simp -implicitDefEqProofs only [go_sem, simprocAttr, -Int.reducePow, DD, x_app, x_ga0, x_gas, x_gan, Int.cast_ofNat_Int, eq_self, Int.zero_lt_one, Bool.not_false, Bool.not_true, beq_self_eq_true, k3, k4, f3, f3', Int.natCast_one, Int.cast_ofNat_Int]
end
end Go.Ab

set_option linter.unusedVariables false
set_option maxRecDepth 20000
set_option linter.unusedSimpArgs false
set_option linter.unusedSectionVars false
namespace Go.Ab
open Go.Proofs
open Cx (zero one)
attribute [-go_sem] appF newsF
variable {a b : AV} {x y r s t : Dyadic} {z w c d e : Cx} {B C B' C' n m P : Nat} {cs ds : List AV} {u u' : Nat → Cx} {v v' : Nat → Dyadic} {f g : Po}
/-! balls: sums, derivatives, what is known exactly -/
theorem CB.add' (h : CB z B) (g : CB w C) : CB (z + w) (max B C + 1) := ⟨DB.add' h.1 g.1, DB.add' h.2 g.2⟩
theorem bsC_cb (h : ∀ i, i < n → CB (u i) 296) (g : ∀ i, i < m → CB (u' i) 296) (i : Nat) : CB (bsC n m u u' i) 297 := by
  unfold bsC
  refine CB.add' (B := 296) (C := 296) ?_ ?_
  · split; exact h i ‹_›; exact CB.zero _
  · split; exact g i ‹_›; exact CB.zero _
theorem bsR_db (h : ∀ i, i < n → DB (v i) 296) (g : ∀ i, i < m → DB (v' i) 296) (i : Nat) : DB (bsR n m v v' i) 297 := by
  unfold bsR
  refine DB.add' (B := 296) (C := 296) ?_ ?_
  · split; exact rp_db (h i ‹_›); exact DB.zero _
  · split; exact rp_db (g i ‹_›); exact DB.zero _
theorem pr_ti0 (c : Cx) : PlR (.agg [Bo (decide (dnum c.re < 0)), U32 (lim (dnum c.re).natAbs), I64 (dexp c.re), Bo (decide (dnum c.im < 0)), U32 (lim (dnum c.im).natAbs), I64 (dexp c.im), Bo false, .v (.slice none 0 0), I64 0]) (TI c 0) := by
  refine ⟨(pld_TI c 0).isd, fun H => ?_, fun H a ha => ?_, fun H l => rfl⟩
  · show AV.agg [Bo (decide (dnum c.re < 0)), U32 (lim (dnum c.re).natAbs), I64 (dexp c.re), Bo (decide (dnum c.im < 0)), U32 (lim (dnum c.im).natAbs), I64 (dexp c.im), Bo false, .sl 0 [], I64 0] = TI c 0
    unfold TI
    rw [z0a, z0b, de0]; rfl
  · simp only [List.mem_cons, List.not_mem_nil, or_false] at ha
    rcases ha with rfl | rfl | rfl | rfl | rfl | rfl | rfl | rfl | rfl <;> trivial
theorem fequal_y (hc : CB c B) (hr : DB r B') (hB : B ≤ 20000) (hB' : B' ≤ 20000) : Sat CT false 48 [TI c r, TI c r] (Bo true) := by
  have := fequal_s hc hr hc hr hB hB hB' hB'
  rwa [decide_eq_true ⟨rfl, rfl⟩] at this
theorem x_hset2 {H : Heap} {x y z : AObj} : ((H ++ [x]) ++ [y]).set H.length z = (H ++ [z]) ++ [y] := by simp [List.set_append]
theorem x_hset3 {H : Heap} {x y z : AObj} : ((H ++ [x]) ++ [y]).set (H.length + 1) z = (H ++ [x]) ++ [z] := by simp [List.set_append]
theorem x_hget5 {H : Heap} {x y d : AObj} : ((H ++ [x]) ++ [y]).getD (H.length + 1) d = y := by simp [List.getD_eq_getElem?_getD]
theorem x_hset4 {H : Heap} {x y z : AObj} : ((H ++ [x]) ++ [y]).set (H ++ [x]).length z = (H ++ [x]) ++ [z] := by simp [List.set_append]
theorem x_hset5 {H : Heap} {x y z u : AObj} : ((H ++ [x]) ++ [y]).set (H ++ [u]).length z = (H ++ [x]) ++ [z] := by simp [List.set_append]
theorem x_hget6 {H : Heap} {x y d u : AObj} : ((H ++ [x]) ++ [y]).getD (H ++ [u]).length d = y := by simp [List.getD_eq_getElem?_getD]
section
attribute [local go_sem] x_takeT x_lenT x_leafT x_hget2 x_hget3 x_hget4 x_zerA9 x_hset2 x_hset3 x_hget5 x_hset4 x_hset5 x_hget6
end
end Go.Ab
