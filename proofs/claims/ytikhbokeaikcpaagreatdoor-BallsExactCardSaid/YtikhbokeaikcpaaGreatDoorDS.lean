/- Contracts of this seat's functions (of each call: what it answers), walked over the abstract machine, and the laws of numbers that they want. Conditions: those that each theorem states. -/
import Derived.Test.YtikhbokeaikcpaaGreatDoorD4
set_option linter.unusedVariables false
set_option maxRecDepth 20000
set_option linter.unusedSimpArgs false
set_option linter.unusedSectionVars false
namespace Go.Ab
open Go.Proofs
open Go.RowKit (Below)
open Cx (zero one)

/-! rows of points; what is appended to; contracts out of contracts over the own objects -/
def CIc (z : Cx) : List AV := [Bo (decide (dnum z.re < 0)), U32 (lim (dnum z.re).natAbs), I64 (dexp z.re), Bo (decide (dnum z.im < 0)), U32 (lim (dnum z.im).natAbs), I64 (dexp z.im)]
theorem CI_c (z : Cx) : CI z = .agg (CIc z) := rfl
/-- the cells of the first n coefficients -/
def pcl : Nat → Po → List AV
  | 0, _ => []
  | n + 1, f => pcl n f ++ CIc (f n)
theorem pcl0 (f : Po) : pcl 0 f = [] := by rw [pcl]
theorem pclS (n : Nat) (f : Po) : pcl (n + 1) f = pcl n f ++ CIc (f n) := by rw [pcl]
theorem pcl_len (n : Nat) (f : Po) : (pcl n f).length = n * 6 := by
  induction n with
  | zero => rw [pcl0]; rfl
  | succ n ih => rw [pclS, List.length_append, ih]; show n * 6 + 6 = _; omega
theorem pcl_pre (n d : Nat) (f : Po) : ∃ l, pcl (n + d) f = pcl n f ++ l := by
  induction d with
  | zero => exact ⟨[], by simp⟩
  | succ d ih =>
    obtain ⟨l, hl⟩ := ih
    exact ⟨l ++ CIc (f (n + d)), by rw [← Nat.add_assoc, pclS, hl, List.append_assoc]⟩
theorem pcl_el {n i : Nat} (f : Po) (h : i < n) : ((pcl n f).drop (i * 6)).take 6 = CIc (f i) := by
  obtain ⟨l, hl⟩ := pcl_pre (i + 1) (n - (i + 1)) f
  rw [show i + 1 + (n - (i + 1)) = n by omega] at hl
  rw [hl, pclS, List.append_assoc, ← pcl_len i f, List.drop_left]; rfl
/-- a polynomial as it must be -/
def PA (n : Nat) (f : Po) : AV := .sl n (pcl n f)
/-- the row reads as the first n coefficients -/
structure RP (cs : List AV) (n : Nat) (f : Po) (B : Nat) : Prop where
  len : cs.length = n * 6
  el : ∀ i, i < n → RC (.agg ((cs.drop (i * 6)).take 6)) (f i) B
  sp : Sp n f
  small : n ≤ 1000000
theorem RP_P {n : Nat} {f : Po} {B : Nat} (h : PB f B) (hs : Sp n f) (hn : n ≤ 1000000) : RP (pcl n f) n f B := ⟨pcl_len n f, fun i hi => by rw [pcl_el f hi]; exact RC_C (h i), hs, hn⟩
theorem RP.pb {cs : List AV} {n : Nat} {f : Po} {B : Nat} (h : RP cs n f B) : PB f B := fun i => by
  rcases Nat.lt_or_ge i n with q | q
  · exact (h.el i q).cb
  · rw [h.sp i q]; exact CB.zero B
theorem RP.mono {cs : List AV} {n : Nat} {f : Po} {B C : Nat} (h : RP cs n f B) (hC : B ≤ C) : RP cs n f C := ⟨h.len, fun i hi => (h.el i hi).mono hC, h.sp, h.small⟩
/-- cells of one -/
theorem RP.cells {cs : List AV} {n : Nat} {f : Po} {B i : Nat} (h : RP cs n f B) (hi : i < n) : ∃ s l e t k g, (cs.drop (i * 6)).take 6 = [Bo s, U32 l, I64 e, Bo t, U32 k, I64 g] ∧ RC (.agg [Bo s, U32 l, I64 e, Bo t, U32 k, I64 g]) (f i) B := by
  have h0 := h.el i hi
  have h1 := h0
  obtain ⟨s, l, e, t, k, g, hh, h2, h3⟩ := h0
  refine ⟨s, l, e, t, k, g, ?_, ?_⟩
  · simpa using hh
  · rw [← hh]; exact h1

theorem el_take {cs : List AV} {d i : Nat} (h : i < d) : ((cs.take (d * 6)).drop (i * 6)).take 6 = (cs.drop (i * 6)).take 6 := by
  rw [List.drop_take, List.take_take, Nat.min_eq_left (by omega)]
theorem len_take {cs : List AV} {n d : Nat} (h : cs.length = n * 6) (hd : d ≤ n) : (cs.take (d * 6)).length = d * 6 := by rw [List.length_take]; omega
/-- What grows by appending: nothing yet, or an own row. -/
def ASl (sz : Nat) (a : AV) (H : Heap) (cs : List AV) (n : Nat) : Prop :=
  (a = .v (.slice none 0 0) ∧ n = 0 ∧ cs = []) ∨ ∃ k, a = .own sz k 0 n ∧ H.getD k ⟨[], false, false⟩ = ⟨cs, true, true⟩ ∧ k < H.length ∧ cs.length = n * sz
theorem getD_hp {H : Heap} {k : Nat} (h : k < H.length) (l : Heap) : (H ++ l).getD k ⟨[], false, false⟩ = H.getD k ⟨[], false, false⟩ := by
  rw [List.getD_eq_getElem?_getD, List.getD_eq_getElem?_getD, List.getElem?_append_left h]
theorem x_hget {H : Heap} {x d : AObj} : (H ++ [x]).getD H.length d = x := by simp [List.getD_eq_getElem?_getD]
theorem x_hset {H : Heap} {x y : AObj} : (H ++ [x]).set H.length y = H ++ [y] := by simp [List.set_append]
attribute [go_sem] x_hget x_hset
theorem ASl.ext {sz : Nat} {a : AV} {H : Heap} {cs : List AV} {n : Nat} (h : ASl sz a H cs n) (x : AObj) : ASl sz a (H ++ [x]) cs n := by
  rcases h with h | ⟨k, h1, h2, h3, h4⟩
  · exact .inl h
  · exact .inr ⟨k, h1, by rw [getD_hp h3]; exact h2, by simp; omega, h4⟩
theorem ASl.nil (sz : Nat) (H : Heap) : ASl sz (.v (.slice none 0 0)) H [] 0 := .inl ⟨rfl, rfl, rfl⟩
theorem ASl.last {sz : Nat} {H : Heap} {cs : List AV} {k n : Nat} (h : H.getD k ⟨[], false, false⟩ = ⟨cs, true, true⟩) (hl : H.length = k + 1) (hn : cs.length = n * sz) : ASl sz (.own sz k 0 n) H cs n := .inr ⟨k, rfl, h, by omega, hn⟩
theorem x_zerA1 {a b c d e f : Value} : zerosA [a, b, c, d, e, f] 1 = [.v a, .v b, .v c, .v d, .v e, .v f] := rfl
theorem x_zerA2 {a b c d e f : Value} : zerosA [a, b, c, d, e, f] 2 = [.v a, .v b, .v c, .v d, .v e, .v f, .v a, .v b, .v c, .v d, .v e, .v f] := by simp [zerosA, List.range_succ]
attribute [go_sem] x_zerA1 x_zerA2
/-- one step of growing: afterwards it is the last row -/
theorem app_step {P : Program} {g : Operand → AV} {H : Heap} {s x : Operand} {t t' e e' : TypeId} {rt re rt' : TK} {K : AV → Heap → Prop} {cs news : List AV} {n m kx : Nat} {wr : Bool}
    (h1 : tk P t = some rt) (h2 : rt.sd = .sl e) (h3 : tk P e = some re) (h4 : tk P t' = some rt') (h5 : rt'.sd = .sl e') (hz : re.zero.length = re.size) (hpos : 0 < re.size)
    (hA : ASl re.size (g s) H cs n) (hx : (g x = .own re.size kx 0 m ∧ H.getD kx ⟨[], false, false⟩ = ⟨news, true, wr⟩) ∨ g x = .sl m news) (hl : news.length = m * re.size) (hm : m ≠ 0) (hleaf : news.all leafA = true) (hb : (n + m) * re.bytes ≤ 2 ^ 47) (hb2 : n + m ≤ 2 ^ 62)
    (hK : ∀ H', H'.getD H.length ⟨[], false, false⟩ = ⟨cs ++ news, true, true⟩ → H'.length = H.length + 1 → (∀ k, k < H.length → g s ≠ .own re.size k 0 n → H'.getD k ⟨[], false, false⟩ = H.getD k ⟨[], false, false⟩) → K (.own re.size H.length 0 (n + m)) H') : outK (appF P g H s x t t') K := by
  obtain ⟨p, hp, hN⟩ : ∃ p, p ∧ newsF P g H re x t' = some (p, m, news) := by
    rcases hx with ⟨q1, q2⟩ | q1
    · have e : hd H kx = ⟨news, true, wr⟩ := q2
      refine ⟨re.size = re.size ∧ (hd H kx).rd = true ∧ 0 + m * re.size ≤ (hd H kx).cells.length, ⟨rfl, by rw [e], by rw [e, ← hl, Nat.zero_add]; exact Nat.le_refl _⟩, ?_⟩
      unfold newsF
      rw [h4]; dsimp only; rw [h5]; dsimp only; rw [q1]; dsimp only
      rw [show ((hd H kx).cells.drop 0).take (m * re.size) = news by rw [e, List.drop_zero, ← hl, List.take_length]]
    · refine ⟨news.length = m * re.size, hl, ?_⟩
      unfold newsF
      rw [h4]; dsimp only; rw [h5]; dsimp only; rw [q1]
  unfold appF
  simp only [h1, h2, h3, hN]
  rcases hA with ⟨q1, rfl, rfl⟩ | ⟨k, q1, q2, q3, q4⟩
  · rw [q1]
    obtain ⟨m, rfl⟩ : ∃ m', m = m' + 1 := ⟨m - 1, by omega⟩
    simp only [outK]
    refine ⟨⟨hp, hpos, hleaf, hz, by simpa using hb, by omega⟩, ?_⟩
    have := hK (H ++ [⟨news, true, true⟩]) (by rw [x_hget]; rfl) (by simp) (fun k hk _ => getD_hp hk _)
    rw [Nat.zero_add] at this
    exact this
  · rw [q1]
    simp only [outK, hd, q2, List.drop_zero]
    rw [← q4, List.take_length]
    refine ⟨⟨hp, trivial, hpos, trivial, by omega, hleaf, hz, hb, hb2⟩, ?_⟩
    refine hK _ ?_ (by simp) (fun k' hk' hne => ?_)
    · rw [List.getD_eq_getElem?_getD, List.getElem?_append_right (by simp)]; simp
    · have hkk : k ≠ k' := fun e => hne (by rw [q1, e])
      rw [List.getD_eq_getElem?_getD, List.getElem?_append_left (by simpa using hk'), List.getElem?_set_ne hkk, ← List.getD_eq_getElem?_getD]

/-! pieces of code one by one -/
section
variable {C : Ctx} {N : Nat} {jump : Code → APost → AState → Prop} {Q : APost} {σ : AState}
/-- no jump out of a scope -/
def SQ (Q : APost) : APost
  | .goto _, _ => False
  | e, σ => Q e σ
theorem scope0 {c : Code} (hj : JumpMono jump) (h : aW C N jump c (SQ Q) σ) : aW C N jump (.scope c) Q σ := by
  refine scope_of 0 (aW_mono hj c _ _ σ (fun e σ q => ?_) h)
  cases e with
  | goto l => exact q.elim
  | _ => exact q
theorem x_SQ1 : SQ Q .normal σ = Q .normal σ := rfl
theorem x_SQ2 : SQ Q .ret σ = Q .ret σ := rfl
theorem x_SQ3 {i : Nat} : SQ Q (.exit i) σ = Q (.exit i) σ := rfl
attribute [go_sem] x_SQ1 x_SQ2 x_SQ3
/-- what comes then waits -/
def HX (C : Ctx) (N : Nat) (jump : Code → APost → AState → Prop) (y : Code) (Q : APost) : AState → Prop := aW C N jump y Q
theorem x_seqH {x y : Code} : aW C N jump (.seq x y) Q σ = aW C N jump x (thenA (HX C N jump y Q) Q) σ := x_seq
theorem x_HX {y : Code} : HX C N jump y Q σ = aW C N jump y Q σ := rfl
/-- what holds in between -/
theorem seq_cut {x y : Code} (hj : JumpMono jump) (E : AState → Prop) (h1 : aW C N jump x (thenA E Q) σ) (h2 : ∀ σ, E σ → aW C N jump y Q σ) : aW C N jump (.seq x y) Q σ := by
  rw [x_seq]
  refine aW_mono hj x _ _ σ (fun e σ q => ?_) h1
  cases e with
  | normal => exact h2 σ q
  | _ => exact q
end

/-- a contract out of one over the own objects -/
theorem sat_of_hsat {C : Ctx} {f : FuncId} {args : List AV} {r : AV} {Post : AV → Heap → Prop} (h : HSat C f args [] Post) (hP : ∀ a H', Post a H' → ownOK H' true a ∧ IsD r ∧ snap H' a = r) : Sat C false f args r := by
  intro w S xs hg hSg hl hr
  have hs : SimH C w.heap.size (fun b => b < w.heap.size → S b) w mu0 [] w :=
    ⟨Nat.le_refl _, .refl _ _, hg, fun k ad o q => (by cases q), fun k ad o q => (by cases q), fun b hb hlt => (by omega), fun g q _ => hSg g q, fun k ad o q => (by cases q), fun k k' ad ad' o o' q => (by cases q)⟩
  refine (h.2 w.heap.size _ w w mu0 xs hs (fun _ _ => rfl) hl (fun i hi => (hr i hi).mono (fun _ _ q => q) (fun b q hlt => ⟨fun _ => q, fun k ad o q => (by cases q)⟩) (.refl _ _))).mono ?_
  rintro e w' ⟨x, a, H', mu', rfl, hp, haf, hx, hfr⟩
  obtain ⟨q1, q2, q3⟩ := hP a H' hp
  refine ⟨x, rfl, ?_, haf.sim.below⟩
  obtain ⟨f1, f2⟩ := haf.sim.stillAll
  have := snap_rep (List.prefix_refl _) f1 (ind := false) (hx.mono (fun _ _ q => q) (fun b q _ => f2 b q) (.refl _ _)) (ownOK_fzAll q1)
  rw [snap_fzAll, q3] at this
  refine (this.data q2).mono (fun _ _ q => q) (fun b q hlt => ?_) (.refl _ _)
  rcases q with q | q
  · cases q
  · rcases Nat.lt_or_ge b w.heap.size with h | h
    · exact .inl ⟨rfl, q.1 h⟩
    · exact .inr h
theorem snap0_pcl (n : Nat) (f : Po) : (pcl n f).map snap0 = pcl n f := by
  induction n with
  | zero => rw [pcl0]; rfl
  | succ n ih => rw [pclS, List.map_append, ih]; rfl
theorem isD_pcl (n : Nat) (f : Po) : ∀ c ∈ pcl n f, IsD c := by
  induction n with
  | zero => intro c hc; rw [pcl0] at hc; cases hc
  | succ n ih =>
    intro c hc
    rw [pclS, List.mem_append] at hc
    rcases hc with hc | hc
    · exact ih c hc
    · simp only [CIc, List.mem_cons, List.not_mem_nil, or_false] at hc
      rcases hc with rfl | rfl | rfl | rfl | rfl | rfl <;> first | exact .v _ | exact isD_u32 _ _
theorem isD_PA (n : Nat) (f : Po) : IsD (PA n f) := .sl _ _ (fun i hi => by
  rw [List.getD_eq_getElem?_getD, List.getElem?_eq_getElem hi]
  exact isD_pcl n f _ (List.getElem_mem hi))
theorem PA_0 (f : Po) : PA 0 f = .sl 0 [] := by unfold PA; rw [pcl0]
/-- handed back -/
theorem ret_ASl {a : AV} {H : Heap} {n : Nat} {f : Po} (h : ASl 6 a H (pcl n f) n) : ownOK H true a ∧ IsD (PA n f) ∧ snap H a = PA n f := by
  rcases h with ⟨rfl, rfl, _⟩ | ⟨k, rfl, h2, h3, h4⟩
  · exact ⟨trivial, isD_PA 0 f, by rw [PA_0]; rfl⟩
  · refine ⟨?_, isD_PA n f, ?_⟩
    · simp only [ownOK, hd, h2]
      exact ⟨trivial, .inl trivial, by omega⟩
    · simp only [snap, hd, h2, List.drop_zero]
      rw [← h4, List.take_length, snap0_pcl]; rfl
end Go.Ab

set_option linter.unusedVariables false
set_option maxRecDepth 20000
set_option linter.unusedSimpArgs false
namespace Go.Ab
open Go.Proofs

open Cx (zero one)
attribute [-go_sem] appF newsF
variable {a b : AV} {x y : Dyadic} {z w : Cx} {B C n m : Nat} {cs ds : List AV} {f g : Po}
theorem dg_step {n : Nat} {f : Po} (h : f n = zero) : dg (n + 1) f = dg n f := by rw [dgS, if_pos h]
theorem dg_stop {n : Nat} {f : Po} (h : ¬ f n = zero) : dg (n + 1) f = n + 1 := by rw [dgS, if_neg h]

theorem ptrim_h (h : RP cs n f B) (hB : B ≤ 20000) : HSat CT 86 [.sl n cs] [] (fun a H => ASl 6 a H (pcl (dg n f) f) (dg n f)) := by
  refine hsat_of poly_Trim.ok poly_Trim.call (by simp) ?_
  have DD := poly_Trim.dr
  simp only [drP, drPx, drPt, drR, drS, drT, bodyOf, Tryz.f86, Nat.reduceEqDiff, reduceIte, true_and, and_true] at DD
  simp -implicitDefEqProofs only [go_sem, simprocAttr, -Int.reducePow, Tryz.f86, DD, beq_self_eq_true, Bool.not_false, Bool.not_true, WI, IA, DI, DA, CI]
  refine scope0 aW0_mono ?_
  rw [x_seqH]
  simp -implicitDefEqProofs only [go_sem, simprocAttr, -Int.reducePow, DD, x_app, x_ga0, x_gas, x_gan, Int.cast_ofNat_Int, eq_self, Int.zero_lt_one, Bool.not_false, Bool.not_true, beq_self_eq_true, WI, IA, DI, DA, CI]
  rw [x_HX]
  rw [x_seqH]
  simp -implicitDefEqProofs only [go_sem, simprocAttr, -Int.reducePow, DD, x_app, x_ga0, x_gas, x_gan, Int.cast_ofNat_Int, eq_self, Int.zero_lt_one, Bool.not_false, Bool.not_true, beq_self_eq_true, WI, IA, DI, DA, CI]
  rw [x_HX]
  have hsm := h.small
  refine seq_cut aW0_mono (fun σ => ∃ sl, σ = ⟨sl, []⟩ ∧ look sl 0 = .sl n cs ∧ look sl 3 = I64 (dg n f : Nat)) ?_ ?_
  · simp -implicitDefEqProofs only [go_sem, simprocAttr, -Int.reducePow, DD, x_app, x_ga0, x_gas, x_gan, Int.cast_ofNat_Int, eq_self, Int.zero_lt_one, Bool.not_false, Bool.not_true, beq_self_eq_true, WI, IA, DI, DA, CI]
    refine loop_of aW0_mono (fun m σ => ∃ sl, σ = ⟨sl, []⟩ ∧ m ≤ n ∧ look sl 0 = .sl n cs ∧ look sl 3 = I64 (m : Nat) ∧ dg n f = dg m f) ?_ (n := n) ⟨_, rfl, Nat.le_refl _, by simp [x_look], by simp [x_look], rfl⟩
    rintro m _ ⟨sl, rfl, hm, h0, h3, hd0⟩
    cases m with
    | zero =>
      simp -implicitDefEqProofs only [go_sem, simprocAttr, -Int.reducePow, DD, x_app, x_ga0, x_gas, x_gan, Int.cast_ofNat_Int, eq_self, Int.zero_lt_one, Bool.not_false, Bool.not_true, beq_self_eq_true, WI, IA, DI, DA, CI, h0, h3, Int.natCast_zero]
      refine ⟨_, rfl, by simp [x_look, h0], ?_⟩
      rw [hd0, dg0]; simp [x_look, h3]
    | succ m =>
      have c1 : (0 : Int) < ((m + 1 : Nat) : Int) := by omega
      have c2 : IntKind.i64.wrap (((m + 1 : Nat) : Int) - 1) = (m : Int) := by rw [wrap_id (by omega)]; omega
      have c3 : (0 : Int) ≤ (m : Int) := by omega
      have c4 : (m : Int) < (n : Int) := by omega
      have hlen := h.len
      have c5 : m * 6 < cs.length := by omega
      have c6 : m * 6 + 6 ≤ cs.length := by omega
      obtain ⟨s, l, e, t, k, g, hc, hr⟩ := h.cells (i := m) (by omega)
      have q := gzero_r hr hB
      by_cases hz : f m = zero
      · rw [decide_eq_true hz] at q
        simp -implicitDefEqProofs only [go_sem, simprocAttr, -Int.reducePow, DD, x_app, x_ga0, x_gas, x_gan, Int.cast_ofNat_Int, eq_self, Int.zero_lt_one, Bool.not_false, Bool.not_true, beq_self_eq_true, WI, IA, DI, DA, CI, h0, h3, c1, c2, c3, c4, c5, c6, hc]
        refine callK_of false gauss_Zero.call (q) rfl rfl (by simp [ownOK, own1, hd, fzH, fzArgs, fzCells, fz, IA, WI, DI, DA, CI, U32]) (by simp [U32, isD_u32, isD_v, isD_nil, isD_agg, IA, WI, DI, DA, CI]) ?_
        simp -implicitDefEqProofs only [go_sem, simprocAttr, -Int.reducePow, DD, x_app, x_ga0, x_gas, x_gan, Int.cast_ofNat_Int, eq_self, Int.zero_lt_one, Bool.not_false, Bool.not_true, beq_self_eq_true, WI, IA, DI, DA, CI, h0, h3, c1, c2, c3, c4, c5, c6, hc]
        exact ⟨m, by omega, _, rfl, by omega, by simp [x_look, h0], by simp [x_look], by rw [hd0, dg_step hz]⟩
      · rw [decide_eq_false hz] at q
        simp -implicitDefEqProofs only [go_sem, simprocAttr, -Int.reducePow, DD, x_app, x_ga0, x_gas, x_gan, Int.cast_ofNat_Int, eq_self, Int.zero_lt_one, Bool.not_false, Bool.not_true, beq_self_eq_true, WI, IA, DI, DA, CI, h0, h3, c1, c2, c3, c4, c5, c6, hc]
        refine callK_of false gauss_Zero.call (q) rfl rfl (by simp [ownOK, own1, hd, fzH, fzArgs, fzCells, fz, IA, WI, DI, DA, CI, U32]) (by simp [U32, isD_u32, isD_v, isD_nil, isD_agg, IA, WI, DI, DA, CI]) ?_
        simp -implicitDefEqProofs only [go_sem, simprocAttr, -Int.reducePow, DD, x_app, x_ga0, x_gas, x_gan, Int.cast_ofNat_Int, eq_self, Int.zero_lt_one, Bool.not_false, Bool.not_true, beq_self_eq_true, WI, IA, DI, DA, CI, h0, h3, c1, c2, c3, c4, c5, c6, hc]
        exact ⟨_, rfl, by simp [x_look, h0], by rw [hd0, dg_stop hz]; simp [x_look, h3]⟩
  · rintro _ ⟨sl, rfl, h0, h3⟩
    have hle := dg_le n f
    generalize hD : dg n f = d at *
    have hlen := h.len
    have c1 : (0 : Int) ≤ (d : Int) := by omega
    have c2 : (d : Int) ≤ (n : Int) := by omega
    rw [x_seqH]
    simp -implicitDefEqProofs only [go_sem, simprocAttr, -Int.reducePow, DD, x_app, x_ga0, x_gas, x_gan, Int.cast_ofNat_Int, eq_self, Int.zero_lt_one, Bool.not_false, Bool.not_true, beq_self_eq_true, WI, IA, DI, DA, CI, h0, h3, c1, c2]
    rw [x_HX]
    rw [x_seqH, x_seq]
    simp -implicitDefEqProofs only [go_sem, simprocAttr, -Int.reducePow, DD, x_app, x_ga0, x_gas, x_gan, Int.cast_ofNat_Int, eq_self, Int.zero_lt_one, Bool.not_false, Bool.not_true, beq_self_eq_true, WI, IA, DI, DA, CI, h0, h3, c1, c2]
    refine loop_of aW0_mono (fun m σ => ∃ sl H i, σ = ⟨sl, H⟩ ∧ m = d - i ∧ i ≤ d ∧ look sl 22 = .sl d (List.take (d * 6) cs) ∧ look sl 23 = I64 (d : Nat) ∧ look sl 24 = I64 (i : Nat) ∧ ASl 6 (look sl 4) H (pcl i f) i) ?_ (n := d) ⟨_, _, 0, rfl, rfl, Nat.zero_le _, by simp [x_look], by simp [x_look], by simp [x_look], by simp [x_look, pcl0, ASl.nil]⟩
    rintro m _ ⟨sl, H, i, rfl, rfl, hi, h22, h23, h24, hA⟩
    by_cases hid : i = d
    · subst hid
      simp -implicitDefEqProofs only [go_sem, simprocAttr, -Int.reducePow, DD, x_app, x_ga0, x_gas, x_gan, Int.cast_ofNat_Int, eq_self, Int.zero_lt_one, Bool.not_false, Bool.not_true, beq_self_eq_true, WI, IA, DI, DA, CI, h22, h23, h24, Int.lt_irrefl, x_HX]
      exact hA
    · have c4 : (i : Int) < (d : Int) := by omega
      have c5 : (0 : Int) ≤ (i : Int) := by omega
      have c6 : IntKind.i64.wrap ((i : Int) + 1) = ((i + 1 : Nat) : Int) := by rw [wrap_id (by omega)]; omega
      have hT := len_take hlen hle
      have c7 : i * 6 < d * 6 := by omega
      have c8 : i * 6 + 6 ≤ d * 6 := by omega
      obtain ⟨s, l, e, t, k, g, hc, hr⟩ := h.cells (i := i) (by omega)
      rw [← el_take (d := d) (by omega)] at hc
      have q := gscale0_r hr hB
      simp -implicitDefEqProofs only [go_sem, simprocAttr, -Int.reducePow, DD, x_app, x_ga0, x_gas, x_gan, Int.cast_ofNat_Int, eq_self, Int.zero_lt_one, Bool.not_false, Bool.not_true, beq_self_eq_true, WI, IA, DI, DA, CI, h22, h23, h24, c4, c5, c6, hT, c7, c8, hc]
      refine callK_of false gauss_Scale.call (q) rfl rfl (by simp [ownOK, own1, hd, fzH, fzArgs, fzCells, fz, IA, WI, DI, DA, CI, U32]) (by simp [U32, isD_u32, isD_v, isD_nil, isD_agg, IA, WI, DI, DA, CI]) ?_
      simp -implicitDefEqProofs only [go_sem, simprocAttr, -Int.reducePow, DD, x_app, x_ga0, x_gas, x_gan, Int.cast_ofNat_Int, eq_self, Int.zero_lt_one, Bool.not_false, Bool.not_true, beq_self_eq_true, WI, IA, DI, DA, CI, h22, h23, h24, c4, c5, c6, hT, c7, c8, hc]
      refine app_step (P := Tryz.prog) tk45 rfl tk28 tk45 rfl rfl (by decide) (n := i) (m := 1) ((hA.ext _).ext _) (.inl ⟨rfl, x_hget⟩) rfl (by decide) rfl (Nat.le_trans (Nat.mul_le_mul_right _ (show i + 1 ≤ 1000001 by omega)) (by decide)) (by omega) ?_
      intro H' hg hl' hk'
      simp -implicitDefEqProofs only [go_sem, simprocAttr, -Int.reducePow, DD, x_app, x_ga0, x_gas, x_gan, Int.cast_ofNat_Int, eq_self, Int.zero_lt_one, Bool.not_false, Bool.not_true, beq_self_eq_true, WI, IA, DI, DA, CI, h22, h23, h24, c4, c5, c6, hT, c7, c8, hc]
      exact ⟨d - (i + 1), by omega, _, _, i + 1, rfl, rfl, by omega, by simp [x_look, h22], by simp [x_look, h23], by simp [x_look], by simp only [x_look, reduceIte, Nat.reduceEqDiff]; rw [pclS]; exact ASl.last hg hl' (by rw [List.length_append, pcl_len]; show i * 6 + 6 = _; omega)⟩
end Go.Ab

/-! rows of points as they come in -/
set_option linter.unusedVariables false
set_option maxRecDepth 20000
set_option linter.unusedSimpArgs false
set_option linter.unusedSectionVars false
namespace Go.Ab
open Cx (zero one)

/-- a point as it comes in -/
structure Raw where
  n : Bool
  l : List Nat
  e : Int
  m : Bool
  k : List Nat
  f : Int
namespace Raw
def ok (r : Raw) : Prop := Lm r.l ∧ Lm r.k ∧ (-9223372036854775808 ≤ r.e ∧ r.e ≤ 9223372036854775807) ∧ (-9223372036854775808 ≤ r.f ∧ r.f ≤ 9223372036854775807)
def cells (r : Raw) : List AV := [Bo r.n, U32 r.l, I64 r.e, Bo r.m, U32 r.k, I64 r.f]
def z (r : Raw) : Cx := ⟨dv (iv r.n r.l) r.e, dv (iv r.m r.k) r.f⟩
/-- small enough -/
def sm (r : Raw) : Prop := ((r.l.length ≤ 3 ∧ -200 ≤ r.e ∧ r.e ≤ 200) ∧ (r.k.length ≤ 3 ∧ -200 ≤ r.f ∧ r.f ≤ 200))
instance (r : Raw) : Decidable r.sm := by unfold sm; exact inferInstance
end Raw
theorem rd_small {n : Bool} {l : List Nat} {e : Int} (hl : Lm l) (h : l.length ≤ 3 ∧ -200 ≤ e ∧ e ≤ 200) : RD (DA n l e) (dv (iv n l) e) 296 := by
  have h1 : nv l < 2 ^ 96 := by
    refine Nat.lt_of_lt_of_le (nv_lt hl) ?_
    rw [show (4294967296 : Nat) = 2 ^ 32 from rfl, ← Nat.pow_mul]
    exact Nat.pow_le_pow_right (by decide) (by omega)
  have h2 : ∀ k, 96 ≤ k → Lt2 (nv l) k := fun k hk => Nat.lt_of_lt_of_le h1 (Nat.pow_le_pow_right (by decide) hk)
  refine ⟨n, l, e, rfl, hl, rfl, h2 (2 * 296) (by decide), by omega, by omega, DB.raw (L := 96) (E := 200) (by rw [abs_iv]; exact h1) (by omega) (by omega)⟩
theorem Raw.rc {r : Raw} (h : r.ok) (hs : r.sm) : RC (.agg r.cells) r.z 296 := ⟨_, _, _, _, _, _, rfl, rd_small h.1 hs.1, rd_small h.2.1 hs.2⟩
/-- the cells of n of them -/
def qcl : Nat → (Nat → Raw) → List AV
  | 0, _ => []
  | n + 1, F => qcl n F ++ (F n).cells
theorem qcl0 (F : Nat → Raw) : qcl 0 F = [] := by rw [qcl]
theorem qclS (n : Nat) (F : Nat → Raw) : qcl (n + 1) F = qcl n F ++ (F n).cells := by rw [qcl]
theorem qcl_len (n : Nat) (F : Nat → Raw) : (qcl n F).length = n * 6 := by
  induction n with
  | zero => rw [qcl0]; rfl
  | succ n ih => rw [qclS, List.length_append, ih]; show n * 6 + 6 = _; omega
theorem qcl_pre (n d : Nat) (F : Nat → Raw) : ∃ l, qcl (n + d) F = qcl n F ++ l := by
  induction d with
  | zero => exact ⟨[], by simp⟩
  | succ d ih =>
    obtain ⟨l, hl⟩ := ih
    exact ⟨l ++ (F (n + d)).cells, by rw [← Nat.add_assoc, qclS, hl, List.append_assoc]⟩
theorem qcl_el {n i : Nat} (F : Nat → Raw) (h : i < n) : ((qcl n F).drop (i * 6)).take 6 = (F i).cells := by
  obtain ⟨l, hl⟩ := qcl_pre (i + 1) (n - (i + 1)) F
  rw [show i + 1 + (n - (i + 1)) = n by omega] at hl
  rw [hl, qclS, List.append_assoc, ← qcl_len i F, List.drop_left]; rfl
/-- the polynomial that is meant -/
def qpo (n : Nat) (F : Nat → Raw) : Po := fun i => if i < n then (F i).z else zero
theorem qpo_lt {n i : Nat} (F : Nat → Raw) (h : i < n) : qpo n F i = (F i).z := if_pos h
theorem Sp_qpo (n : Nat) (F : Nat → Raw) : Sp n (qpo n F) := fun k hk => if_neg (by omega)
theorem RP_q {n : Nat} {F : Nat → Raw} (h : ∀ i, i < n → (F i).ok) (hs : ∀ i, i < n → (F i).sm) (hn : n ≤ 1000000) : RP (qcl n F) n (qpo n F) 296 :=
  ⟨qcl_len n F, fun i hi => by rw [qcl_el F hi, qpo_lt F hi]; exact (F i).rc (h i hi) (hs i hi), Sp_qpo n F, hn⟩
end Go.Ab

set_option linter.unusedVariables false
set_option maxRecDepth 20000
set_option linter.unusedSimpArgs false
set_option linter.unusedSectionVars false
namespace Go.Ab
open Go.Proofs
open Cx (zero one)

/-! own rows that are handed over to be read -/
/-- An own row, or none yet, to be read. -/
def RSl (sz : Nat) (a : AV) (H : Heap) (cs : List AV) (n : Nat) : Prop :=
  (a = .v (.slice none 0 0) ∧ n = 0 ∧ cs = []) ∨ ∃ k wr, a = .own sz k 0 n ∧ H.getD k ⟨[], false, false⟩ = ⟨cs, true, wr⟩ ∧ k < H.length ∧ cs.length = n * sz
theorem ASl.rsl {sz : Nat} {a : AV} {H : Heap} {cs : List AV} {n : Nat} (h : ASl sz a H cs n) : RSl sz a H cs n := by
  rcases h with h | ⟨k, h1, h2, h3, h4⟩
  · exact .inl h
  · exact .inr ⟨k, true, h1, h2, h3, h4⟩
theorem RSl.ext {sz : Nat} {a : AV} {H : Heap} {cs : List AV} {n : Nat} (h : RSl sz a H cs n) (x : AObj) : RSl sz a (H ++ [x]) cs n := by
  rcases h with h | ⟨k, wr, h1, h2, h3, h4⟩
  · exact .inl h
  · exact .inr ⟨k, wr, h1, by rw [getD_hp h3]; exact h2, by simp; omega, h4⟩
theorem getD_set {H : Heap} {j k : Nat} {x : AObj} (h : k < H.length) : (H.set j x).getD k ⟨[], false, false⟩ = if j = k then x else H.getD k ⟨[], false, false⟩ := by
  rw [List.getD_eq_getElem?_getD, List.getD_eq_getElem?_getD]
  by_cases e : j = k
  · subst e; rw [if_pos rfl, List.getElem?_set_self h]; rfl
  · rw [if_neg e, List.getElem?_set_ne e]
theorem RSl.fz {sz : Nat} {a : AV} {H : Heap} {cs : List AV} {n : Nat} (h : RSl sz a H cs n) (j : Nat) : RSl sz a (fz H j) cs n := by
  rcases h with h | ⟨k, wr, h1, h2, h3, h4⟩
  · exact .inl h
  · refine .inr ?_
    unfold Go.Ab.fz
    by_cases e : j = k
    · subst e
      refine ⟨j, false, h1, ?_, by simpa using h3, h4⟩
      rw [getD_set h3, if_pos rfl]
      show AObj.mk (H.getD j ⟨[], false, false⟩).cells (H.getD j ⟨[], false, false⟩).rd false = _
      rw [h2]
    · exact ⟨k, wr, h1, by rw [getD_set h3, if_neg e]; exact h2, by simpa using h3, h4⟩
theorem len_fz (H : Heap) (j : Nat) : (fz H j).length = H.length := by unfold fz; simp
/-- plain data: nothing of the call's own in it -/
structure PlD (d : AV) : Prop where
  isd : IsD d
  snp : ∀ H, snap H d = d
  own : ∀ H, ownOK H false d
  fzn : ∀ H l, fzArgs H (d :: l) = fzArgs H l
theorem pld_sl {n : Nat} {cs : List AV} (h : ∀ c ∈ cs, IsD c) : PlD (.sl n cs) := ⟨isD_sl h, fun _ => rfl, fun _ => trivial, fun _ _ => rfl⟩
theorem pld_int {k : IntKind} {x : Int} : PlD (.v (.int k x)) := ⟨.v _, fun _ => rfl, fun _ => trivial, fun _ _ => rfl⟩
theorem fzCells_pl {H : Heap} {cs : List AV} (h : ∀ c ∈ cs, ∀ sz k o n, c ≠ .own sz k o n) : fzCells H cs = H := by
  induction cs with
  | nil => rfl
  | cons c r ih =>
    have h0 := h c (List.mem_cons_self ..)
    have ih := ih (fun d hd => h d (List.mem_cons_of_mem _ hd))
    cases c with
    | own sz k o n => exact absurd rfl (h0 sz k o n)
    | _ => exact ih
theorem isD_noown {c : AV} (h : IsD c) : ∀ sz k o n, c ≠ .own sz k o n := fun sz k o n e => by subst e; cases h
/-- leaves that are data -/
def LfD (c : AV) : Prop := IsD c ∧ ∀ H, snap1 H c = c
theorem pld_agg {cs : List AV} (h : ∀ c ∈ cs, LfD c) : PlD (.agg cs) := by
  refine ⟨isD_agg (fun c hc => (h c hc).1), fun H => ?_, fun H c hc => ?_, fun H l => ?_⟩
  · show AV.agg (cs.map (snap1 H)) = _
    rw [List.map_congr_left (g := id) (fun c hc => (h c hc).2 H), List.map_id]
  · have := isD_noown (h c hc).1
    cases c with
    | own sz k o n => exact absurd rfl (this sz k o n)
    | _ => trivial
  · show fzArgs (fzCells H cs) l = _
    rw [fzCells_pl (fun c hc => isD_noown (h c hc).1)]
theorem lf_v {x : Value} (h : x ≠ .slice none 0 0) : LfD (.v x) := ⟨.v _, fun H => by
  unfold snap1
  split
  · rename_i e; exact absurd (AV.v.inj e) h
  · rename_i e; cases e
  · rfl⟩
theorem lf_int {k : IntKind} {x : Int} : LfD (.v (.int k x)) := lf_v (fun e => by cases e)
theorem lf_bool {b : Bool} : LfD (.v (.bool b)) := lf_v (fun e => by cases e)
theorem lf_u32 (l : List Nat) : LfD (U32 l) := ⟨isD_u32 _ _, fun _ => rfl⟩
theorem pld_CI (z : Cx) : PlD (CI z) := pld_agg (fun c hc => by
  simp only [List.mem_cons, List.not_mem_nil, or_false] at hc
  rcases hc with rfl | rfl | rfl | rfl | rfl | rfl <;> first | exact lf_bool | exact lf_int | exact lf_u32 _)
theorem pld_RC {a : AV} {z : Cx} {B : Nat} (h : RC a z B) : PlD a := by
  obtain ⟨n, l, e, m, k, f, rfl, _⟩ := h
  refine pld_agg (fun c hc => ?_)
  simp only [List.mem_cons, List.not_mem_nil, or_false] at hc
  rcases hc with rfl | rfl | rfl | rfl | rfl | rfl <;> first | exact lf_bool | exact lf_int | exact lf_u32 _
theorem pld_PA (n : Nat) (f : Po) : PlD (PA n f) := pld_sl (isD_pcl n f)
theorem lf_raw {r : Raw} : ∀ c ∈ r.cells, LfD c := fun c hc => by
  simp only [Raw.cells, List.mem_cons, List.not_mem_nil, or_false] at hc
  rcases hc with rfl | rfl | rfl | rfl | rfl | rfl <;> first | exact lf_bool | exact lf_int | exact lf_u32 _
theorem isD_qcl (n : Nat) (F : Nat → Raw) : ∀ c ∈ qcl n F, IsD c := by
  induction n with
  | zero => intro c hc; rw [qcl0] at hc; cases hc
  | succ n ih =>
    intro c hc
    rw [qclS, List.mem_append] at hc
    rcases hc with hc | hc
    · exact ih c hc
    · exact (lf_raw c hc).1
theorem pld_q (n : Nat) (F : Nat → Raw) : PlD (.sl n (qcl n F)) := pld_sl (isD_qcl n F)
/-- what is handed over reads as this -/
inductive AR (H : Heap) : AV → AV → Prop
  | pl {d : AV} (h : PlD d) : AR H d d
  | row {sz n : Nat} {a : AV} {cs ds : List AV} (h : RSl sz a H cs n) (e : cs.map snap0 = ds) (hd : ∀ c ∈ ds, IsD c) : AR H a (.sl n ds)
  | none : AR H (.v (.slice none 0 0)) (.sl 0 [])
theorem AR.fz {H : Heap} {a d : AV} (h : AR H a d) (j : Nat) : AR (fz H j) a d := by
  cases h with
  | pl h => exact .pl h
  | row h e hd => exact .row (h.fz j) e hd
  | none => exact .none
inductive ARs (H : Heap) : List AV → List AV → Prop
  | nil : ARs H [] []
  | cons {a d : AV} {l m : List AV} (h : AR H a d) (t : ARs H l m) : ARs H (a :: l) (d :: m)
theorem ARs.fz {H : Heap} {l m : List AV} (h : ARs H l m) (j : Nat) : ARs (fz H j) l m := by
  induction h with
  | nil => exact .nil
  | cons h t ih => exact .cons (h.fz j) ih
/-- Rows to be read stay so. -/
def Keeps (H H' : Heap) : Prop := H'.length = H.length ∧ ∀ sz a cs n, RSl sz a H cs n → RSl sz a H' cs n
theorem Keeps.refl (H : Heap) : Keeps H H := ⟨rfl, fun _ _ _ _ h => h⟩
theorem Keeps.trans {H H' H'' : Heap} (h : Keeps H H') (g : Keeps H' H'') : Keeps H H'' := ⟨g.1.trans h.1, fun _ _ _ _ q => g.2 _ _ _ _ (h.2 _ _ _ _ q)⟩
theorem keeps_fz (H : Heap) (j : Nat) : Keeps H (fz H j) := ⟨len_fz H j, fun _ _ _ _ h => h.fz j⟩
def wrF (H : Heap) (k : Nat) : Prop := (H.getD k ⟨[], false, false⟩).wr = false
theorem wrF_fz {H : Heap} {k : Nat} (h : wrF H k) (hk : k < H.length) (j : Nat) : wrF (fz H j) k := by
  unfold wrF fz at *
  rw [getD_set hk]; split
  · rfl
  · exact h
theorem args_ok {H : Heap} {l m : List AV} (h : ARs H l m) : Keeps H (fzArgs H l) ∧ (∀ k, k < H.length → wrF H k → wrF (fzArgs H l) k) ∧ l.map (snap (fzArgs H l)) = m ∧ (∀ a ∈ l, ownOK (fzArgs H l) false a) ∧ ∀ d ∈ m, IsD d := by
  induction l generalizing m H with
  | nil => cases h; exact ⟨.refl _, fun _ _ q => q, rfl, fun a q => (by cases q), fun a q => (by cases q)⟩
  | cons a l ih =>
    cases h with
    | cons h t =>
      cases h with
      | pl hp =>
        rw [hp.fzn]
        obtain ⟨q1, q2, q3, q4, q5⟩ := ih t
        refine ⟨q1, q2, by rw [List.map_cons, q3, hp.snp], fun b hb => ?_, fun b hb => ?_⟩
        · rcases List.mem_cons.1 hb with rfl | hb
          · exact hp.own _
          · exact q4 b hb
        · rcases List.mem_cons.1 hb with rfl | hb
          · exact hp.isd
          · exact q5 b hb
      | none =>
        rw [show fzArgs H (AV.v (Value.slice none 0 0) :: l) = fzArgs H l from rfl]
        obtain ⟨q1, q2, q3, q4, q5⟩ := ih t
        refine ⟨q1, q2, by rw [List.map_cons, q3]; rfl, fun b hb => ?_, fun b hb => ?_⟩
        · rcases List.mem_cons.1 hb with rfl | hb
          · trivial
          · exact q4 b hb
        · rcases List.mem_cons.1 hb with rfl | hb
          · exact isD_nil 0
          · exact q5 b hb
      | row hr e hdd =>
        rename_i sz n cs ds
        rcases hr with ⟨rfl, rfl, rfl⟩ | ⟨k, wr, rfl, h2, h3, h4⟩
        · rw [show fzArgs H (AV.v (Value.slice none 0 0) :: l) = fzArgs H l from rfl]
          obtain ⟨q1, q2, q3, q4, q5⟩ := ih t
          subst e
          refine ⟨q1, q2, by rw [List.map_cons, q3]; rfl, fun b hb => ?_, fun b hb => ?_⟩
          · rcases List.mem_cons.1 hb with rfl | hb
            · trivial
            · exact q4 b hb
          · rcases List.mem_cons.1 hb with rfl | hb
            · exact isD_nil 0
            · exact q5 b hb
        · rw [show fzArgs H (AV.own sz k 0 n :: l) = fzArgs (Go.Ab.fz H k) l from rfl]
          obtain ⟨q1, q2, q3, q4, q5⟩ := ih (t.fz k)
          have hR : RSl sz (.own sz k 0 n) H cs n := .inr ⟨k, wr, rfl, h2, h3, h4⟩
          have hR2 := q1.2 _ _ _ _ (hR.fz k)
          have hw : wrF (Go.Ab.fz H k) k := by
            unfold wrF Go.Ab.fz; rw [getD_set h3, if_pos rfl]
          have hw2 := q2 k (by rw [len_fz]; exact h3) hw
          rcases hR2 with ⟨e0, _⟩ | ⟨k', wr', e1, g2, g3, g4⟩
          · cases e0
          · cases e1
            refine ⟨(keeps_fz H k).trans q1, fun j hj hj2 => q2 j (by rw [len_fz]; exact hj) (wrF_fz hj2 hj k), ?_, fun b hb => ?_, fun b hb => ?_⟩
            · rw [List.map_cons, q3]
              congr 1
              show AV.sl n ((((fzArgs (Go.Ab.fz H k) l).getD k ⟨[], false, false⟩).cells.drop 0 |>.take (n * sz)).map snap0) = _
              rw [g2, List.drop_zero, ← g4, List.take_length, e]
            · rcases List.mem_cons.1 hb with rfl | hb
              · show ((fzArgs (Go.Ab.fz H k) l).getD k ⟨[], false, false⟩).rd = true ∧ (false = true ∨ ((fzArgs (Go.Ab.fz H k) l).getD k ⟨[], false, false⟩).wr = false) ∧ 0 + n * sz ≤ ((fzArgs (Go.Ab.fz H k) l).getD k ⟨[], false, false⟩).cells.length
                refine ⟨by rw [g2], .inr hw2, by rw [g2]; show 0 + n * sz ≤ cs.length; omega⟩
              · exact q4 b hb
            · rcases List.mem_cons.1 hb with rfl | hb
              · exact isD_sl hdd
              · exact q5 b hb
/-- A call with data and with rows that are read. -/
theorem callK_ar {C : Ctx} {d : Bool} {f : FuncId} {args ds : List AV} {H : Heap} {r : AV} {K : AV → Heap → Prop} (hc : callable C.P f = true) (h : Sat C false f ds r) (ha : ARs H args ds) (hd0 : d = false) (hK : ∀ H', Keeps H H' → K r H') : callK C d f args H K := by
  subst hd0
  obtain ⟨q1, _, q3, q4, q5⟩ := args_ok ha
  exact callK_of false (H' := fzArgs H args) hc h rfl q3 q4 q5 (hK _ q1)
/-- A call with plain data alone, in whatever order. -/
theorem callK_pl {C : Ctx} {d : Bool} {f : FuncId} {args : List AV} {H : Heap} {r : AV} {K : AV → Heap → Prop} (hc : callable C.P f = true) (h : Sat C false f args r) (ha : ∀ a ∈ args, PlD a) (hK : K r H) : callK C d f args H K := by
  have e : fzArgs H args = H := by
    clear h
    induction args with
    | nil => rfl
    | cons a l ih => rw [(ha a (List.mem_cons_self ..)).fzn]; exact ih (fun b hb => ha b (List.mem_cons_of_mem _ hb))
  have e2 : fzH d false H args = H := by cases d; exact e; rfl
  refine callK_of false hc h e2 ?_ (fun a q => (ha a q).own _) (fun a q => (ha a q).isd) hK
  rw [List.map_congr_left (g := id) (fun a q => (ha a q).snp H), List.map_id]
theorem pl1 {a : AV} (h : PlD a) : ∀ b ∈ [a], PlD b := fun b hb => by rw [List.mem_singleton] at hb; rw [hb]; exact h
theorem pl2 {a b : AV} (h : PlD a) (g : PlD b) : ∀ c ∈ [a, b], PlD c := fun c hc => by
  simp only [List.mem_cons, List.not_mem_nil, or_false] at hc
  rcases hc with rfl | rfl <;> assumption
end Go.Ab

set_option linter.unusedVariables false
set_option maxRecDepth 20000
set_option linter.unusedSimpArgs false
set_option linter.unusedSectionVars false
namespace Go.Ab
open Go.Proofs
open Cx (zero one)
attribute [-go_sem] appF newsF
variable {a b : AV} {z w : Cx} {B C n m : Nat} {cs ds : List AV} {f g : Po}

theorem x_lenCIc {z : Cx} : (CIc z).length = 6 := rfl
theorem x_leafCIc {z : Cx} : (CIc z).all leafA = true := rfl
attribute [go_sem] CI_c x_lenCIc x_leafCIc
theorem CI_0 : CI zero = .agg [Bo false, .sl 0 [], I64 0, Bo false, .sl 0 [], I64 0] := by
  show AV.agg [Bo (decide ((0 : Int) < 0)), U32 (lim (0 : Int).natAbs), I64 0, Bo (decide ((0 : Int) < 0)), U32 (lim (0 : Int).natAbs), I64 0] = _
  rw [show (0 : Int).natAbs = 0 from rfl, lim_zero]; rfl
theorem ptrim_s (h : RP cs n f B) (hB : B ≤ 20000) : Sat CT false 86 [.sl n cs] (PA (dg n f) f) := sat_of_hsat (ptrim_h h hB) (fun a H' q => ret_ASl q)
/-- what is at a place -/
def atA (cs : List AV) (n i : Nat) : AV := if i < n then .agg ((cs.drop (i * 6)).take 6) else CI zero
theorem atA_lt {cs : List AV} {n i : Nat} (h : i < n) : atA cs n i = .agg ((cs.drop (i * 6)).take 6) := if_pos h
theorem atA_ge {cs : List AV} {n i : Nat} (h : ¬ i < n) : atA cs n i = .agg [Bo false, .sl 0 [], I64 0, Bo false, .sl 0 [], I64 0] := (if_neg h).trans CI_0
theorem rat_s (h : RP cs n f B) (i : Nat) : Sat CT false 96 [.sl n cs, I64 (i : Nat)] (atA cs n i) := by
  refine sat_of annulusref11_at.ok (by simp) ?_
  have DD := annulusref11_at.dr
  simp only [drP, drPx, drPt, drR, drS, drT, bodyOf, Tryz.f96, Nat.reduceEqDiff, reduceIte, true_and, and_true] at DD
  have hlen := h.len
  by_cases hi : i < n
  · obtain ⟨s, l, e, t, k, g, hc, hr⟩ := h.cells hi
    rw [atA_lt hi, hc]
    have c2 : (0 : Int) ≤ (i : Int) := by omega
    have c3 : (i : Int) < (n : Int) := by omega
    have c4 : i * 6 < cs.length := by omega
    have c5 : i * 6 + 6 ≤ cs.length := by omega
    simp -implicitDefEqProofs only [go_sem, simprocAttr, -Int.reducePow, Tryz.f96, DD, x_app, x_ga0, x_gas, x_gan, Int.cast_ofNat_Int, eq_self, Int.zero_lt_one, Bool.not_false, Bool.not_true, beq_self_eq_true, c2, c3, c4, c5, hc]
  · rw [atA_ge hi]
    have c1 : ¬ (i : Int) < (n : Int) := by omega
    simp -implicitDefEqProofs only [go_sem, simprocAttr, -Int.reducePow, Tryz.f96, DD, x_app, x_ga0, x_gas, x_gan, Int.cast_ofNat_Int, eq_self, Int.zero_lt_one, Bool.not_false, Bool.not_true, beq_self_eq_true, c1]
theorem Sp.psub {f g : Po} {n m : Nat} (h : Sp n f) (h' : Sp m g) : Sp (max n m) (psub f g) := fun k hk => by
  show f k - g k = zero
  rw [h k (by omega), h' k (by omega)]; rfl
theorem Sp.padd {f g : Po} {n m : Nat} (h : Sp n f) (h' : Sp m g) : Sp (max n m) (padd f g) := fun k hk => by
  show f k + g k = zero
  rw [h k (by omega), h' k (by omega)]; rfl
end Go.Ab

set_option linter.unusedVariables false
set_option maxRecDepth 20000
set_option linter.unusedSimpArgs false
set_option linter.unusedSectionVars false
namespace Go.Ab
open Go.Proofs
open Cx (zero one)
attribute [-go_sem] appF newsF
variable {a b : AV} {z w : Cx} {B C n m : Nat} {cs ds : List AV} {f g : Po}
theorem ASl.lastP {H : Heap} {k i : Nat} {g : Po} (h : H.getD k ⟨[], false, false⟩ = ⟨pcl i g ++ CIc (g i), true, true⟩) (hl : H.length = k + 1) : ASl 6 (.own 6 k 0 (i + 1)) H (pcl (i + 1) g) (i + 1) :=
  ASl.last (by rw [pclS]; exact h) hl (pcl_len _ _)
theorem sameint_d {x y : Int} (hx : Lz x < 1099511627776) (hy : Lz y < 1099511627776) : Sat CT false 77 [WI x, WI y] (Bo (decide (x = y))) := by
  by_cases e : x = y
  · rw [decide_eq_true e]; exact same_w e hx
  rw [decide_eq_false e]
  refine sat_of annulusref1_SameInt.ok (by simp) ?_
  have DD := annulusref1_SameInt.dr
  simp only [drP, drPx, drPt, drR, drS, drT, bodyOf, Tryz.f77, Nat.reduceEqDiff, reduceIte, true_and, and_true] at DD
  by_cases hs : (decide (x < 0) == decide (y < 0)) = true
  · have q := same_sat (lim x.natAbs) (lim y.natAbs) hx hy
    rw [decide_eq_false (fun h => e (by
      have h1 : x.natAbs = y.natAbs := by rw [← nv_lim x.natAbs, h, nv_lim]
      have h2 : (x < 0) ↔ (y < 0) := by simpa using hs
      omega))] at q
    simp -implicitDefEqProofs only [go_sem, simprocAttr, -Int.reducePow, Tryz.f77, DD, x_app, x_ga0, x_gas, x_gan, Int.cast_ofNat_Int, eq_self, Int.zero_lt_one, Bool.not_false, Bool.not_true, beq_self_eq_true, WI, IA, DI, DA, CI, hs]
    refine callK_of false annulusref1_Same.call (q) rfl rfl (by simp [ownOK, own1, hd, fzH, fzArgs, fzCells, fz, IA, WI, DI, DA, CI, U32]) (by simp [U32, isD_u32, isD_v, isD_nil, isD_agg, IA, WI, DI, DA, CI]) ?_
    simp -implicitDefEqProofs only [go_sem, simprocAttr, -Int.reducePow, DD, x_app, x_ga0, x_gas, x_gan, Int.cast_ofNat_Int, eq_self, Int.zero_lt_one, Bool.not_false, Bool.not_true, beq_self_eq_true, WI, IA, DI, DA, CI, hs]
  · have hs : (decide (x < 0) == decide (y < 0)) = false := by simpa using hs
    simp -implicitDefEqProofs only [go_sem, simprocAttr, -Int.reducePow, Tryz.f77, DD, x_app, x_ga0, x_gas, x_gan, Int.cast_ofNat_Int, eq_self, Int.zero_lt_one, Bool.not_false, Bool.not_true, beq_self_eq_true, WI, IA, DI, DA, CI, hs]
theorem dy_eq {x y : Dyadic} (h : dexp x = dexp y) (g : dnum x = dnum y) : x = y := by rw [← dv_of x, ← dv_of y, h, g]
theorem requal4d {x y : Dyadic} (hx : DB x B) (hy : DB y C) (hB : B ≤ 20000) (hC : C ≤ 20000) : Sat CT false 25 [DI x, DI y] (Bo (decide (x = y))) := by
  refine sat_of annulusref4_Equal.ok (by simp) ?_
  have DD := annulusref4_Equal.dr
  simp only [drP, drPx, drPt, drR, drS, drT, bodyOf, Tryz.f25, Nat.reduceEqDiff, reduceIte, true_and, and_true] at DD
  by_cases he : dexp x = dexp y
  · have hx1 := hx.lim
    have hy1 := hy.lim
    have q := sameint_d (x := dnum x) (y := dnum y) (by show (lim (dnum x).natAbs).length < _; omega) (by show (lim (dnum y).natAbs).length < _; omega)
    have e : decide (x = y) = decide (dnum x = dnum y) := decide_eq_decide.2 ⟨fun h => by rw [h], fun h => dy_eq he h⟩
    rw [e]
    simp -implicitDefEqProofs only [go_sem, simprocAttr, -Int.reducePow, Tryz.f25, DD, x_app, x_ga0, x_gas, x_gan, Int.cast_ofNat_Int, eq_self, Int.zero_lt_one, Bool.not_false, Bool.not_true, beq_self_eq_true, WI, IA, DI, DA, CI, he]
    refine callK_of false annulusref1_SameInt.call (q) rfl rfl (by simp [ownOK, own1, hd, fzH, fzArgs, fzCells, fz, IA, WI, DI, DA, CI, U32]) (by simp [U32, isD_u32, isD_v, isD_nil, isD_agg, IA, WI, DI, DA, CI]) ?_
    simp -implicitDefEqProofs only [go_sem, simprocAttr, -Int.reducePow, DD, x_app, x_ga0, x_gas, x_gan, Int.cast_ofNat_Int, eq_self, Int.zero_lt_one, Bool.not_false, Bool.not_true, beq_self_eq_true, WI, IA, DI, DA, CI, he]
  · rw [decide_eq_false (fun h => he (by rw [h]))]
    simp -implicitDefEqProofs only [go_sem, simprocAttr, -Int.reducePow, Tryz.f25, DD, x_app, x_ga0, x_gas, x_gan, Int.cast_ofNat_Int, eq_self, Int.zero_lt_one, Bool.not_false, Bool.not_true, beq_self_eq_true, WI, IA, DI, DA, CI, he]
theorem requal8d (hx : CB z B) (hy : CB w C) (hB : B ≤ 20000) (hC : C ≤ 20000) : Sat CT false 13 [CI z, CI w] (Bo (decide (z = w))) := by
  refine sat_of annulusref8_Equal.ok (by simp) ?_
  have DD := annulusref8_Equal.dr
  simp only [drP, drPx, drPt, drR, drS, drT, bodyOf, Tryz.f13, Nat.reduceEqDiff, reduceIte, true_and, and_true] at DD
  have q1 := requal4d hx.1 hy.1 hB hC
  by_cases he : z.re = w.re
  · have q2 := requal4d hx.2 hy.2 hB hC
    rw [decide_eq_true he] at q1
    have e : decide (z = w) = decide (z.im = w.im) := decide_eq_decide.2 ⟨fun h => by rw [h], fun h => Cx.ext' he h⟩
    rw [e]
    simp -implicitDefEqProofs only [go_sem, simprocAttr, -Int.reducePow, Tryz.f13, DD, x_app, x_ga0, x_gas, x_gan, Int.cast_ofNat_Int, eq_self, Int.zero_lt_one, Bool.not_false, Bool.not_true, beq_self_eq_true, WI, IA, DI, DA, CI]
    refine callK_of false annulusref4_Equal.call (q1) rfl rfl (by simp [ownOK, own1, hd, fzH, fzArgs, fzCells, fz, IA, WI, DI, DA, CI, U32]) (by simp [U32, isD_u32, isD_v, isD_nil, isD_agg, IA, WI, DI, DA, CI]) ?_
    simp -implicitDefEqProofs only [go_sem, simprocAttr, -Int.reducePow, DD, x_app, x_ga0, x_gas, x_gan, Int.cast_ofNat_Int, eq_self, Int.zero_lt_one, Bool.not_false, Bool.not_true, beq_self_eq_true, WI, IA, DI, DA, CI]
    refine callK_of false annulusref4_Equal.call (q2) rfl rfl (by simp [ownOK, own1, hd, fzH, fzArgs, fzCells, fz, IA, WI, DI, DA, CI, U32]) (by simp [U32, isD_u32, isD_v, isD_nil, isD_agg, IA, WI, DI, DA, CI]) ?_
    simp -implicitDefEqProofs only [go_sem, simprocAttr, -Int.reducePow, DD, x_app, x_ga0, x_gas, x_gan, Int.cast_ofNat_Int, eq_self, Int.zero_lt_one, Bool.not_false, Bool.not_true, beq_self_eq_true, WI, IA, DI, DA, CI]
  · rw [decide_eq_false he] at q1
    rw [decide_eq_false (fun h => he (by rw [h]))]
    simp -implicitDefEqProofs only [go_sem, simprocAttr, -Int.reducePow, Tryz.f13, DD, x_app, x_ga0, x_gas, x_gan, Int.cast_ofNat_Int, eq_self, Int.zero_lt_one, Bool.not_false, Bool.not_true, beq_self_eq_true, WI, IA, DI, DA, CI]
    refine callK_of false annulusref4_Equal.call (q1) rfl rfl (by simp [ownOK, own1, hd, fzH, fzArgs, fzCells, fz, IA, WI, DI, DA, CI, U32]) (by simp [U32, isD_u32, isD_v, isD_nil, isD_agg, IA, WI, DI, DA, CI]) ?_
    simp -implicitDefEqProofs only [go_sem, simprocAttr, -Int.reducePow, DD, x_app, x_ga0, x_gas, x_gan, Int.cast_ofNat_Int, eq_self, Int.zero_lt_one, Bool.not_false, Bool.not_true, beq_self_eq_true, WI, IA, DI, DA, CI]
theorem rtrim_h (h : RP cs n f B) (hB : B ≤ 20000) : HSat CT 41 [.sl n cs] [] (fun a H => ASl 6 a H (pcl (dg n f) f) (dg n f)) := by
  refine hsat_of annulusref11_Trim.ok annulusref11_Trim.call (by simp) ?_
  have DD := annulusref11_Trim.dr
  simp only [drP, drPx, drPt, drR, drS, drT, bodyOf, Tryz.f41, Nat.reduceEqDiff, reduceIte, true_and, and_true] at DD
  simp only [bodyOf, aW1, Tryz.f41]
  have hsm := h.small
  have hlen := h.len
  rw [x_seqH]
  simp -implicitDefEqProofs only [go_sem, simprocAttr, -Int.reducePow, DD, x_app, x_ga0, x_gas, x_gan, Int.cast_ofNat_Int, eq_self, Int.zero_lt_one, Bool.not_false, Bool.not_true, beq_self_eq_true]
  rw [x_HX]
  rw [x_seqH]
  simp -implicitDefEqProofs only [go_sem, simprocAttr, -Int.reducePow, DD, x_app, x_ga0, x_gas, x_gan, Int.cast_ofNat_Int, eq_self, Int.zero_lt_one, Bool.not_false, Bool.not_true, beq_self_eq_true]
  rw [x_HX]
  rw [x_seqH]
  simp -implicitDefEqProofs only [go_sem, simprocAttr, -Int.reducePow, DD, x_app, x_ga0, x_gas, x_gan, Int.cast_ofNat_Int, eq_self, Int.zero_lt_one, Bool.not_false, Bool.not_true, beq_self_eq_true]
  rw [x_HX]
  refine seq_cut aW0_mono (fun σ => ∃ sl, σ = ⟨sl, []⟩ ∧ look sl 0 = .sl n cs ∧ look sl 3 = .v (.slice none 0 0) ∧ look sl 4 = I64 (dg n f : Nat)) ?_ ?_
  · simp -implicitDefEqProofs only [go_sem, simprocAttr, -Int.reducePow, DD, x_app, x_ga0, x_gas, x_gan, Int.cast_ofNat_Int, eq_self, Int.zero_lt_one, Bool.not_false, Bool.not_true, beq_self_eq_true]
    refine loop_of aW0_mono (fun m σ => ∃ sl, σ = ⟨sl, []⟩ ∧ m ≤ n ∧ look sl 0 = .sl n cs ∧ look sl 3 = .v (.slice none 0 0) ∧ look sl 4 = I64 (m : Nat) ∧ dg n f = dg m f) ?_ (n := n) ⟨_, rfl, Nat.le_refl _, by simp [x_look], by simp [x_look], by simp [x_look], rfl⟩
    rintro m _ ⟨sl, rfl, hm, k0, k3, k4, hd0⟩
    cases m with
    | zero =>
      simp -implicitDefEqProofs only [go_sem, simprocAttr, -Int.reducePow, DD, x_app, x_ga0, x_gas, x_gan, Int.cast_ofNat_Int, eq_self, Int.zero_lt_one, Bool.not_false, Bool.not_true, beq_self_eq_true, k0, k3, k4, Int.natCast_zero, Int.lt_irrefl]
      refine ⟨_, rfl, by simp [x_look, k0], by simp [x_look, k3], ?_⟩
      rw [hd0, dg0]; simp [x_look, k4]
    | succ m =>
      have c1 : (0 : Int) < ((m + 1 : Nat) : Int) := by omega
      have c2 : IntKind.i64.wrap (((m + 1 : Nat) : Int) - 1) = (m : Int) := by rw [wrap_id (by omega)]; omega
      have c3 : (0 : Int) ≤ (m : Int) := by omega
      have c4 : (m : Int) < (n : Int) := by omega
      have c5 : m * 6 < cs.length := by omega
      have c6 : m * 6 + 6 ≤ cs.length := by omega
      obtain ⟨s, l, e, t, k, g, hc, hr⟩ := h.cells (i := m) (by omega)
      have q1 := rcplx_r hr hB
      have q := rzero_r (RC_C hr.cb) hB
      by_cases hz : f m = zero
      · rw [decide_eq_true hz] at q
        simp -implicitDefEqProofs only [go_sem, simprocAttr, -Int.reducePow, DD, x_app, x_ga0, x_gas, x_gan, Int.cast_ofNat_Int, eq_self, Int.zero_lt_one, Bool.not_false, Bool.not_true, beq_self_eq_true, k0, k3, k4, c1, c2, c3, c4, c5, c6, hc]
        refine callK_pl annulusref8_Cplx.call (q1) (pl1 (pld_RC hr)) ?_
        simp -implicitDefEqProofs only [go_sem, simprocAttr, -Int.reducePow, DD, x_app, x_ga0, x_gas, x_gan, Int.cast_ofNat_Int, eq_self, Int.zero_lt_one, Bool.not_false, Bool.not_true, beq_self_eq_true, k0, k3, k4, c1, c2, c3, c4, c5, c6, hc]
        refine callK_pl annulusref8_Zero.call (q) (pl1 (pld_CI _)) ?_
        simp -implicitDefEqProofs only [go_sem, simprocAttr, -Int.reducePow, DD, x_app, x_ga0, x_gas, x_gan, Int.cast_ofNat_Int, eq_self, Int.zero_lt_one, Bool.not_false, Bool.not_true, beq_self_eq_true, k0, k3, k4, c1, c2, c3, c4, c5, c6, hc]
        exact ⟨m, by omega, _, rfl, by omega, by simp [x_look, k0], by simp [x_look, k3], by simp [x_look], by rw [hd0, dg_step hz]⟩
      · rw [decide_eq_false hz] at q
        simp -implicitDefEqProofs only [go_sem, simprocAttr, -Int.reducePow, DD, x_app, x_ga0, x_gas, x_gan, Int.cast_ofNat_Int, eq_self, Int.zero_lt_one, Bool.not_false, Bool.not_true, beq_self_eq_true, k0, k3, k4, c1, c2, c3, c4, c5, c6, hc]
        refine callK_pl annulusref8_Cplx.call (q1) (pl1 (pld_RC hr)) ?_
        simp -implicitDefEqProofs only [go_sem, simprocAttr, -Int.reducePow, DD, x_app, x_ga0, x_gas, x_gan, Int.cast_ofNat_Int, eq_self, Int.zero_lt_one, Bool.not_false, Bool.not_true, beq_self_eq_true, k0, k3, k4, c1, c2, c3, c4, c5, c6, hc]
        refine callK_pl annulusref8_Zero.call (q) (pl1 (pld_CI _)) ?_
        simp -implicitDefEqProofs only [go_sem, simprocAttr, -Int.reducePow, DD, x_app, x_ga0, x_gas, x_gan, Int.cast_ofNat_Int, eq_self, Int.zero_lt_one, Bool.not_false, Bool.not_true, beq_self_eq_true, k0, k3, k4, c1, c2, c3, c4, c5, c6, hc]
        exact ⟨_, rfl, by simp [x_look, k0], by simp [x_look, k3], by rw [hd0, dg_stop hz]; simp [x_look, k4]⟩
  · rintro _ ⟨sl, rfl, k0, k3, k4⟩
    have hle := dg_le n f
    generalize hD : dg n f = d at *
    simp -implicitDefEqProofs only [go_sem, simprocAttr, -Int.reducePow, DD, x_app, x_ga0, x_gas, x_gan, Int.cast_ofNat_Int, eq_self, Int.zero_lt_one, Bool.not_false, Bool.not_true, beq_self_eq_true, k0, k3, k4]
    refine loop_of aW0_mono (fun m σ => ∃ sl H i, σ = ⟨sl, H⟩ ∧ m = d - i ∧ i ≤ d ∧ look sl 0 = .sl n cs ∧ look sl 4 = I64 (d : Nat) ∧ look sl 5 = I64 (i : Nat) ∧ ASl 6 (look sl 3) H (pcl i f) i) ?_ (n := d) ⟨_, _, 0, rfl, rfl, Nat.zero_le _, by simp [x_look, k0], by simp [x_look, k4], by simp [x_look], by simp [x_look, k3, pcl0, ASl.nil]⟩
    clear k0 k3 k4
    rintro m _ ⟨sl, H, i, rfl, rfl, hi, k0, k4, k5, hA⟩
    by_cases hid : i = d
    · subst hid
      simp -implicitDefEqProofs only [go_sem, simprocAttr, -Int.reducePow, DD, x_app, x_ga0, x_gas, x_gan, Int.cast_ofNat_Int, eq_self, Int.zero_lt_one, Bool.not_false, Bool.not_true, beq_self_eq_true, k0, k4, k5, Int.lt_irrefl]
      exact hA
    · have c4 : (i : Int) < (d : Int) := by omega
      have ci : IntKind.i64.wrap ((i : Int) + 1) = ((i + 1 : Nat) : Int) := by rw [wrap_id (by omega)]; omega
      have c5 : (0 : Int) ≤ (i : Int) := by omega
      have c9 : (i : Int) < (n : Int) := by omega
      have c7 : i * 6 < cs.length := by omega
      have c8 : i * 6 + 6 ≤ cs.length := by omega
      obtain ⟨s, l, e, t, k, g, hc, hr⟩ := h.cells (i := i) (by omega)
      have q := rcplx_r hr hB
      simp -implicitDefEqProofs only [go_sem, simprocAttr, -Int.reducePow, DD, x_app, x_ga0, x_gas, x_gan, Int.cast_ofNat_Int, eq_self, Int.zero_lt_one, Bool.not_false, Bool.not_true, beq_self_eq_true, k0, k4, k5, ci, c4, c5, c7, c8, c9, hc]
      refine callK_pl annulusref8_Cplx.call (q) (pl1 (pld_RC hr)) ?_
      simp -implicitDefEqProofs only [go_sem, simprocAttr, -Int.reducePow, DD, x_app, x_ga0, x_gas, x_gan, Int.cast_ofNat_Int, eq_self, Int.zero_lt_one, Bool.not_false, Bool.not_true, beq_self_eq_true, k0, k4, k5, ci, c4, c5, c7, c8, c9, hc]
      refine app_step (P := Tryz.prog) tk45 rfl tk28 tk45 rfl rfl (by decide) (n := i) (m := 1) (hA.ext _) (.inl ⟨rfl, x_hget⟩) rfl (by decide) rfl (Nat.le_trans (Nat.mul_le_mul_right _ (show i + 1 ≤ 1000001 by omega)) (by decide)) (by omega) ?_
      intro H' hg hl' hk'
      simp -implicitDefEqProofs only [go_sem, simprocAttr, -Int.reducePow, DD, x_app, x_ga0, x_gas, x_gan, Int.cast_ofNat_Int, eq_self, Int.zero_lt_one, Bool.not_false, Bool.not_true, beq_self_eq_true, k0, k4, k5, ci, c4, c5, c7, c8, c9, hc]
      exact ⟨d - (i + 1), by omega, _, _, i + 1, rfl, rfl, by omega, by simp [x_look, k0], by simp [x_look, k4], by simp [x_look], by simp only [x_look, reduceIte, Nat.reduceEqDiff]; exact ASl.lastP hg hl'⟩
theorem rtrim_s (h : RP cs n f B) (hB : B ≤ 20000) : Sat CT false 41 [.sl n cs] (PA (dg n f) f) := sat_of_hsat (rtrim_h h hB) (fun a H' q => ret_ASl q)
theorem rtrim_P (h : PB f B) (hs : Sp n f) (hn : n ≤ 1000000) (hB : B ≤ 20000) : Sat CT false 41 [PA n f] (PA (dg n f) f) := rtrim_s (RP_P h hs hn) hB
end Go.Ab
