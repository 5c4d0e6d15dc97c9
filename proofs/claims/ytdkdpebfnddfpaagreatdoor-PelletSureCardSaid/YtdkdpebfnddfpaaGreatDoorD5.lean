/- Contracts of this seat's functions (of each call: what it answers), walked over the abstract machine, and the laws of numbers that they want. Conditions: those that each theorem states. -/
import Derived.Test.YtdkdpebfnddfpaaGreatDoorD4
set_option linter.unusedVariables false
set_option maxRecDepth 20000
set_option linter.unusedSimpArgs false
set_option linter.unusedSectionVars false
namespace Go.Ab
open Go.Proofs
open Go.RowKit (Below)
open Cx (zero one)

/-! rows of points; what is appended to; contracts out of contracts over the own objects -/
def CIc (z : Cx) : List AV := [Bo (decide (dnum z.re < 0)), U32 (lim (dnum z.re).natAbs), I64 (dexp z.re), Bo (decide (dnum z.im < 0)), U32 (lim (dnum z.im).natAbs), I64 (dexp z.im)]
theorem CI_c (z : Cx) : CI z = .agg (CIc z) := rfl
/-- the cells of the first n coefficients -/
def pcl : Nat → Po → List AV
  | 0, _ => []
  | n + 1, f => pcl n f ++ CIc (f n)
theorem pcl0 (f : Po) : pcl 0 f = [] := by rw [pcl]
theorem pclS (n : Nat) (f : Po) : pcl (n + 1) f = pcl n f ++ CIc (f n) := by rw [pcl]
theorem pcl_len (n : Nat) (f : Po) : (pcl n f).length = n * 6 := by
  induction n with
  | zero => rw [pcl0]; rfl
  | succ n ih => rw [pclS, List.length_append, ih]; show n * 6 + 6 = _; omega
theorem pcl_congr {n : Nat} {f g : Po} (h : ∀ k, k < n → f k = g k) : pcl n f = pcl n g := by
  induction n with
  | zero => rw [pcl0, pcl0]
  | succ n ih => rw [pclS, pclS, ih (fun k hk => h k (by omega)), h n (by omega)]
theorem pcl_pre (n d : Nat) (f : Po) : ∃ l, pcl (n + d) f = pcl n f ++ l := by
  induction d with
  | zero => exact ⟨[], by simp⟩
  | succ d ih =>
    obtain ⟨l, hl⟩ := ih
    exact ⟨l ++ CIc (f (n + d)), by rw [← Nat.add_assoc, pclS, hl, List.append_assoc]⟩
theorem pcl_el {n i : Nat} (f : Po) (h : i < n) : ((pcl n f).drop (i * 6)).take 6 = CIc (f i) := by
  obtain ⟨l, hl⟩ := pcl_pre (i + 1) (n - (i + 1)) f
  rw [show i + 1 + (n - (i + 1)) = n by omega] at hl
  rw [hl, pclS, List.append_assoc, ← pcl_len i f, List.drop_left]; rfl
/-- a polynomial as it must be -/
def PA (n : Nat) (f : Po) : AV := .sl n (pcl n f)
/-- the row reads as the first n coefficients -/
structure RP (cs : List AV) (n : Nat) (f : Po) (B : Nat) : Prop where
  len : cs.length = n * 6
  el : ∀ i, i < n → RC (.agg ((cs.drop (i * 6)).take 6)) (f i) B
  sp : Sp n f
  small : n ≤ 1000000
theorem RP_P {n : Nat} {f : Po} {B : Nat} (h : PB f B) (hs : Sp n f) (hn : n ≤ 1000000) : RP (pcl n f) n f B := ⟨pcl_len n f, fun i hi => by rw [pcl_el f hi]; exact RC_C (h i), hs, hn⟩
theorem RP.pb {cs : List AV} {n : Nat} {f : Po} {B : Nat} (h : RP cs n f B) : PB f B := fun i => by
  rcases Nat.lt_or_ge i n with q | q
  · exact (h.el i q).cb
  · rw [h.sp i q]; exact CB.zero B
theorem RP.mono {cs : List AV} {n : Nat} {f : Po} {B C : Nat} (h : RP cs n f B) (hC : B ≤ C) : RP cs n f C := ⟨h.len, fun i hi => (h.el i hi).mono hC, h.sp, h.small⟩
/-- cells of one -/
theorem RP.cells {cs : List AV} {n : Nat} {f : Po} {B i : Nat} (h : RP cs n f B) (hi : i < n) : ∃ s l e t k g, (cs.drop (i * 6)).take 6 = [Bo s, U32 l, I64 e, Bo t, U32 k, I64 g] ∧ RC (.agg [Bo s, U32 l, I64 e, Bo t, U32 k, I64 g]) (f i) B := by
  have h0 := h.el i hi
  have h1 := h0
  obtain ⟨s, l, e, t, k, g, hh, h2, h3⟩ := h0
  refine ⟨s, l, e, t, k, g, ?_, ?_⟩
  · simpa using hh
  · rw [← hh]; exact h1

theorem el_take {cs : List AV} {d i : Nat} (h : i < d) : ((cs.take (d * 6)).drop (i * 6)).take 6 = (cs.drop (i * 6)).take 6 := by
  rw [List.drop_take, List.take_take, Nat.min_eq_left (by omega)]
theorem len_take {cs : List AV} {n d : Nat} (h : cs.length = n * 6) (hd : d ≤ n) : (cs.take (d * 6)).length = d * 6 := by rw [List.length_take]; omega
/-- What grows by appending: nothing yet, or an own row. -/
def ASl (sz : Nat) (a : AV) (H : Heap) (cs : List AV) (n : Nat) : Prop :=
  (a = .v (.slice none 0 0) ∧ n = 0 ∧ cs = []) ∨ ∃ k, a = .own sz k 0 n ∧ H.getD k ⟨[], false, false⟩ = ⟨cs, true, true⟩ ∧ k < H.length ∧ cs.length = n * sz
theorem getD_hp {H : Heap} {k : Nat} (h : k < H.length) (l : Heap) : (H ++ l).getD k ⟨[], false, false⟩ = H.getD k ⟨[], false, false⟩ := by
  rw [List.getD_eq_getElem?_getD, List.getD_eq_getElem?_getD, List.getElem?_append_left h]
theorem x_hget {H : Heap} {x d : AObj} : (H ++ [x]).getD H.length d = x := by simp [List.getD_eq_getElem?_getD]
theorem x_hset {H : Heap} {x y : AObj} : (H ++ [x]).set H.length y = H ++ [y] := by simp [List.set_append]
attribute [go_sem] x_hget x_hset
theorem ASl.ext {sz : Nat} {a : AV} {H : Heap} {cs : List AV} {n : Nat} (h : ASl sz a H cs n) (x : AObj) : ASl sz a (H ++ [x]) cs n := by
  rcases h with h | ⟨k, h1, h2, h3, h4⟩
  · exact .inl h
  · exact .inr ⟨k, h1, by rw [getD_hp h3]; exact h2, by simp; omega, h4⟩
theorem ASl.nil (sz : Nat) (H : Heap) : ASl sz (.v (.slice none 0 0)) H [] 0 := .inl ⟨rfl, rfl, rfl⟩
theorem ASl.last {sz : Nat} {H : Heap} {cs : List AV} {k n : Nat} (h : H.getD k ⟨[], false, false⟩ = ⟨cs, true, true⟩) (hl : H.length = k + 1) (hn : cs.length = n * sz) : ASl sz (.own sz k 0 n) H cs n := .inr ⟨k, rfl, h, by omega, hn⟩
theorem x_zerA1 {a b c d e f : Value} : zerosA [a, b, c, d, e, f] 1 = [.v a, .v b, .v c, .v d, .v e, .v f] := rfl
theorem x_zerA2 {a b c d e f : Value} : zerosA [a, b, c, d, e, f] 2 = [.v a, .v b, .v c, .v d, .v e, .v f, .v a, .v b, .v c, .v d, .v e, .v f] := by simp [zerosA, List.range_succ]
attribute [go_sem] x_zerA1 x_zerA2
/-- one step of growing: afterwards it is the last row -/
theorem app_step {P : Program} {g : Operand → AV} {H : Heap} {s x : Operand} {t t' e e' : TypeId} {rt re rt' : TK} {K : AV → Heap → Prop} {cs news : List AV} {n m kx : Nat} {wr : Bool}
    (h1 : tk P t = some rt) (h2 : rt.sd = .sl e) (h3 : tk P e = some re) (h4 : tk P t' = some rt') (h5 : rt'.sd = .sl e') (hz : re.zero.length = re.size) (hpos : 0 < re.size)
    (hA : ASl re.size (g s) H cs n) (hx : (g x = .own re.size kx 0 m ∧ H.getD kx ⟨[], false, false⟩ = ⟨news, true, wr⟩) ∨ g x = .sl m news) (hl : news.length = m * re.size) (hm : m ≠ 0) (hleaf : news.all leafA = true) (hb : (n + m) * re.bytes ≤ 2 ^ 47) (hb2 : n + m ≤ 2 ^ 62)
    (hK : ∀ H', H'.getD H.length ⟨[], false, false⟩ = ⟨cs ++ news, true, true⟩ → H'.length = H.length + 1 → (∀ k, k < H.length → g s ≠ .own re.size k 0 n → H'.getD k ⟨[], false, false⟩ = H.getD k ⟨[], false, false⟩) → K (.own re.size H.length 0 (n + m)) H') : outK (appF P g H s x t t') K := by
  obtain ⟨p, hp, hN⟩ : ∃ p, p ∧ newsF P g H re x t' = some (p, m, news) := by
    rcases hx with ⟨q1, q2⟩ | q1
    · have e : hd H kx = ⟨news, true, wr⟩ := q2
      refine ⟨re.size = re.size ∧ (hd H kx).rd = true ∧ 0 + m * re.size ≤ (hd H kx).cells.length, ⟨rfl, by rw [e], by rw [e, ← hl, Nat.zero_add]; exact Nat.le_refl _⟩, ?_⟩
      unfold newsF
      rw [h4]; dsimp only; rw [h5]; dsimp only; rw [q1]; dsimp only
      rw [show ((hd H kx).cells.drop 0).take (m * re.size) = news by rw [e, List.drop_zero, ← hl, List.take_length]]
    · refine ⟨news.length = m * re.size, hl, ?_⟩
      unfold newsF
      rw [h4]; dsimp only; rw [h5]; dsimp only; rw [q1]
  unfold appF
  simp only [h1, h2, h3, hN]
  rcases hA with ⟨q1, rfl, rfl⟩ | ⟨k, q1, q2, q3, q4⟩
  · rw [q1]
    obtain ⟨m, rfl⟩ : ∃ m', m = m' + 1 := ⟨m - 1, by omega⟩
    simp only [outK]
    refine ⟨⟨hp, hpos, hleaf, hz, by simpa using hb, by omega⟩, ?_⟩
    have := hK (H ++ [⟨news, true, true⟩]) (by rw [x_hget]; rfl) (by simp) (fun k hk _ => getD_hp hk _)
    rw [Nat.zero_add] at this
    exact this
  · rw [q1]
    simp only [outK, hd, q2, List.drop_zero]
    rw [← q4, List.take_length]
    refine ⟨⟨hp, trivial, hpos, trivial, by omega, hleaf, hz, hb, hb2⟩, ?_⟩
    refine hK _ ?_ (by simp) (fun k' hk' hne => ?_)
    · rw [List.getD_eq_getElem?_getD, List.getElem?_append_right (by simp)]; simp
    · have hkk : k ≠ k' := fun e => hne (by rw [q1, e])
      rw [List.getD_eq_getElem?_getD, List.getElem?_append_left (by simpa using hk'), List.getElem?_set_ne hkk, ← List.getD_eq_getElem?_getD]

/-! pieces of code one by one -/
section
variable {C : Ctx} {N : Nat} {jump : Code → APost → AState → Prop} {Q : APost} {σ : AState}
/-- no jump out of a scope -/
def SQ (Q : APost) : APost
  | .goto _, _ => False
  | e, σ => Q e σ
theorem scope0 {c : Code} (hj : JumpMono jump) (h : aW C N jump c (SQ Q) σ) : aW C N jump (.scope c) Q σ := by
  refine scope_of 0 (aW_mono hj c _ _ σ (fun e σ q => ?_) h)
  cases e with
  | goto l => exact q.elim
  | _ => exact q
theorem x_SQ1 : SQ Q .normal σ = Q .normal σ := rfl
theorem x_SQ2 : SQ Q .ret σ = Q .ret σ := rfl
theorem x_SQ3 {i : Nat} : SQ Q (.exit i) σ = Q (.exit i) σ := rfl
attribute [go_sem] x_SQ1 x_SQ2 x_SQ3
/-- what comes then waits -/
def HX (C : Ctx) (N : Nat) (jump : Code → APost → AState → Prop) (y : Code) (Q : APost) : AState → Prop := aW C N jump y Q
theorem x_seqH {x y : Code} : aW C N jump (.seq x y) Q σ = aW C N jump x (thenA (HX C N jump y Q) Q) σ := x_seq
theorem x_HX {y : Code} : HX C N jump y Q σ = aW C N jump y Q σ := rfl
/-- what holds in between -/
theorem seq_cut {x y : Code} (hj : JumpMono jump) (E : AState → Prop) (h1 : aW C N jump x (thenA E Q) σ) (h2 : ∀ σ, E σ → aW C N jump y Q σ) : aW C N jump (.seq x y) Q σ := by
  rw [x_seq]
  refine aW_mono hj x _ _ σ (fun e σ q => ?_) h1
  cases e with
  | normal => exact h2 σ q
  | _ => exact q
end

/-- a contract out of one over the own objects -/
theorem sat_of_hsat {C : Ctx} {f : FuncId} {args : List AV} {r : AV} {Post : AV → Heap → Prop} (h : HSat C f args [] Post) (hP : ∀ a H', Post a H' → ownOK H' true a ∧ IsD r ∧ snap H' a = r) : Sat C false f args r := by
  intro w S xs hg hSg hl hr
  have hs : SimH C w.heap.size (fun b => b < w.heap.size → S b) w mu0 [] w :=
    ⟨Nat.le_refl _, .refl _ _, hg, fun k ad o q => (by cases q), fun k ad o q => (by cases q), fun b hb hlt => (by omega), fun g q _ => hSg g q, fun k ad o q => (by cases q), fun k k' ad ad' o o' q => (by cases q)⟩
  refine (h.2 w.heap.size _ w w mu0 xs hs (fun _ _ => rfl) hl (fun i hi => (hr i hi).mono (fun _ _ q => q) (fun b q hlt => ⟨fun _ => q, fun k ad o q => (by cases q)⟩) (.refl _ _))).mono ?_
  rintro e w' ⟨x, a, H', mu', rfl, hp, haf, hx, hfr⟩
  obtain ⟨q1, q2, q3⟩ := hP a H' hp
  refine ⟨x, rfl, ?_, haf.sim.below⟩
  obtain ⟨f1, f2⟩ := haf.sim.stillAll
  have := snap_rep (List.prefix_refl _) f1 (ind := false) (hx.mono (fun _ _ q => q) (fun b q _ => f2 b q) (.refl _ _)) (ownOK_fzAll q1)
  rw [snap_fzAll, q3] at this
  refine (this.data q2).mono (fun _ _ q => q) (fun b q hlt => ?_) (.refl _ _)
  rcases q with q | q
  · cases q
  · rcases Nat.lt_or_ge b w.heap.size with h | h
    · exact .inl ⟨rfl, q.1 h⟩
    · exact .inr h
theorem snap0_pcl (n : Nat) (f : Po) : (pcl n f).map snap0 = pcl n f := by
  induction n with
  | zero => rw [pcl0]; rfl
  | succ n ih => rw [pclS, List.map_append, ih]; rfl
theorem isD_pcl (n : Nat) (f : Po) : ∀ c ∈ pcl n f, IsD c := by
  induction n with
  | zero => intro c hc; rw [pcl0] at hc; cases hc
  | succ n ih =>
    intro c hc
    rw [pclS, List.mem_append] at hc
    rcases hc with hc | hc
    · exact ih c hc
    · simp only [CIc, List.mem_cons, List.not_mem_nil, or_false] at hc
      rcases hc with rfl | rfl | rfl | rfl | rfl | rfl <;> first | exact .v _ | exact isD_u32 _ _
theorem isD_PA (n : Nat) (f : Po) : IsD (PA n f) := .sl _ _ (fun i hi => by
  rw [List.getD_eq_getElem?_getD, List.getElem?_eq_getElem hi]
  exact isD_pcl n f _ (List.getElem_mem hi))
theorem PA_0 (f : Po) : PA 0 f = .sl 0 [] := by unfold PA; rw [pcl0]
/-- handed back -/
theorem ret_ASl {a : AV} {H : Heap} {n : Nat} {f : Po} (h : ASl 6 a H (pcl n f) n) : ownOK H true a ∧ IsD (PA n f) ∧ snap H a = PA n f := by
  rcases h with ⟨rfl, rfl, _⟩ | ⟨k, rfl, h2, h3, h4⟩
  · exact ⟨trivial, isD_PA 0 f, by rw [PA_0]; rfl⟩
  · refine ⟨?_, isD_PA n f, ?_⟩
    · simp only [ownOK, hd, h2]
      exact ⟨trivial, .inl trivial, by omega⟩
    · simp only [snap, hd, h2, List.drop_zero]
      rw [← h4, List.take_length, snap0_pcl]; rfl
end Go.Ab
