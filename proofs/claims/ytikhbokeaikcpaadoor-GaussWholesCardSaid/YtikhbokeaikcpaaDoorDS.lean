/- Contracts of this seat's functions (of each call: what it answers), walked over the abstract machine, and the laws of numbers that they want. Conditions: those that each theorem states. -/
import Derived.Test.YtikhbokeaikcpaaDoorD4
set_option linter.unusedVariables false
set_option maxRecDepth 20000
set_option linter.unusedSimpArgs false
set_option linter.unusedSectionVars false
namespace Go.Ab
open Go.Proofs
open Go.RowKit (Below)
open Cx (zero one)

/-! rows of points; what is appended to; contracts out of contracts over the own objects -/
def CIc (z : Cx) : List AV := [Bo (decide (dnum z.re < 0)), U32 (lim (dnum z.re).natAbs), I64 (dexp z.re), Bo (decide (dnum z.im < 0)), U32 (lim (dnum z.im).natAbs), I64 (dexp z.im)]
theorem CI_c (z : Cx) : CI z = .agg (CIc z) := rfl
/-- the cells of the first n coefficients -/
def pcl : Nat → Po → List AV
  | 0, _ => []
  | n + 1, f => pcl n f ++ CIc (f n)
theorem pcl0 (f : Po) : pcl 0 f = [] := by rw [pcl]
theorem pclS (n : Nat) (f : Po) : pcl (n + 1) f = pcl n f ++ CIc (f n) := by rw [pcl]
/-- the row reads as the first n coefficients -/
structure RP (cs : List AV) (n : Nat) (f : Po) (B : Nat) : Prop where
  len : cs.length = n * 6
  el : ∀ i, i < n → RC (.agg ((cs.drop (i * 6)).take 6)) (f i) B
  sp : Sp n f
  small : n ≤ 1000000
theorem RP.mono {cs : List AV} {n : Nat} {f : Po} {B C : Nat} (h : RP cs n f B) (hC : B ≤ C) : RP cs n f C := ⟨h.len, fun i hi => (h.el i hi).mono hC, h.sp, h.small⟩
/-- cells of one -/
theorem RP.cells {cs : List AV} {n : Nat} {f : Po} {B i : Nat} (h : RP cs n f B) (hi : i < n) : ∃ s l e t k g, (cs.drop (i * 6)).take 6 = [Bo s, U32 l, I64 e, Bo t, U32 k, I64 g] ∧ RC (.agg [Bo s, U32 l, I64 e, Bo t, U32 k, I64 g]) (f i) B := by
  have h0 := h.el i hi
  have h1 := h0
  obtain ⟨s, l, e, t, k, g, hh, h2, h3⟩ := h0
  refine ⟨s, l, e, t, k, g, ?_, ?_⟩
  · simpa using hh
  · rw [← hh]; exact h1

/-- What grows by appending: nothing yet, or an own row. -/
def ASl (sz : Nat) (a : AV) (H : Heap) (cs : List AV) (n : Nat) : Prop :=
  (a = .v (.slice none 0 0) ∧ n = 0 ∧ cs = []) ∨ ∃ k, a = .own sz k 0 n ∧ H.getD k ⟨[], false, false⟩ = ⟨cs, true, true⟩ ∧ k < H.length ∧ cs.length = n * sz
theorem getD_hp {H : Heap} {k : Nat} (h : k < H.length) (l : Heap) : (H ++ l).getD k ⟨[], false, false⟩ = H.getD k ⟨[], false, false⟩ := by
  rw [List.getD_eq_getElem?_getD, List.getD_eq_getElem?_getD, List.getElem?_append_left h]
theorem x_hget {H : Heap} {x d : AObj} : (H ++ [x]).getD H.length d = x := by simp [List.getD_eq_getElem?_getD]
theorem x_hset {H : Heap} {x y : AObj} : (H ++ [x]).set H.length y = H ++ [y] := by simp [List.set_append]
attribute [go_sem] x_hget x_hset
theorem ASl.ext {sz : Nat} {a : AV} {H : Heap} {cs : List AV} {n : Nat} (h : ASl sz a H cs n) (x : AObj) : ASl sz a (H ++ [x]) cs n := by
  rcases h with h | ⟨k, h1, h2, h3, h4⟩
  · exact .inl h
  · exact .inr ⟨k, h1, by rw [getD_hp h3]; exact h2, by simp; omega, h4⟩
theorem ASl.nil (sz : Nat) (H : Heap) : ASl sz (.v (.slice none 0 0)) H [] 0 := .inl ⟨rfl, rfl, rfl⟩
theorem ASl.last {sz : Nat} {H : Heap} {cs : List AV} {k n : Nat} (h : H.getD k ⟨[], false, false⟩ = ⟨cs, true, true⟩) (hl : H.length = k + 1) (hn : cs.length = n * sz) : ASl sz (.own sz k 0 n) H cs n := .inr ⟨k, rfl, h, by omega, hn⟩
theorem x_zerA1 {a b c d e f : Value} : zerosA [a, b, c, d, e, f] 1 = [.v a, .v b, .v c, .v d, .v e, .v f] := rfl
theorem x_zerA2 {a b c d e f : Value} : zerosA [a, b, c, d, e, f] 2 = [.v a, .v b, .v c, .v d, .v e, .v f, .v a, .v b, .v c, .v d, .v e, .v f] := by simp [zerosA, List.range_succ]
attribute [go_sem] x_zerA1 x_zerA2
/-! pieces of code one by one -/
section
variable {C : Ctx} {N : Nat} {jump : Code → APost → AState → Prop} {Q : APost} {σ : AState}
/-- no jump out of a scope -/
def SQ (Q : APost) : APost
  | .goto _, _ => False
  | e, σ => Q e σ
theorem x_SQ1 : SQ Q .normal σ = Q .normal σ := rfl
theorem x_SQ2 : SQ Q .ret σ = Q .ret σ := rfl
theorem x_SQ3 {i : Nat} : SQ Q (.exit i) σ = Q (.exit i) σ := rfl
attribute [go_sem] x_SQ1 x_SQ2 x_SQ3
end

end Go.Ab

set_option linter.unusedVariables false
set_option maxRecDepth 20000
set_option linter.unusedSimpArgs false
namespace Go.Ab
open Go.Proofs

open Cx (zero one)
attribute [-go_sem] appF newsF
variable {a b : AV} {x y : Dyadic} {z w : Cx} {B C n m : Nat} {cs ds : List AV} {f g : Po}
end Go.Ab

/-! rows of points as they come in -/
set_option linter.unusedVariables false
set_option maxRecDepth 20000
set_option linter.unusedSimpArgs false
set_option linter.unusedSectionVars false
namespace Go.Ab
open Cx (zero one)

/-- a point as it comes in -/
structure Raw where
  n : Bool
  l : List Nat
  e : Int
  m : Bool
  k : List Nat
  f : Int
namespace Raw
def ok (r : Raw) : Prop := Lm r.l ∧ Lm r.k ∧ (-9223372036854775808 ≤ r.e ∧ r.e ≤ 9223372036854775807) ∧ (-9223372036854775808 ≤ r.f ∧ r.f ≤ 9223372036854775807)
def cells (r : Raw) : List AV := [Bo r.n, U32 r.l, I64 r.e, Bo r.m, U32 r.k, I64 r.f]
def z (r : Raw) : Cx := ⟨dv (iv r.n r.l) r.e, dv (iv r.m r.k) r.f⟩
/-- small enough -/
def sm (r : Raw) : Prop := ((r.l.length ≤ 3 ∧ -200 ≤ r.e ∧ r.e ≤ 200) ∧ (r.k.length ≤ 3 ∧ -200 ≤ r.f ∧ r.f ≤ 200))
instance (r : Raw) : Decidable r.sm := by unfold sm; exact inferInstance
end Raw
end Go.Ab

set_option linter.unusedVariables false
set_option maxRecDepth 20000
set_option linter.unusedSimpArgs false
set_option linter.unusedSectionVars false
namespace Go.Ab
open Go.Proofs
open Cx (zero one)

/-! own rows that are handed over to be read -/
/-- An own row, or none yet, to be read. -/
def RSl (sz : Nat) (a : AV) (H : Heap) (cs : List AV) (n : Nat) : Prop :=
  (a = .v (.slice none 0 0) ∧ n = 0 ∧ cs = []) ∨ ∃ k wr, a = .own sz k 0 n ∧ H.getD k ⟨[], false, false⟩ = ⟨cs, true, wr⟩ ∧ k < H.length ∧ cs.length = n * sz
theorem RSl.ext {sz : Nat} {a : AV} {H : Heap} {cs : List AV} {n : Nat} (h : RSl sz a H cs n) (x : AObj) : RSl sz a (H ++ [x]) cs n := by
  rcases h with h | ⟨k, wr, h1, h2, h3, h4⟩
  · exact .inl h
  · exact .inr ⟨k, wr, h1, by rw [getD_hp h3]; exact h2, by simp; omega, h4⟩
theorem getD_set {H : Heap} {j k : Nat} {x : AObj} (h : k < H.length) : (H.set j x).getD k ⟨[], false, false⟩ = if j = k then x else H.getD k ⟨[], false, false⟩ := by
  rw [List.getD_eq_getElem?_getD, List.getD_eq_getElem?_getD]
  by_cases e : j = k
  · subst e; rw [if_pos rfl, List.getElem?_set_self h]; rfl
  · rw [if_neg e, List.getElem?_set_ne e]
theorem RSl.fz {sz : Nat} {a : AV} {H : Heap} {cs : List AV} {n : Nat} (h : RSl sz a H cs n) (j : Nat) : RSl sz a (fz H j) cs n := by
  rcases h with h | ⟨k, wr, h1, h2, h3, h4⟩
  · exact .inl h
  · refine .inr ?_
    unfold Go.Ab.fz
    by_cases e : j = k
    · subst e
      refine ⟨j, false, h1, ?_, by simpa using h3, h4⟩
      rw [getD_set h3, if_pos rfl]
      show AObj.mk (H.getD j ⟨[], false, false⟩).cells (H.getD j ⟨[], false, false⟩).rd false = _
      rw [h2]
    · exact ⟨k, wr, h1, by rw [getD_set h3, if_neg e]; exact h2, by simpa using h3, h4⟩
/-- plain data: nothing of the call's own in it -/
structure PlD (d : AV) : Prop where
  isd : IsD d
  snp : ∀ H, snap H d = d
  own : ∀ H, ownOK H false d
  fzn : ∀ H l, fzArgs H (d :: l) = fzArgs H l
theorem pld_int {k : IntKind} {x : Int} : PlD (.v (.int k x)) := ⟨.v _, fun _ => rfl, fun _ => trivial, fun _ _ => rfl⟩
theorem fzCells_pl {H : Heap} {cs : List AV} (h : ∀ c ∈ cs, ∀ sz k o n, c ≠ .own sz k o n) : fzCells H cs = H := by
  induction cs with
  | nil => rfl
  | cons c r ih =>
    have h0 := h c (List.mem_cons_self ..)
    have ih := ih (fun d hd => h d (List.mem_cons_of_mem _ hd))
    cases c with
    | own sz k o n => exact absurd rfl (h0 sz k o n)
    | _ => exact ih
theorem isD_noown {c : AV} (h : IsD c) : ∀ sz k o n, c ≠ .own sz k o n := fun sz k o n e => by subst e; cases h
/-- leaves that are data -/
def LfD (c : AV) : Prop := IsD c ∧ ∀ H, snap1 H c = c
theorem pld_agg {cs : List AV} (h : ∀ c ∈ cs, LfD c) : PlD (.agg cs) := by
  refine ⟨isD_agg (fun c hc => (h c hc).1), fun H => ?_, fun H c hc => ?_, fun H l => ?_⟩
  · show AV.agg (cs.map (snap1 H)) = _
    rw [List.map_congr_left (g := id) (fun c hc => (h c hc).2 H), List.map_id]
  · have := isD_noown (h c hc).1
    cases c with
    | own sz k o n => exact absurd rfl (this sz k o n)
    | _ => trivial
  · show fzArgs (fzCells H cs) l = _
    rw [fzCells_pl (fun c hc => isD_noown (h c hc).1)]
theorem lf_v {x : Value} (h : x ≠ .slice none 0 0) : LfD (.v x) := ⟨.v _, fun H => by
  unfold snap1
  split
  · rename_i e; exact absurd (AV.v.inj e) h
  · rename_i e; cases e
  · rfl⟩
theorem lf_int {k : IntKind} {x : Int} : LfD (.v (.int k x)) := lf_v (fun e => by cases e)
theorem lf_bool {b : Bool} : LfD (.v (.bool b)) := lf_v (fun e => by cases e)
theorem lf_u32 (l : List Nat) : LfD (U32 l) := ⟨isD_u32 _ _, fun _ => rfl⟩
theorem pld_CI (z : Cx) : PlD (CI z) := pld_agg (fun c hc => by
  simp only [List.mem_cons, List.not_mem_nil, or_false] at hc
  rcases hc with rfl | rfl | rfl | rfl | rfl | rfl <;> first | exact lf_bool | exact lf_int | exact lf_u32 _)
theorem pld_RC {a : AV} {z : Cx} {B : Nat} (h : RC a z B) : PlD a := by
  obtain ⟨n, l, e, m, k, f, rfl, _⟩ := h
  refine pld_agg (fun c hc => ?_)
  simp only [List.mem_cons, List.not_mem_nil, or_false] at hc
  rcases hc with rfl | rfl | rfl | rfl | rfl | rfl <;> first | exact lf_bool | exact lf_int | exact lf_u32 _
/-- what is handed over reads as this -/
inductive AR (H : Heap) : AV → AV → Prop
  | pl {d : AV} (h : PlD d) : AR H d d
  | row {sz n : Nat} {a : AV} {cs ds : List AV} (h : RSl sz a H cs n) (e : cs.map snap0 = ds) (hd : ∀ c ∈ ds, IsD c) : AR H a (.sl n ds)
  | none : AR H (.v (.slice none 0 0)) (.sl 0 [])
theorem AR.fz {H : Heap} {a d : AV} (h : AR H a d) (j : Nat) : AR (fz H j) a d := by
  cases h with
  | pl h => exact .pl h
  | row h e hd => exact .row (h.fz j) e hd
  | none => exact .none
inductive ARs (H : Heap) : List AV → List AV → Prop
  | nil : ARs H [] []
  | cons {a d : AV} {l m : List AV} (h : AR H a d) (t : ARs H l m) : ARs H (a :: l) (d :: m)
theorem ARs.fz {H : Heap} {l m : List AV} (h : ARs H l m) (j : Nat) : ARs (fz H j) l m := by
  induction h with
  | nil => exact .nil
  | cons h t ih => exact .cons (h.fz j) ih
/-- Rows to be read stay so. -/
def Keeps (H H' : Heap) : Prop := H'.length = H.length ∧ ∀ sz a cs n, RSl sz a H cs n → RSl sz a H' cs n
theorem Keeps.refl (H : Heap) : Keeps H H := ⟨rfl, fun _ _ _ _ h => h⟩
theorem Keeps.trans {H H' H'' : Heap} (h : Keeps H H') (g : Keeps H' H'') : Keeps H H'' := ⟨g.1.trans h.1, fun _ _ _ _ q => g.2 _ _ _ _ (h.2 _ _ _ _ q)⟩
/-- A call with plain data alone, in whatever order. -/
theorem callK_pl {C : Ctx} {d : Bool} {f : FuncId} {args : List AV} {H : Heap} {r : AV} {K : AV → Heap → Prop} (hc : callable C.P f = true) (h : Sat C false f args r) (ha : ∀ a ∈ args, PlD a) (hK : K r H) : callK C d f args H K := by
  have e : fzArgs H args = H := by
    clear h
    induction args with
    | nil => rfl
    | cons a l ih => rw [(ha a (List.mem_cons_self ..)).fzn]; exact ih (fun b hb => ha b (List.mem_cons_of_mem _ hb))
  have e2 : fzH d false H args = H := by cases d; exact e; rfl
  refine callK_of false hc h e2 ?_ (fun a q => (ha a q).own _) (fun a q => (ha a q).isd) hK
  rw [List.map_congr_left (g := id) (fun a q => (ha a q).snp H), List.map_id]
theorem pl2 {a b : AV} (h : PlD a) (g : PlD b) : ∀ c ∈ [a, b], PlD c := fun c hc => by
  simp only [List.mem_cons, List.not_mem_nil, or_false] at hc
  rcases hc with rfl | rfl <;> assumption
end Go.Ab

set_option linter.unusedVariables false
set_option maxRecDepth 20000
set_option linter.unusedSimpArgs false
set_option linter.unusedSectionVars false
namespace Go.Ab
open Go.Proofs
open Cx (zero one)
attribute [-go_sem] appF newsF
variable {a b : AV} {z w : Cx} {B C n m : Nat} {cs ds : List AV} {f g : Po}

theorem x_lenCIc {z : Cx} : (CIc z).length = 6 := rfl
theorem x_leafCIc {z : Cx} : (CIc z).all leafA = true := rfl
attribute [go_sem] CI_c x_lenCIc x_leafCIc
theorem CI_0 : CI zero = .agg [Bo false, .sl 0 [], I64 0, Bo false, .sl 0 [], I64 0] := by
  show AV.agg [Bo (decide ((0 : Int) < 0)), U32 (lim (0 : Int).natAbs), I64 0, Bo (decide ((0 : Int) < 0)), U32 (lim (0 : Int).natAbs), I64 0] = _
  rw [show (0 : Int).natAbs = 0 from rfl, lim_zero]; rfl
theorem Sp.psub {f g : Po} {n m : Nat} (h : Sp n f) (h' : Sp m g) : Sp (max n m) (psub f g) := fun k hk => by
  show f k - g k = zero
  rw [h k (by omega), h' k (by omega)]; rfl
theorem Sp.padd {f g : Po} {n m : Nat} (h : Sp n f) (h' : Sp m g) : Sp (max n m) (padd f g) := fun k hk => by
  show f k + g k = zero
  rw [h k (by omega), h' k (by omega)]; rfl
end Go.Ab

set_option linter.unusedVariables false
set_option maxRecDepth 20000
set_option linter.unusedSimpArgs false
set_option linter.unusedSectionVars false
namespace Go.Ab
open Go.Proofs
open Cx (zero one)
attribute [-go_sem] appF newsF
variable {a b : AV} {z w : Cx} {B C n m : Nat} {cs ds : List AV} {f g : Po}
theorem sameint_d {x y : Int} (hx : Lz x < 1099511627776) (hy : Lz y < 1099511627776) : Sat CT false 40 [WI x, WI y] (Bo (decide (x = y))) := by
  by_cases e : x = y
  · rw [decide_eq_true e]; exact same_w e hx
  rw [decide_eq_false e]
  refine sat_of annulusref1_SameInt.ok (by simp) ?_
  have DD := annulusref1_SameInt.dr
  simp only [drP, drPx, drPt, drR, drS, drT, bodyOf, Tryd.f40, Nat.reduceEqDiff, reduceIte, true_and, and_true] at DD
  by_cases hs : (decide (x < 0) == decide (y < 0)) = true
  · have q := same_sat (lim x.natAbs) (lim y.natAbs) hx hy
    rw [decide_eq_false (fun h => e (by
      have h1 : x.natAbs = y.natAbs := by rw [← nv_lim x.natAbs, h, nv_lim]
      have h2 : (x < 0) ↔ (y < 0) := by simpa using hs
      omega))] at q
    simp -implicitDefEqProofs only [go_sem, simprocAttr, -Int.reducePow, Tryd.f40, DD, x_app, x_ga0, x_gas, x_gan, Int.cast_ofNat_Int, eq_self, Int.zero_lt_one, Bool.not_false, Bool.not_true, beq_self_eq_true, WI, IA, DI, DA, CI, hs]
    refine callK_of false annulusref1_Same.call (q) rfl rfl (by simp [ownOK, own1, hd, fzH, fzArgs, fzCells, fz, IA, WI, DI, DA, CI, U32]) (by simp [U32, isD_u32, isD_v, isD_nil, isD_agg, IA, WI, DI, DA, CI]) ?_
    simp -implicitDefEqProofs only [go_sem, simprocAttr, -Int.reducePow, DD, x_app, x_ga0, x_gas, x_gan, Int.cast_ofNat_Int, eq_self, Int.zero_lt_one, Bool.not_false, Bool.not_true, beq_self_eq_true, WI, IA, DI, DA, CI, hs]
  · have hs : (decide (x < 0) == decide (y < 0)) = false := by simpa using hs
    simp -implicitDefEqProofs only [go_sem, simprocAttr, -Int.reducePow, Tryd.f40, DD, x_app, x_ga0, x_gas, x_gan, Int.cast_ofNat_Int, eq_self, Int.zero_lt_one, Bool.not_false, Bool.not_true, beq_self_eq_true, WI, IA, DI, DA, CI, hs]
theorem dy_eq {x y : Dyadic} (h : dexp x = dexp y) (g : dnum x = dnum y) : x = y := by rw [← dv_of x, ← dv_of y, h, g]
theorem requal4d {x y : Dyadic} (hx : DB x B) (hy : DB y C) (hB : B ≤ 20000) (hC : C ≤ 20000) : Sat CT false 13 [DI x, DI y] (Bo (decide (x = y))) := by
  refine sat_of annulusref4_Equal.ok (by simp) ?_
  have DD := annulusref4_Equal.dr
  simp only [drP, drPx, drPt, drR, drS, drT, bodyOf, Tryd.f13, Nat.reduceEqDiff, reduceIte, true_and, and_true] at DD
  by_cases he : dexp x = dexp y
  · have hx1 := hx.lim
    have hy1 := hy.lim
    have q := sameint_d (x := dnum x) (y := dnum y) (by show (lim (dnum x).natAbs).length < _; omega) (by show (lim (dnum y).natAbs).length < _; omega)
    have e : decide (x = y) = decide (dnum x = dnum y) := decide_eq_decide.2 ⟨fun h => by rw [h], fun h => dy_eq he h⟩
    rw [e]
    simp -implicitDefEqProofs only [go_sem, simprocAttr, -Int.reducePow, Tryd.f13, DD, x_app, x_ga0, x_gas, x_gan, Int.cast_ofNat_Int, eq_self, Int.zero_lt_one, Bool.not_false, Bool.not_true, beq_self_eq_true, WI, IA, DI, DA, CI, he]
    refine callK_of false annulusref1_SameInt.call (q) rfl rfl (by simp [ownOK, own1, hd, fzH, fzArgs, fzCells, fz, IA, WI, DI, DA, CI, U32]) (by simp [U32, isD_u32, isD_v, isD_nil, isD_agg, IA, WI, DI, DA, CI]) ?_
    simp -implicitDefEqProofs only [go_sem, simprocAttr, -Int.reducePow, DD, x_app, x_ga0, x_gas, x_gan, Int.cast_ofNat_Int, eq_self, Int.zero_lt_one, Bool.not_false, Bool.not_true, beq_self_eq_true, WI, IA, DI, DA, CI, he]
  · rw [decide_eq_false (fun h => he (by rw [h]))]
    simp -implicitDefEqProofs only [go_sem, simprocAttr, -Int.reducePow, Tryd.f13, DD, x_app, x_ga0, x_gas, x_gan, Int.cast_ofNat_Int, eq_self, Int.zero_lt_one, Bool.not_false, Bool.not_true, beq_self_eq_true, WI, IA, DI, DA, CI, he]
end Go.Ab
