/- Contracts of this seat's functions (of each call: what it answers), walked over the abstract machine, and the laws of numbers that they want. Conditions: those that each theorem states. -/
import Derived.Test.YtdkdpebfnddfpaaGreatDoorD7
set_option linter.unusedVariables false
set_option maxRecDepth 20000
set_option linter.unusedSimpArgs false
set_option linter.unusedSectionVars false
namespace Go.Ab
open Go.Proofs
open Cx (zero one)

/-! own rows that are handed over to be read -/
/-- An own row, or none yet, to be read. -/
def RSl (sz : Nat) (a : AV) (H : Heap) (cs : List AV) (n : Nat) : Prop :=
  (a = .v (.slice none 0 0) ∧ n = 0 ∧ cs = []) ∨ ∃ k wr, a = .own sz k 0 n ∧ H.getD k ⟨[], false, false⟩ = ⟨cs, true, wr⟩ ∧ k < H.length ∧ cs.length = n * sz
theorem ASl.rsl {sz : Nat} {a : AV} {H : Heap} {cs : List AV} {n : Nat} (h : ASl sz a H cs n) : RSl sz a H cs n := by
  rcases h with h | ⟨k, h1, h2, h3, h4⟩
  · exact .inl h
  · exact .inr ⟨k, true, h1, h2, h3, h4⟩
theorem RSl.ext {sz : Nat} {a : AV} {H : Heap} {cs : List AV} {n : Nat} (h : RSl sz a H cs n) (x : AObj) : RSl sz a (H ++ [x]) cs n := by
  rcases h with h | ⟨k, wr, h1, h2, h3, h4⟩
  · exact .inl h
  · exact .inr ⟨k, wr, h1, by rw [getD_hp h3]; exact h2, by simp; omega, h4⟩
theorem getD_set {H : Heap} {j k : Nat} {x : AObj} (h : k < H.length) : (H.set j x).getD k ⟨[], false, false⟩ = if j = k then x else H.getD k ⟨[], false, false⟩ := by
  rw [List.getD_eq_getElem?_getD, List.getD_eq_getElem?_getD]
  by_cases e : j = k
  · subst e; rw [if_pos rfl, List.getElem?_set_self h]; rfl
  · rw [if_neg e, List.getElem?_set_ne e]
theorem RSl.fz {sz : Nat} {a : AV} {H : Heap} {cs : List AV} {n : Nat} (h : RSl sz a H cs n) (j : Nat) : RSl sz a (fz H j) cs n := by
  rcases h with h | ⟨k, wr, h1, h2, h3, h4⟩
  · exact .inl h
  · refine .inr ?_
    unfold Go.Ab.fz
    by_cases e : j = k
    · subst e
      refine ⟨j, false, h1, ?_, by simpa using h3, h4⟩
      rw [getD_set h3, if_pos rfl]
      show AObj.mk (H.getD j ⟨[], false, false⟩).cells (H.getD j ⟨[], false, false⟩).rd false = _
      rw [h2]
    · exact ⟨k, wr, h1, by rw [getD_set h3, if_neg e]; exact h2, by simpa using h3, h4⟩
theorem len_fz (H : Heap) (j : Nat) : (fz H j).length = H.length := by unfold fz; simp
/-- plain data: nothing of the call's own in it -/
structure PlD (d : AV) : Prop where
  isd : IsD d
  snp : ∀ H, snap H d = d
  own : ∀ H, ownOK H false d
  fzn : ∀ H l, fzArgs H (d :: l) = fzArgs H l
theorem pld_sl {n : Nat} {cs : List AV} (h : ∀ c ∈ cs, IsD c) : PlD (.sl n cs) := ⟨isD_sl h, fun _ => rfl, fun _ => trivial, fun _ _ => rfl⟩
theorem pld_int {k : IntKind} {x : Int} : PlD (.v (.int k x)) := ⟨.v _, fun _ => rfl, fun _ => trivial, fun _ _ => rfl⟩
theorem pld_bool {b : Bool} : PlD (.v (.bool b)) := ⟨.v _, fun _ => rfl, fun _ => trivial, fun _ _ => rfl⟩
theorem fzCells_pl {H : Heap} {cs : List AV} (h : ∀ c ∈ cs, ∀ sz k o n, c ≠ .own sz k o n) : fzCells H cs = H := by
  induction cs with
  | nil => rfl
  | cons c r ih =>
    have h0 := h c (List.mem_cons_self ..)
    have ih := ih (fun d hd => h d (List.mem_cons_of_mem _ hd))
    cases c with
    | own sz k o n => exact absurd rfl (h0 sz k o n)
    | _ => exact ih
theorem isD_noown {c : AV} (h : IsD c) : ∀ sz k o n, c ≠ .own sz k o n := fun sz k o n e => by subst e; cases h
/-- leaves that are data -/
def LfD (c : AV) : Prop := IsD c ∧ ∀ H, snap1 H c = c
theorem pld_agg {cs : List AV} (h : ∀ c ∈ cs, LfD c) : PlD (.agg cs) := by
  refine ⟨isD_agg (fun c hc => (h c hc).1), fun H => ?_, fun H c hc => ?_, fun H l => ?_⟩
  · show AV.agg (cs.map (snap1 H)) = _
    rw [List.map_congr_left (g := id) (fun c hc => (h c hc).2 H), List.map_id]
  · have := isD_noown (h c hc).1
    cases c with
    | own sz k o n => exact absurd rfl (this sz k o n)
    | _ => trivial
  · show fzArgs (fzCells H cs) l = _
    rw [fzCells_pl (fun c hc => isD_noown (h c hc).1)]
theorem lf_v {x : Value} (h : x ≠ .slice none 0 0) : LfD (.v x) := ⟨.v _, fun H => by
  unfold snap1
  split
  · rename_i e; exact absurd (AV.v.inj e) h
  · rename_i e; cases e
  · rfl⟩
theorem lf_int {k : IntKind} {x : Int} : LfD (.v (.int k x)) := lf_v (fun e => by cases e)
theorem lf_bool {b : Bool} : LfD (.v (.bool b)) := lf_v (fun e => by cases e)
theorem lf_u32 (l : List Nat) : LfD (U32 l) := ⟨isD_u32 _ _, fun _ => rfl⟩
theorem pld_CI (z : Cx) : PlD (CI z) := pld_agg (fun c hc => by
  simp only [List.mem_cons, List.not_mem_nil, or_false] at hc
  rcases hc with rfl | rfl | rfl | rfl | rfl | rfl <;> first | exact lf_bool | exact lf_int | exact lf_u32 _)
theorem pld_RC {a : AV} {z : Cx} {B : Nat} (h : RC a z B) : PlD a := by
  obtain ⟨n, l, e, m, k, f, rfl, _⟩ := h
  refine pld_agg (fun c hc => ?_)
  simp only [List.mem_cons, List.not_mem_nil, or_false] at hc
  rcases hc with rfl | rfl | rfl | rfl | rfl | rfl <;> first | exact lf_bool | exact lf_int | exact lf_u32 _
theorem pld_PA (n : Nat) (f : Po) : PlD (PA n f) := pld_sl (isD_pcl n f)
theorem lf_raw {r : Raw} : ∀ c ∈ r.cells, LfD c := fun c hc => by
  simp only [Raw.cells, List.mem_cons, List.not_mem_nil, or_false] at hc
  rcases hc with rfl | rfl | rfl | rfl | rfl | rfl <;> first | exact lf_bool | exact lf_int | exact lf_u32 _
theorem isD_qcl (n : Nat) (F : Nat → Raw) : ∀ c ∈ qcl n F, IsD c := by
  induction n with
  | zero => intro c hc; rw [qcl0] at hc; cases hc
  | succ n ih =>
    intro c hc
    rw [qclS, List.mem_append] at hc
    rcases hc with hc | hc
    · exact ih c hc
    · exact (lf_raw c hc).1
theorem pld_q (n : Nat) (F : Nat → Raw) : PlD (.sl n (qcl n F)) := pld_sl (isD_qcl n F)
/-- what is handed over reads as this -/
inductive AR (H : Heap) : AV → AV → Prop
  | pl {d : AV} (h : PlD d) : AR H d d
  | row {sz n : Nat} {a : AV} {cs ds : List AV} (h : RSl sz a H cs n) (e : cs.map snap0 = ds) (hd : ∀ c ∈ ds, IsD c) : AR H a (.sl n ds)
  | none : AR H (.v (.slice none 0 0)) (.sl 0 [])
theorem AR.fz {H : Heap} {a d : AV} (h : AR H a d) (j : Nat) : AR (fz H j) a d := by
  cases h with
  | pl h => exact .pl h
  | row h e hd => exact .row (h.fz j) e hd
  | none => exact .none
inductive ARs (H : Heap) : List AV → List AV → Prop
  | nil : ARs H [] []
  | cons {a d : AV} {l m : List AV} (h : AR H a d) (t : ARs H l m) : ARs H (a :: l) (d :: m)
theorem ARs.fz {H : Heap} {l m : List AV} (h : ARs H l m) (j : Nat) : ARs (fz H j) l m := by
  induction h with
  | nil => exact .nil
  | cons h t ih => exact .cons (h.fz j) ih
/-- Rows to be read stay so. -/
def Keeps (H H' : Heap) : Prop := H'.length = H.length ∧ ∀ sz a cs n, RSl sz a H cs n → RSl sz a H' cs n
theorem Keeps.refl (H : Heap) : Keeps H H := ⟨rfl, fun _ _ _ _ h => h⟩
theorem Keeps.trans {H H' H'' : Heap} (h : Keeps H H') (g : Keeps H' H'') : Keeps H H'' := ⟨g.1.trans h.1, fun _ _ _ _ q => g.2 _ _ _ _ (h.2 _ _ _ _ q)⟩
theorem keeps_fz (H : Heap) (j : Nat) : Keeps H (fz H j) := ⟨len_fz H j, fun _ _ _ _ h => h.fz j⟩
def wrF (H : Heap) (k : Nat) : Prop := (H.getD k ⟨[], false, false⟩).wr = false
theorem wrF_fz {H : Heap} {k : Nat} (h : wrF H k) (hk : k < H.length) (j : Nat) : wrF (fz H j) k := by
  unfold wrF fz at *
  rw [getD_set hk]; split
  · rfl
  · exact h
theorem args_ok {H : Heap} {l m : List AV} (h : ARs H l m) : Keeps H (fzArgs H l) ∧ (∀ k, k < H.length → wrF H k → wrF (fzArgs H l) k) ∧ l.map (snap (fzArgs H l)) = m ∧ (∀ a ∈ l, ownOK (fzArgs H l) false a) ∧ ∀ d ∈ m, IsD d := by
  induction l generalizing m H with
  | nil => cases h; exact ⟨.refl _, fun _ _ q => q, rfl, fun a q => (by cases q), fun a q => (by cases q)⟩
  | cons a l ih =>
    cases h with
    | cons h t =>
      cases h with
      | pl hp =>
        rw [hp.fzn]
        obtain ⟨q1, q2, q3, q4, q5⟩ := ih t
        refine ⟨q1, q2, by rw [List.map_cons, q3, hp.snp], fun b hb => ?_, fun b hb => ?_⟩
        · rcases List.mem_cons.1 hb with rfl | hb
          · exact hp.own _
          · exact q4 b hb
        · rcases List.mem_cons.1 hb with rfl | hb
          · exact hp.isd
          · exact q5 b hb
      | none =>
        rw [show fzArgs H (AV.v (Value.slice none 0 0) :: l) = fzArgs H l from rfl]
        obtain ⟨q1, q2, q3, q4, q5⟩ := ih t
        refine ⟨q1, q2, by rw [List.map_cons, q3]; rfl, fun b hb => ?_, fun b hb => ?_⟩
        · rcases List.mem_cons.1 hb with rfl | hb
          · trivial
          · exact q4 b hb
        · rcases List.mem_cons.1 hb with rfl | hb
          · exact isD_nil 0
          · exact q5 b hb
      | row hr e hdd =>
        rename_i sz n cs ds
        rcases hr with ⟨rfl, rfl, rfl⟩ | ⟨k, wr, rfl, h2, h3, h4⟩
        · rw [show fzArgs H (AV.v (Value.slice none 0 0) :: l) = fzArgs H l from rfl]
          obtain ⟨q1, q2, q3, q4, q5⟩ := ih t
          subst e
          refine ⟨q1, q2, by rw [List.map_cons, q3]; rfl, fun b hb => ?_, fun b hb => ?_⟩
          · rcases List.mem_cons.1 hb with rfl | hb
            · trivial
            · exact q4 b hb
          · rcases List.mem_cons.1 hb with rfl | hb
            · exact isD_nil 0
            · exact q5 b hb
        · rw [show fzArgs H (AV.own sz k 0 n :: l) = fzArgs (Go.Ab.fz H k) l from rfl]
          obtain ⟨q1, q2, q3, q4, q5⟩ := ih (t.fz k)
          have hR : RSl sz (.own sz k 0 n) H cs n := .inr ⟨k, wr, rfl, h2, h3, h4⟩
          have hR2 := q1.2 _ _ _ _ (hR.fz k)
          have hw : wrF (Go.Ab.fz H k) k := by
            unfold wrF Go.Ab.fz; rw [getD_set h3, if_pos rfl]
          have hw2 := q2 k (by rw [len_fz]; exact h3) hw
          rcases hR2 with ⟨e0, _⟩ | ⟨k', wr', e1, g2, g3, g4⟩
          · cases e0
          · cases e1
            refine ⟨(keeps_fz H k).trans q1, fun j hj hj2 => q2 j (by rw [len_fz]; exact hj) (wrF_fz hj2 hj k), ?_, fun b hb => ?_, fun b hb => ?_⟩
            · rw [List.map_cons, q3]
              congr 1
              show AV.sl n ((((fzArgs (Go.Ab.fz H k) l).getD k ⟨[], false, false⟩).cells.drop 0 |>.take (n * sz)).map snap0) = _
              rw [g2, List.drop_zero, ← g4, List.take_length, e]
            · rcases List.mem_cons.1 hb with rfl | hb
              · show ((fzArgs (Go.Ab.fz H k) l).getD k ⟨[], false, false⟩).rd = true ∧ (false = true ∨ ((fzArgs (Go.Ab.fz H k) l).getD k ⟨[], false, false⟩).wr = false) ∧ 0 + n * sz ≤ ((fzArgs (Go.Ab.fz H k) l).getD k ⟨[], false, false⟩).cells.length
                refine ⟨by rw [g2], .inr hw2, by rw [g2]; show 0 + n * sz ≤ cs.length; omega⟩
              · exact q4 b hb
            · rcases List.mem_cons.1 hb with rfl | hb
              · exact isD_sl hdd
              · exact q5 b hb
/-- A call with data and with rows that are read. -/
theorem callK_ar {C : Ctx} {d : Bool} {f : FuncId} {args ds : List AV} {H : Heap} {r : AV} {K : AV → Heap → Prop} (hc : callable C.P f = true) (h : Sat C false f ds r) (ha : ARs H args ds) (hd0 : d = false) (hK : ∀ H', Keeps H H' → K r H') : callK C d f args H K := by
  subst hd0
  obtain ⟨q1, _, q3, q4, q5⟩ := args_ok ha
  exact callK_of false (H' := fzArgs H args) hc h rfl q3 q4 q5 (hK _ q1)
/-- A call with plain data alone, in whatever order. -/
theorem callK_pl {C : Ctx} {d : Bool} {f : FuncId} {args : List AV} {H : Heap} {r : AV} {K : AV → Heap → Prop} (hc : callable C.P f = true) (h : Sat C false f args r) (ha : ∀ a ∈ args, PlD a) (hK : K r H) : callK C d f args H K := by
  have e : fzArgs H args = H := by
    clear h
    induction args with
    | nil => rfl
    | cons a l ih => rw [(ha a (List.mem_cons_self ..)).fzn]; exact ih (fun b hb => ha b (List.mem_cons_of_mem _ hb))
  have e2 : fzH d false H args = H := by cases d; exact e; rfl
  refine callK_of false hc h e2 ?_ (fun a q => (ha a q).own _) (fun a q => (ha a q).isd) hK
  rw [List.map_congr_left (g := id) (fun a q => (ha a q).snp H), List.map_id]
theorem pl1 {a : AV} (h : PlD a) : ∀ b ∈ [a], PlD b := fun b hb => by rw [List.mem_singleton] at hb; rw [hb]; exact h
theorem pl2 {a b : AV} (h : PlD a) (g : PlD b) : ∀ c ∈ [a, b], PlD c := fun c hc => by
  simp only [List.mem_cons, List.not_mem_nil, or_false] at hc
  rcases hc with rfl | rfl <;> assumption
theorem pl0 : ∀ b ∈ ([] : List AV), PlD b := fun b hb => by cases hb
end Go.Ab
