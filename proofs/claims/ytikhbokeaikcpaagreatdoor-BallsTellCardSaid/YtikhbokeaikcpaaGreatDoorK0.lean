/- Contracts of this seat's functions (of each call: what it answers), walked over the abstract machine, and the laws of numbers that they want. Conditions: those that each theorem states. -/
import Derived.Test.YtikhbokeaikcpaaGreatDoorM7
set_option linter.unusedVariables false
set_option maxRecDepth 20000
set_option linter.unusedSimpArgs false
set_option linter.unusedSectionVars false
namespace Go.Ab
open Go.Proofs
open Cx (zero one)
attribute [-go_sem] appF newsF
variable {a b : AV} {x y r s t : Dyadic} {z w c d e : Cx} {B C B' C' n m : Nat} {cs : List AV}
/-! rows of discs -/
theorem TI_c (c : Cx) (r : Dyadic) : TI c r = .agg (tcl c r) := rfl
def tls : Nat → (Nat → Cx) → (Nat → Dyadic) → List AV
  | 0, _, _ => []
  | n + 1, u, v => tls n u v ++ tcl (u n) (v n)
theorem tls0 (u : Nat → Cx) (v : Nat → Dyadic) : tls 0 u v = [] := by rw [tls]
theorem tlsS (n : Nat) (u : Nat → Cx) (v : Nat → Dyadic) : tls (n + 1) u v = tls n u v ++ tcl (u n) (v n) := by rw [tls]
theorem tls_len (n : Nat) (u : Nat → Cx) (v : Nat → Dyadic) : (tls n u v).length = n * 9 := by
  induction n with
  | zero => rw [tls0]; rfl
  | succ n ih => rw [tlsS, List.length_append, ih]; show n * 9 + 9 = _; omega
theorem tls_pre (n d : Nat) (u : Nat → Cx) (v : Nat → Dyadic) : ∃ l, tls (n + d) u v = tls n u v ++ l := by
  induction d with
  | zero => exact ⟨[], by simp⟩
  | succ d ih =>
    obtain ⟨l, hl⟩ := ih
    exact ⟨l ++ tcl (u (n + d)) (v (n + d)), by rw [← Nat.add_assoc, tlsS, hl, List.append_assoc]⟩
theorem tls_el {i : Nat} (u : Nat → Cx) (v : Nat → Dyadic) (h : i < n) : ((tls n u v).drop (i * 9)).take 9 = tcl (u i) (v i) := by
  obtain ⟨l, hl⟩ := tls_pre (i + 1) (n - (i + 1)) u v
  rw [show i + 1 + (n - (i + 1)) = n by omega] at hl
  rw [hl, tlsS, List.append_assoc, ← tls_len i u v, List.drop_left]; rfl
def TA (n : Nat) (u : Nat → Cx) (v : Nat → Dyadic) : AV := .sl n (tls n u v)
theorem isD_tcl (c : Cx) (r : Dyadic) : ∀ a ∈ tcl c r, IsD a := fun a ha => by
  simp only [tcl, List.mem_cons, List.not_mem_nil, or_false] at ha
  rcases ha with rfl | rfl | rfl | rfl | rfl | rfl | rfl | rfl | rfl <;> first | exact .v _ | exact isD_u32 _ _
theorem isD_tls (n : Nat) (u : Nat → Cx) (v : Nat → Dyadic) : ∀ a ∈ tls n u v, IsD a := by
  induction n with
  | zero => rw [tls0]; intro a ha; cases ha
  | succ n ih =>
    rw [tlsS]
    intro a ha
    rcases List.mem_append.1 ha with h | h
    · exact ih a h
    · exact isD_tcl _ _ a h
theorem snap0_tls (n : Nat) (u : Nat → Cx) (v : Nat → Dyadic) : (tls n u v).map snap0 = tls n u v := by
  induction n with
  | zero => rw [tls0]; rfl
  | succ n ih => rw [tlsS, List.map_append, ih]; rfl
theorem isD_TA (n : Nat) (u : Nat → Cx) (v : Nat → Dyadic) : IsD (TA n u v) := isD_sl (isD_tls n u v)
/-- discs that came in -/
def tql : Nat → (Nat → RawT) → List AV
  | 0, _ => []
  | n + 1, F => tql n F ++ (F n).cells
theorem tql0 (F : Nat → RawT) : tql 0 F = [] := by rw [tql]
theorem tqlS (n : Nat) (F : Nat → RawT) : tql (n + 1) F = tql n F ++ (F n).cells := by rw [tql]
theorem tql_len (n : Nat) (F : Nat → RawT) : (tql n F).length = n * 9 := by
  induction n with
  | zero => rw [tql0]; rfl
  | succ n ih => rw [tqlS, List.length_append, ih]; show n * 9 + 9 = _; omega
theorem tql_pre (n d : Nat) (F : Nat → RawT) : ∃ l, tql (n + d) F = tql n F ++ l := by
  induction d with
  | zero => exact ⟨[], by simp⟩
  | succ d ih =>
    obtain ⟨l, hl⟩ := ih
    exact ⟨l ++ (F (n + d)).cells, by rw [← Nat.add_assoc, tqlS, hl, List.append_assoc]⟩
theorem tql_el {i : Nat} (F : Nat → RawT) (h : i < n) : ((tql n F).drop (i * 9)).take 9 = (F i).cells := by
  obtain ⟨l, hl⟩ := tql_pre (i + 1) (n - (i + 1)) F
  rw [show i + 1 + (n - (i + 1)) = n by omega] at hl
  rw [hl, tqlS, List.append_assoc, ← tql_len i F, List.drop_left]; rfl
theorem isD_tql (n : Nat) (F : Nat → RawT) : ∀ a ∈ tql n F, IsD a := by
  induction n with
  | zero => rw [tql0]; intro a ha; cases ha
  | succ n ih =>
    rw [tqlS]
    intro a ha
    rcases List.mem_append.1 ha with h | h
    · exact ih a h
    · simp only [RawT.cells, List.mem_cons, List.not_mem_nil, or_false] at h
      rcases h with rfl | rfl | rfl | rfl | rfl | rfl | rfl | rfl | rfl <;> first | exact .v _ | exact isD_u32 _ _
theorem pld_tql (n : Nat) (F : Nat → RawT) : PlD (.sl n (tql n F)) := pld_sl (isD_tql n F)
/-- reads as n discs -/
structure RTs (cs : List AV) (n : Nat) (u : Nat → Cx) (v : Nat → Dyadic) (B B' : Nat) : Prop where
  len : cs.length = n * 9
  el : ∀ i, i < n → RT (.agg ((cs.drop (i * 9)).take 9)) (u i) (v i) B B'
variable {u u' : Nat → Cx} {v v' : Nat → Dyadic}
theorem RTs_T (hu : ∀ i, i < n → CB (u i) B) (hv : ∀ i, i < n → DB (v i) B') : RTs (tls n u v) n u v B B' := ⟨tls_len n u v, fun i hi => by rw [tls_el u v hi]; exact RT_T (hu i hi) (hv i hi)⟩
theorem RTs.cells (h : RTs cs n u v B B') {i : Nat} (hi : i < n) : ∃ s l e t k g o p q, (cs.drop (i * 9)).take 9 = [Bo s, U32 l, I64 e, Bo t, U32 k, I64 g, Bo o, U32 p, I64 q] ∧ RT (.agg [Bo s, U32 l, I64 e, Bo t, U32 k, I64 g, Bo o, U32 p, I64 q]) (u i) (v i) B B' := by
  obtain ⟨s, l, e, t, k, g, o, p, q, h0, h1⟩ := h.el i hi
  have h0 := AV.agg.inj h0
  exact ⟨s, l, e, t, k, g, o, p, q, h0, s, l, e, t, k, g, o, p, q, rfl, h1⟩
theorem RTs_q {F : Nat → RawT} (h : ∀ i, i < n → RT (.agg (F i).cells) (F i).c.z (F i).rd B B') : RTs (tql n F) n (fun i => (F i).c.z) (fun i => (F i).rd) B B' :=
  ⟨tql_len n F, fun i hi => by rw [tql_el F hi]; exact h i hi⟩
theorem TI_z : TI zero 0 = .agg [Bo false, .sl 0 [], I64 0, Bo false, .sl 0 [], I64 0, Bo false, .sl 0 [], I64 0] := by
  unfold TI
  rw [show zero.re = 0 from rfl, show zero.im = 0 from rfl, z0a, z0b, de0]
  rfl
end Go.Ab
