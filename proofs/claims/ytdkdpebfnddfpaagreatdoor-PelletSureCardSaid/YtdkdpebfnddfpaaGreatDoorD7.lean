/- Contracts of this seat's functions (of each call: what it answers), walked over the abstract machine, and the laws of numbers that they want. Conditions: those that each theorem states. -/
import Derived.Test.YtdkdpebfnddfpaaGreatDoorD6
/-! rows of points as they come in -/
set_option linter.unusedVariables false
set_option maxRecDepth 20000
set_option linter.unusedSimpArgs false
set_option linter.unusedSectionVars false
namespace Go.Ab
open Cx (zero one)

/-- a point as it comes in -/
structure Raw where
  n : Bool
  l : List Nat
  e : Int
  m : Bool
  k : List Nat
  f : Int
namespace Raw
def ok (r : Raw) : Prop := Lm r.l ∧ Lm r.k ∧ (-9223372036854775808 ≤ r.e ∧ r.e ≤ 9223372036854775807) ∧ (-9223372036854775808 ≤ r.f ∧ r.f ≤ 9223372036854775807)
def cells (r : Raw) : List AV := [Bo r.n, U32 r.l, I64 r.e, Bo r.m, U32 r.k, I64 r.f]
def z (r : Raw) : Cx := ⟨dv (iv r.n r.l) r.e, dv (iv r.m r.k) r.f⟩
/-- small enough -/
def sm (r : Raw) : Prop := ((r.l.length ≤ 3 ∧ -200 ≤ r.e ∧ r.e ≤ 200) ∧ (r.k.length ≤ 3 ∧ -200 ≤ r.f ∧ r.f ≤ 200))
instance (r : Raw) : Decidable r.sm := by unfold sm; exact inferInstance
end Raw
theorem rd_small {n : Bool} {l : List Nat} {e : Int} (hl : Lm l) (h : l.length ≤ 3 ∧ -200 ≤ e ∧ e ≤ 200) : RD (DA n l e) (dv (iv n l) e) 296 := by
  have h1 : nv l < 2 ^ 96 := by
    refine Nat.lt_of_lt_of_le (nv_lt hl) ?_
    rw [show (4294967296 : Nat) = 2 ^ 32 from rfl, ← Nat.pow_mul]
    exact Nat.pow_le_pow_right (by decide) (by omega)
  have h2 : ∀ k, 96 ≤ k → Lt2 (nv l) k := fun k hk => Nat.lt_of_lt_of_le h1 (Nat.pow_le_pow_right (by decide) hk)
  refine ⟨n, l, e, rfl, hl, rfl, h2 (2 * 296) (by decide), by omega, by omega, DB.raw (L := 96) (E := 200) (by rw [abs_iv]; exact h1) (by omega) (by omega)⟩
theorem Raw.rc {r : Raw} (h : r.ok) (hs : r.sm) : RC (.agg r.cells) r.z 296 := ⟨_, _, _, _, _, _, rfl, rd_small h.1 hs.1, rd_small h.2.1 hs.2⟩
/-- the cells of n of them -/
def qcl : Nat → (Nat → Raw) → List AV
  | 0, _ => []
  | n + 1, F => qcl n F ++ (F n).cells
theorem qcl0 (F : Nat → Raw) : qcl 0 F = [] := by rw [qcl]
theorem qclS (n : Nat) (F : Nat → Raw) : qcl (n + 1) F = qcl n F ++ (F n).cells := by rw [qcl]
theorem qcl_len (n : Nat) (F : Nat → Raw) : (qcl n F).length = n * 6 := by
  induction n with
  | zero => rw [qcl0]; rfl
  | succ n ih => rw [qclS, List.length_append, ih]; show n * 6 + 6 = _; omega
theorem qcl_pre (n d : Nat) (F : Nat → Raw) : ∃ l, qcl (n + d) F = qcl n F ++ l := by
  induction d with
  | zero => exact ⟨[], by simp⟩
  | succ d ih =>
    obtain ⟨l, hl⟩ := ih
    exact ⟨l ++ (F (n + d)).cells, by rw [← Nat.add_assoc, qclS, hl, List.append_assoc]⟩
theorem qcl_el {n i : Nat} (F : Nat → Raw) (h : i < n) : ((qcl n F).drop (i * 6)).take 6 = (F i).cells := by
  obtain ⟨l, hl⟩ := qcl_pre (i + 1) (n - (i + 1)) F
  rw [show i + 1 + (n - (i + 1)) = n by omega] at hl
  rw [hl, qclS, List.append_assoc, ← qcl_len i F, List.drop_left]; rfl
/-- the polynomial that is meant -/
def qpo (n : Nat) (F : Nat → Raw) : Po := fun i => if i < n then (F i).z else zero
theorem qpo_lt {n i : Nat} (F : Nat → Raw) (h : i < n) : qpo n F i = (F i).z := if_pos h
theorem Sp_qpo (n : Nat) (F : Nat → Raw) : Sp n (qpo n F) := fun k hk => if_neg (by omega)
theorem RP_q {n : Nat} {F : Nat → Raw} (h : ∀ i, i < n → (F i).ok) (hs : ∀ i, i < n → (F i).sm) (hn : n ≤ 1000000) : RP (qcl n F) n (qpo n F) 296 :=
  ⟨qcl_len n F, fun i hi => by rw [qcl_el F hi, qpo_lt F hi]; exact (F i).rc (h i hi) (hs i hi), Sp_qpo n F, hn⟩
end Go.Ab
