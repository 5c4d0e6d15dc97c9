/- Contracts of this seat's functions (of each call: what it answers), walked over the abstract machine, and the laws of numbers that they want. Conditions: those that each theorem states. -/
import Derived.Test.YtdkdpebfnddfpaaGreatDoorD8
set_option linter.unusedVariables false
set_option maxRecDepth 20000
set_option linter.unusedSimpArgs false
set_option linter.unusedSectionVars false
namespace Go.Ab
open Go.Proofs
open Cx (zero one)
attribute [-go_sem] appF newsF
variable {a b : AV} {z w : Cx} {B C n m : Nat} {cs ds : List AV} {f g : Po}

theorem x_cellsCI {z : Cx} : cellsA (CI z) = some (CIc z) := rfl
theorem x_lenCIc {z : Cx} : (CIc z).length = 6 := rfl
theorem x_leafCIc {z : Cx} : (CIc z).all leafA = true := rfl
attribute [go_sem] CI_c x_lenCIc x_leafCIc
theorem CI_0 : CI zero = .agg [Bo false, .sl 0 [], I64 0, Bo false, .sl 0 [], I64 0] := by
  show AV.agg [Bo (decide ((0 : Int) < 0)), U32 (lim (0 : Int).natAbs), I64 0, Bo (decide ((0 : Int) < 0)), U32 (lim (0 : Int).natAbs), I64 0] = _
  rw [show (0 : Int).natAbs = 0 from rfl, lim_zero]; rfl
theorem ptrim_s (h : RP cs n f B) (hB : B ≤ 20000) : Sat CT false 22 [.sl n cs] (PA (dg n f) f) := sat_of_hsat (ptrim_h h hB) (fun a H' q => ret_ASl q)
theorem ptrim_P (h : PB f B) (hs : Sp n f) (hn : n ≤ 1000000) (hB : B ≤ 20000) : Sat CT false 22 [PA n f] (PA (dg n f) f) := ptrim_s (RP_P h hs hn) hB
/-- what is at a place -/
def atA (cs : List AV) (n i : Nat) : AV := if i < n then .agg ((cs.drop (i * 6)).take 6) else CI zero
theorem rc_at (h : RP cs n f B) (i : Nat) : RC (atA cs n i) (f i) B := by
  unfold atA; split
  · rename_i q; exact h.el i q
  · rename_i q; rw [h.sp i (by omega)]; exact RC_C (CB.zero B)
theorem atA_lt {cs : List AV} {n i : Nat} (h : i < n) : atA cs n i = .agg ((cs.drop (i * 6)).take 6) := if_pos h
theorem atA_ge {cs : List AV} {n i : Nat} (h : ¬ i < n) : atA cs n i = .agg [Bo false, .sl 0 [], I64 0, Bo false, .sl 0 [], I64 0] := (if_neg h).trans CI_0
theorem spl_row {cells : List AV} {N i : Nat} {f : Po} (hl : cells.length = N * 6) (ht : cells.take (i * 6) = pcl i f) (hi : i < N) : (spl cells (i * 6) (CIc (f i))).length = N * 6 ∧ (spl cells (i * 6) (CIc (f i))).take ((i + 1) * 6) = pcl (i + 1) f := by
  have h6 : (CIc (f i)).length = 6 := rfl
  unfold spl
  refine ⟨?_, ?_⟩
  · rw [List.length_append, List.length_append, List.length_take, List.length_drop, h6]; omega
  · rw [ht, ← pclS, List.take_append_of_le_length (by rw [pcl_len]; exact Nat.le_refl _), List.take_of_length_le (by rw [pcl_len]; exact Nat.le_refl _)]
theorem zer_len (N : Nat) {a b c d e f : Value} : (zerosA [a, b, c, d, e, f] N).length = N * 6 := by simp [zerosA]
theorem row_end {cells : List AV} {N : Nat} {f : Po} (hl : cells.length = N * 6) (ht : cells.take (N * 6) = pcl N f) : cells = pcl N f := by rw [← ht, ← hl, List.take_length]
theorem Sp.psub {f g : Po} {n m : Nat} (h : Sp n f) (h' : Sp m g) : Sp (max n m) (psub f g) := fun k hk => by
  show f k - g k = zero
  rw [h k (by omega), h' k (by omega)]; rfl
theorem Sp.padd {f g : Po} {n m : Nat} (h : Sp n f) (h' : Sp m g) : Sp (max n m) (padd f g) := fun k hk => by
  show f k + g k = zero
  rw [h k (by omega), h' k (by omega)]; rfl
theorem pld_at (h : RP cs n f B) (i : Nat) : PlD (atA cs n i) := pld_RC (rc_at h i)
end Go.Ab
