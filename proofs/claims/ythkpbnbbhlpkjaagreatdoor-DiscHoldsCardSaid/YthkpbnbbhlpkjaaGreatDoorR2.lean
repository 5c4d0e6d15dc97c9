/- Contracts of this seat's functions (of each call: what it answers), walked over the abstract machine, and the laws of numbers that they want. Conditions: those that each theorem states. -/
import Derived.Test.YthkpbnbbhlpkjaaGreatDoorR4
set_option linter.unusedVariables false
set_option maxRecDepth 20000
set_option linter.unusedSimpArgs false
set_option linter.unusedSectionVars false
namespace Go.Ab
open Go.Proofs

theorem DB.W {x : Dyadic} {B : Nat} (h : DB x B) : RI (WI (dnum x)) (dnum x) B := RI_W h.lim
theorem two_bound {z : Int} {k j m : Nat} (h : z.natAbs < 2 ^ k) (hm : k + j ≤ m) : Lt2 (z * 2 ^ j).natAbs m := by
  unfold Lt2
  rw [Int.natAbs_mul, Int.natAbs_pow]
  refine Nat.lt_of_lt_of_le (Nat.mul_lt_mul_of_pos_right h (Nat.two_pow_pos j)) ?_
  show 2 ^ k * 2 ^ j ≤ 2 ^ m
  rw [← Nat.pow_add]
  exact Nat.pow_le_pow_right (by decide) hm
theorem Lz_two {z : Int} {L j : Nat} (h : Lz z ≤ L) : Lz (z * 2 ^ j) ≤ L + (j / 32 + 1) := by
  refine Lz_mul h ?_
  unfold Lz
  rw [Int.natAbs_pow]
  exact lim_pow2 j
theorem fq_abs {a d : Int} (hd : 0 < d) : (fq a d).natAbs ≤ a.natAbs := by
  have e : fq a d = a / d := if_pos hd
  rw [e]; exact Int.natAbs_ediv_le_natAbs a d
theorem dtop_n0 {x : Dyadic} (h : x ≠ 0) : dtop x = (bl (dnum x).natAbs : Nat) - 1 + dexp x := by unfold dtop; rw [if_neg h]
theorem qdiv_num1 {a c p1 p2 : Nat} {ex ey tx ty : Int} (ha : a ≤ 10000) (hc : c ≤ 10000) (hex : ex.natAbs ≤ 5000) (hey : ey.natAbs ≤ 5000) (htx : tx = (a : Nat) - 1 + ex) (hty : ty = (c : Nat) - 1 + ey) (hp1 : p1 = c - a) (hp2 : p2 = a - c) :
    IntKind.i64.wrap (tx - ty) = tx - ty ∧ IntKind.i64.wrap ((a : Int) - (c : Int)) = (a : Int) - (c : Int) ∧ IntKind.i64.wrap (0 - ((a : Int) - (c : Int))) = -((a : Int) - (c : Int)) ∧ max (-((a : Int) - (c : Int))) 0 = (p1 : Int) ∧ max ((a : Int) - (c : Int)) 0 = (p2 : Int) ∧
    a + p1 = c + p2 ∧ p1 ≤ 10000 ∧ p2 ≤ 10000 ∧ IntKind.i64.wrap (tx - ty - 1) = tx - ty - 1 := by
  refine ⟨wrap_id (by omega), wrap_id (by omega), by rw [wrap_id (by omega)]; omega, by omega, by omega, by omega, by omega, by omega, wrap_id (by omega)⟩
theorem qdiv_num2 {a c p1 p2 P : Nat} {ex ey tx ty T tt δ : Int} (ha : a ≤ 10000) (hc : c ≤ 10000) (hex : ex.natAbs ≤ 5000) (hey : ey.natAbs ≤ 5000) (htx : tx = (a : Nat) - 1 + ex) (hty : ty = (c : Nat) - 1 + ey) (hp1 : p1 = c - a) (hp2 : p2 = a - c)
    (hP : P ≤ 4000) (hδ : δ = 0 ∨ δ = 1) (hT : T = p2 - p1 - δ) (htt : tt = tx - ty - δ) :
    ∃ u w : Nat, (u = 0 ∨ w = 0) ∧ (u : Int) - w = P - 1 - T ∧ IntKind.i64.wrap tt = tt ∧ IntKind.i64.wrap (tt - P) = tt - P ∧ IntKind.i64.wrap (tt - P + 1) = tt - P + 1 ∧ IntKind.i64.wrap (ex - ey) = ex - ey ∧
    IntKind.i64.wrap (ex - ey - (tt - P + 1)) = (u : Int) - w ∧ IntKind.i64.wrap (0 - ((u : Int) - w)) = -((u : Int) - w) ∧ max ((u : Int) - w) 0 = u ∧ max (-((u : Int) - w)) 0 = w ∧ u ≤ 20000 ∧ w ≤ 20000 ∧
    (tt - P + 1).natAbs ≤ 1000000000 ∧ ex - ey + T - P + 1 = tt - P + 1 := by
  have e : ex - ey - (tt - P + 1) = P - 1 - T := by omega
  have hb : (tt - P + 1).natAbs ≤ 100000 := by omega
  have hTb : T.natAbs ≤ 10001 := by omega
  have hf : ex - ey + T - P + 1 = tt - P + 1 := by omega
  have ht : tt.natAbs ≤ 100000 := by omega
  have hee : (ex - ey).natAbs ≤ 10000 := by omega
  rw [e]
  clear e htt hT htx hty hp1 hp2 hδ ha hc hex hey
  refine ⟨((P : Int) - 1 - T).toNat, (-((P : Int) - 1 - T)).toNat, by omega, by omega, wrap_id (by omega), wrap_id (by omega), wrap_id (by omega), wrap_id (by omega), ?_, by rw [wrap_id (by omega)]; omega, by omega, by omega, by omega, by omega, by omega, hf⟩
  rw [wrap_id (by omega)]; omega
section
variable {a b : AV} {x y : Dyadic} {B C : Nat}

end
end Go.Ab
