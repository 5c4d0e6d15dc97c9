/- Contracts of this seat's functions (of each call: what it answers), walked over the abstract machine, and the laws of numbers that they want. Conditions: those that each theorem states. -/
import Derived.Test.YthkpbnbbhlpkjaaGreatDoorRC
set_option linter.unusedVariables false
set_option maxRecDepth 20000
set_option linter.unusedSimpArgs false
set_option linter.unusedSectionVars false
namespace Go.Ab
open Go.Proofs

/-! bounds of roots and roundings by the place of the topmost bit -/
theorem DB.rng {m E : Int} {L B : Nat} (hm : Lt2 m.natAbs L) (h1 : -(B : Int) ≤ E) (h2 : (L : Int) + E ≤ B) : DB (dv m E) B := by
  obtain ⟨k, hk⟩ : ∃ k : Nat, E = -(B : Int) + k := ⟨(E + B).toNat, by omega⟩
  refine ⟨m * 2 ^ k, dv_cast m hk, ?_⟩
  have e : (m * 2 ^ k).natAbs = m.natAbs * 2 ^ k := by rw [Int.natAbs_mul, Int.natAbs_pow]; rfl
  rw [e]
  refine Nat.lt_of_lt_of_le (Nat.mul_lt_mul_of_pos_right hm (Nat.two_pow_pos k)) ?_
  rw [← Nat.pow_add]
  exact Nat.pow_le_pow_right (by decide) (by omega)
theorem DB.top {x : Dyadic} {B : Nat} (h : DB x B) (h0 : x ≠ 0) : -(B : Int) < (bl (dnum x).natAbs : Int) + dexp x ∧ (bl (dnum x).natAbs : Int) + dexp x ≤ B := by
  obtain ⟨z, rfl, hz⟩ := h
  have hz0 : z ≠ 0 := fun e => h0 (dv_eq_zero.2 e)
  obtain ⟨e1, _⟩ := bl_dnum hz0 (e := -(B : Int))
  have hb : bl z.natAbs ≤ 2 * B := bl_le_of hz
  have hp : 1 ≤ bl z.natAbs := bl_pos (by omega)
  rw [e1]
  omega
theorem droot_db2 {x : Dyadic} {B P : Nat} (h0 : 0 < dnum x) (h : DB x B) (hP1 : 1 ≤ P) (up : Bool) : DB (droot x P up) (B / 2 + P + 3) := by
  have x0 : x ≠ 0 := fun e => by rw [e] at h0; exact absurd h0 (by decide)
  obtain ⟨_, _, f3, _⟩ := droot_to h0 hP1 up rfl rfl
  obtain ⟨_, hn2, _⟩ := rbitsN_ok (A := (dnum x).natAbs) (P := P) (ex := dexp x)
  obtain ⟨t1, t2⟩ := h.top x0
  have hb : bl (rsticky ((dnum x).natAbs * 2 ^ rbitsN (dnum x).natAbs P (dexp x))) = (bl (dnum x).natAbs + rbitsN (dnum x).natAbs P (dexp x) + 1) / 2 + 1 := by
    rw [bl_rsticky (Nat.mul_ne_zero (by omega) (Nat.ne_of_gt (Nat.two_pow_pos _))), bl_up (by omega)]
  have hr := RF_bits (s := false) f3 up
  unfold droot
  rw [if_neg (Int.not_le.2 h0)]
  simp only
  generalize rbitsN (dnum x).natAbs P (dexp x) = n at *
  generalize rsticky ((dnum x).natAbs * 2 ^ n) = m at *
  refine DB.rng (L := P + 1) hr ?_ ?_
  · omega
  · omega
/-- rounded upwards to so many bits -/
def upr (x : Dyadic) (P : Nat) : Dyadic := if x = 0 then 0 else gfl x (dtop x - P + 1) true
theorem RF_bits' (a : Int) {P : Nat} (hP : P < bl a.natAbs) (up : Bool) : Lt2 (RF a (2 ^ (bl a.natAbs - P)) up).natAbs (P + 1) := by
  unfold Lt2
  refine Nat.lt_of_le_of_lt (RF_abs _ (Nat.two_pow_pos _) up) ?_
  have h : a.natAbs / 2 ^ (bl a.natAbs - P) < 2 ^ P := Nat.div_lt_of_lt_mul (by rw [← Nat.pow_add, show bl a.natAbs - P + P = bl a.natAbs by omega]; exact bl_lt _)
  rw [Nat.pow_succ]
  have := Nat.two_pow_pos P
  omega
theorem gfl_db {x : Dyadic} {B P : Nat} (h : DB x B) (h0 : x ≠ 0) (hP : 1 ≤ P) (up : Bool) : DB (gfl x (dtop x - P + 1) up) (B + 1) := by
  obtain ⟨t1, t2⟩ := h.top h0
  have he := h.num.2
  unfold gfl
  split
  · exact h.mono (by omega)
  · rename_i q
    have q1 : ¬ dtop x - P + 1 ≤ dexp x := fun e => q (.inr e)
    have ht : dtop x = (bl (dnum x).natAbs : Int) - 1 + dexp x := if_neg h0
    have e1 : (dtop x - P + 1 - dexp x).toNat = bl (dnum x).natAbs - P := by omega
    rw [e1]
    exact DB.rng (L := P + 1) (RF_bits' (dnum x) (by omega) up) (by omega) (by omega)
theorem upr_db {x : Dyadic} {B P : Nat} (h : DB x B) (hP : 1 ≤ P) : DB (upr x P) (B + 1) := by
  unfold upr
  split
  · exact DB.zero _
  · rename_i q
    exact gfl_db h q hP true
/-- a radius as it counts -/
def rp (r : Dyadic) : Dyadic := if (dnum r).sign < 0 then 0 else r
theorem rp_db {r : Dyadic} {B : Nat} (h : DB r B) : DB (rp r) B := by
  unfold rp
  split
  · exact DB.zero _
  · exact h
/-- the greater one, the lesser one -/
def dmx (x y : Dyadic) : Dyadic := if 0 ≤ (dnum (x - y)).sign then x else y
def dmn (x y : Dyadic) : Dyadic := if (dnum (x - y)).sign ≤ 0 then x else y
theorem dmx_db {x y : Dyadic} {B : Nat} (h : DB x B) (g : DB y B) : DB (dmx x y) B := by unfold dmx; split <;> assumption
theorem dmn_db {x y : Dyadic} {B : Nat} (h : DB x B) (g : DB y B) : DB (dmn x y) B := by unfold dmn; split <;> assumption
theorem dsub_0 (x : Dyadic) : x - 0 = x := by grind
theorem rp_dmx (x : Dyadic) : dmx x 0 = rp x := by
  unfold dmx rp
  rw [dsub_0]
  by_cases h : (dnum x).sign < 0
  · rw [if_pos h, if_neg (by omega)]
  · rw [if_neg h, if_pos (by omega)]
end Go.Ab
