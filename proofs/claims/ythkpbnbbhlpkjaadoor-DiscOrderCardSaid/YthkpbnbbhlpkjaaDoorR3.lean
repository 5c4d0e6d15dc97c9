/- Contracts of this seat's functions (of each call: what it answers), walked over the abstract machine, and the laws of numbers that they want. Conditions: those that each theorem states. -/
import Derived.Test.YthkpbnbbhlpkjaaDoorR1
set_option linter.unusedVariables false
set_option maxRecDepth 20000
set_option linter.unusedSimpArgs false
set_option linter.unusedSectionVars false
namespace Go.Ab
open Go.Proofs

theorem sg_abs (s : Bool) (m : Nat) : (sg s m).natAbs = m := by unfold sg; cases s <;> simp
theorem sg_ne0 {s : Bool} {m : Nat} (h : m ≠ 0) : sg s m ≠ 0 := fun e => h (by rw [← sg_abs s m, e]; rfl)
theorem iv_sg (s : Bool) (m : Nat) : iv s (lim m) = sg s m := by unfold iv sg; rw [nv_lim]
/-- what is rounded is the quotient -/
theorem dquo_to {x y : Dyadic} (hx : x ≠ 0) (hy : y ≠ 0) {P : Nat} (hP : 1 ≤ P) {s : Bool} {m N : Nat} {E : Int} (up : Bool)
    (hN : N = P + 3 + bl (dnum y).natAbs - bl (dnum x).natAbs) (hm : m = sticky ((dnum x).natAbs * 2 ^ N) (dnum y).natAbs) (hs : s = (decide (dnum x < 0) != decide (dnum y < 0))) (hE : E = dexp x - dexp y - N - 1) :
    gfl (dv (sg s m) E) (dtop (dv (sg s m) E) - P + 1) up = dquo x y P up ∧ dv (sg s m) E ≠ 0 ∧ P < bl m ∧ bl m ≤ N + bl (dnum x).natAbs + 2 := by
  have hA : (dnum x).natAbs ≠ 0 := fun e => hx (dnum_zero.1 (by omega))
  have hC : (dnum y).natAbs ≠ 0 := fun e => hy (dnum_zero.1 (by omega))
  obtain ⟨T, hT⟩ : ∃ T : Int, T = ((bl (dnum x).natAbs - bl (dnum y).natAbs : Nat) : Int) - ((bl (dnum y).natAbs - bl (dnum x).natAbs : Nat) : Int) - (if (dnum x).natAbs * 2 ^ (bl (dnum y).natAbs - bl (dnum x).natAbs) < (dnum y).natAbs * 2 ^ (bl (dnum x).natAbs - bl (dnum y).natAbs) then 1 else 0) := ⟨_, rfl⟩
  have hT2 : T ≤ bl (dnum x).natAbs := by rw [hT]; split <;> omega
  obtain ⟨l1, l2, _⟩ := quot_law (N := N) (P := P) (u := ((P : Int) - 1 - T).toNat) (w := (-((P : Int) - 1 - T)).toNat) hA hC hP (by omega) hT (by omega) (by omega) (by omega) s up
  rw [← hm] at l1 l2
  have hm0 : m ≠ 0 := fun e => by rw [e, bl_zero] at l2; omega
  refine ⟨?_, fun e => sg_ne0 hm0 (dv_eq_zero.1 e), l2, by omega⟩
  rw [dtop_dv (sg_ne0 hm0), sg_abs, gfl_dv (by omega)]
  unfold dquo
  rw [if_neg (fun q => q.elim hx hy)]
  simp only
  rw [← hN, ← hm, ← hs, show ((bl m : Int) - 1 + E - P + 1 - E).toNat = bl m - P by omega, hE]
  congr 1
  omega
theorem droot_to {x : Dyadic} (hx : 0 < dnum x) {P : Nat} (hP : 1 ≤ P) {m : Nat} {E : Int} (up : Bool)
    (hm : m = rsticky ((dnum x).natAbs * 2 ^ rbitsN (dnum x).natAbs P (dexp x))) (hE : E = (dexp x - rbitsN (dnum x).natAbs P (dexp x)) / 2 - 1) :
    gfl (dv (m : Int) E) (dtop (dv (m : Int) E) - P + 1) up = droot x P up ∧ dv (m : Int) E ≠ 0 ∧ P < bl m ∧ bl m ≤ bl (dnum x).natAbs + rbitsN (dnum x).natAbs P (dexp x) + 2 := by
  have hA : (dnum x).natAbs ≠ 0 := by omega
  obtain ⟨r1, r2, _⟩ := rbitsN_ok (A := (dnum x).natAbs) (P := P) (ex := dexp x)
  obtain ⟨l1, l2, _⟩ := root_law hA hP r1 r2 rfl rfl up
  have hX : (dnum x).natAbs * 2 ^ rbitsN (dnum x).natAbs P (dexp x) ≠ 0 := Nat.mul_ne_zero hA (Nat.ne_of_gt (Nat.two_pow_pos _))
  have hb := bl_rsticky hX
  rw [bl_up hA] at hb
  rw [← hm] at l1 l2 hb
  have hm0 : m ≠ 0 := fun e => by rw [e, bl_zero] at l2; omega
  have hm1 : (m : Int) ≠ 0 := by omega
  refine ⟨?_, fun e => hm1 (dv_eq_zero.1 e), l2, by omega⟩
  rw [dtop_dv hm1, Int.natAbs_natCast, gfl_dv (by omega)]
  have hn : ¬ dnum x ≤ 0 := by omega
  unfold droot
  rw [if_neg hn]
  simp only
  rw [← hm, show ((bl m : Int) - 1 + E - P + 1 - E).toNat = bl m - P by omega, hE]
  congr 1
  omega
theorem gfl_odd {x : Dyadic} (hx : x ≠ 0) {e : Int} (he : ¬ e ≤ dexp x) (m : Int) : gfl x e (decide (m = 1)) = dv (dnum x / 2 ^ (e - dexp x).toNat + if m = 1 then 1 else 0) e := by
  unfold gfl
  rw [if_neg (fun q => q.elim hx he)]
  unfold RF
  have ho := dnum_odd_of hx
  obtain ⟨k, hk⟩ : ∃ k, (e - dexp x).toNat = k + 1 := ⟨(e - dexp x).toNat - 1, by omega⟩
  rw [hk]
  have h2 : ((2 ^ (k + 1) : Nat) : Int) = 2 ^ (k + 1) := by push_cast; rfl
  rw [h2]
  have hne : dnum x % 2 ^ (k + 1) ≠ 0 := fun q => by
    have := Int.emod_emod_of_dvd (dnum x) (show (2 : Int) ∣ 2 ^ (k + 1) from ⟨2 ^ k, by rw [Int.pow_succ, Int.mul_comm]⟩)
    rw [q] at this
    omega
  simp only [hne, ne_eq, not_false_eq_true, and_true, decide_eq_true_eq]

section
variable {a b : AV} {x y : Dyadic} {B C : Nat}
theorem Lz_pow2 {z : Int} {L k : Nat} (h : Lz z ≤ L) : Lz (z / 2 ^ k) ≤ L + 1 := by
  have e : z / 2 ^ k = fq z (2 ^ k) := (fq_pow z k).symm
  rw [e]
  exact Lz_fq (Int.ne_of_gt (Int.pow_pos (by decide))) h
theorem pow_abs {z : Int} {k m : Nat} (h : z.natAbs < 2 ^ m) : (z / 2 ^ k).natAbs < 2 ^ m := Nat.lt_of_le_of_lt (Int.natAbs_ediv_le_natAbs z (2 ^ k)) h
theorem shN_nat {k : Nat} (h : k ≤ 100000) {c : Int} (hc : c = k) : shN c = k := by unfold shN; omega
theorem nv_one : nv [1] = 1 := by simp [nv]
theorem bl_lt2 {m L : Nat} (h : bl m ≤ L) : m < 2 ^ L := Nat.lt_of_lt_of_le (bl_lt m) (Nat.pow_le_pow_right (by decide) h)
theorem DB.sg {s : Bool} {m L : Nat} {E : Int} {K B : Nat} (h : Lt2 m L) (hE : E.natAbs ≤ K) (hB : L + K ≤ B) : DB (dv (sg s m) E) B := DB.raw (L := L) (E := K) (by rw [sg_abs]; exact h) hE hB
theorem lt2_lim {m L M : Nat} (h : Lt2 m L) (hM : L ≤ M) : Lt2 (nv (lim m)) M := by rw [nv_lim]; exact pow2_lt h hM
theorem lt2_bl {m L : Nat} (h : bl m ≤ L) : Lt2 m L := bl_lt2 h
theorem lim_bl {m L : Nat} (h : bl m ≤ L) : (lim m).length ≤ L / 32 + 1 := by
  refine lim_length_le (Nat.lt_of_lt_of_le (bl_lt2 h) ?_)
  rw [show (4294967296 : Nat) = 2 ^ 32 from rfl, ← Nat.pow_mul]
  exact Nat.pow_le_pow_right (by decide) (by omega)
end
end Go.Ab
