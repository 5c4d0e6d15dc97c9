/- Contracts of this seat's functions (of each call: what it answers), walked over the abstract machine, and the laws of numbers that they want. Conditions: those that each theorem states. -/
import Derived.Test.YtikhbokeaikcpaaGreatDoorPP
import Derived.Test.YtikhbokeaikcpaaGreatDoorA3
/-! rounding: quotients and roots to so many bits -/
set_option linter.unusedVariables false
set_option maxRecDepth 20000
set_option linter.unusedSimpArgs false
namespace Go.Ab

/-- a floor, or one more where that is asked and something is left -/
def RF (a : Int) (d : Nat) (up : Bool) : Int := a / (d : Int) + if up = true ∧ a % (d : Int) ≠ 0 then 1 else 0
def sg (s : Bool) (n : Nat) : Int := if s then -(n : Int) else (n : Int)
theorem bl_up {x : Nat} (h : x ≠ 0) (n : Nat) : bl (x * 2 ^ n) = bl x + n := by
  have h1 := bl_pos h
  refine bl_eq ?_ ?_ (by omega)
  · rw [show bl x + n - 1 = bl x - 1 + n by omega, Nat.pow_add]; exact Nat.mul_le_mul_right _ (bl_le h)
  · rw [Nat.pow_add]; exact Nat.mul_lt_mul_of_pos_right (bl_lt x) (Nat.two_pow_pos n)
/-! rounding a number -/
/-- the place of the topmost bit -/
def dtop (d : Dyadic) : Int := if d = 0 then 0 else (bl (dnum d).natAbs : Int) - 1 + dexp d
/-- rounded to multiples of 2 to the power of e, downwards or upwards -/
def gfl (d : Dyadic) (e : Int) (up : Bool) : Dyadic := if d = 0 ∨ e ≤ dexp d then d else dv (RF (dnum d) (2 ^ (e - dexp d).toNat) up) e
theorem odd_part {m : Int} (h : m ≠ 0) : ∃ (o : Int) (z : Nat), m = o * 2 ^ z ∧ o % 2 = 1 := by
  have key : ∀ n : Nat, ∀ m : Int, m ≠ 0 → m.natAbs = n → ∃ (o : Int) (z : Nat), m = o * 2 ^ z ∧ o % 2 = 1 := by
    intro n
    induction n using Nat.strongRecOn with
    | _ n ih =>
      intro m h hn
      by_cases q : m % 2 = 1
      · exact ⟨m, 0, by simp, q⟩
      · obtain ⟨k, rfl⟩ : ∃ k, m = k * 2 := ⟨m / 2, by omega⟩
        obtain ⟨o, z, rfl, ho⟩ := ih k.natAbs (by omega) k (by omega) rfl
        exact ⟨o, z + 1, by rw [Int.pow_succ, Int.mul_assoc], ho⟩
  exact key _ m h rfl
theorem dtop_dv {m : Int} (h : m ≠ 0) (E : Int) : dtop (dv m E) = (bl m.natAbs : Int) - 1 + E := by
  obtain ⟨o, z, rfl, ho⟩ := odd_part h
  have hn : dv (o * 2 ^ z) E ≠ 0 := fun e => h (dv_eq_zero.1 e)
  unfold dtop
  rw [if_neg hn, dv_shift, dnum_odd ho, dexp_odd ho]
  have e : (o * 2 ^ z).natAbs = o.natAbs * 2 ^ z := by rw [Int.natAbs_mul, Int.natAbs_pow]; rfl
  rw [e, bl_up (by omega)]
  push_cast; omega
theorem RF_exact {a q : Int} {d : Nat} (hd : 0 < d) (h : a = q * d) (up : Bool) : RF a d up = q := by
  unfold RF
  rw [h, Int.mul_emod_left, Int.mul_ediv_cancel _ (by omega)]
  simp
theorem RF_scale (a : Int) {d c : Nat} (hc : 0 < c) (hd : 0 < d) (up : Bool) : RF (a * c) (d * c) up = RF a d up := by
  unfold RF
  have hc' : (0 : Int) < c := by omega
  rw [show ((d * c : Nat) : Int) = (d : Int) * c by push_cast; rfl, Int.mul_ediv_mul_of_pos_left _ _ hc', show a * (c : Int) % ((d : Int) * c) = c * (a % (d : Int)) by rw [Int.mul_comm a, Int.mul_comm (d : Int), Int.mul_emod_mul_of_pos _ _ hc']]
  by_cases q : a % (d : Int) = 0
  · rw [q]; simp
  · have : (c : Int) * (a % (d : Int)) ≠ 0 := fun e => by
      rcases Int.mul_eq_zero.1 e with e | e
      · omega
      · exact q e
    simp only [q, this, ne_eq, not_false_eq_true, and_true]
theorem gfl_dv {m : Int} {E e : Int} (hE : E ≤ e) (up : Bool) : gfl (dv m E) e up = dv (RF m (2 ^ (e - E).toNat) up) e := by
  by_cases h0 : m = 0
  · subst h0
    unfold gfl
    rw [dv_zero, if_pos (.inl rfl)]
    rw [RF_exact (q := 0) (Nat.two_pow_pos _) (by simp)]; rfl
  obtain ⟨o, z, rfl, ho⟩ := odd_part h0
  have hn : ¬ dv (o * 2 ^ z) E = 0 := fun e => h0 (dv_eq_zero.1 e)
  unfold gfl
  rw [dv_shift] at hn ⊢
  rw [dexp_odd ho, dnum_odd ho]
  by_cases q : e ≤ E + z
  · rw [if_pos (.inr q)]
    have e1 : (o * 2 ^ z : Int) = o * 2 ^ (z - (e - E).toNat) * ((2 ^ (e - E).toNat : Nat) : Int) := by
      rw [Int.mul_assoc]
      congr 1
      push_cast
      rw [← Int.pow_add]
      congr 1; omega
    rw [RF_exact (Nat.two_pow_pos _) e1, dv_shift]
    congr 1; omega
  · rw [if_neg (fun x => x.elim hn q)]
    have e1 : 2 ^ (e - E).toNat = 2 ^ (e - (E + z)).toNat * 2 ^ z := by rw [← Nat.pow_add]; congr 1; omega
    have e2 := RF_scale o (d := 2 ^ (e - (E + z)).toNat) (Nat.two_pow_pos z) (Nat.two_pow_pos _) up
    rw [e1, ← e2]
    push_cast; rfl

/-! roots -/
theorem four_pow (j : Nat) : 4 ^ j = 2 ^ j * 2 ^ j := by rw [← Nat.mul_pow]
theorem isq_quad (X j : Nat) : isq (X / 4 ^ j) = isq X / 2 ^ j := by
  have h := isq_spec X
  have p := Nat.two_pow_pos j
  refine (isq_eq ?_ ?_).symm
  · rw [four_pow, Nat.le_div_iff_mul_le (Nat.mul_pos p p)]
    have := Nat.div_mul_le_self (isq X) (2 ^ j)
    generalize isq X / 2 ^ j = r at *
    have h2 := Nat.mul_le_mul this this
    rw [Nat.mul_mul_mul_comm] at h2
    exact Nat.le_trans h2 h.1
  · rw [four_pow, Nat.div_lt_iff_lt_mul (Nat.mul_pos p p)]
    have : isq X + 1 ≤ (isq X / 2 ^ j + 1) * 2 ^ j := by
      have h1 := Nat.div_add_mod (isq X) (2 ^ j)
      have h2 := Nat.mod_lt (isq X) p
      rw [Nat.add_mul, Nat.one_mul, Nat.mul_comm (isq X / 2 ^ j)]; omega
    generalize isq X / 2 ^ j = r at *
    have h2 := Nat.mul_le_mul this this
    rw [Nat.mul_mul_mul_comm] at h2
    exact Nat.lt_of_lt_of_le h.2 h2
theorem bl_isq {m : Nat} (h : m ≠ 0) : bl (isq m) = (bl m + 1) / 2 := by
  have hs := isq_spec m
  have hr := isq_pos h
  have r1 := bl_lt (isq m); have r2 := bl_le hr
  have hb := bl_pos hr
  generalize hbb : bl (isq m) = b at *
  obtain ⟨b, rfl⟩ : ∃ k, b = k + 1 := ⟨b - 1, by omega⟩
  rw [Nat.add_sub_cancel] at r2
  have u1 : m < 2 ^ (b + 1 + (b + 1)) := by
    rw [Nat.pow_add]
    exact Nat.lt_of_lt_of_le hs.2 (Nat.mul_le_mul r1 r1)
  have u2 : 2 ^ (b + b) ≤ m := by
    rw [Nat.pow_add]
    exact Nat.le_trans (Nat.mul_le_mul r2 r2) hs.1
  have v1 := bl_le_of u1
  have v2 : b + b < bl m := by
    refine Nat.lt_of_not_le (fun q => ?_)
    have := Nat.lt_of_lt_of_le (bl_lt m) (Nat.pow_le_pow_right (by decide : 2 > 0) q)
    omega
  omega
/-- the root with a bit for what is left -/
def rsticky (X : Nat) : Nat := 2 * isq X + if isq X * isq X = X then 0 else 1
theorem rsticky_div (X j : Nat) : rsticky X / 2 ^ (j + 1) = isq (X / 4 ^ j) ∧ (rsticky X % 2 ^ (j + 1) = 0 ↔ X % 4 ^ j = 0 ∧ isq (X / 4 ^ j) * isq (X / 4 ^ j) = X / 4 ^ j) := by
  have h := isq_spec X
  have p := Nat.two_pow_pos j
  rw [isq_quad]
  have e3 : (X % 4 ^ j = 0 ∧ isq X / 2 ^ j * (isq X / 2 ^ j) = X / 4 ^ j) ↔ (isq X * isq X = X ∧ isq X % 2 ^ j = 0) := by
    rw [four_pow]
    constructor
    · rintro ⟨a, b⟩
      have hX := Nat.div_add_mod X (2 ^ j * 2 ^ j)
      rw [a, ← b, Nat.add_zero] at hX
      have e : isq X = 2 ^ j * (isq X / 2 ^ j) := by
        have : (2 ^ j * (isq X / 2 ^ j)) * (2 ^ j * (isq X / 2 ^ j)) = X := by rw [Nat.mul_mul_mul_comm]; exact hX
        conv => lhs; rw [← this]
        exact (isq_eq (Nat.le_refl _) (Nat.mul_self_lt_mul_self (Nat.lt_succ_self _))).symm
      have : (2 ^ j * (isq X / 2 ^ j)) * (2 ^ j * (isq X / 2 ^ j)) = X := by rw [Nat.mul_mul_mul_comm]; exact hX
      rw [← e] at this
      exact ⟨this, by rw [e]; exact Nat.mul_mod_right _ _⟩
    · rintro ⟨a, b⟩
      have hr := Nat.div_add_mod (isq X) (2 ^ j)
      rw [b, Nat.add_zero] at hr
      have hX : X = 2 ^ j * 2 ^ j * (isq X / 2 ^ j * (isq X / 2 ^ j)) := by rw [Nat.mul_mul_mul_comm, hr, a]
      generalize isq X / 2 ^ j = r at *
      rw [hX]
      exact ⟨Nat.mul_mod_right _ _, (Nat.mul_div_cancel_left _ (Nat.mul_pos p p)).symm⟩
  rw [e3]
  unfold rsticky
  generalize isq X = q at *
  generalize hb : (if q * q = X then 0 else 1) = b
  have hb1 : b ≤ 1 := by rw [← hb]; split <;> omega
  have hb0 : b = 0 ↔ q * q = X := by
    by_cases q0 : q * q = X
    · rw [if_pos q0] at hb; exact ⟨fun _ => q0, fun _ => hb.symm⟩
    · rw [if_neg q0] at hb; exact ⟨fun e => by omega, fun e => absurd e q0⟩
  rw [← hb0, Nat.pow_succ, Nat.mul_comm (2 ^ j) 2, ← Nat.div_div_eq_div_mul, Nat.mod_mul]
  have d1 : (2 * q + b) / 2 = q := by omega
  have d2 : (2 * q + b) % 2 = b := by omega
  rw [d1, d2]
  exact ⟨rfl, by omega⟩
theorem bl_rsticky {X : Nat} (h : X ≠ 0) : bl (rsticky X) = (bl X + 1) / 2 + 1 := by
  rw [← bl_isq h]
  have hr := isq_pos h
  unfold rsticky
  have hb1 : (if isq X * isq X = X then 0 else 1) ≤ 1 := by split <;> omega
  generalize (if isq X * isq X = X then 0 else 1) = b at *
  rw [bl_half (by omega), show (2 * isq X + b) / 2 = isq X by omega]
/-- moved by so many bits, upwards or downwards -/
def mvN (A : Nat) (sh : Int) : Nat := A * 2 ^ sh.toNat / 2 ^ (-sh).toNat
abbrev mvX (A : Nat) (sh : Int) : Prop := A % 2 ^ (-sh).toNat = 0
theorem root_law {A n P : Nat} {ex c t sh : Int} (hA : A ≠ 0) (hP : 1 ≤ P) (hn : 2 * P + 6 ≤ bl A + n) (hc : ex - n = 2 * c) (ht : t = ((bl A : Int) - 1 + ex) / 2) (hsh : sh = ex - 2 * (t - P + 1)) (up : Bool) :
    (bl (rsticky (A * 2 ^ n)) : Int) - 1 + (c - 1) = t ∧ P < bl (rsticky (A * 2 ^ n)) ∧
    RF (rsticky (A * 2 ^ n)) (2 ^ (bl (rsticky (A * 2 ^ n)) - P)) up = (isq (mvN A sh) : Int) + (if up = true ∧ ¬ (mvX A sh ∧ isq (mvN A sh) * isq (mvN A sh) = mvN A sh) then 1 else 0) := by
  have hX : A * 2 ^ n ≠ 0 := Nat.mul_ne_zero hA (Nat.ne_of_gt (Nat.two_pow_pos _))
  have hb := bl_rsticky hX
  rw [bl_up hA] at hb
  have e1 : (bl (rsticky (A * 2 ^ n)) : Int) - 1 + (c - 1) = t := by omega
  have e2 : P < bl (rsticky (A * 2 ^ n)) := by omega
  refine ⟨e1, e2, ?_⟩
  obtain ⟨j, hj⟩ : ∃ j, bl (rsticky (A * 2 ^ n)) - P = j + 1 := ⟨bl (rsticky (A * 2 ^ n)) - P - 1, by omega⟩
  have hjn : 2 * (j : Int) = n - sh := by omega
  rw [hj]
  obtain ⟨d1, d2⟩ := rsticky_div (A * 2 ^ n) j
  have p4 : 4 ^ j = 2 ^ (2 * j) := by rw [Nat.pow_mul]
  have k1 : A * 2 ^ n / 4 ^ j = mvN A sh ∧ (A * 2 ^ n % 4 ^ j = 0 ↔ mvX A sh) := by
    rw [p4]
    unfold mvN mvX
    by_cases q : 0 ≤ sh
    · have z : (-sh).toNat = 0 := by omega
      rw [z, Nat.pow_zero, Nat.div_one]
      have e : A * 2 ^ n = A * 2 ^ sh.toNat * 2 ^ (2 * j) := by rw [Nat.mul_assoc, ← Nat.pow_add]; congr 2; omega
      rw [e, Nat.mul_div_cancel _ (Nat.two_pow_pos _), Nat.mul_mod_left]
      exact ⟨rfl, by simp [Nat.mod_one]⟩
    · have z : sh.toNat = 0 := by omega
      rw [z, Nat.pow_zero, Nat.mul_one]
      have e : 2 ^ (2 * j) = 2 ^ (-sh).toNat * 2 ^ n := by rw [← Nat.pow_add]; congr 1; omega
      rw [e, Nat.mul_div_mul_right _ _ (Nat.two_pow_pos _), Nat.mul_mod_mul_right]
      have := Nat.two_pow_pos n
      refine ⟨rfl, fun q => ?_, fun q => by rw [q, Nat.zero_mul]⟩
      rcases Nat.mul_eq_zero.1 q with q | q
      · exact q
      · omega
  rw [k1.1] at d1 d2
  rw [k1.2] at d2
  unfold RF
  have a1 : ((rsticky (A * 2 ^ n) : Nat) : Int) / ((2 ^ (j + 1) : Nat) : Int) = ((rsticky (A * 2 ^ n) / 2 ^ (j + 1) : Nat) : Int) := rfl
  have b1 : ((rsticky (A * 2 ^ n) : Nat) : Int) % ((2 ^ (j + 1) : Nat) : Int) = ((rsticky (A * 2 ^ n) % 2 ^ (j + 1) : Nat) : Int) := rfl
  rw [a1, b1, d1]
  congr 1
  by_cases q : mvX A sh ∧ isq (mvN A sh) * isq (mvN A sh) = mvN A sh
  · have := d2.2 q
    rw [this, if_neg (fun x => x.2 rfl), if_neg (fun x => x.2 q)]
  · have h0 : ¬ rsticky (A * 2 ^ n) % 2 ^ (j + 1) = 0 := fun e => q (d2.1 e)
    have h1 : ((rsticky (A * 2 ^ n) % 2 ^ (j + 1) : Nat) : Int) ≠ 0 := by omega
    simp only [h1, q, ne_eq, not_false_eq_true, and_true]
end Go.Ab
