/- Plain laws: dyadic numbers, points of the plane, polynomials as what their coefficients are; no program in sight. -/

/-! dyadic numbers: m times 2 to the power of e -/
set_option linter.unusedVariables false
set_option maxRecDepth 20000
set_option linter.unusedSimpArgs false
namespace Go.Ab

/-- m times 2 to the power of e -/
def dv (m e : Int) : Dyadic := Dyadic.ofIntWithPrec m (-e)
def dnum : Dyadic → Int
  | .zero => 0
  | .ofOdd n _ _ => n
def dexp : Dyadic → Int
  | .zero => 0
  | .ofOdd _ k _ => -k
theorem dv_rat (m e : Int) : (dv m e).toRat = m * 2 ^ e := by unfold dv; rw [Dyadic.toRat_ofIntWithPrec_eq_mul_two_pow, Int.neg_neg]
theorem dv_inj {m e n f : Int} (h : (m : Rat) * 2 ^ e = n * 2 ^ f) : dv m e = dv n f := by rw [← Dyadic.toRat_inj, dv_rat, dv_rat, h]
theorem dv_zero (e : Int) : dv 0 e = 0 := rfl
theorem dv_of (d : Dyadic) : dv (dnum d) (dexp d) = d := by
  cases d with
  | zero => rfl
  | ofOdd n k h => show Dyadic.ofIntWithPrec n (- -k) = _; rw [Int.neg_neg, Dyadic.ofOdd_eq_ofIntWithPrec]
theorem two_ne : (2 : Rat) ≠ 0 := by decide
theorem dv_shift (m e : Int) (n : Nat) : dv (m * 2 ^ n) e = dv m (e + n) := by
  refine dv_inj ?_
  rw [Rat.zpow_add two_ne, Rat.intCast_mul, Rat.intCast_pow, Rat.zpow_natCast, Rat.mul_assoc, Rat.mul_comm (2 ^ e)]
  rfl
theorem dv_neg (m e : Int) : - dv m e = dv (-m) e := by unfold dv; rw [Dyadic.neg_ofIntWithPrec]
theorem dv_add (m n e : Int) : dv m e + dv n e = dv (m + n) e := by
  rw [← Dyadic.toRat_inj, Dyadic.toRat_add, dv_rat, dv_rat, dv_rat, Rat.intCast_add, Rat.add_mul]
theorem dv_mul (m n e f : Int) : dv m e * dv n f = dv (m * n) (e + f) := by
  rw [← Dyadic.toRat_inj, Dyadic.toRat_mul, dv_rat, dv_rat, dv_rat, Rat.intCast_mul, Rat.zpow_add two_ne]
  grind
theorem dv_odd {m : Int} (h : m % 2 = 1) (e : Int) : dv m e = .ofOdd m (-e) h := by unfold dv; rw [Dyadic.ofOdd_eq_ofIntWithPrec]
theorem dnum_odd {m : Int} (h : m % 2 = 1) (e : Int) : dnum (dv m e) = m := by rw [dv_odd h]; rfl
theorem dexp_odd {m : Int} (h : m % 2 = 1) (e : Int) : dexp (dv m e) = e := by rw [dv_odd h]; exact Int.neg_neg e
theorem dv_eq_zero {m e : Int} : dv m e = 0 ↔ m = 0 := by
  refine ⟨fun h => ?_, fun h => by rw [h]; rfl⟩
  have := congrArg Dyadic.toRat h
  rw [dv_rat, Dyadic.toRat_zero, Rat.mul_eq_zero] at this
  rcases this with g | g
  · exact Rat.intCast_eq_zero_iff.1 g
  · exact absurd g (Rat.ne_of_gt (Rat.zpow_pos (by decide)))
theorem dnum_zero {d : Dyadic} : dnum d = 0 ↔ d = 0 := by
  have := dv_eq_zero (m := dnum d) (e := dexp d)
  rw [dv_of] at this
  exact this.symm
theorem dnum_odd_of {d : Dyadic} (h : d ≠ 0) : dnum d % 2 = 1 := by
  cases d with
  | zero => exact absurd rfl h
  | ofOdd n k g => exact g

/-- within 2 to the power of B, and a multiple of 2 to the power of -B -/
def DB (d : Dyadic) (B : Nat) : Prop := ∃ z : Int, d = dv z (-(B : Int)) ∧ z.natAbs < 2 ^ (2 * B)
theorem pow_lt_pow {a b c d : Nat} (h : a < 2 ^ c) (g : b < 2 ^ d) : a * b < 2 ^ (c + d) := by
  rw [Nat.pow_add]
  have := Nat.mul_le_mul (Nat.le_sub_one_of_lt h) (Nat.le_sub_one_of_lt g)
  have h1 : 0 < 2 ^ c := Nat.two_pow_pos c
  have h2 : 0 < 2 ^ d := Nat.two_pow_pos d
  have h3 : (2 ^ c - 1) * (2 ^ d - 1) < 2 ^ c * 2 ^ d := by
    refine Nat.lt_of_le_of_lt (Nat.mul_le_mul_left _ (Nat.sub_le _ _)) ?_
    exact Nat.mul_lt_mul_of_pos_right (by omega) h2
  omega
theorem DB.mono {d : Dyadic} {B C : Nat} (h : DB d B) (hC : B ≤ C) : DB d C := by
  obtain ⟨z, rfl, hz⟩ := h
  refine ⟨z * 2 ^ (C - B), ?_, ?_⟩
  · rw [dv_shift]; congr 1; omega
  · rw [Int.natAbs_mul, Int.natAbs_pow, show (2 : Int).natAbs = 2 from rfl]
    refine Nat.lt_of_lt_of_le (Nat.mul_lt_mul_of_pos_right hz (Nat.two_pow_pos _)) ?_
    rw [← Nat.pow_add]
    exact Nat.pow_le_pow_right (by decide) (by omega)
theorem DB.zero (B : Nat) : DB 0 B := ⟨0, rfl, Nat.two_pow_pos _⟩
theorem DB.neg {d : Dyadic} {B : Nat} (h : DB d B) : DB (-d) B := by
  obtain ⟨z, rfl, hz⟩ := h
  exact ⟨-z, dv_neg z _, by rw [Int.natAbs_neg]; exact hz⟩
theorem DB.add {x y : Dyadic} {B : Nat} (hx : DB x B) (hy : DB y B) : DB (x + y) (B + 1) := by
  obtain ⟨z, rfl, hz⟩ := hx
  obtain ⟨w, rfl, hw⟩ := hy
  refine ⟨(z + w) * 2 ^ 1, ?_, ?_⟩
  · rw [dv_add, dv_shift]; congr 1; omega
  · rw [Int.natAbs_mul, show ((2 : Int) ^ 1).natAbs = 2 from rfl, show 2 * (B + 1) = 2 * B + 2 by omega, Nat.pow_add]
    have := Int.natAbs_add_le z w
    omega
theorem DB.sub {x y : Dyadic} {B : Nat} (hx : DB x B) (hy : DB y B) : DB (x - y) (B + 1) := hx.add hy.neg
theorem DB.mul {x y : Dyadic} {B C : Nat} (hx : DB x B) (hy : DB y C) : DB (x * y) (B + C) := by
  obtain ⟨z, rfl, hz⟩ := hx
  obtain ⟨w, rfl, hw⟩ := hy
  refine ⟨z * w, ?_, ?_⟩
  · rw [dv_mul]; congr 1; omega
  · rw [Int.natAbs_mul, show 2 * (B + C) = 2 * B + 2 * C by omega]
    exact pow_lt_pow hz hw
theorem DB.raw {m e : Int} {L E B : Nat} (hm : m.natAbs < 2 ^ L) (he : e.natAbs ≤ E) (hB : L + E ≤ B) : DB (dv m e) B := by
  refine ⟨m * 2 ^ (e + B).toNat, ?_, ?_⟩
  · rw [dv_shift]; congr 1; omega
  · rw [Int.natAbs_mul, Int.natAbs_pow, show (2 : Int).natAbs = 2 from rfl]
    refine Nat.lt_of_lt_of_le (Nat.mul_lt_mul_of_pos_right hm (Nat.two_pow_pos _)) ?_
    rw [← Nat.pow_add]
    exact Nat.pow_le_pow_right (by decide) (by omega)
theorem DB.num {d : Dyadic} {B : Nat} (h : DB d B) : (dnum d).natAbs < 2 ^ (2 * B) ∧ (dexp d).natAbs ≤ B := by
  obtain ⟨z, hz1, hz⟩ := h
  by_cases h0 : d = 0
  · subst h0; exact ⟨Nat.two_pow_pos _, Nat.zero_le _⟩
  have ho := dnum_odd_of h0
  have hq : dv (dnum d) (dexp d) = dv z (-(B : Int)) := by rw [dv_of, ← hz1]
  by_cases hle : -(B : Int) ≤ dexp d
  · obtain ⟨t, ht⟩ : ∃ t : Nat, dexp d = -(B : Int) + t := ⟨(dexp d + B).toNat, by omega⟩
    rw [ht, ← dv_shift] at hq
    have hr := congrArg Dyadic.toRat hq
    rw [dv_rat, dv_rat] at hr
    have hz' : dnum d * 2 ^ t = z := by
      have hp : (2 : Rat) ^ (-(B : Int)) ≠ 0 := Rat.ne_of_gt (Rat.zpow_pos (by decide))
      have := congrArg (fun x => x * ((2 : Rat) ^ (-(B : Int)))⁻¹) hr
      simp only [Rat.mul_assoc, Rat.mul_inv_cancel _ hp, Rat.mul_one] at this
      exact Rat.intCast_inj.1 this
    have ha : z.natAbs = (dnum d).natAbs * 2 ^ t := by rw [← hz', Int.natAbs_mul, Int.natAbs_pow]; rfl
    have hn : 0 < (dnum d).natAbs := by omega
    have ht2 : t < 2 * B := by
      refine Classical.byContradiction fun hc => ?_
      have h1 := Nat.pow_le_pow_right (n := 2) (by decide) (Nat.le_of_not_lt hc)
      have h2 := Nat.le_mul_of_pos_left (2 ^ t) hn
      omega
    refine ⟨?_, by omega⟩
    have h2 := Nat.le_mul_of_pos_right (dnum d).natAbs (Nat.two_pow_pos t)
    omega
  · exfalso
    obtain ⟨t, ht, ht0⟩ : ∃ t : Nat, -(B : Int) = dexp d + t ∧ t ≠ 0 := ⟨(-(B : Int) - dexp d).toNat, by omega, by omega⟩
    rw [ht, ← dv_shift] at hq
    have hr := congrArg Dyadic.toRat hq
    rw [dv_rat, dv_rat] at hr
    have hz' : dnum d = z * 2 ^ t := by
      have hp : (2 : Rat) ^ (dexp d) ≠ 0 := Rat.ne_of_gt (Rat.zpow_pos (by decide))
      have := congrArg (fun x => x * ((2 : Rat) ^ (dexp d))⁻¹) hr
      simp only [Rat.mul_assoc, Rat.mul_inv_cancel _ hp, Rat.mul_one] at this
      exact Rat.intCast_inj.1 this
    obtain ⟨s, rfl⟩ : ∃ s, t = s + 1 := ⟨t - 1, by omega⟩
    rw [Int.pow_succ, ← Int.mul_assoc] at hz'
    omega
end Go.Ab

/-! points of the plane, polynomials as what their coefficients are -/
set_option linter.unusedVariables false
set_option linter.unusedSimpArgs false
namespace Go.Ab

structure Cx where
  re : Dyadic
  im : Dyadic

namespace Cx
theorem ext' {a b : Cx} (h : a.re = b.re) (g : a.im = b.im) : a = b := by cases a; cases b; cases h; cases g; rfl
instance : Add Cx := ⟨fun a b => ⟨a.re + b.re, a.im + b.im⟩⟩
instance : Neg Cx := ⟨fun a => ⟨-a.re, -a.im⟩⟩
instance : Sub Cx := ⟨fun a b => ⟨a.re - b.re, a.im - b.im⟩⟩
instance : Mul Cx := ⟨fun a b => ⟨a.re * b.re - a.im * b.im, a.re * b.im + a.im * b.re⟩⟩
def zero : Cx := ⟨0, 0⟩
def one : Cx := ⟨1, 0⟩
theorem add_re (a b : Cx) : (a + b).re = a.re + b.re := rfl
theorem add_im (a b : Cx) : (a + b).im = a.im + b.im := rfl
theorem neg_re (a : Cx) : (-a).re = -a.re := rfl
theorem neg_im (a : Cx) : (-a).im = -a.im := rfl
theorem sub_re (a b : Cx) : (a - b).re = a.re - b.re := rfl
theorem sub_im (a b : Cx) : (a - b).im = a.im - b.im := rfl
theorem mul_re (a b : Cx) : (a * b).re = a.re * b.re - a.im * b.im := rfl
theorem mul_im (a b : Cx) : (a * b).im = a.re * b.im + a.im * b.re := rfl
theorem zero_re : zero.re = 0 := rfl
theorem zero_im : zero.im = 0 := rfl
theorem one_re : one.re = 1 := rfl
theorem one_im : one.im = 0 := rfl
theorem addc (a b : Cx) : a + b = b + a := by apply ext' <;> simp only [add_re, add_im] <;> grind
theorem adda (a b c : Cx) : a + b + c = a + (b + c) := by apply ext' <;> simp only [add_re, add_im] <;> grind
theorem addl (a b c : Cx) : a + (b + c) = b + (a + c) := by apply ext' <;> simp only [add_re, add_im] <;> grind
theorem mulc (a b : Cx) : a * b = b * a := by apply ext' <;> simp only [mul_re, mul_im] <;> grind
theorem mula (a b c : Cx) : a * b * c = a * (b * c) := by apply ext' <;> simp only [mul_re, mul_im] <;> grind
theorem mull (a b c : Cx) : a * (b * c) = b * (a * c) := by apply ext' <;> simp only [mul_re, mul_im] <;> grind
theorem mul_add (a b c : Cx) : a * (b + c) = a * b + a * c := by apply ext' <;> simp only [add_re, add_im, mul_re, mul_im] <;> grind
theorem add_mul (a b c : Cx) : (a + b) * c = a * c + b * c := by apply ext' <;> simp only [add_re, add_im, mul_re, mul_im] <;> grind
theorem mul_sub (a b c : Cx) : a * (b - c) = a * b - a * c := by apply ext' <;> simp only [sub_re, sub_im, mul_re, mul_im] <;> grind
theorem sub_eq (a b : Cx) : a - b = a + -b := by apply ext' <;> simp only [add_re, add_im, sub_re, sub_im, neg_re, neg_im] <;> grind
theorem neg_add (a b : Cx) : -(a + b) = -a + -b := by apply ext' <;> simp only [add_re, add_im, neg_re, neg_im] <;> grind
theorem neg_neg (a : Cx) : - -a = a := by apply ext' <;> simp only [neg_re, neg_im] <;> grind
theorem neg_mul (a b : Cx) : -a * b = -(a * b) := by apply ext' <;> simp only [mul_re, mul_im, neg_re, neg_im] <;> grind
theorem mul_neg (a b : Cx) : a * -b = -(a * b) := by apply ext' <;> simp only [mul_re, mul_im, neg_re, neg_im] <;> grind
theorem add_neg (a : Cx) : a + -a = zero := by apply ext' <;> simp only [add_re, add_im, neg_re, neg_im, zero_re, zero_im] <;> grind
theorem neg_zero : -zero = zero := rfl
theorem zero_add (a : Cx) : zero + a = a := by apply ext' <;> simp only [add_re, add_im, zero_re, zero_im] <;> grind
theorem add_zero (a : Cx) : a + zero = a := by rw [addc, zero_add]
theorem zero_mul (a : Cx) : zero * a = zero := by apply ext' <;> simp only [mul_re, mul_im, zero_re, zero_im] <;> grind
theorem mul_zero (a : Cx) : a * zero = zero := by rw [mulc, zero_mul]
theorem one_mul (a : Cx) : one * a = a := by apply ext' <;> simp only [mul_re, mul_im, one_re, one_im] <;> grind
theorem mul_one (a : Cx) : a * one = a := by rw [mulc, one_mul]
theorem neg_inj {a b : Cx} (h : -a = -b) : a = b := by rw [← neg_neg a, h, neg_neg]

theorem dmul0 {x y : Dyadic} (h : x * y = 0) : x = 0 ∨ y = 0 := by
  rw [← Dyadic.toRat_eq_zero_iff, Dyadic.toRat_mul, Rat.mul_eq_zero] at h
  rcases h with h | h
  · exact Or.inl (Dyadic.toRat_eq_zero_iff.1 h)
  · exact Or.inr (Dyadic.toRat_eq_zero_iff.1 h)
theorem dsq {x y : Dyadic} (h : x * x + y * y = 0) : x = 0 := by
  rw [← Dyadic.toRat_eq_zero_iff] at h ⊢
  rw [Dyadic.toRat_add, Dyadic.toRat_mul, Dyadic.toRat_mul] at h
  generalize x.toRat = a at *
  generalize y.toRat = b at *
  have sq (c : Rat) : 0 ≤ c * c := by
    rcases Rat.le_total (a := 0) (b := c) with g | g
    · exact Rat.mul_nonneg g g
    · have := Rat.mul_nonneg (a := -c) (b := -c) (by grind) (by grind)
      grind
  have ha := sq a
  have hb := sq b
  have : a * a = 0 := by grind
  rcases Rat.mul_eq_zero.1 this with h | h <;> exact h
/-- no noughts but nought divide nought -/
theorem mul0 {a b : Cx} (h : a * b = zero) : a = zero ∨ b = zero := by
  have h1 : a.re * b.re - a.im * b.im = 0 := congrArg Cx.re h
  have h2 : a.re * b.im + a.im * b.re = 0 := congrArg Cx.im h
  have h3 : (a.re * a.re + a.im * a.im) * b.re = 0 := by grind
  have h4 : (a.re * a.re + a.im * a.im) * b.im = 0 := by grind
  rcases dmul0 h3 with g | g
  · have q : a.im * a.im + a.re * a.re = 0 := by grind
    exact Or.inl (ext' (dsq g) (dsq q))
  · rcases dmul0 h4 with g' | g'
    · have q : a.im * a.im + a.re * a.re = 0 := by grind
      exact Or.inl (ext' (dsq g') (dsq q))
    · exact Or.inr (ext' g g')
end Cx
open Cx

/-! polynomials: all their coefficients -/
abbrev Po := Nat → Cx
def tl (f : Po) : Po := fun k => f (k + 1)
def pz : Po := fun _ => zero
def padd (f g : Po) : Po := fun k => f k + g k
def pneg (f : Po) : Po := fun k => -f k
def psub (f g : Po) : Po := fun k => f k - g k
def psm (c : Cx) (f : Po) : Po := fun k => c * f k
/-- times z -/
def px (f : Po) : Po := fun k => match k with | 0 => zero | k + 1 => f k
def pc (c : Cx) : Po := fun k => match k with | 0 => c | _ + 1 => zero
def conv (f g : Po) : Nat → Cx
  | 0 => f 0 * g 0
  | k + 1 => f 0 * g (k + 1) + conv (tl f) g k
theorem conv0 (f g : Po) : conv f g 0 = f 0 * g 0 := by rw [conv]
theorem convS (f g : Po) (k : Nat) : conv f g (k + 1) = f 0 * g (k + 1) + conv (tl f) g k := by rw [conv]
theorem tl_conv (f g : Po) : tl (conv f g) = padd (psm (f 0) (tl g)) (conv (tl f) g) := by funext k; exact convS f g k
theorem conv_add_l (f f' g : Po) (k : Nat) : conv (padd f f') g k = conv f g k + conv f' g k := by
  induction k generalizing f f' with
  | zero => simp only [conv0, padd, add_mul]
  | succ k ih =>
    rw [convS, convS, convS, show tl (padd f f') = padd (tl f) (tl f') from rfl, ih, show padd f f' 0 = f 0 + f' 0 from rfl, add_mul]
    simp only [adda, addl, addc]
theorem conv_neg_l (f g : Po) (k : Nat) : conv (pneg f) g k = - conv f g k := by
  induction k generalizing f with
  | zero => simp only [conv0, pneg, Cx.neg_mul]
  | succ k ih => rw [convS, convS, show tl (pneg f) = pneg (tl f) from rfl, ih, show pneg f 0 = - f 0 from rfl, Cx.neg_mul, Cx.neg_add]
theorem conv_zero_l {f : Po} (hf : ∀ k, f k = zero) (g : Po) (k : Nat) : conv f g k = zero := by
  induction k generalizing f with
  | zero => rw [conv0, hf, Cx.zero_mul]
  | succ k ih => rw [convS, hf, Cx.zero_mul, ih (f := tl f) (fun k => hf _), Cx.zero_add]
theorem convR (f g : Po) (k : Nat) : conv f g (k + 1) = conv f (tl g) k + f (k + 1) * g 0 := by
  induction k generalizing f with
  | zero => rw [convS, conv0, conv0]; rfl
  | succ k ih => rw [convS, ih, convS f (tl g), ← adda]; rfl
theorem conv_comm (f g : Po) (k : Nat) : conv f g k = conv g f k := by
  induction k generalizing f g with
  | zero => rw [conv0, conv0, mulc]
  | succ k ih => rw [convS, convR, ih, addc, mulc]
theorem conv_fun (f g : Po) : conv f g = conv g f := funext (conv_comm f g)
theorem conv_add_r (f g h : Po) (k : Nat) : conv f (padd g h) k = conv f g k + conv f h k := by
  rw [conv_comm, conv_add_l, conv_comm g, conv_comm h]
theorem conv_neg_r (f g : Po) (k : Nat) : conv f (pneg g) k = - conv f g k := by rw [conv_comm, conv_neg_l, conv_comm]
theorem conv_zero_r {g : Po} (f : Po) (hg : ∀ k, g k = zero) (k : Nat) : conv f g k = zero := by rw [conv_comm, conv_zero_l hg]
theorem conv_px_l (f g : Po) (k : Nat) : conv (px f) g k = px (conv f g) k := by
  cases k with
  | zero => rw [conv0]; exact Cx.zero_mul _
  | succ k => rw [convS, show px f 0 = zero from rfl, Cx.zero_mul, Cx.zero_add]; rfl
theorem conv_pc_l (c : Cx) (g : Po) (k : Nat) : conv (pc c) g k = c * g k := by
  cases k with
  | zero => rw [conv0]; rfl
  | succ k => rw [convS, conv_zero_l (f := tl (pc c)) (fun _ => rfl), Cx.add_zero]; rfl
/-- nothing from n on -/
def Sp (n : Nat) (f : Po) : Prop := ∀ k, n ≤ k → f k = zero
theorem Sp.tl {n : Nat} {f : Po} (h : Sp (n + 1) f) : Sp n (tl f) := fun k hk => h (k + 1) (by omega)
theorem Sp.mono {n m : Nat} {f : Po} (h : Sp n f) (hm : n ≤ m) : Sp m f := fun k hk => h k (by omega)
theorem Sp.conv {n m : Nat} {f g : Po} (hf : Sp (n + 1) f) (hg : Sp (m + 1) g) : Sp (n + m + 1) (conv f g) := by
  intro k hk
  induction k generalizing n f with
  | zero => omega
  | succ k ih =>
    rw [convS]
    cases n with
    | zero => rw [hg (k + 1) (by omega), Cx.mul_zero, conv_zero_l (f := Go.Ab.tl f) (fun k => hf (k + 1) (by omega)), Cx.zero_add]
    | succ n => rw [hg (k + 1) (by omega), Cx.mul_zero, ih hf.tl (by omega), Cx.zero_add]
theorem Sp.conv0 {n : Nat} {f g : Po} (hf : Sp 0 f) : Sp n (Go.Ab.conv f g) := fun k _ => conv_zero_l (fun k => hf k (Nat.zero_le _)) g k
theorem Sp.conv1 {n m : Nat} {f g : Po} (hf : Sp n f) (hg : Sp m g) : Sp (n + m) (Go.Ab.conv f g) := by
  cases n with
  | zero => exact hf.conv0
  | succ n =>
    cases m with
    | zero => rw [conv_fun]; exact hg.conv0
    | succ m => exact (hf.conv hg).mono (by omega)
theorem conv_top {n m : Nat} {f g : Po} (hf : Sp (n + 1) f) (hg : Sp (m + 1) g) : conv f g (n + m) = f n * g m := by
  induction n generalizing f with
  | zero =>
    cases m with
    | zero => exact Go.Ab.conv0 f g
    | succ m => rw [Nat.zero_add, convS, conv_zero_l (f := tl f) (fun k => hf (k + 1) (by omega)), Cx.add_zero]
  | succ n ih => rw [show n + 1 + m = n + m + 1 by omega, convS, ih hf.tl, hg (n + m + 1) (by omega), Cx.mul_zero, Cx.zero_add]; rfl

/-! values -/
def ev : Nat → Po → Cx → Cx
  | 0, _, _ => zero
  | n + 1, f, z => ev n (tl f) z * z + f 0
theorem ev0 (f : Po) (z : Cx) : ev 0 f z = zero := by rw [ev]
theorem evS (n : Nat) (f : Po) (z : Cx) : ev (n + 1) f z = ev n (tl f) z * z + f 0 := by rw [ev]
theorem ev_add (n : Nat) (f g : Po) (z : Cx) : ev n (padd f g) z = ev n f z + ev n g z := by
  induction n generalizing f g with
  | zero => simp only [ev0, Cx.zero_add]
  | succ n ih =>
    rw [evS, evS, evS, show tl (padd f g) = padd (tl f) (tl g) from rfl, ih, Cx.add_mul, show padd f g 0 = f 0 + g 0 from rfl]
    simp only [adda, addl, addc]
theorem ev_neg (n : Nat) (f : Po) (z : Cx) : ev n (pneg f) z = - ev n f z := by
  induction n generalizing f with
  | zero => simp only [ev0, Cx.neg_zero]
  | succ n ih => rw [evS, evS, show tl (pneg f) = pneg (tl f) from rfl, ih, Cx.neg_mul, Cx.neg_add]; rfl
theorem ev_sm (n : Nat) (c : Cx) (f : Po) (z : Cx) : ev n (psm c f) z = c * ev n f z := by
  induction n generalizing f with
  | zero => simp only [ev0, Cx.mul_zero]
  | succ n ih => rw [evS, evS, show tl (psm c f) = psm c (tl f) from rfl, ih, Cx.mul_add, mula]; rfl
theorem ev_zero {f : Po} (hf : ∀ k, f k = zero) (n : Nat) (z : Cx) : ev n f z = zero := by
  induction n generalizing f with
  | zero => exact ev0 f z
  | succ n ih => rw [evS, ih (f := tl f) (fun k => hf _), hf, Cx.zero_mul, Cx.zero_add]
theorem ev_more {n : Nat} {f : Po} (hf : Sp n f) (m : Nat) (z : Cx) : ev (n + m) f z = ev n f z := by
  induction n generalizing f with
  | zero => rw [ev_zero (fun k => hf k (Nat.zero_le _)), ev0]
  | succ n ih => rw [show n + 1 + m = n + m + 1 by omega, evS, evS, ih hf.tl]
theorem ev_le {n m : Nat} {f : Po} (hf : Sp n f) (h : n ≤ m) (z : Cx) : ev m f z = ev n f z := by
  obtain ⟨d, rfl⟩ : ∃ d, m = n + d := ⟨m - n, by omega⟩
  exact ev_more hf d z
theorem ev_conv {n m : Nat} {f g : Po} (hf : Sp n f) (hg : Sp m g) (z : Cx) : ev (n + m) (conv f g) z = ev n f z * ev m g z := by
  induction n generalizing f with
  | zero => rw [ev_zero (conv_zero_l (fun k => hf k (Nat.zero_le _)) g), ev0, Cx.zero_mul]
  | succ n ih =>
    have q := ev_more hg (n + 1) z
    rw [show m + (n + 1) = n + m + 1 by omega, evS] at q
    rw [show n + 1 + m = n + m + 1 by omega, evS, tl_conv, ev_add, ev_sm, ih hf.tl, evS n f, ← q, Go.Ab.conv0]
    simp only [Cx.add_mul, Cx.mul_add, mula, mull, mulc, adda, addl, addc]
/-! even places, odd places, the mirror -/
def pE (f : Po) : Po := fun k => f (2 * k)
def pO (f : Po) : Po := fun k => f (2 * k + 1)
def mir (f : Po) : Po := fun k => if k % 2 = 1 then -f k else f k
theorem pE_tl (f : Po) : pE (tl f) = pO f := rfl
theorem pO_tl (f : Po) : pO (tl f) = tl (pE f) := rfl
theorem eo_conv (k : Nat) : ∀ f g : Po, pE (conv f g) k = conv (pE f) (pE g) k + px (conv (pO f) (pO g)) k ∧ pO (conv f g) k = conv (pE f) (pO g) k + conv (pO f) (pE g) k := by
  induction k with
  | zero =>
    intro f g
    refine ⟨?_, ?_⟩
    · show conv f g 0 = _ + zero
      rw [Go.Ab.conv0, Go.Ab.conv0, Cx.add_zero]; rfl
    · show conv f g 1 = _
      rw [convS, Go.Ab.conv0, Go.Ab.conv0, Go.Ab.conv0]; rfl
  | succ k ih =>
    intro f g
    have hE : ∀ f : Po, pE (conv f g) (k + 1) = conv (pE f) (pE g) (k + 1) + conv (pO f) (pO g) k := by
      intro f
      show conv f g (2 * k + 1 + 1) = _
      have := (ih (tl f) g).2
      rw [convS, show conv (tl f) g (2 * k + 1) = pO (conv (tl f) g) k from rfl, this, pE_tl, pO_tl, convS (pE f)]
      rw [addc (conv (pO f) (pO g) k), ← adda]; rfl
    refine ⟨hE f, ?_⟩
    have h2 := hE (tl f)
    show conv f g (2 * k + 2 + 1) = _
    rw [convS, show conv (tl f) g (2 * k + 2) = pE (conv (tl f) g) (k + 1) from rfl, h2, pE_tl, pO_tl, convS (pE f)]
    rw [addc (conv (pO f) (pE g) (k + 1)), ← adda]; rfl
theorem pE_conv (f g : Po) (k : Nat) : pE (conv f g) k = conv (pE f) (pE g) k + px (conv (pO f) (pO g)) k := (eo_conv k f g).1
theorem pE_mir (f : Po) : pE (mir f) = pE f := by
  funext k; show mir f (2 * k) = f (2 * k); unfold mir; rw [if_neg (by omega)]
theorem pO_mir (f : Po) : pO (mir f) = pneg (pO f) := by
  funext k; show mir f (2 * k + 1) = - f (2 * k + 1); unfold mir; rw [if_pos (by omega)]
theorem Sp.mir {n : Nat} {f : Po} (h : Sp n f) : Sp n (mir f) := by
  intro k hk; unfold Go.Ab.mir; rw [h k hk]; split <;> rfl
/-! roots squared -/
def sr (f : Po) : Po := psub (conv (pE f) (pE f)) (px (conv (pO f) (pO f)))
theorem sr_E (f : Po) (k : Nat) : pE (conv f (mir f)) k = sr f k := by
  rw [pE_conv, pE_mir, pO_mir]
  show _ = conv (pE f) (pE f) k - px (conv (pO f) (pO f)) k
  rw [Cx.sub_eq]
  cases k with
  | zero => show _ + zero = _ + -zero; rw [Cx.neg_zero]
  | succ k => show _ + conv _ _ k = _ + - conv _ _ k; rw [conv_neg_r]
theorem Sp.sr {n : Nat} {f : Po} (h : Sp n f) : Sp n (sr f) := by
  intro k hk
  rw [← sr_E]
  cases n with
  | zero => exact conv_zero_l (fun k => h k (Nat.zero_le _)) _ _
  | succ n => exact Sp.conv h h.mir (2 * k) (by omega)
theorem sr_top {n : Nat} {f : Po} (h : Sp (n + 1) f) : sr f n = f n * mir f n := by
  rw [← sr_E]; show conv f (Go.Ab.mir f) (2 * n) = _
  rw [Nat.two_mul]; exact conv_top h h.mir
end Go.Ab

/-! degrees, steps, products from roots -/
set_option linter.unusedVariables false
set_option linter.unusedSimpArgs false
namespace Go.Ab
open Cx

instance : DecidableEq Cx := fun a b => if h : a.re = b.re ∧ a.im = b.im then isTrue (Cx.ext' h.1 h.2) else isFalse (fun e => h ⟨by rw [e], by rw [e]⟩)
/-- how many coefficients without noughts on top -/
def dg : Nat → Po → Nat
  | 0, _ => 0
  | n + 1, f => if f n = zero then dg n f else n + 1
theorem dg0 (f : Po) : dg 0 f = 0 := by rw [dg]
theorem dgS (n : Nat) (f : Po) : dg (n + 1) f = if f n = zero then dg n f else n + 1 := by rw [dg]
theorem dg_le (n : Nat) (f : Po) : dg n f ≤ n := by
  induction n with
  | zero => rw [dg0]; exact Nat.le_refl 0
  | succ n ih => rw [dgS]; split <;> omega
theorem dg_sp {n : Nat} {f : Po} (h : Sp n f) : Sp (dg n f) f := by
  induction n with
  | zero => rw [dg0]; exact h
  | succ n ih =>
    rw [dgS]; split
    · rename_i h0
      refine ih (fun k hk => ?_)
      rcases Nat.lt_or_ge n k with g | g
      · exact h k g
      · rw [show k = n by omega]; exact h0
    · exact h
theorem dg_top {n : Nat} {f : Po} (h : dg n f ≠ 0) : f (dg n f - 1) ≠ zero := by
  induction n with
  | zero => rw [dg0] at h; exact absurd rfl h
  | succ n ih =>
    rw [dgS] at h ⊢; split
    · rename_i h0
      rw [if_pos h0] at h
      exact ih h
    · rename_i h0; exact h0
theorem dg_uniq {n d : Nat} {f : Po} (h : Sp n f) (hd : Sp d f) (ht : d = 0 ∨ f (d - 1) ≠ zero) : dg n f = d := by
  have h1 := dg_sp h
  have h2 := dg_top (n := n) (f := f)
  generalize dg n f = e at *
  rcases Nat.lt_trichotomy e d with g | g | g
  · rcases ht with t | t
    · omega
    · exact absurd (h1 (d - 1) (by omega)) t
  · exact g
  · exact absurd (hd (e - 1) (by omega)) (h2 (by omega))
theorem dg_ind {n m : Nat} {f : Po} (h : Sp n f) (hm : Sp m f) : dg n f = dg m f := by
  refine dg_uniq h (dg_sp hm) ?_
  by_cases g : dg m f = 0
  · exact Or.inl g
  · exact Or.inr (dg_top g)
theorem dg_self {n : Nat} {f : Po} (h : Sp n f) : dg (dg n f) f = dg n f := dg_ind (dg_sp h) h
theorem dg_zero {n : Nat} {f : Po} (h : Sp n f) (g : dg n f = 0) (k : Nat) : f k = zero := by
  have := dg_sp h
  rw [g] at this
  exact this k (Nat.zero_le k)
theorem dg_neg {n : Nat} {f : Po} (h : Sp n f) : dg n (pneg f) = dg n f := by
  refine dg_uniq (fun k hk => by show -f k = zero; rw [h k hk]; rfl) (fun k hk => by show -f k = zero; rw [dg_sp h k hk]; rfl) ?_
  by_cases g : dg n f = 0
  · exact Or.inl g
  · exact Or.inr (fun e => dg_top g (Cx.neg_inj (e.trans rfl)))
theorem mir_ne {f : Po} {k : Nat} (h : f k ≠ zero) : mir f k ≠ zero := by
  unfold mir; split
  · exact fun e => h (Cx.neg_inj (e.trans rfl))
  · exact h
theorem dg_sr {n : Nat} {f : Po} (h : Sp n f) : dg n (sr f) = dg n f := by
  refine dg_uniq h.sr (dg_sp h).sr ?_
  by_cases g : dg n f = 0
  · exact Or.inl g
  · refine Or.inr (fun e => ?_)
    have t := dg_top g
    have hs := dg_sp h
    obtain ⟨d, hd⟩ : ∃ d, dg n f = d + 1 := ⟨dg n f - 1, by omega⟩
    rw [hd] at e t hs
    rw [Nat.add_sub_cancel] at e t
    rw [sr_top hs] at e
    rcases Cx.mul0 e with q | q
    · exact t q
    · exact mir_ne t q
/-- of a product -/
theorem dg_conv {n m : Nat} {f g : Po} (hf : Sp n f) (hg : Sp m g) (h1 : dg n f ≠ 0) (h2 : dg m g ≠ 0) : dg (n + m) (conv f g) = dg n f + dg m g - 1 := by
  obtain ⟨d, hd⟩ : ∃ d, dg n f = d + 1 := ⟨dg n f - 1, by omega⟩
  obtain ⟨e, he⟩ : ∃ e, dg m g = e + 1 := ⟨dg m g - 1, by omega⟩
  have t1 := dg_top h1
  have t2 := dg_top h2
  have s1 := dg_sp hf
  have s2 := dg_sp hg
  rw [hd] at t1 s1 ⊢
  rw [he] at t2 s2 ⊢
  rw [Nat.add_sub_cancel] at t1 t2
  refine dg_uniq (Sp.conv1 hf hg) ((Sp.conv s1 s2).mono (by omega)) (Or.inr ?_)
  rw [show d + 1 + (e + 1) - 1 - 1 = d + e by omega, conv_top s1 s2]
  exact fun q => (Cx.mul0 q).elim t1 t2
theorem dg_conv0 {n m : Nat} {f g : Po} (hf : Sp n f) (hg : Sp m g) (h : dg n f = 0 ∨ dg m g = 0) : dg (n + m) (conv f g) = 0 := by
  refine dg_uniq (Sp.conv1 hf hg) (fun k _ => ?_) (Or.inl rfl)
  rcases h with h | h
  · exact conv_zero_l (dg_zero hf h) g k
  · exact conv_zero_r f (dg_zero hg h) k

/-- what has the squares of the roots; odd: has it an odd degree -/
def stp (n : Nat) (f : Po) : Po := if dg n f % 2 = 0 then pneg (sr f) else sr f
theorem Sp.stp {n : Nat} {f : Po} (h : Sp n f) : Sp n (stp n f) := by
  intro k hk; unfold Go.Ab.stp; split
  · show - Go.Ab.sr f k = zero; rw [h.sr k hk]; rfl
  · exact h.sr k hk
theorem dg_stp {n : Nat} {f : Po} (h : Sp n f) : dg n (stp n f) = dg n f := by
  unfold stp; split
  · rw [dg_neg h.sr, dg_sr h]
  · exact dg_sr h
/-- z - r -/
def lin (r : Cx) : Po := fun k => match k with | 0 => -r | 1 => one | _ + 2 => zero
theorem Sp.lin (r : Cx) : Sp 2 (lin r) := fun k hk => by
  match k, hk with
  | k + 2, _ => rfl
theorem one_ne : one ≠ zero := fun e => by
  have : (1 : Dyadic) = 0 := congrArg Cx.re e
  exact absurd this (by decide)
theorem dg_lin (r : Cx) : dg 2 (lin r) = 2 := by rw [dgS, if_neg (show lin r 1 ≠ zero from one_ne)]
theorem Sp.pc (c : Cx) : Sp 1 (pc c) := fun k hk => by
  match k, hk with
  | k + 1, _ => rfl
end Go.Ab

/-! parted by z - r; shifted; derived; scaled -/
set_option linter.unusedVariables false
set_option linter.unusedSimpArgs false
namespace Go.Ab
open Cx

def dp (i : Nat) (f : Po) : Po := fun k => f (k + i)
/-- what is left of the first n, parted by z - r -/
def pq (n : Nat) (f : Po) (r : Cx) : Po := fun i => ev (n - 1 - i) (dp (i + 1) f) r
theorem dp0 (f : Po) : dp 0 f = f := rfl
theorem dp_tl (i : Nat) (f : Po) : dp i (tl f) = dp (i + 1) f := by funext k; show f (k + i + 1) = f (k + (i + 1)); rw [Nat.add_assoc]
theorem tl_dp (i : Nat) (f : Po) : tl (dp i f) = dp (i + 1) f := by funext k; show f (k + 1 + i) = f (k + (i + 1)); congr 1; omega
theorem tl_pq (n : Nat) (f : Po) (r : Cx) : tl (pq (n + 2) f r) = pq (n + 1) (tl f) r := by
  funext i
  show ev (n + 2 - 1 - (i + 1)) (dp (i + 1 + 1) f) r = ev (n + 1 - 1 - i) (dp (i + 1) (tl f)) r
  rw [dp_tl, show n + 2 - 1 - (i + 1) = n + 1 - 1 - i by omega]
theorem pq_0 (n : Nat) (f : Po) (r : Cx) : pq (n + 1) f r 0 = ev n (tl f) r := by
  show ev (n + 1 - 1 - 0) (dp (0 + 1) f) r = _
  rw [← dp_tl]; rfl
theorem Sp.pq (n : Nat) (f : Po) (r : Cx) : Sp n (pq (n + 1) f r) := fun k hk => by
  show ev (n + 1 - 1 - k) _ r = zero
  rw [show n + 1 - 1 - k = 0 by omega, ev0]
theorem pq_top (n : Nat) (f : Po) (r : Cx) : pq (n + 2) f r n = f (n + 1) := by
  show ev (n + 2 - 1 - n) (dp (n + 1) f) r = _
  rw [show n + 2 - 1 - n = 1 by omega, evS, ev0, Cx.zero_mul, Cx.zero_add]
  show f (0 + (n + 1)) = _
  rw [Nat.zero_add]
theorem dg_pq {n : Nat} {f : Po} (r : Cx) (h : f n ≠ zero) : dg n (pq (n + 1) f r) = n := by
  refine dg_uniq (Sp.pq n f r) (Sp.pq n f r) ?_
  cases n with
  | zero => exact Or.inl rfl
  | succ n => rw [Nat.add_sub_cancel, pq_top]; exact Or.inr h
theorem ev_div (n : Nat) (f : Po) (c w : Cx) : ev (n + 1) f w = ev n (pq (n + 1) f c) w * (w - c) + ev (n + 1) f c := by
  induction n generalizing f with
  | zero => rw [ev0, Cx.zero_mul, Cx.zero_add, evS, evS, ev0, ev0, Cx.zero_mul, Cx.zero_mul]
  | succ n ih =>
    rw [evS, ih (tl f), evS n (pq (n + 1 + 1) f c), tl_pq, pq_0, evS (n + 1) f c]
    generalize ev n (pq (n + 1) (tl f) c) w = e
    generalize ev (n + 1) (tl f) c = a
    generalize f 0 = b
    apply ext' <;> simp only [add_re, add_im, sub_re, sub_im, mul_re, mul_im] <;> grind
/-- shifted by c -/
def shf : Nat → Po → Cx → Po
  | 0, _, _ => pz
  | n + 1, f, c => fun k => match k with | 0 => ev (n + 1) f c | k + 1 => shf n (pq (n + 1) f c) c k
theorem shf_z (f : Po) (c : Cx) : shf 0 f c = pz := by rw [shf]
theorem shf_0 (n : Nat) (f : Po) (c : Cx) : shf (n + 1) f c 0 = ev (n + 1) f c := by rw [shf]
theorem shf_S (n : Nat) (f : Po) (c : Cx) (k : Nat) : shf (n + 1) f c (k + 1) = shf n (pq (n + 1) f c) c k := by rw [shf]
theorem tl_shf (n : Nat) (f : Po) (c : Cx) : tl (shf (n + 1) f c) = shf n (pq (n + 1) f c) c := funext (shf_S n f c)
theorem Sp.shf (n : Nat) (f : Po) (c : Cx) : Sp n (shf n f c) := by
  induction n generalizing f with
  | zero => intro k _; rw [shf_z]; rfl
  | succ n ih => intro k hk; obtain ⟨j, rfl⟩ : ∃ j, k = j + 1 := ⟨k - 1, by omega⟩; rw [shf_S]; exact ih _ j (by omega)
theorem ev_shf (n : Nat) (f : Po) (c z : Cx) : ev n (shf n f c) z = ev n f (c + z) := by
  induction n generalizing f with
  | zero => rw [ev0, ev0]
  | succ n ih =>
    rw [evS, tl_shf, ih, shf_0, ev_div n f c (c + z)]
    congr 1
    rw [show c + z - c = z by apply ext' <;> simp only [add_re, add_im, sub_re, sub_im] <;> grind]
theorem shf_top (n : Nat) (f : Po) (c : Cx) : shf (n + 1) f c n = f n := by
  induction n generalizing f with
  | zero => rw [shf_0, evS, ev0, Cx.zero_mul, Cx.zero_add]
  | succ n ih => rw [shf_S, ih, pq_top]
theorem dg_shf {n : Nat} {f : Po} (h : Sp n f) (hd : dg n f = n) (c : Cx) : dg n (shf n f c) = n := by
  refine dg_uniq (Sp.shf n f c) (Sp.shf n f c) ?_
  cases n with
  | zero => exact Or.inl rfl
  | succ n =>
    refine Or.inr ?_
    rw [Nat.add_sub_cancel, shf_top]
    have := dg_top (n := n + 1) (f := f) (by rw [hd]; omega)
    rw [hd] at this
    exact this
/-- z for z + c, coefficient by coefficient -/
theorem shf_add (n : Nat) (f : Po) (c : Cx) (k : Nat) : shf (n + 1) f c k = (match k with | 0 => f 0 | _ + 1 => zero) + (px (shf n (tl f) c) k + c * shf n (tl f) c k) := by
  induction n generalizing f k with
  | zero =>
    rw [shf_z]
    match k with
    | 0 => rw [shf_0, evS, ev0, Cx.zero_mul]; show zero + f 0 = f 0 + (zero + c * zero); rw [Cx.mul_zero, Cx.zero_add, Cx.add_zero, Cx.add_zero]
    | k + 1 => rw [shf_S, shf_z]; show zero = zero + (zero + c * zero); rw [Cx.mul_zero, Cx.zero_add, Cx.zero_add]
  | succ n ih =>
    match k with
    | 0 => rw [shf_0, shf_0, evS]; show _ = f 0 + (zero + _); rw [Cx.zero_add, addc, mulc]
    | k + 1 =>
      rw [shf_S, ih (pq (n + 1 + 1) f c) k, tl_pq, pq_0]
      show _ = zero + (shf (n + 1) (tl f) c k + c * shf (n + 1) (tl f) c (k + 1))
      rw [shf_S, Cx.zero_add]
      match k with
      | 0 => rw [shf_0]; show _ + (zero + _) = _; rw [Cx.zero_add]
      | k + 1 => rw [shf_S]; show zero + (shf n (pq (n + 1) (tl f) c) c k + _) = _; rw [Cx.zero_add]

/-- derived -/
def nt : Nat → Cx
  | 0 => zero
  | k + 1 => nt k + one
theorem ntS (k : Nat) : nt (k + 1) = nt k + one := by rw [nt]
theorem nt0 : nt 0 = zero := by rw [nt]
theorem nt_re (k : Nat) : (nt k).im = 0 ∧ 0 ≤ (nt k).re := by
  induction k with
  | zero => rw [nt0]; exact ⟨rfl, by show (0 : Dyadic) ≤ 0; exact Dyadic.le_refl 0⟩
  | succ k ih =>
    rw [ntS, add_re, add_im, one_re, one_im, ih.1]
    obtain ⟨_, h⟩ := ih
    generalize (nt k).re = x at *
    exact ⟨by grind, by grind⟩
theorem nt_ne (k : Nat) : nt (k + 1) ≠ zero := fun e => by
  have h := (nt_re k).2
  have q := congrArg Cx.re e
  rw [ntS, add_re, one_re, zero_re] at q
  generalize (nt k).re = x at *
  grind
/-- powers -/
def pw (s : Cx) : Nat → Cx
  | 0 => one
  | k + 1 => pw s k * s
end Go.Ab

/-! a product, row by row; how great what is computed is -/
set_option linter.unusedVariables false
set_option linter.unusedSimpArgs false
namespace Go.Ab
open Cx

def mono (i : Nat) (c : Cx) : Po := fun k => if k = i then c else zero
/-- the first i coefficients -/
def cutP (i : Nat) (f : Po) : Po := fun k => if k < i then f k else zero
theorem mono_S (i : Nat) (c : Cx) : mono (i + 1) c = px (mono i c) := by
  funext k
  cases k with
  | zero => show (if 0 = i + 1 then c else zero) = zero; rw [if_neg (by omega)]
  | succ k => show (if k + 1 = i + 1 then c else zero) = if k = i then c else zero; simp
theorem mono_0 (c : Cx) : mono 0 c = pc c := by
  funext k
  cases k with
  | zero => rfl
  | succ k => show (if k + 1 = 0 then c else zero) = zero; rw [if_neg (by omega)]
theorem conv_mono (i : Nat) (c : Cx) (g : Po) (s : Nat) : conv (mono i c) g s = if i ≤ s then c * g (s - i) else zero := by
  induction i generalizing s with
  | zero => rw [mono_0, conv_pc_l, if_pos (Nat.zero_le s), Nat.sub_zero]
  | succ i ih =>
    rw [mono_S, conv_px_l]
    cases s with
    | zero => rw [if_neg (by omega)]; rfl
    | succ s => show conv (mono i c) g s = _; rw [ih, Nat.add_sub_add_right]; simp
theorem cutP_S (i : Nat) (f : Po) : cutP (i + 1) f = padd (cutP i f) (mono i (f i)) := by
  funext k
  show (if k < i + 1 then f k else zero) = (if k < i then f k else zero) + (if k = i then f i else zero)
  rcases Nat.lt_trichotomy k i with h | h | h
  · rw [if_pos (by omega), if_pos h, if_neg (by omega), Cx.add_zero]
  · subst h; rw [if_pos (by omega), if_neg (by omega), if_pos rfl, Cx.zero_add]
  · rw [if_neg (by omega), if_neg (by omega), if_neg (by omega), Cx.add_zero]
theorem cutP_0 (f : Po) : cutP 0 f = pz := by funext k; show (if k < 0 then f k else zero) = zero; rw [if_neg (by omega)]
theorem cutP_sp {n : Nat} {f : Po} (h : Sp n f) : cutP n f = f := by
  funext k
  show (if k < n then f k else zero) = f k
  split
  · rfl
  · rw [h k (by omega)]
theorem pz_z (k : Nat) : pz k = zero := rfl
/-- what has come up after i rows and k in the next -/
def macc (f g : Po) (i k : Nat) : Po := padd (conv (cutP i f) g) (conv (mono i (f i)) (cutP k g))
theorem macc_00 (f g : Po) (k : Nat) : macc f g 0 0 k = zero := by
  show conv (cutP 0 f) g k + conv (mono 0 (f 0)) (cutP 0 g) k = zero
  rw [cutP_0, cutP_0, conv_zero_l pz_z, conv_zero_r _ pz_z, Cx.zero_add]
theorem macc_S (f g : Po) (i k s : Nat) : macc f g i (k + 1) s = if s = i + k then macc f g i k s + f i * g k else macc f g i k s := by
  show conv (cutP i f) g s + conv (mono i (f i)) (cutP (k + 1) g) s = if s = i + k then conv (cutP i f) g s + conv (mono i (f i)) (cutP k g) s + f i * g k else conv (cutP i f) g s + conv (mono i (f i)) (cutP k g) s
  rw [cutP_S k g, conv_add_r, conv_mono i (f i) (mono k (g k))]
  by_cases h : s = i + k
  · rw [if_pos h, if_pos (by omega)]
    show _ + (_ + f i * (if s - i = k then g k else zero)) = _
    rw [if_pos (by omega), adda]
  · rw [if_neg h]
    by_cases h2 : i ≤ s
    · rw [if_pos h2]
      show _ + (_ + f i * (if s - i = k then g k else zero)) = _
      rw [if_neg (by omega), Cx.mul_zero, Cx.add_zero]
    · rw [if_neg h2, Cx.add_zero]
theorem macc_row {m : Nat} {f g : Po} (hg : Sp m g) (i : Nat) : macc f g i m = macc f g (i + 1) 0 := by
  funext s
  show conv (cutP i f) g s + conv (mono i (f i)) (cutP m g) s = conv (cutP (i + 1) f) g s + conv (mono (i + 1) (f (i + 1))) (cutP 0 g) s
  rw [cutP_S i f, conv_add_l, cutP_sp hg, cutP_0, conv_zero_r (mono (i + 1) (f (i + 1))) pz_z, Cx.add_zero]
theorem macc_end {n : Nat} {f g : Po} (hf : Sp n f) : macc f g n 0 = conv f g := by
  funext s
  show conv (cutP n f) g s + conv (mono n (f n)) (cutP 0 g) s = _
  rw [cutP_sp hf, cutP_0, conv_zero_r _ pz_z, Cx.add_zero]
/-- from the top down: what Horner's way has after the top k -/
theorem ev_dp (n : Nat) (f : Po) (z : Cx) (i : Nat) : ev (n + 1) (dp i f) z = ev n (dp (i + 1) f) z * z + f i := by
  rw [evS, tl_dp]; show _ + f (0 + i) = _; rw [Nat.zero_add]
end Go.Ab

/-! how great coefficients and values are -/
set_option linter.unusedVariables false
set_option linter.unusedSimpArgs false
namespace Go.Ab
open Cx

def CB (z : Cx) (B : Nat) : Prop := DB z.re B ∧ DB z.im B
theorem CB.mono {z : Cx} {B C : Nat} (h : CB z B) (hC : B ≤ C) : CB z C := ⟨h.1.mono hC, h.2.mono hC⟩
theorem CB.zero (B : Nat) : CB Cx.zero B := ⟨DB.zero B, DB.zero B⟩
theorem CB.neg {z : Cx} {B : Nat} (h : CB z B) : CB (-z) B := ⟨h.1.neg, h.2.neg⟩
theorem CB.add {z w : Cx} {B : Nat} (h : CB z B) (g : CB w B) : CB (z + w) (B + 1) := ⟨h.1.add g.1, h.2.add g.2⟩
theorem CB.sub {z w : Cx} {B : Nat} (h : CB z B) (g : CB w B) : CB (z - w) (B + 1) := ⟨h.1.sub g.1, h.2.sub g.2⟩
theorem CB.mul {z w : Cx} {B C : Nat} (h : CB z B) (g : CB w C) : CB (z * w) (B + C + 1) := ⟨(h.1.mul g.1).sub (h.2.mul g.2), (h.1.mul g.2).add (h.2.mul g.1)⟩
theorem DB.one {B : Nat} (h : 1 ≤ B) : DB 1 B := DB.mono (B := 1) ⟨2, by decide, by decide⟩ h
theorem CB.one {B : Nat} (h : 1 ≤ B) : CB Cx.one B := ⟨DB.one h, DB.zero B⟩
def PB (f : Po) (B : Nat) : Prop := ∀ i, CB (f i) B
theorem PB.mono {f : Po} {B C : Nat} (h : PB f B) (hC : B ≤ C) : PB f C := fun i => (h i).mono hC
theorem PB.neg {f : Po} {B : Nat} (h : PB f B) : PB (pneg f) B := fun i => (h i).neg
theorem PB.mir {f : Po} {B : Nat} (h : PB f B) : PB (mir f) B := fun i => by unfold Go.Ab.mir; split; exact (h i).neg; exact h i
theorem PB.tl {f : Po} {B : Nat} (h : PB f B) : PB (tl f) B := fun i => h (i + 1)
theorem PB.px {f : Po} {B : Nat} (h : PB f B) : PB (px f) B := fun i => by cases i with | zero => exact CB.zero B | succ i => exact h i
theorem PB.pE {f : Po} {B : Nat} (h : PB f B) : PB (pE f) B := fun i => h _
theorem PB.pO {f : Po} {B : Nat} (h : PB f B) : PB (pO f) B := fun i => h _
theorem PB.add {f g : Po} {B : Nat} (h : PB f B) (h' : PB g B) : PB (padd f g) (B + 1) := fun i => (h i).add (h' i)
theorem PB.sub {f g : Po} {B : Nat} (h : PB f B) (h' : PB g B) : PB (psub f g) (B + 1) := fun i => (h i).sub (h' i)
theorem PB.cut {f : Po} {B : Nat} (h : PB f B) (n : Nat) : PB (cutP n f) B := fun i => by unfold cutP; split; exact h i; exact CB.zero B
theorem CB.ev {f : Po} {z : Cx} {B C : Nat} (h : PB f B) (hz : CB z C) (n : Nat) : CB (ev n f z) (n * (C + 2) + B) := by
  induction n generalizing f with
  | zero => rw [ev0]; exact CB.zero _
  | succ n ih =>
    rw [evS]
    have h1 := ((ih h.tl).mul hz).add ((h 0).mono (C := n * (C + 2) + B + C + 1) (by omega))
    exact h1.mono (by rw [Nat.succ_mul]; omega)
theorem CB.mono_conv {f g : Po} {B C : Nat} (h : PB f B) (h' : PB g C) (i s : Nat) : CB (conv (Go.Ab.mono i (f i)) g s) (B + C + 1) := by
  rw [conv_mono]
  split
  · exact (h i).mul (h' _)
  · exact CB.zero _
theorem PB.conv_cut {f g : Po} {B C : Nat} (h : PB f B) (h' : PB g C) (i : Nat) : PB (conv (cutP i f) g) (B + C + 1 + i) := by
  induction i with
  | zero => intro s; rw [cutP_0, conv_zero_l pz_z]; exact CB.zero _
  | succ i ih =>
    intro s
    rw [cutP_S, conv_add_l]
    exact (ih s).add ((CB.mono_conv h h' i s).mono (C := B + C + 1 + i) (by omega))
theorem PB.macc {f g : Po} {B C : Nat} (h : PB f B) (h' : PB g C) (i k : Nat) : PB (macc f g i k) (B + C + 1 + i + 1) := fun s =>
  (PB.conv_cut h h' i s).add ((CB.mono_conv h (h'.cut k) i s).mono (C := B + C + 1 + i) (by omega))
theorem PB.conv {f g : Po} {n B C : Nat} (h : PB f B) (h' : PB g C) (hs : Sp n f) : PB (conv f g) (B + C + 1 + n) := by
  have := PB.conv_cut h h' n
  rwa [cutP_sp hs] at this
theorem PB.sr {f : Po} {n B : Nat} (h : PB f B) (hs : Sp n f) : PB (sr f) (2 * B + n + 2) := by
  have hE : Sp n (Go.Ab.pE f) := fun k hk => hs _ (by omega)
  have hO : Sp n (Go.Ab.pO f) := fun k hk => hs _ (by omega)
  exact ((PB.conv h.pE h.pE hE).sub (PB.conv h.pO h.pO hO).px).mono (by omega)
theorem PB.stp {f : Po} {n m B : Nat} (h : PB f B) (hs : Sp n f) : PB (stp m f) (2 * B + n + 2) := by
  unfold Go.Ab.stp; split
  · exact (PB.sr h hs).neg
  · exact PB.sr h hs
theorem PB.lin {r : Cx} {B : Nat} (h : CB r B) (hB : 1 ≤ B) : PB (lin r) B := fun i => by
  match i with
  | 0 => exact h.neg
  | 1 => exact CB.one hB
  | _ + 2 => exact CB.zero B
/-- with what is less the higher the place -/
def WB (f : Po) (K C : Nat) : Prop := ∀ i, ∃ B, CB (f i) B ∧ (f i = Cx.zero ∨ B + i * C ≤ K)
theorem PB.wb {f : Po} {n B C : Nat} (h : PB f B) (hs : Sp n f) : WB f (B + n * C) C := fun i => by
  rcases Nat.lt_or_ge i n with q | q
  · exact ⟨B, h i, .inr (Nat.add_le_add_left (Nat.mul_le_mul_right C (by omega)) B)⟩
  · exact ⟨B, h i, .inl (hs i q)⟩
theorem WB.pb {f : Po} {K C : Nat} (h : WB f K C) : PB f K := fun i => by
  obtain ⟨B, h1, h2⟩ := h i
  rcases h2 with h2 | h2
  · rw [h2]; exact CB.zero K
  · exact h1.mono (by omega)
theorem WB.dp {f : Po} {K C : Nat} (h : WB f K C) (j : Nat) (n : Nat) {z : Cx} (hz : CB z C) : ev n (dp j f) z = Cx.zero ∨ ∃ B, CB (ev n (dp j f) z) B ∧ B + j * C ≤ K + 2 * n := by
  induction n generalizing j with
  | zero => exact .inl (ev0 _ _)
  | succ n ih =>
    rw [ev_dp]
    obtain ⟨B0, b1, b2⟩ := h j
    rcases ih (j + 1) with e | ⟨B, hb, hB⟩
    · rw [e, Cx.zero_mul, Cx.zero_add]
      rcases b2 with b2 | b2
      · exact .inl b2
      · exact .inr ⟨B0, b1, by omega⟩
    · right
      have h2 := hb.mul hz
      have hj : (j + 1) * C = j * C + C := Nat.succ_mul j C
      rcases b2 with b2 | b2
      · exact ⟨B + C + 1, by rw [b2, Cx.add_zero]; exact h2, by omega⟩
      · have h3 := (h2.mono (Nat.le_max_left (B + C + 1) B0)).add (b1.mono (Nat.le_max_right (B + C + 1) B0))
        exact ⟨_, h3, by omega⟩
theorem WB.ev {f : Po} {K C : Nat} (h : WB f K C) (n : Nat) {z : Cx} (hz : CB z C) : CB (ev n f z) (K + 2 * n) := by
  rcases h.dp 0 n hz with e | ⟨B, hb, hB⟩
  · rw [dp0] at e; rw [e]; exact CB.zero _
  · rw [dp0] at hb; exact hb.mono (by omega)
theorem WB.pq {f : Po} {K C : Nat} (h : WB f K C) (n : Nat) {z : Cx} (hz : CB z C) : WB (pq n f z) (K + 2 * n) C := fun i => by
  show ∃ B, CB (Go.Ab.ev (n - 1 - i) (Go.Ab.dp (i + 1) f) z) B ∧ (Go.Ab.ev (n - 1 - i) (Go.Ab.dp (i + 1) f) z = Cx.zero ∨ _)
  rcases h.dp (i + 1) (n - 1 - i) hz with e | ⟨B, hb, hB⟩
  · exact ⟨0, by rw [e]; exact CB.zero 0, .inl e⟩
  · have hj : (i + 1) * C = i * C + C := Nat.succ_mul i C
    exact ⟨B, hb, .inr (by omega)⟩
theorem WB.mono {f : Po} {K L C : Nat} (h : WB f K C) (hL : K ≤ L) : WB f L C := fun i => by
  obtain ⟨B, h1, h2⟩ := h i
  rcases h2 with h2 | h2
  · exact ⟨B, h1, .inl h2⟩
  · exact ⟨B, h1, .inr (by omega)⟩
theorem WB.shf {f : Po} {K C : Nat} (n : Nat) (h : WB f K C) {z : Cx} (hz : CB z C) : PB (shf n f z) (K + 2 * n * n) := by
  induction n generalizing f K with
  | zero => intro i; rw [shf_z]; exact CB.zero _
  | succ n ih =>
    intro i
    have e : 2 * (n + 1) * (n + 1) = 2 * n * n + 2 * (n + 1) + 2 * n := by
      rw [Nat.mul_add (2 * (n + 1)), Nat.mul_one, Nat.mul_add 2, Nat.add_mul]; omega
    match i with
    | 0 => rw [shf_0]; exact (h.ev (n + 1) hz).mono (by omega)
    | i + 1 => rw [shf_S]; exact (ih (h.pq (n + 1) hz) i).mono (by omega)
theorem Sp.pq' {n : Nat} (f : Po) (r : Cx) : Sp (n - 1) (Go.Ab.pq n f r) := fun k hk => by
  show Go.Ab.ev (n - 1 - k) _ r = Cx.zero
  rw [show n - 1 - k = 0 by omega, ev0]
end Go.Ab

/-! products from roots; values tell a polynomial; shifted, parted, scaled -/
set_option linter.unusedVariables false
set_option linter.unusedSimpArgs false
namespace Go.Ab
open Cx (zero one)

/-- the product of the first so many z - r -/
def frm (r : Nat → Cx) : Nat → Po
  | 0 => pc one
  | i + 1 => conv (frm r i) (lin (r i))
theorem frm0 (r : Nat → Cx) : frm r 0 = pc one := by rw [frm]
theorem frmS (r : Nat → Cx) (i : Nat) : frm r (i + 1) = conv (frm r i) (lin (r i)) := by rw [frm]
theorem Sp.frm (r : Nat → Cx) (i : Nat) : Sp (i + 1) (frm r i) := by
  induction i with
  | zero => rw [frm0]; exact Sp.pc one
  | succ i ih => rw [frmS]; exact Sp.conv ih (Sp.lin (r i))
theorem dg_frmS (r : Nat → Cx) (i : Nat) (h : dg (i + 1) (frm r i) = i + 1) : dg (i + 1 + 2) (conv (frm r i) (lin (r i))) = i + 1 + 1 := by
  have := dg_conv (Sp.frm r i) (Sp.lin (r i)) (by rw [h]; omega) (by rw [dg_lin]; omega)
  rw [h, dg_lin] at this
  rw [this]; omega
theorem dg_frm (r : Nat → Cx) (i : Nat) : dg (i + 1) (frm r i) = i + 1 := by
  induction i with
  | zero => rw [frm0]; exact (dgS 0 (pc one)).trans (if_neg (show pc one 0 ≠ zero from one_ne))
  | succ i ih =>
    rw [frmS]
    exact (dg_ind (Sp.conv (Sp.frm r i) (Sp.lin (r i))) (Sp.conv1 (Sp.frm r i) (Sp.lin (r i)))).trans (dg_frmS r i ih)
theorem PB.frm {r : Nat → Cx} {N B : Nat} (h : ∀ i, i < N → CB (r i) B) (hB : 1 ≤ B) {i : Nat} (hi : i ≤ N) : PB (frm r i) (i * (B + 3) + 1) := by
  induction i with
  | zero =>
    rw [frm0]; intro k
    match k with
    | 0 => exact CB.one (by omega)
    | _ + 1 => exact CB.zero _
  | succ i ih =>
    have h1 := PB.conv (PB.lin (h i (by omega)) hB) (ih (by omega)) (Sp.lin (r i))
    rw [conv_fun, ← frmS] at h1
    exact h1.mono (by rw [Nat.succ_mul]; omega)
theorem ev_lin (r z : Cx) : ev 2 (lin r) z = z - r := by
  rw [evS, evS, ev0, Cx.zero_mul, Cx.zero_add]
  show one * z + -r = z - r
  rw [Cx.one_mul, Cx.sub_eq]

theorem one_dv : (⟨dv 1 0, dv 0 0⟩ : Cx) = one := by
  apply Cx.ext'
  · show dv 1 0 = 1
    decide
  · show dv 0 0 = 0
    rfl
/-- the product of all z - r at a point -/
def pev (r : Nat → Cx) (z : Cx) : Nat → Cx
  | 0 => one
  | i + 1 => pev r z i * (z - r i)
theorem pev0 (r : Nat → Cx) (z : Cx) : pev r z 0 = one := by rw [pev]
theorem pevS (r : Nat → Cx) (z : Cx) (i : Nat) : pev r z (i + 1) = pev r z i * (z - r i) := by rw [pev]
theorem ev_frm (r : Nat → Cx) (n : Nat) (z : Cx) : ev (n + 1) (frm r n) z = pev r z n := by
  induction n with
  | zero => rw [frm0, pev0, evS, ev0, Cx.zero_mul, Cx.zero_add]; rfl
  | succ n ih =>
    rw [frmS, pevS, ← ih, ← ev_lin, ← ev_conv (Sp.frm r n) (Sp.lin (r n))]
    exact (ev_le (Sp.conv (Sp.frm r n) (Sp.lin (r n))) (by omega) z).symm
theorem conv_lin (g : Po) (c : Cx) (k : Nat) : conv g (lin c) k = px g k + -c * g k := by
  rw [conv_fun]
  match k with
  | 0 => rw [conv0]; show -c * g 0 = zero + _; rw [Cx.zero_add]
  | k + 1 =>
    rw [convS, show tl (lin c) = pc one from funext (fun k => by cases k <;> rfl), conv_pc_l, Cx.one_mul, Cx.addc]; rfl
theorem nt_sub (k j : Nat) (h : k < j) : nt j - nt k ≠ zero := fun e => by
  have key : ∀ d, nt (k + d) = nt k + nt d := by
    intro d
    induction d with
    | zero => rw [nt0, Cx.add_zero]; rfl
    | succ d ih => rw [← Nat.add_assoc, ntS, ih, ntS, Cx.adda]
  obtain ⟨d, rfl⟩ : ∃ d, j = k + (d + 1) := ⟨j - k - 1, by omega⟩
  rw [key] at e
  refine nt_ne d ?_
  have : nt k + nt (d + 1) - nt k = nt (d + 1) := by
    generalize nt k = a
    generalize nt (d + 1) = b
    apply Cx.ext' <;> simp only [Cx.add_re, Cx.add_im, Cx.sub_re, Cx.sub_im] <;> grind
  rw [← this]; exact e
/-- what is nought at many points is nought -/
theorem ev_null {n : Nat} {f : Po} (K : Nat) (h : ∀ k, K ≤ k → ev n f (nt k) = zero) (i : Nat) (hi : i < n) : f i = zero := by
  induction n generalizing f K i with
  | zero => omega
  | succ n ih =>
    have hq : ∀ i, i < n → pq (n + 1) f (nt K) i = zero := fun i hi => ih (K + 1) (fun k hk => by
      have h1 := ev_div n f (nt K) (nt k)
      rw [h k (by omega), h K (Nat.le_refl K), Cx.add_zero] at h1
      rcases Cx.mul0 h1.symm with e | e
      · exact e
      · exact absurd e (nt_sub K k (by omega))) i hi
    have hq2 : ∀ i, pq (n + 1) f (nt K) i = zero := fun i => by
      rcases Nat.lt_or_ge i n with q | q
      · exact hq i q
      · exact Sp.pq n f (nt K) i q
    cases i with
    | zero =>
      have h1 := h K (Nat.le_refl K)
      rw [evS] at h1
      have h2 := hq2 0
      rw [pq_0] at h2
      rw [h2, Cx.zero_mul, Cx.zero_add] at h1
      exact h1
    | succ i =>
      have h2 := hq2 i
      have e : pq (n + 1) f (nt K) i = pq (n + 1) f (nt K) (i + 1) * nt K + f (i + 1) := by
        show ev (n + 1 - 1 - i) (dp (i + 1) f) (nt K) = ev (n + 1 - 1 - (i + 1)) (dp (i + 1 + 1) f) (nt K) * nt K + f (i + 1)
        rw [show n + 1 - 1 - i = n + 1 - 1 - (i + 1) + 1 by omega, ev_dp]
      rw [h2, hq2, Cx.zero_mul, Cx.zero_add] at e
      exact e.symm
theorem ev_uniq {n : Nat} {f g : Po} (hf : Sp n f) (hg : Sp n g) (h : ∀ z, ev n f z = ev n g z) : f = g := by
  funext i
  rcases Nat.lt_or_ge i n with q | q
  · have h1 := ev_null (f := psub f g) 0 (fun k _ => by
      rw [show psub f g = padd f (pneg g) from funext (fun k => by show f k - g k = f k + - g k; rw [Cx.sub_eq]), ev_add, ev_neg, h, Cx.add_neg]) i q
    have h2 : f i - g i = zero := h1
    have : f i = f i - g i + g i := by
      apply Cx.ext' <;> simp only [Cx.add_re, Cx.add_im, Cx.sub_re, Cx.sub_im] <;> grind
    rw [this, h2, Cx.zero_add]
  · rw [hf i q, hg i q]
theorem pev_shift (r : Nat → Cx) (c z : Cx) (n : Nat) : pev r (c + z) n = pev (fun i => r i - c) z n := by
  induction n with
  | zero => rw [pev0, pev0]
  | succ n ih =>
    rw [pevS, pevS, ih]
    congr 1
    apply Cx.ext' <;> simp only [Cx.add_re, Cx.add_im, Cx.sub_re, Cx.sub_im] <;> grind
/-- shifted roots -/
theorem shf_frm (r : Nat → Cx) (n : Nat) (c : Cx) : shf (n + 1) (frm r n) c = frm (fun i => r i - c) n :=
  ev_uniq (Sp.shf (n + 1) (frm r n) c) (Sp.frm _ n) (fun z => by rw [ev_shf, ev_frm, ev_frm, pev_shift])
/-- parted again and again -/
def pqI (d : Nat) (f : Po) (c : Cx) : Nat → Po
  | 0 => f
  | i + 1 => pq (d - i) (pqI d f c i) c
theorem pqI0 (d : Nat) (f : Po) (c : Cx) : pqI d f c 0 = f := by rw [pqI]
theorem pqIS (d : Nat) (f : Po) (c : Cx) (i : Nat) : pqI d f c (i + 1) = pq (d - i) (pqI d f c i) c := by rw [pqI]
theorem shf_pqI (d : Nat) (f : Po) (c : Cx) (i : Nat) (hi : i ≤ d) (k : Nat) : shf d f c (i + k) = shf (d - i) (pqI d f c i) c k := by
  induction i generalizing k with
  | zero => rw [pqI0, Nat.zero_add, Nat.sub_zero]
  | succ i ih =>
    rw [show i + 1 + k = i + (k + 1) by omega, ih (by omega), pqIS]
    obtain ⟨m, hm⟩ : ∃ m, d - i = m + 1 := ⟨d - i - 1, by omega⟩
    rw [hm, show d - (i + 1) = m by omega, shf_S]
theorem shf_at (d : Nat) (f : Po) (c : Cx) (i : Nat) (hi : i < d) : shf d f c i = ev (d - i) (pqI d f c i) c := by
  have := shf_pqI d f c i (by omega) 0
  obtain ⟨m, hm⟩ : ∃ m, d - i = m + 1 := ⟨d - i - 1, by omega⟩
  rw [Nat.add_zero, hm, shf_0] at this
  rw [hm]; exact this
theorem pqI_top {d : Nat} {f : Po} (c : Cx) (hs : Sp d f) (hd : dg d f = d) (i : Nat) (hi : i ≤ d) : Sp (d - i) (pqI d f c i) ∧ dg (d - i) (pqI d f c i) = d - i := by
  induction i with
  | zero => rw [pqI0, Nat.sub_zero]; exact ⟨hs, hd⟩
  | succ i ih =>
    obtain ⟨h1, h2⟩ := ih (by omega)
    rw [pqIS]
    obtain ⟨m, hm⟩ : ∃ m, d - i = m + 1 := ⟨d - i - 1, by omega⟩
    rw [hm] at h1 h2 ⊢
    rw [show d - (i + 1) = m by omega]
    refine ⟨Sp.pq m _ c, dg_pq c ?_⟩
    have := dg_top (n := m + 1) (f := pqI d f c i) (by omega)
    rwa [h2] at this
theorem WB.pqI {d K C : Nat} {f : Po} {c : Cx} (h : WB f K C) (hc : CB c C) (i : Nat) : WB (pqI d f c i) (K + 2 * d * i) C := by
  induction i with
  | zero => rw [pqI0]; exact h.mono (by omega)
  | succ i ih =>
    rw [pqIS]
    refine (ih.pq (d - i) hc).mono ?_
    rw [Nat.mul_succ]; omega
/-- times 2 to the power of k -/
def two (k : Int) : Cx := ⟨dv 1 k, 0⟩
theorem frm_1' (r : Nat → Cx) : frm r 1 = lin (r 0) := by
  rw [frmS, frm0]
  funext k
  rw [conv_pc_l, Cx.one_mul]
theorem frm_2 (r : Nat → Cx) : frm r 2 = conv (lin (r 0)) (lin (r 1)) := by rw [frmS, frm_1']
end Go.Ab
