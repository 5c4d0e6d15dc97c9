/- Plain laws: dyadic numbers, points of the plane, polynomials as what their coefficients are; no program in sight. -/

/-! dyadic numbers: m times 2 to the power of e -/
set_option linter.unusedVariables false
set_option maxRecDepth 20000
set_option linter.unusedSimpArgs false
namespace Go.Ab

/-- m times 2 to the power of e -/
def dv (m e : Int) : Dyadic := Dyadic.ofIntWithPrec m (-e)
def dnum : Dyadic → Int
  | .zero => 0
  | .ofOdd n _ _ => n
def dexp : Dyadic → Int
  | .zero => 0
  | .ofOdd _ k _ => -k
theorem dv_rat (m e : Int) : (dv m e).toRat = m * 2 ^ e := by unfold dv; rw [Dyadic.toRat_ofIntWithPrec_eq_mul_two_pow, Int.neg_neg]
theorem dv_inj {m e n f : Int} (h : (m : Rat) * 2 ^ e = n * 2 ^ f) : dv m e = dv n f := by rw [← Dyadic.toRat_inj, dv_rat, dv_rat, h]
theorem dv_zero (e : Int) : dv 0 e = 0 := rfl
theorem dv_of (d : Dyadic) : dv (dnum d) (dexp d) = d := by
  cases d with
  | zero => rfl
  | ofOdd n k h => show Dyadic.ofIntWithPrec n (- -k) = _; rw [Int.neg_neg, Dyadic.ofOdd_eq_ofIntWithPrec]
theorem two_ne : (2 : Rat) ≠ 0 := by decide
theorem dv_shift (m e : Int) (n : Nat) : dv (m * 2 ^ n) e = dv m (e + n) := by
  refine dv_inj ?_
  rw [Rat.zpow_add two_ne, Rat.intCast_mul, Rat.intCast_pow, Rat.zpow_natCast, Rat.mul_assoc, Rat.mul_comm (2 ^ e)]
  rfl
theorem dv_neg (m e : Int) : - dv m e = dv (-m) e := by unfold dv; rw [Dyadic.neg_ofIntWithPrec]
theorem dv_add (m n e : Int) : dv m e + dv n e = dv (m + n) e := by
  rw [← Dyadic.toRat_inj, Dyadic.toRat_add, dv_rat, dv_rat, dv_rat, Rat.intCast_add, Rat.add_mul]
theorem dv_mul (m n e f : Int) : dv m e * dv n f = dv (m * n) (e + f) := by
  rw [← Dyadic.toRat_inj, Dyadic.toRat_mul, dv_rat, dv_rat, dv_rat, Rat.intCast_mul, Rat.zpow_add two_ne]
  grind
theorem dv_odd {m : Int} (h : m % 2 = 1) (e : Int) : dv m e = .ofOdd m (-e) h := by unfold dv; rw [Dyadic.ofOdd_eq_ofIntWithPrec]
theorem dnum_odd {m : Int} (h : m % 2 = 1) (e : Int) : dnum (dv m e) = m := by rw [dv_odd h]; rfl
theorem dexp_odd {m : Int} (h : m % 2 = 1) (e : Int) : dexp (dv m e) = e := by rw [dv_odd h]; exact Int.neg_neg e
theorem dv_eq_zero {m e : Int} : dv m e = 0 ↔ m = 0 := by
  refine ⟨fun h => ?_, fun h => by rw [h]; rfl⟩
  have := congrArg Dyadic.toRat h
  rw [dv_rat, Dyadic.toRat_zero, Rat.mul_eq_zero] at this
  rcases this with g | g
  · exact Rat.intCast_eq_zero_iff.1 g
  · exact absurd g (Rat.ne_of_gt (Rat.zpow_pos (by decide)))
theorem dnum_zero {d : Dyadic} : dnum d = 0 ↔ d = 0 := by
  have := dv_eq_zero (m := dnum d) (e := dexp d)
  rw [dv_of] at this
  exact this.symm
theorem dnum_odd_of {d : Dyadic} (h : d ≠ 0) : dnum d % 2 = 1 := by
  cases d with
  | zero => exact absurd rfl h
  | ofOdd n k g => exact g

/-- within 2 to the power of B, and a multiple of 2 to the power of -B -/
def DB (d : Dyadic) (B : Nat) : Prop := ∃ z : Int, d = dv z (-(B : Int)) ∧ z.natAbs < 2 ^ (2 * B)
theorem pow_lt_pow {a b c d : Nat} (h : a < 2 ^ c) (g : b < 2 ^ d) : a * b < 2 ^ (c + d) := by
  rw [Nat.pow_add]
  have := Nat.mul_le_mul (Nat.le_sub_one_of_lt h) (Nat.le_sub_one_of_lt g)
  have h1 : 0 < 2 ^ c := Nat.two_pow_pos c
  have h2 : 0 < 2 ^ d := Nat.two_pow_pos d
  have h3 : (2 ^ c - 1) * (2 ^ d - 1) < 2 ^ c * 2 ^ d := by
    refine Nat.lt_of_le_of_lt (Nat.mul_le_mul_left _ (Nat.sub_le _ _)) ?_
    exact Nat.mul_lt_mul_of_pos_right (by omega) h2
  omega
theorem DB.mono {d : Dyadic} {B C : Nat} (h : DB d B) (hC : B ≤ C) : DB d C := by
  obtain ⟨z, rfl, hz⟩ := h
  refine ⟨z * 2 ^ (C - B), ?_, ?_⟩
  · rw [dv_shift]; congr 1; omega
  · rw [Int.natAbs_mul, Int.natAbs_pow, show (2 : Int).natAbs = 2 from rfl]
    refine Nat.lt_of_lt_of_le (Nat.mul_lt_mul_of_pos_right hz (Nat.two_pow_pos _)) ?_
    rw [← Nat.pow_add]
    exact Nat.pow_le_pow_right (by decide) (by omega)
theorem DB.zero (B : Nat) : DB 0 B := ⟨0, rfl, Nat.two_pow_pos _⟩
theorem DB.neg {d : Dyadic} {B : Nat} (h : DB d B) : DB (-d) B := by
  obtain ⟨z, rfl, hz⟩ := h
  exact ⟨-z, dv_neg z _, by rw [Int.natAbs_neg]; exact hz⟩
theorem DB.add {x y : Dyadic} {B : Nat} (hx : DB x B) (hy : DB y B) : DB (x + y) (B + 1) := by
  obtain ⟨z, rfl, hz⟩ := hx
  obtain ⟨w, rfl, hw⟩ := hy
  refine ⟨(z + w) * 2 ^ 1, ?_, ?_⟩
  · rw [dv_add, dv_shift]; congr 1; omega
  · rw [Int.natAbs_mul, show ((2 : Int) ^ 1).natAbs = 2 from rfl, show 2 * (B + 1) = 2 * B + 2 by omega, Nat.pow_add]
    have := Int.natAbs_add_le z w
    omega
theorem DB.sub {x y : Dyadic} {B : Nat} (hx : DB x B) (hy : DB y B) : DB (x - y) (B + 1) := hx.add hy.neg
theorem DB.mul {x y : Dyadic} {B C : Nat} (hx : DB x B) (hy : DB y C) : DB (x * y) (B + C) := by
  obtain ⟨z, rfl, hz⟩ := hx
  obtain ⟨w, rfl, hw⟩ := hy
  refine ⟨z * w, ?_, ?_⟩
  · rw [dv_mul]; congr 1; omega
  · rw [Int.natAbs_mul, show 2 * (B + C) = 2 * B + 2 * C by omega]
    exact pow_lt_pow hz hw
theorem DB.raw {m e : Int} {L E B : Nat} (hm : m.natAbs < 2 ^ L) (he : e.natAbs ≤ E) (hB : L + E ≤ B) : DB (dv m e) B := by
  refine ⟨m * 2 ^ (e + B).toNat, ?_, ?_⟩
  · rw [dv_shift]; congr 1; omega
  · rw [Int.natAbs_mul, Int.natAbs_pow, show (2 : Int).natAbs = 2 from rfl]
    refine Nat.lt_of_lt_of_le (Nat.mul_lt_mul_of_pos_right hm (Nat.two_pow_pos _)) ?_
    rw [← Nat.pow_add]
    exact Nat.pow_le_pow_right (by decide) (by omega)
theorem DB.num {d : Dyadic} {B : Nat} (h : DB d B) : (dnum d).natAbs < 2 ^ (2 * B) ∧ (dexp d).natAbs ≤ B := by
  obtain ⟨z, hz1, hz⟩ := h
  by_cases h0 : d = 0
  · subst h0; exact ⟨Nat.two_pow_pos _, Nat.zero_le _⟩
  have ho := dnum_odd_of h0
  have hq : dv (dnum d) (dexp d) = dv z (-(B : Int)) := by rw [dv_of, ← hz1]
  by_cases hle : -(B : Int) ≤ dexp d
  · obtain ⟨t, ht⟩ : ∃ t : Nat, dexp d = -(B : Int) + t := ⟨(dexp d + B).toNat, by omega⟩
    rw [ht, ← dv_shift] at hq
    have hr := congrArg Dyadic.toRat hq
    rw [dv_rat, dv_rat] at hr
    have hz' : dnum d * 2 ^ t = z := by
      have hp : (2 : Rat) ^ (-(B : Int)) ≠ 0 := Rat.ne_of_gt (Rat.zpow_pos (by decide))
      have := congrArg (fun x => x * ((2 : Rat) ^ (-(B : Int)))⁻¹) hr
      simp only [Rat.mul_assoc, Rat.mul_inv_cancel _ hp, Rat.mul_one] at this
      exact Rat.intCast_inj.1 this
    have ha : z.natAbs = (dnum d).natAbs * 2 ^ t := by rw [← hz', Int.natAbs_mul, Int.natAbs_pow]; rfl
    have hn : 0 < (dnum d).natAbs := by omega
    have ht2 : t < 2 * B := by
      refine Classical.byContradiction fun hc => ?_
      have h1 := Nat.pow_le_pow_right (n := 2) (by decide) (Nat.le_of_not_lt hc)
      have h2 := Nat.le_mul_of_pos_left (2 ^ t) hn
      omega
    refine ⟨?_, by omega⟩
    have h2 := Nat.le_mul_of_pos_right (dnum d).natAbs (Nat.two_pow_pos t)
    omega
  · exfalso
    obtain ⟨t, ht, ht0⟩ : ∃ t : Nat, -(B : Int) = dexp d + t ∧ t ≠ 0 := ⟨(-(B : Int) - dexp d).toNat, by omega, by omega⟩
    rw [ht, ← dv_shift] at hq
    have hr := congrArg Dyadic.toRat hq
    rw [dv_rat, dv_rat] at hr
    have hz' : dnum d = z * 2 ^ t := by
      have hp : (2 : Rat) ^ (dexp d) ≠ 0 := Rat.ne_of_gt (Rat.zpow_pos (by decide))
      have := congrArg (fun x => x * ((2 : Rat) ^ (dexp d))⁻¹) hr
      simp only [Rat.mul_assoc, Rat.mul_inv_cancel _ hp, Rat.mul_one] at this
      exact Rat.intCast_inj.1 this
    obtain ⟨s, rfl⟩ : ∃ s, t = s + 1 := ⟨t - 1, by omega⟩
    rw [Int.pow_succ, ← Int.mul_assoc] at hz'
    omega
end Go.Ab

/-! points of the plane, polynomials as what their coefficients are -/
set_option linter.unusedVariables false
set_option linter.unusedSimpArgs false
namespace Go.Ab

structure Cx where
  re : Dyadic
  im : Dyadic

namespace Cx
theorem ext' {a b : Cx} (h : a.re = b.re) (g : a.im = b.im) : a = b := by cases a; cases b; cases h; cases g; rfl
instance : Add Cx := ⟨fun a b => ⟨a.re + b.re, a.im + b.im⟩⟩
instance : Neg Cx := ⟨fun a => ⟨-a.re, -a.im⟩⟩
instance : Sub Cx := ⟨fun a b => ⟨a.re - b.re, a.im - b.im⟩⟩
instance : Mul Cx := ⟨fun a b => ⟨a.re * b.re - a.im * b.im, a.re * b.im + a.im * b.re⟩⟩
def zero : Cx := ⟨0, 0⟩
def one : Cx := ⟨1, 0⟩
theorem add_re (a b : Cx) : (a + b).re = a.re + b.re := rfl
theorem add_im (a b : Cx) : (a + b).im = a.im + b.im := rfl
theorem neg_re (a : Cx) : (-a).re = -a.re := rfl
theorem neg_im (a : Cx) : (-a).im = -a.im := rfl
theorem sub_re (a b : Cx) : (a - b).re = a.re - b.re := rfl
theorem sub_im (a b : Cx) : (a - b).im = a.im - b.im := rfl
theorem mul_re (a b : Cx) : (a * b).re = a.re * b.re - a.im * b.im := rfl
theorem mul_im (a b : Cx) : (a * b).im = a.re * b.im + a.im * b.re := rfl
theorem zero_re : zero.re = 0 := rfl
theorem zero_im : zero.im = 0 := rfl
theorem one_re : one.re = 1 := rfl
theorem one_im : one.im = 0 := rfl
theorem addc (a b : Cx) : a + b = b + a := by apply ext' <;> simp only [add_re, add_im] <;> grind
theorem adda (a b c : Cx) : a + b + c = a + (b + c) := by apply ext' <;> simp only [add_re, add_im] <;> grind
theorem addl (a b c : Cx) : a + (b + c) = b + (a + c) := by apply ext' <;> simp only [add_re, add_im] <;> grind
theorem mulc (a b : Cx) : a * b = b * a := by apply ext' <;> simp only [mul_re, mul_im] <;> grind
theorem mul_add (a b c : Cx) : a * (b + c) = a * b + a * c := by apply ext' <;> simp only [add_re, add_im, mul_re, mul_im] <;> grind
theorem add_mul (a b c : Cx) : (a + b) * c = a * c + b * c := by apply ext' <;> simp only [add_re, add_im, mul_re, mul_im] <;> grind
theorem mul_sub (a b c : Cx) : a * (b - c) = a * b - a * c := by apply ext' <;> simp only [sub_re, sub_im, mul_re, mul_im] <;> grind
theorem neg_neg (a : Cx) : - -a = a := by apply ext' <;> simp only [neg_re, neg_im] <;> grind
theorem neg_mul (a b : Cx) : -a * b = -(a * b) := by apply ext' <;> simp only [mul_re, mul_im, neg_re, neg_im] <;> grind
theorem mul_neg (a b : Cx) : a * -b = -(a * b) := by apply ext' <;> simp only [mul_re, mul_im, neg_re, neg_im] <;> grind
theorem zero_add (a : Cx) : zero + a = a := by apply ext' <;> simp only [add_re, add_im, zero_re, zero_im] <;> grind
theorem add_zero (a : Cx) : a + zero = a := by rw [addc, zero_add]
theorem zero_mul (a : Cx) : zero * a = zero := by apply ext' <;> simp only [mul_re, mul_im, zero_re, zero_im] <;> grind
theorem mul_zero (a : Cx) : a * zero = zero := by rw [mulc, zero_mul]
theorem one_mul (a : Cx) : one * a = a := by apply ext' <;> simp only [mul_re, mul_im, one_re, one_im] <;> grind
theorem mul_one (a : Cx) : a * one = a := by rw [mulc, one_mul]
end Cx
open Cx

/-! polynomials: all their coefficients -/
abbrev Po := Nat → Cx
def tl (f : Po) : Po := fun k => f (k + 1)
def pz : Po := fun _ => zero
def padd (f g : Po) : Po := fun k => f k + g k
def pneg (f : Po) : Po := fun k => -f k
def psub (f g : Po) : Po := fun k => f k - g k
/-- times z -/
def px (f : Po) : Po := fun k => match k with | 0 => zero | k + 1 => f k
def pc (c : Cx) : Po := fun k => match k with | 0 => c | _ + 1 => zero
def conv (f g : Po) : Nat → Cx
  | 0 => f 0 * g 0
  | k + 1 => f 0 * g (k + 1) + conv (tl f) g k
theorem conv0 (f g : Po) : conv f g 0 = f 0 * g 0 := by rw [conv]
theorem convS (f g : Po) (k : Nat) : conv f g (k + 1) = f 0 * g (k + 1) + conv (tl f) g k := by rw [conv]
theorem conv_add_l (f f' g : Po) (k : Nat) : conv (padd f f') g k = conv f g k + conv f' g k := by
  induction k generalizing f f' with
  | zero => simp only [conv0, padd, add_mul]
  | succ k ih =>
    rw [convS, convS, convS, show tl (padd f f') = padd (tl f) (tl f') from rfl, ih, show padd f f' 0 = f 0 + f' 0 from rfl, add_mul]
    simp only [adda, addl, addc]
theorem conv_zero_l {f : Po} (hf : ∀ k, f k = zero) (g : Po) (k : Nat) : conv f g k = zero := by
  induction k generalizing f with
  | zero => rw [conv0, hf, Cx.zero_mul]
  | succ k ih => rw [convS, hf, Cx.zero_mul, ih (f := tl f) (fun k => hf _), Cx.zero_add]
theorem conv_px_l (f g : Po) (k : Nat) : conv (px f) g k = px (conv f g) k := by
  cases k with
  | zero => rw [conv0]; exact Cx.zero_mul _
  | succ k => rw [convS, show px f 0 = zero from rfl, Cx.zero_mul, Cx.zero_add]; rfl
theorem conv_pc_l (c : Cx) (g : Po) (k : Nat) : conv (pc c) g k = c * g k := by
  cases k with
  | zero => rw [conv0]; rfl
  | succ k => rw [convS, conv_zero_l (f := tl (pc c)) (fun _ => rfl), Cx.add_zero]; rfl
/-- nothing from n on -/
def Sp (n : Nat) (f : Po) : Prop := ∀ k, n ≤ k → f k = zero
theorem Sp.tl {n : Nat} {f : Po} (h : Sp (n + 1) f) : Sp n (tl f) := fun k hk => h (k + 1) (by omega)
theorem Sp.mono {n m : Nat} {f : Po} (h : Sp n f) (hm : n ≤ m) : Sp m f := fun k hk => h k (by omega)
theorem Sp.conv {n m : Nat} {f g : Po} (hf : Sp (n + 1) f) (hg : Sp (m + 1) g) : Sp (n + m + 1) (conv f g) := by
  intro k hk
  induction k generalizing n f with
  | zero => omega
  | succ k ih =>
    rw [convS]
    cases n with
    | zero => rw [hg (k + 1) (by omega), Cx.mul_zero, conv_zero_l (f := Go.Ab.tl f) (fun k => hf (k + 1) (by omega)), Cx.zero_add]
    | succ n => rw [hg (k + 1) (by omega), Cx.mul_zero, ih hf.tl (by omega), Cx.zero_add]
theorem Sp.conv0 {n : Nat} {f g : Po} (hf : Sp 0 f) : Sp n (Go.Ab.conv f g) := fun k _ => conv_zero_l (fun k => hf k (Nat.zero_le _)) g k
/-! values -/
def ev : Nat → Po → Cx → Cx
  | 0, _, _ => zero
  | n + 1, f, z => ev n (tl f) z * z + f 0
theorem ev0 (f : Po) (z : Cx) : ev 0 f z = zero := by rw [ev]
theorem evS (n : Nat) (f : Po) (z : Cx) : ev (n + 1) f z = ev n (tl f) z * z + f 0 := by rw [ev]
/-! even places, odd places, the mirror -/
/-! roots squared -/
end Go.Ab

/-! degrees, steps, products from roots -/
set_option linter.unusedVariables false
set_option linter.unusedSimpArgs false
namespace Go.Ab
open Cx

instance : DecidableEq Cx := fun a b => if h : a.re = b.re ∧ a.im = b.im then isTrue (Cx.ext' h.1 h.2) else isFalse (fun e => h ⟨by rw [e], by rw [e]⟩)
theorem Sp.pc (c : Cx) : Sp 1 (pc c) := fun k hk => by
  match k, hk with
  | k + 1, _ => rfl
end Go.Ab

/-! parted by z - r; shifted; derived; scaled -/
set_option linter.unusedVariables false
set_option linter.unusedSimpArgs false
namespace Go.Ab
open Cx

def dp (i : Nat) (f : Po) : Po := fun k => f (k + i)
theorem dp0 (f : Po) : dp 0 f = f := rfl
theorem tl_dp (i : Nat) (f : Po) : tl (dp i f) = dp (i + 1) f := by funext k; show f (k + 1 + i) = f (k + (i + 1)); congr 1; omega
end Go.Ab

/-! a product, row by row; how great what is computed is -/
set_option linter.unusedVariables false
set_option linter.unusedSimpArgs false
namespace Go.Ab
open Cx

def mono (i : Nat) (c : Cx) : Po := fun k => if k = i then c else zero
/-- the first i coefficients -/
def cutP (i : Nat) (f : Po) : Po := fun k => if k < i then f k else zero
theorem mono_S (i : Nat) (c : Cx) : mono (i + 1) c = px (mono i c) := by
  funext k
  cases k with
  | zero => show (if 0 = i + 1 then c else zero) = zero; rw [if_neg (by omega)]
  | succ k => show (if k + 1 = i + 1 then c else zero) = if k = i then c else zero; simp
theorem mono_0 (c : Cx) : mono 0 c = pc c := by
  funext k
  cases k with
  | zero => rfl
  | succ k => show (if k + 1 = 0 then c else zero) = zero; rw [if_neg (by omega)]
theorem conv_mono (i : Nat) (c : Cx) (g : Po) (s : Nat) : conv (mono i c) g s = if i ≤ s then c * g (s - i) else zero := by
  induction i generalizing s with
  | zero => rw [mono_0, conv_pc_l, if_pos (Nat.zero_le s), Nat.sub_zero]
  | succ i ih =>
    rw [mono_S, conv_px_l]
    cases s with
    | zero => rw [if_neg (by omega)]; rfl
    | succ s => show conv (mono i c) g s = _; rw [ih, Nat.add_sub_add_right]; simp
theorem cutP_S (i : Nat) (f : Po) : cutP (i + 1) f = padd (cutP i f) (mono i (f i)) := by
  funext k
  show (if k < i + 1 then f k else zero) = (if k < i then f k else zero) + (if k = i then f i else zero)
  rcases Nat.lt_trichotomy k i with h | h | h
  · rw [if_pos (by omega), if_pos h, if_neg (by omega), Cx.add_zero]
  · subst h; rw [if_pos (by omega), if_neg (by omega), if_pos rfl, Cx.zero_add]
  · rw [if_neg (by omega), if_neg (by omega), if_neg (by omega), Cx.add_zero]
theorem cutP_0 (f : Po) : cutP 0 f = pz := by funext k; show (if k < 0 then f k else zero) = zero; rw [if_neg (by omega)]
theorem cutP_sp {n : Nat} {f : Po} (h : Sp n f) : cutP n f = f := by
  funext k
  show (if k < n then f k else zero) = f k
  split
  · rfl
  · rw [h k (by omega)]
theorem pz_z (k : Nat) : pz k = zero := rfl
/-- from the top down: what Horner's way has after the top k -/
theorem ev_dp (n : Nat) (f : Po) (z : Cx) (i : Nat) : ev (n + 1) (dp i f) z = ev n (dp (i + 1) f) z * z + f i := by
  rw [evS, tl_dp]; show _ + f (0 + i) = _; rw [Nat.zero_add]
end Go.Ab

/-! how great coefficients and values are -/
set_option linter.unusedVariables false
set_option linter.unusedSimpArgs false
namespace Go.Ab
open Cx

def CB (z : Cx) (B : Nat) : Prop := DB z.re B ∧ DB z.im B
theorem CB.mono {z : Cx} {B C : Nat} (h : CB z B) (hC : B ≤ C) : CB z C := ⟨h.1.mono hC, h.2.mono hC⟩
theorem CB.zero (B : Nat) : CB Cx.zero B := ⟨DB.zero B, DB.zero B⟩
theorem CB.neg {z : Cx} {B : Nat} (h : CB z B) : CB (-z) B := ⟨h.1.neg, h.2.neg⟩
theorem CB.add {z w : Cx} {B : Nat} (h : CB z B) (g : CB w B) : CB (z + w) (B + 1) := ⟨h.1.add g.1, h.2.add g.2⟩
theorem CB.sub {z w : Cx} {B : Nat} (h : CB z B) (g : CB w B) : CB (z - w) (B + 1) := ⟨h.1.sub g.1, h.2.sub g.2⟩
theorem CB.mul {z w : Cx} {B C : Nat} (h : CB z B) (g : CB w C) : CB (z * w) (B + C + 1) := ⟨(h.1.mul g.1).sub (h.2.mul g.2), (h.1.mul g.2).add (h.2.mul g.1)⟩
theorem DB.one {B : Nat} (h : 1 ≤ B) : DB 1 B := DB.mono (B := 1) ⟨2, by decide, by decide⟩ h
theorem CB.one {B : Nat} (h : 1 ≤ B) : CB Cx.one B := ⟨DB.one h, DB.zero B⟩
def PB (f : Po) (B : Nat) : Prop := ∀ i, CB (f i) B
theorem PB.mono {f : Po} {B C : Nat} (h : PB f B) (hC : B ≤ C) : PB f C := fun i => (h i).mono hC
theorem PB.neg {f : Po} {B : Nat} (h : PB f B) : PB (pneg f) B := fun i => (h i).neg
theorem PB.tl {f : Po} {B : Nat} (h : PB f B) : PB (tl f) B := fun i => h (i + 1)
theorem PB.px {f : Po} {B : Nat} (h : PB f B) : PB (px f) B := fun i => by cases i with | zero => exact CB.zero B | succ i => exact h i
theorem PB.add {f g : Po} {B : Nat} (h : PB f B) (h' : PB g B) : PB (padd f g) (B + 1) := fun i => (h i).add (h' i)
theorem PB.sub {f g : Po} {B : Nat} (h : PB f B) (h' : PB g B) : PB (psub f g) (B + 1) := fun i => (h i).sub (h' i)
theorem PB.cut {f : Po} {B : Nat} (h : PB f B) (n : Nat) : PB (cutP n f) B := fun i => by unfold cutP; split; exact h i; exact CB.zero B
theorem CB.ev {f : Po} {z : Cx} {B C : Nat} (h : PB f B) (hz : CB z C) (n : Nat) : CB (ev n f z) (n * (C + 2) + B) := by
  induction n generalizing f with
  | zero => rw [ev0]; exact CB.zero _
  | succ n ih =>
    rw [evS]
    have h1 := ((ih h.tl).mul hz).add ((h 0).mono (C := n * (C + 2) + B + C + 1) (by omega))
    exact h1.mono (by rw [Nat.succ_mul]; omega)
theorem CB.mono_conv {f g : Po} {B C : Nat} (h : PB f B) (h' : PB g C) (i s : Nat) : CB (conv (Go.Ab.mono i (f i)) g s) (B + C + 1) := by
  rw [conv_mono]
  split
  · exact (h i).mul (h' _)
  · exact CB.zero _
theorem PB.conv_cut {f g : Po} {B C : Nat} (h : PB f B) (h' : PB g C) (i : Nat) : PB (conv (cutP i f) g) (B + C + 1 + i) := by
  induction i with
  | zero => intro s; rw [cutP_0, conv_zero_l pz_z]; exact CB.zero _
  | succ i ih =>
    intro s
    rw [cutP_S, conv_add_l]
    exact (ih s).add ((CB.mono_conv h h' i s).mono (C := B + C + 1 + i) (by omega))
theorem PB.conv {f g : Po} {n B C : Nat} (h : PB f B) (h' : PB g C) (hs : Sp n f) : PB (conv f g) (B + C + 1 + n) := by
  have := PB.conv_cut h h' n
  rwa [cutP_sp hs] at this
/-- with what is less the higher the place -/
def WB (f : Po) (K C : Nat) : Prop := ∀ i, ∃ B, CB (f i) B ∧ (f i = Cx.zero ∨ B + i * C ≤ K)
theorem WB.dp {f : Po} {K C : Nat} (h : WB f K C) (j : Nat) (n : Nat) {z : Cx} (hz : CB z C) : ev n (dp j f) z = Cx.zero ∨ ∃ B, CB (ev n (dp j f) z) B ∧ B + j * C ≤ K + 2 * n := by
  induction n generalizing j with
  | zero => exact .inl (ev0 _ _)
  | succ n ih =>
    rw [ev_dp]
    obtain ⟨B0, b1, b2⟩ := h j
    rcases ih (j + 1) with e | ⟨B, hb, hB⟩
    · rw [e, Cx.zero_mul, Cx.zero_add]
      rcases b2 with b2 | b2
      · exact .inl b2
      · exact .inr ⟨B0, b1, by omega⟩
    · right
      have h2 := hb.mul hz
      have hj : (j + 1) * C = j * C + C := Nat.succ_mul j C
      rcases b2 with b2 | b2
      · exact ⟨B + C + 1, by rw [b2, Cx.add_zero]; exact h2, by omega⟩
      · have h3 := (h2.mono (Nat.le_max_left (B + C + 1) B0)).add (b1.mono (Nat.le_max_right (B + C + 1) B0))
        exact ⟨_, h3, by omega⟩
theorem WB.ev {f : Po} {K C : Nat} (h : WB f K C) (n : Nat) {z : Cx} (hz : CB z C) : CB (ev n f z) (K + 2 * n) := by
  rcases h.dp 0 n hz with e | ⟨B, hb, hB⟩
  · rw [dp0] at e; rw [e]; exact CB.zero _
  · rw [dp0] at hb; exact hb.mono (by omega)
theorem WB.mono {f : Po} {K L C : Nat} (h : WB f K C) (hL : K ≤ L) : WB f L C := fun i => by
  obtain ⟨B, h1, h2⟩ := h i
  rcases h2 with h2 | h2
  · exact ⟨B, h1, .inl h2⟩
  · exact ⟨B, h1, .inr (by omega)⟩
end Go.Ab

/-! products from roots; values tell a polynomial; shifted, parted, scaled -/
set_option linter.unusedVariables false
set_option linter.unusedSimpArgs false
namespace Go.Ab
open Cx (zero one)

/-- times 2 to the power of k -/
def two (k : Int) : Cx := ⟨dv 1 k, 0⟩
end Go.Ab
