/- Contracts of layer 14 (pellet.Far, others, Test, Any, Inside), Pellet's theorem over rational complex numbers, and PelletSure's own contract. -/
import Derived.Test.YtdkdpebfnddfpaaGreatDoorRC
import Derived.Test.YtdkdpebfnddfpaaGreatDoorDM
set_option linter.unusedVariables false
set_option maxRecDepth 20000
set_option linter.unusedSimpArgs false
set_option linter.unusedSectionVars false
namespace Go.Ab
structure Rc where
  re : Rat
  im : Rat
namespace Rc
theorem ext' {x y : Rc} (h1 : x.re = y.re) (h2 : x.im = y.im) : x = y := by cases x; cases y; simp_all
instance : Add Rc := ⟨fun x y => ⟨x.re + y.re, x.im + y.im⟩⟩
instance : Mul Rc := ⟨fun x y => ⟨x.re * y.re - x.im * y.im, x.re * y.im + x.im * y.re⟩⟩
def zero : Rc := ⟨0, 0⟩
def one : Rc := ⟨1, 0⟩
def neg (x : Rc) : Rc := ⟨-x.re, -x.im⟩
/-- the square of how far it is -/
def nq (x : Rc) : Rat := x.re * x.re + x.im * x.im
theorem add_re (x y : Rc) : (x + y).re = x.re + y.re := rfl
theorem add_im (x y : Rc) : (x + y).im = x.im + y.im := rfl
theorem mul_re (x y : Rc) : (x * y).re = x.re * y.re - x.im * y.im := rfl
theorem mul_im (x y : Rc) : (x * y).im = x.re * y.im + x.im * y.re := rfl
theorem nq_mul (x y : Rc) : nq (x * y) = nq x * nq y := by unfold nq; rw [mul_re, mul_im]; grind
theorem sq_nn (a : Rat) : 0 ≤ a * a := by
  rcases Rat.le_total (a := 0) (b := a) with h | h
  · exact Rat.mul_nonneg h h
  · have : 0 ≤ (-a) * (-a) := Rat.mul_nonneg (by grind) (by grind)
    grind
theorem nq_nn (x : Rc) : 0 ≤ nq x := by
  have h1 := sq_nn x.re
  have h2 := sq_nn x.im
  unfold nq; grind
theorem le_of_sq {a b : Rat} (hb : 0 ≤ b) (h : a * a ≤ b * b) : a ≤ b := by
  refine Rat.not_lt.1 (fun g => ?_)
  have h1 : b * b < a * a := by
    have e1 : 0 < (a - b) * (a + b) := Rat.mul_pos (by grind) (by grind)
    grind
  grind
theorem mul_le2 {a b c d : Rat} (ha : 0 ≤ a) (hc : 0 ≤ c) (h1 : a ≤ b) (h2 : c ≤ d) : a * c ≤ b * d := by
  have e1 : 0 ≤ (b - a) * c := Rat.mul_nonneg (by grind) hc
  have e2 : 0 ≤ b * (d - c) := Rat.mul_nonneg (by grind) (by grind)
  grind
theorem nq_add {x y : Rc} {X Y : Rat} (hX : 0 ≤ X) (hY : 0 ≤ Y) (hx : nq x ≤ X * X) (hy : nq y ≤ Y * Y) : nq (x + y) ≤ (X + Y) * (X + Y) := by
  have h1 : (x.re * y.re + x.im * y.im) * (x.re * y.re + x.im * y.im) ≤ nq x * nq y := by
    have := sq_nn (x.re * y.im - x.im * y.re)
    unfold nq; grind
  have h2 : nq x * nq y ≤ X * X * (Y * Y) := mul_le2 (nq_nn x) (nq_nn y) hx hy
  have h3 : x.re * y.re + x.im * y.im ≤ X * Y := le_of_sq (Rat.mul_nonneg hX hY) (by grind)
  unfold nq at *
  rw [add_re, add_im]
  grind
theorem cring {x y : Rc} (h1 : x.re = y.re) (h2 : x.im = y.im) : x = y := ext' h1 h2
theorem zero_re : zero.re = 0 := rfl
theorem zero_im : zero.im = 0 := rfl
theorem one_re : one.re = 1 := rfl
theorem one_im : one.im = 0 := rfl
theorem add_c (x y : Rc) : x + y = y + x := cring (by simp only [add_re]; grind) (by simp only [add_im]; grind)
theorem add_z (x : Rc) : x + zero = x := cring (by simp only [add_re, zero_re]; grind) (by simp only [add_im, zero_im]; grind)
theorem z_add (x : Rc) : zero + x = x := by rw [add_c, add_z]
theorem mul_z (x : Rc) : x * zero = zero := cring (by simp only [mul_re, zero_re, zero_im]; grind) (by simp only [mul_im, zero_re, zero_im]; grind)
theorem z_mul (x : Rc) : zero * x = zero := cring (by simp only [mul_re, zero_re, zero_im]; grind) (by simp only [mul_im, zero_re, zero_im]; grind)
theorem one_m (x : Rc) : one * x = x := cring (by simp only [mul_re, one_re, one_im]; grind) (by simp only [mul_im, one_re, one_im]; grind)
theorem nq_zero : nq zero = 0 := by unfold nq; rw [zero_re, zero_im]; grind
theorem nq_eq0 {x : Rc} (h : nq x ≤ 0) : x = zero := by
  have h1 := sq_nn x.re
  have h2 := sq_nn x.im
  unfold nq at h
  have e1 : x.re * x.re = 0 := by grind
  have e2 : x.im * x.im = 0 := by grind
  refine cring ?_ ?_
  · rcases Rat.mul_eq_zero.1 e1 with q | q <;> exact q
  · rcases Rat.mul_eq_zero.1 e2 with q | q <;> exact q
def inv (x : Rc) : Rc := ⟨x.re / nq x, -x.im / nq x⟩
theorem mul_inv {x : Rc} (h : nq x ≠ 0) (y : Rc) : x * (inv x * y) = y := by
  have e : x.re * x.re + x.im * x.im ≠ 0 := h
  refine cring ?_ ?_
  · simp only [mul_re, mul_im, inv]; unfold nq; grind
  · simp only [mul_re, mul_im, inv]; unfold nq; grind
theorem nq_inv {x : Rc} (h : nq x ≠ 0) : nq (inv x) * nq x = 1 := by
  have := nq_mul x (inv x * one)
  rw [mul_inv h] at this
  have e1 : nq one = 1 := by unfold nq; rw [one_re, one_im]; grind
  rw [nq_mul, e1] at this
  grind

/-! series and linear factors -/
def d0 : Nat → Rc := fun l => match l with | 0 => one | _ + 1 => zero
def fac (u : Rc × Rc) (f : Nat → Rc) : Nat → Rc := fun l => match l with | 0 => u.1 * f 0 | l + 1 => u.1 * f (l + 1) + u.2 * f l
def facs : List (Rc × Rc) → (Nat → Rc) → Nat → Rc
  | [], f => f
  | u :: L, f => fac u (facs L f)
theorem fac_comm (u v : Rc × Rc) (f : Nat → Rc) : fac u (fac v f) = fac v (fac u f) := by
  funext l
  match l with
  | 0 => exact cring (by simp only [fac, mul_re, mul_im]; grind) (by simp only [fac, mul_re, mul_im]; grind)
  | 1 => exact cring (by simp only [fac, add_re, add_im, mul_re, mul_im]; grind) (by simp only [fac, add_re, add_im, mul_re, mul_im]; grind)
  | l + 2 => exact cring (by simp only [fac, add_re, add_im, mul_re, mul_im]; grind) (by simp only [fac, add_re, add_im, mul_re, mul_im]; grind)
theorem facs_fac (u : Rc × Rc) (f : Nat → Rc) : ∀ L, facs L (fac u f) = fac u (facs L f)
  | [] => rfl
  | v :: L => by
    show fac v (facs L (fac u f)) = fac u (fac v (facs L f))
    rw [facs_fac u f L, fac_comm]
theorem facs_split (p : Rc × Rc → Bool) (f : Nat → Rc) : ∀ L, facs L f = facs (L.filter (fun u => !p u)) (facs (L.filter p) f)
  | [] => rfl
  | u :: L => by
    show fac u (facs L f) = _
    rw [facs_split p f L]
    cases h : p u
    · have e1 : (u :: L).filter (fun u => !p u) = u :: L.filter (fun u => !p u) := by simp [h]
      have e2 : (u :: L).filter p = L.filter p := by simp [h]
      rw [e1, e2]
      rfl
    · have e1 : (u :: L).filter (fun u => !p u) = L.filter (fun u => !p u) := by simp [h]
      have e2 : (u :: L).filter p = u :: L.filter p := by simp [h]
      rw [e1, e2]
      show _ = facs _ (fac u (facs _ f))
      rw [facs_fac]
theorem facs_deg : ∀ (L : List (Rc × Rc)) (l : Nat), L.length < l → facs L d0 l = zero
  | [], l, h => by
    match l, h with
    | l + 1, _ => rfl
  | u :: L, l, h => by
    match l, h with
    | l + 1, h =>
      have h' : L.length < l := by simpa using h
      show u.1 * facs L d0 (l + 1) + u.2 * facs L d0 l = zero
      rw [facs_deg L (l + 1) (by omega), facs_deg L l h', mul_z, mul_z, add_z]
theorem facs_0 {f : Nat → Rc} (h : f 0 = zero) : ∀ L, facs L f 0 = zero
  | [] => h
  | u :: L => by
    show u.1 * facs L f 0 = zero
    rw [facs_0 h L, mul_z]
/-- times a power -/
def sh (j : Nat) (f : Nat → Rc) (l : Nat) : Rc := if j ≤ l then f (l - j) else zero
/-- a polynomial's first terms, times a series -/
def act (a : Nat → Rc) (f : Nat → Rc) : Nat → Nat → Rc
  | 0, _ => zero
  | j + 1, l => act a f j l + a j * sh j f l
def up1 (g : Nat → Rc) : Nat → Rc := fun l => match l with | 0 => zero | l + 1 => g l
theorem sh_up (j : Nat) (f : Nat → Rc) (l : Nat) : sh (j + 1) f l = up1 (sh j f) l := by
  match l with
  | 0 => exact if_neg (by omega)
  | l + 1 =>
    show (if j + 1 ≤ l + 1 then f (l + 1 - (j + 1)) else zero) = if j ≤ l then f (l - j) else zero
    by_cases h : j ≤ l
    · rw [if_pos h, if_pos (by omega), show l + 1 - (j + 1) = l - j by omega]
    · rw [if_neg h, if_neg (by omega)]
theorem act_fac (u : Rc × Rc) (a f : Nat → Rc) (l : Nat) : ∀ N, act (fac u a) f (N + 1) l = u.1 * act a f (N + 1) l + u.2 * up1 (act a f N) l
  | 0 => by
    have e : up1 (act a f 0) l = zero := by cases l <;> rfl
    show zero + u.1 * a 0 * sh 0 f l = u.1 * (zero + a 0 * sh 0 f l) + u.2 * up1 (act a f 0) l
    rw [e, mul_z, add_z, z_add, z_add]
    exact cring (by simp only [mul_re, mul_im]; grind) (by simp only [mul_re, mul_im]; grind)
  | N + 1 => by
    have ih := act_fac u a f l N
    have e : up1 (act a f (N + 1)) l = up1 (act a f N) l + a N * sh (N + 1) f l := by
      rw [sh_up]
      cases l
      · show zero = zero + a N * zero
        rw [mul_z, add_z]
      · rfl
    show act (fac u a) f (N + 1) l + (u.1 * a (N + 1) + u.2 * a N) * sh (N + 1) f l = u.1 * (act a f (N + 1) l + a (N + 1) * sh (N + 1) f l) + u.2 * up1 (act a f (N + 1)) l
    rw [ih, e]
    exact cring (by simp only [add_re, add_im, mul_re, mul_im]; grind) (by simp only [add_re, add_im, mul_re, mul_im]; grind)
theorem act_d0 (f : Nat → Rc) (l : Nat) : ∀ N, act d0 f (N + 1) l = f l
  | 0 => by
    show zero + one * (if 0 ≤ l then f (l - 0) else zero) = f l
    rw [if_pos (Nat.zero_le _), one_m, z_add]; rfl
  | N + 1 => by
    show act d0 f (N + 1) l + zero * sh (N + 1) f l = f l
    rw [act_d0 f l N, z_mul, add_z]
theorem act_facs (f : Nat → Rc) : ∀ (L : List (Rc × Rc)) (N l : Nat), L.length < N → act (facs L d0) f N l = facs L f l
  | [], N, l, h => by
    match N, h with
    | N + 1, _ => exact act_d0 f l N
  | u :: L, N, l, h => by
    match N, h with
    | N + 1, h =>
      have h' : L.length < N := by simpa using h
      show act (fac u (facs L d0)) f (N + 1) l = fac u (facs L f) l
      rw [act_fac]
      have e : ∀ l, act (facs L d0) f (N + 1) l = act (facs L d0) f N l := fun l => by
        show act (facs L d0) f N l + facs L d0 N * sh N f l = _
        rw [facs_deg L N h', z_mul, add_z]
      rw [e, act_facs f L N l h']
      cases l with
      | zero => show u.1 * facs L f 0 + u.2 * zero = u.1 * facs L f 0; rw [mul_z, add_z]
      | succ l => show u.1 * facs L f (l + 1) + u.2 * act (facs L d0) f N l = _; rw [act_facs f L N l h']; rfl
/-! sizes -/
def usum (U : Nat → Rat) (k : Nat) : Nat → Rat
  | 0 => 0
  | j + 1 => if j = k then usum U k j else usum U k j + U j
def actx (a f : Nat → Rc) (k : Nat) : Nat → Nat → Rc
  | 0, _ => zero
  | j + 1, l => if j = k then actx a f k j l else actx a f k j l + a j * sh j f l
theorem usum_nn {U : Nat → Rat} (h : ∀ j, 0 ≤ U j) (k : Nat) : ∀ N, 0 ≤ usum U k N
  | 0 => by unfold usum; grind
  | j + 1 => by
    have := usum_nn h k j
    have := h j
    unfold usum
    split <;> grind
theorem act_x (a f : Nat → Rc) (k l : Nat) : ∀ N, (N ≤ k → act a f N l = actx a f k N l) ∧ (k < N → act a f N l = actx a f k N l + a k * sh k f l)
  | 0 => ⟨fun _ => rfl, fun h => absurd h (Nat.not_lt_zero _)⟩
  | j + 1 => by
    obtain ⟨h1, h2⟩ := act_x a f k l j
    constructor
    · intro h
      show act a f j l + a j * sh j f l = if j = k then _ else _
      rw [if_neg (by omega), h1 (by omega)]
    · intro h
      show act a f j l + a j * sh j f l = (if j = k then _ else _) + _
      by_cases e : j = k
      · rw [if_pos e, h1 (by omega), e]
      · rw [if_neg e, h2 (by omega)]
        exact cring (by simp only [add_re]; grind) (by simp only [add_im]; grind)
theorem actx_le {a f : Nat → Rc} {U : Nat → Rat} {C : Rat} (hU : ∀ j, 0 ≤ U j) (ha : ∀ j, nq (a j) ≤ U j * U j) (hC : 0 ≤ C) (hf : ∀ i, nq (f i) ≤ C * C) (k l : Nat) : ∀ N, nq (actx a f k N l) ≤ usum U k N * C * (usum U k N * C)
  | 0 => by
    show nq zero ≤ 0 * C * (0 * C)
    rw [nq_zero]; grind
  | j + 1 => by
    have ih := actx_le hU ha hC hf k l j
    have hs : nq (sh j f l) ≤ C * C := by
      unfold sh
      split
      · exact hf _
      · rw [nq_zero]; exact sq_nn C
    have ht : nq (a j * sh j f l) ≤ U j * C * (U j * C) := by
      rw [nq_mul]
      have := mul_le2 (nq_nn (a j)) (nq_nn (sh j f l)) (ha j) hs
      grind
    unfold actx usum
    split
    · exact ih
    · have h1 := Rat.mul_nonneg (usum_nn hU k j) hC
      have h2 := Rat.mul_nonneg (hU j) hC
      have := nq_add h1 h2 ih ht
      grind
/-- powers of what is less than one -/
def pw (q : Rat) : Nat → Rat
  | 0 => 1
  | t + 1 => q * pw q t
theorem pw_nn {q : Rat} (h : 0 ≤ q) : ∀ t, 0 ≤ pw q t
  | 0 => by unfold pw; grind
  | t + 1 => Rat.mul_nonneg h (pw_nn h t)
theorem pw_le {q : Rat} (h0 : 0 ≤ q) (h1 : q ≤ 1) : ∀ t : Nat, pw q t * (1 + (t : Rat) * (1 - q)) ≤ 1
  | 0 => by unfold pw; grind
  | t + 1 => by
    have ih := pw_le h0 h1 t
    have hp := pw_nn h0 t
    have ht : (0 : Rat) ≤ (t : Rat) := by exact_mod_cast Nat.zero_le t
    have e : ((t + 1 : Nat) : Rat) = (t : Rat) + 1 := by push_cast; rfl
    have h2 : 0 ≤ (1 - q) * (1 - q) * ((t : Rat) + 1) := Rat.mul_nonneg (sq_nn _) (by grind)
    have h3 : 0 ≤ pw q t * ((1 - q) * (1 - q) * ((t : Rat) + 1)) := Rat.mul_nonneg hp h2
    show q * pw q t * (1 + ((t + 1 : Nat) : Rat) * (1 - q)) ≤ 1
    rw [e]
    grind
theorem arch (x : Rat) : ∃ t : Nat, x < (t : Rat) := by
  refine ⟨(x.floor + 1).toNat, ?_⟩
  have h := Rat.lt_floor_add_one x
  have h2 : ((x.floor + 1 : Int) : Rat) ≤ (((x.floor + 1).toNat : Int) : Rat) := Rat.intCast_le_intCast.2 (by omega)
  have h3 : (((x.floor + 1).toNat : Int) : Rat) = ((x.floor + 1).toNat : Rat) := rfl
  grind
theorem pw_small {q B e : Rat} (h0 : 0 ≤ q) (h1 : q < 1) (he : 0 < e) : ∃ t, pw q t * B < e := by
  have hd : 0 < e * (1 - q) := Rat.mul_pos he (by grind)
  obtain ⟨t, ht⟩ := arch (B / (e * (1 - q)))
  refine ⟨t, ?_⟩
  have hp := pw_nn h0 t
  have hl := pw_le h0 (by grind) t
  have hb : B ≤ (t : Rat) * (e * (1 - q)) := by
    have : B / (e * (1 - q)) * (e * (1 - q)) = B := Rat.div_mul_cancel (by grind)
    have : 0 ≤ ((t : Rat) - B / (e * (1 - q))) * (e * (1 - q)) := Rat.mul_nonneg (by grind) (by grind)
    grind
  by_cases z : pw q t = 0
  · rw [z]; grind
  · have h2 : 0 ≤ pw q t * ((t : Rat) * (e * (1 - q)) - B) := Rat.mul_nonneg hp (by grind)
    have h3 : 0 ≤ e * (1 - pw q t * (1 + (t : Rat) * (1 - q))) := Rat.mul_nonneg (by grind) (by grind)
    have h4 : 0 < e * pw q t := Rat.mul_pos he (by grind)
    grind
theorem low {x : Rat} (hx : 0 < x) : ∃ l, 0 < l ∧ l * l ≤ x := by
  by_cases h : x ≤ 1
  · exact ⟨x, hx, by have := Rat.mul_nonneg (show 0 ≤ x by grind) (show 0 ≤ 1 - x by grind); grind⟩
  · exact ⟨1, by grind, by grind⟩
/-- what is dominated forces nought -/
theorem dom_zero {a f : Nat → Rc} {U : Nat → Rat} {C K : Rat} {k N : Nat} (hU : ∀ j, 0 ≤ U j) (ha : ∀ j, nq (a j) ≤ U j * U j) (hC : 0 ≤ C) (hf : ∀ i, nq (f i) ≤ C * C) (hk : k < N)
    (hK : usum U k N < K) (hak : K * K ≤ nq (a k)) (h0 : ∀ l, k ≤ l → act a f N l = zero) (i : Nat) : f i = zero := by
  have hu := usum_nn hU k N
  have hK0 : 0 < K := by grind
  obtain ⟨q, hq⟩ : ∃ q, q = usum U k N / K := ⟨_, rfl⟩
  have hqK : q * K = usum U k N := by rw [hq]; exact Rat.div_mul_cancel (by grind)
  have hq0 : 0 ≤ q := by
    refine Rat.not_lt.1 (fun g => ?_)
    have : 0 < (-q) * K := Rat.mul_pos (by grind) hK0
    grind
  have hq1 : q < 1 := by
    refine Rat.not_le.1 (fun g => ?_)
    have : 0 ≤ (q - 1) * K := Rat.mul_nonneg (by grind) (by grind)
    grind
  have key : ∀ D, 0 ≤ D → (∀ i, nq (f i) ≤ D * D) → ∀ i, nq (f i) ≤ q * D * (q * D) := fun D hD hfD i => by
    have h1 := (act_x a f k (i + k) N).2 hk
    rw [h0 (i + k) (by omega)] at h1
    have e1 : sh k f (i + k) = f i := by unfold sh; rw [if_pos (by omega), Nat.add_sub_cancel]
    rw [e1] at h1
    have h2 : nq (a k * f i) = nq (actx a f k N (i + k)) := by
      have r := congrArg Rc.re h1
      have m := congrArg Rc.im h1
      rw [add_re, zero_re] at r
      rw [add_im, zero_im] at m
      unfold nq
      have r2 : (a k * f i).re = -(actx a f k N (i + k)).re := by grind
      have m2 : (a k * f i).im = -(actx a f k N (i + k)).im := by grind
      rw [r2, m2]; grind
    have h3 := actx_le hU ha hD hfD k (i + k) N
    rw [← h2, nq_mul, ← hqK] at h3
    have h4 : K * K * nq (f i) ≤ nq (a k) * nq (f i) := mul_le2 (sq_nn K) (nq_nn _) hak (by grind)
    refine Rat.not_lt.1 (fun g => ?_)
    have h5 : 0 < K * K * (nq (f i) - q * D * (q * D)) := Rat.mul_pos (Rat.mul_pos hK0 hK0) (by grind)
    grind
  have iter : ∀ t, ∀ i, nq (f i) ≤ pw q t * C * (pw q t * C) := fun t => by
    induction t with
    | zero => intro i; have := hf i; unfold pw; grind
    | succ t ih =>
      intro i
      have := key (pw q t * C) (Rat.mul_nonneg (pw_nn hq0 t) hC) ih i
      unfold pw
      grind
  refine nq_eq0 (Rat.not_lt.1 (fun g => ?_))
  obtain ⟨e, he, hee⟩ := low g
  obtain ⟨t, ht⟩ := pw_small (B := C) hq0 hq1 he
  have h1 := iter t i
  have h2 := Rat.mul_nonneg (pw_nn hq0 t) hC
  have h3 : 0 < (e - pw q t * C) * (e + pw q t * C) := Rat.mul_pos (by grind) (by grind)
  grind
/-! a bounded inverse -/
def ivs (u : Rc × Rc) (g : Nat → Rc) : Nat → Rc
  | 0 => inv u.1 * g 0
  | l + 1 => inv u.1 * (g (l + 1) + neg (u.2 * ivs u g l))
theorem ivs_fac {u : Rc × Rc} (h : nq u.1 ≠ 0) (g : Nat → Rc) : fac u (ivs u g) = g := by
  funext l
  match l with
  | 0 => exact mul_inv h _
  | l + 1 =>
    show u.1 * (inv u.1 * (g (l + 1) + neg (u.2 * ivs u g l))) + u.2 * ivs u g l = g (l + 1)
    rw [mul_inv h]
    exact cring (by simp only [add_re, neg]; grind) (by simp only [add_im, neg]; grind)
def good (u : Rc × Rc) : Bool := decide (nq u.2 < nq u.1)
theorem nq_neg (x : Rc) : nq (neg x) = nq x := by unfold nq neg; grind
theorem ivs_bound {u : Rc × Rc} (h : nq u.2 < nq u.1) {g : Nat → Rc} {C : Rat} (hC : 0 ≤ C) (hg : ∀ i, nq (g i) ≤ C * C) : ∃ D, 0 ≤ D ∧ ∀ i, nq (ivs u g i) ≤ D * D := by
  have h0 : 0 < nq u.1 := by have := nq_nn u.2; grind
  have hne : nq u.1 ≠ 0 := by grind
  have hi := nq_inv hne
  -- how far the inverse is, at most
  obtain ⟨l, hl, hll⟩ := low h0
  obtain ⟨s, hs⟩ : ∃ s, s = nq u.2 * nq (inv u.1) := ⟨_, rfl⟩
  have hs0 : 0 ≤ s := by rw [hs]; exact Rat.mul_nonneg (nq_nn _) (nq_nn _)
  have hin : 0 < nq (inv u.1) := by
    refine Rat.not_le.1 (fun q => ?_)
    have := nq_nn (inv u.1)
    have e : nq (inv u.1) = 0 := by grind
    rw [e] at hi
    grind
  have hs1 : s < 1 := by
    have : 0 < (nq u.1 - nq u.2) * nq (inv u.1) := Rat.mul_pos (by grind) hin
    grind
  obtain ⟨r, hr⟩ : ∃ r, r = (1 + s) / 2 := ⟨_, rfl⟩
  have hr0 : 0 ≤ r := by grind
  have hr1 : r < 1 := by grind
  have hrr : s ≤ r * r := by
    have h1 := sq_nn (r - 1)
    have h2 : s = 2 * r - 1 := by rw [hr]; grind
    clear hs hr hi
    rw [h2]
    grind
  obtain ⟨m, hm⟩ : ∃ m, m = 1 / l := ⟨_, rfl⟩
  have hml : m * l = 1 := by rw [hm]; exact Rat.div_mul_cancel (by grind)
  have hm0 : 0 ≤ m := by
    refine Rat.not_lt.1 (fun g => ?_)
    have : 0 < (-m) * l := Rat.mul_pos (by grind) hl
    grind
  have him : nq (inv u.1) ≤ m * m := by
    have h1 : 0 ≤ (nq u.1 - l * l) * nq (inv u.1) * (m * m) := Rat.mul_nonneg (Rat.mul_nonneg (by grind) (by grind)) (sq_nn m)
    have h2 : l * l * (m * m) = 1 := by grind
    have h3 : (nq u.1 - l * l) * nq (inv u.1) * (m * m) = m * m * (nq (inv u.1) * nq u.1) - nq (inv u.1) * (l * l * (m * m)) := by grind
    rw [h3, hi, h2] at h1
    grind
  obtain ⟨D, hD⟩ : ∃ D, D = m * C / (1 - r) := ⟨_, rfl⟩
  have hD1 : D * (1 - r) = m * C := by rw [hD]; exact Rat.div_mul_cancel (by grind)
  have hmC := Rat.mul_nonneg hm0 hC
  have hD0 : 0 ≤ D := by
    refine Rat.not_lt.1 (fun g => ?_)
    have : 0 < (-D) * (1 - r) := Rat.mul_pos (by grind) (by grind)
    grind
  have hst : ∀ i, nq (inv u.1 * g i) ≤ m * C * (m * C) := fun i => by
    rw [nq_mul]
    have := mul_le2 (nq_nn (inv u.1)) (nq_nn (g i)) him (hg i)
    grind
  refine ⟨D, hD0, fun i => ?_⟩
  induction i with
  | zero =>
    have h1 := hst 0
    have h2 : m * C ≤ D := by have := Rat.mul_nonneg hD0 hr0; grind
    have := mul_le2 hmC hmC h2 h2
    show nq (inv u.1 * g 0) ≤ _
    grind
  | succ i ih =>
    have e : ivs u g (i + 1) = inv u.1 * g (i + 1) + inv u.1 * neg (u.2 * ivs u g i) := by
      show inv u.1 * (g (i + 1) + neg (u.2 * ivs u g i)) = _
      exact cring (by simp only [add_re, add_im, mul_re, mul_im]; grind) (by simp only [add_re, add_im, mul_re, mul_im]; grind)
    have h2 : nq (inv u.1 * neg (u.2 * ivs u g i)) ≤ r * D * (r * D) := by
      rw [nq_mul, nq_neg, nq_mul]
      have := mul_le2 hs0 (nq_nn (ivs u g i)) hrr ih
      grind
    have h3 := nq_add hmC (Rat.mul_nonneg hr0 hD0) (hst (i + 1)) h2
    rw [e]
    have h4 : m * C + r * D = D := by grind
    rw [h4] at h3
    exact h3
def solve : List (Rc × Rc) → (Nat → Rc) → Nat → Rc
  | [], g => g
  | u :: L, g => solve L (ivs u g)
theorem solve_ok : ∀ (L : List (Rc × Rc)) (g : Nat → Rc) (C : Rat), 0 ≤ C → (∀ i, nq (g i) ≤ C * C) → (∀ u ∈ L, nq u.2 < nq u.1) → facs L (solve L g) = g ∧ ∃ D, 0 ≤ D ∧ ∀ i, nq (solve L g i) ≤ D * D
  | [], g, C, hC, hg, _ => ⟨rfl, C, hC, hg⟩
  | u :: L, g, C, hC, hg, hL => by
    have hu := hL u (List.mem_cons_self ..)
    obtain ⟨D, hD, hb⟩ := ivs_bound hu hC hg
    obtain ⟨h1, h2⟩ := solve_ok L (ivs u g) D hD hb (fun v hv => hL v (List.mem_cons_of_mem _ hv))
    refine ⟨?_, h2⟩
    show fac u (facs L (solve L (ivs u g))) = g
    rw [h1]
    exact ivs_fac (by have := nq_nn u.2; grind) g
/-- PELLET: what is dominated at a place has no fewer factors that aren't good -/
theorem pellet (L : List (Rc × Rc)) {U : Nat → Rat} {K : Rat} {k : Nat} (hU : ∀ j, 0 ≤ U j) (ha : ∀ j, nq (facs L d0 j) ≤ U j * U j) (hk : k ≤ L.length) (hK : usum U k (L.length + 1) < K) (hak : K * K ≤ nq (facs L d0 k)) :
    k ≤ (L.filter (fun u => !good u)).length := by
  refine Nat.not_lt.1 (fun hlt => ?_)
  have hd : ∀ i, nq (d0 i) ≤ 1 * 1 := fun i => by
    cases i
    · show nq one ≤ _; unfold nq; rw [one_re, one_im]; grind
    · show nq zero ≤ _; rw [nq_zero]; grind
  obtain ⟨h1, C, hC, hb⟩ := solve_ok (L.filter good) d0 1 (by grind) hd (fun u hu => by
    have := (List.mem_filter.1 hu).2
    exact of_decide_eq_true this)
  have h2 := facs_split good (solve (L.filter good) d0) L
  rw [h1] at h2
  have h0 : ∀ l, k ≤ l → act (facs L d0) (solve (L.filter good) d0) (L.length + 1) l = zero := fun l hl => by
    rw [act_facs _ L _ l (by omega), h2]
    exact facs_deg _ l (by omega)
  have hz := dom_zero hU ha hC hb (show k < L.length + 1 by omega) hK hak h0 0
  have := facs_0 hz (L.filter good)
  rw [h1] at this
  have e : (1 : Rat) = 0 := congrArg Rc.re this
  exact absurd e (by decide)
/-! roots on the circle -/
theorem facs_pick {u : Rc × Rc} : ∀ {L : List (Rc × Rc)}, u ∈ L → ∃ L', L'.length + 1 = L.length ∧ ∀ f, facs L f = facs L' (fac u f)
  | v :: M, h => by
    by_cases e : u = v
    · subst e
      exact ⟨M, rfl, fun f => (facs_fac u f M).symm⟩
    · have h2 : u ∈ M := by
        rcases List.mem_cons.1 h with q | q
        · exact absurd q e
        · exact q
      obtain ⟨M', h3, h4⟩ := facs_pick h2
      refine ⟨v :: M', by simp [h3], fun f => ?_⟩
      show fac v (facs M f) = fac v (facs M' (fac u f))
      rw [h4]
theorem facs_local {g : Nat → Rc} {a b : Nat} (hg : ∀ l, a ≤ l → l ≤ b → g l = zero) : ∀ (L : List (Rc × Rc)) (N : Nat), a + L.length ≤ N → N ≤ b → facs L g N = zero
  | [], N, h1, h2 => hg N h1 h2
  | u :: L, N, h1, h2 => by
    have h1' : a + L.length + 1 ≤ N := by simpa [Nat.add_assoc] using h1
    match N, h1', h2 with
    | N + 1, h1', h2 =>
      show u.1 * facs L g (N + 1) + u.2 * facs L g N = zero
      rw [facs_local hg L (N + 1) (by omega) h2, facs_local hg L N (by omega) (by omega), mul_z, mul_z, add_z]
def rpw (r : Rc) : Nat → Rc
  | 0 => one
  | i + 1 => r * rpw r i
theorem nq_one : nq one = 1 := by unfold nq; rw [one_re, one_im]; grind
theorem nq_rpw {r : Rc} (h : nq r = 1) : ∀ i, nq (rpw r i) = 1
  | 0 => nq_one
  | i + 1 => by show nq (r * rpw r i) = 1; rw [nq_mul, h, nq_rpw h i]; grind
def rf (r : Rc) : Rc × Rc := (neg r, one)
theorem pellet_none {L : List (Rc × Rc)} {U : Nat → Rat} {K : Rat} {k : Nat} (hU : ∀ j, 0 ≤ U j) (ha : ∀ j, nq (facs L d0 j) ≤ U j * U j) (hk : k ≤ L.length) (hK : usum U k (L.length + 1) < K) (hak : K * K ≤ nq (facs L d0 k)) (r : Rc) (hr : rf r ∈ L) : nq r ≠ 1 := fun h1 => by
  obtain ⟨L', e1, e2⟩ := facs_pick hr
  obtain ⟨f, hf⟩ : ∃ f : Nat → Rc, f = fun i => if i ≤ L.length then rpw r (L.length - i) else zero := ⟨_, rfl⟩
  have hb : ∀ i, nq (f i) ≤ 1 * 1 := fun i => by
    rw [hf]
    show nq (if i ≤ L.length then rpw r (L.length - i) else zero) ≤ _
    split
    · rw [nq_rpw h1]; grind
    · rw [nq_zero]; grind
  have hz : ∀ l, 1 ≤ l → l ≤ L.length → fac (rf r) f l = zero := fun l h h' => by
    match l, h with
    | l + 1, _ =>
      show neg r * f (l + 1) + one * f l = zero
      rw [hf]
      show neg r * (if l + 1 ≤ L.length then rpw r (L.length - (l + 1)) else zero) + one * (if l ≤ L.length then rpw r (L.length - l) else zero) = zero
      rw [if_pos h', if_pos (by omega), show L.length - l = (L.length - (l + 1)) + 1 by omega]
      show neg r * rpw r (L.length - (l + 1)) + one * (r * rpw r (L.length - (l + 1))) = zero
      exact cring (by simp only [neg, add_re, mul_re, mul_im, one_re, one_im, zero_re]; grind) (by simp only [neg, add_im, mul_re, mul_im, one_re, one_im, zero_im]; grind)
  have h0 : act (facs L d0) f (L.length + 1) L.length = zero := by
    rw [act_facs _ L _ _ (by omega), e2]
    exact facs_local hz L' L.length (by omega) (Nat.le_refl _)
  have h2 := (act_x (facs L d0) f k L.length (L.length + 1)).2 (by omega)
  rw [h0] at h2
  have e3 : sh k f L.length = rpw r k := by
    unfold sh
    rw [if_pos hk, hf]
    show (if L.length - k ≤ L.length then rpw r (L.length - (L.length - k)) else zero) = _
    rw [if_pos (by omega), show L.length - (L.length - k) = k by omega]
  rw [e3] at h2
  have h3 := actx_le hU ha (show (0 : Rat) ≤ 1 by grind) hb k L.length (L.length + 1)
  have h4 : nq (facs L d0 k * rpw r k) = nq (actx (facs L d0) f k (L.length + 1) L.length) := by
    have x := congrArg Rc.re h2
    have m := congrArg Rc.im h2
    rw [add_re, zero_re] at x
    rw [add_im, zero_im] at m
    unfold nq
    have r2 : (facs L d0 k * rpw r k).re = -(actx (facs L d0) f k (L.length + 1) L.length).re := by grind
    have m2 : (facs L d0 k * rpw r k).im = -(actx (facs L d0) f k (L.length + 1) L.length).im := by grind
    rw [r2, m2]; grind
  rw [← h4, nq_mul, nq_rpw h1] at h3
  have hu := usum_nn hU k (L.length + 1)
  have h5 : 0 < (K - usum U k (L.length + 1)) * (K + usum U k (L.length + 1)) := Rat.mul_pos (by grind) (by grind)
  grind
/-! the other way round -/
def swp (u : Rc × Rc) : Rc × Rc := (u.2, u.1)
theorem facs_rev : ∀ (L : List (Rc × Rc)) (j : Nat), j ≤ L.length → facs (L.map swp) d0 j = facs L d0 (L.length - j)
  | [], j, h => by
    have : j = 0 := by simpa using h
    subst this
    rfl
  | u :: L, j, h => by
    have hl : (u :: L).length = L.length + 1 := rfl
    have hm : (L.map swp).length = L.length := List.length_map ..
    rw [hl] at h ⊢
    show fac (swp u) (facs (L.map swp) d0) j = fac u (facs L d0) (L.length + 1 - j)
    match j, h with
    | 0, _ =>
      show u.2 * facs (L.map swp) d0 0 = u.1 * facs L d0 (L.length + 1) + u.2 * facs L d0 L.length
      rw [facs_rev L 0 (Nat.zero_le _), facs_deg L (L.length + 1) (by omega), mul_z, z_add]
      rfl
    | j + 1, h =>
      show u.2 * facs (L.map swp) d0 (j + 1) + u.1 * facs (L.map swp) d0 j = _
      rw [facs_rev L j (by omega)]
      by_cases e : j = L.length
      · subst e
        rw [facs_deg (L.map swp) (L.length + 1) (by omega), mul_z, z_add, show L.length + 1 - (L.length + 1) = 0 by omega, Nat.sub_self]
        rfl
      · rw [facs_rev L (j + 1) (by omega), show L.length + 1 - (j + 1) = (L.length - (j + 1)) + 1 by omega]
        show _ = u.1 * facs L d0 (L.length - (j + 1) + 1) + u.2 * facs L d0 (L.length - (j + 1))
        rw [add_c, show L.length - (j + 1) + 1 = L.length - j by omega]
def tot (U : Nat → Rat) : Nat → Rat
  | 0 => 0
  | j + 1 => tot U j + U j
theorem tot_usum (U : Nat → Rat) (k : Nat) : ∀ N, (N ≤ k → usum U k N = tot U N) ∧ (k < N → tot U N = usum U k N + U k)
  | 0 => ⟨fun _ => rfl, fun h => absurd h (Nat.not_lt_zero _)⟩
  | j + 1 => by
    obtain ⟨h1, h2⟩ := tot_usum U k j
    constructor
    · intro h
      show (if j = k then _ else usum U k j + U j) = tot U j + U j
      rw [if_neg (by omega), h1 (by omega)]
    · intro h
      show tot U j + U j = (if j = k then usum U k j else usum U k j + U j) + U k
      by_cases e : j = k
      · rw [if_pos e, h1 (by omega), e]
      · rw [if_neg e, h2 (by omega)]; grind
theorem tot_succ (U : Nat → Rat) : ∀ n, tot U (n + 1) = U 0 + tot (fun j => U (j + 1)) n
  | 0 => by show (0 : Rat) + U 0 = U 0 + 0; grind
  | n + 1 => by
    have ih := tot_succ U n
    show tot U (n + 1) + U (n + 1) = U 0 + (tot (fun j => U (j + 1)) n + U (n + 1))
    rw [ih]; grind
theorem tot_congr {U V : Nat → Rat} : ∀ n, (∀ j, j < n → U j = V j) → tot U n = tot V n
  | 0, _ => rfl
  | n + 1, h => by
    show tot U n + U n = tot V n + V n
    rw [tot_congr n (fun j hj => h j (by omega)), h n (by omega)]
theorem tot_rev (U : Nat → Rat) : ∀ n, tot (fun j => U (n - j)) (n + 1) = tot U (n + 1)
  | 0 => rfl
  | n + 1 => by
    rw [tot_succ]
    have e : tot (fun j => U (n + 1 - (j + 1))) (n + 1) = tot (fun j => U (n - j)) (n + 1) := tot_congr _ (fun j hj => by show U _ = U _; congr 1; omega)
    show U (n + 1 - 0) + tot (fun j => U (n + 1 - (j + 1))) (n + 1) = tot U (n + 1) + U (n + 1)
    rw [e, tot_rev U n, Nat.sub_zero]
    grind
/-- PELLET: what is dominated at a place has just as many roots within the circle, and none on it -/
theorem pellet_count (rs : List Rc) {U : Nat → Rat} {K : Rat} {k : Nat} (hU : ∀ j, 0 ≤ U j) (ha : ∀ j, nq (facs (rs.map rf) d0 j) ≤ U j * U j) (hk : k ≤ rs.length) (hK : usum U k (rs.length + 1) < K) (hak : K * K ≤ nq (facs (rs.map rf) d0 k)) :
    (rs.filter (fun r => decide (nq r < 1))).length = k ∧ ∀ r ∈ rs, nq r ≠ 1 := by
  have hl : (rs.map rf).length = rs.length := List.length_map ..
  have none : ∀ r ∈ rs, nq r ≠ 1 := fun r hr => pellet_none hU ha (by rw [hl]; exact hk) (by rw [hl]; exact hK) hak r (List.mem_map_of_mem hr)
  refine ⟨?_, none⟩
  have h1 := pellet (rs.map rf) hU ha (by rw [hl]; exact hk) (by rw [hl]; exact hK) hak
  rw [List.filter_map, List.length_map] at h1
  have e1 : rs.filter ((fun u => !good u) ∘ rf) = rs.filter (fun r => decide (nq r < 1)) := by
    refine List.filter_congr (fun r hr => ?_)
    have hn := none r hr
    show (!decide (nq one < nq (neg r))) = decide (nq r < 1)
    rw [nq_one, nq_neg]
    by_cases g : nq r < 1
    · rw [decide_eq_true g, decide_eq_false (by grind)]; rfl
    · rw [decide_eq_false g, decide_eq_true (by grind)]; rfl
  rw [e1] at h1
  -- the other way round
  obtain ⟨V, hV⟩ : ∃ V : Nat → Rat, V = fun j => if j ≤ rs.length then U (rs.length - j) else 0 := ⟨_, rfl⟩
  have hV0 : ∀ j, 0 ≤ V j := fun j => by
    rw [hV]; show 0 ≤ (if j ≤ rs.length then U (rs.length - j) else 0)
    split
    · exact hU _
    · grind
  have hlm : ((rs.map rf).map swp).length = rs.length := by rw [List.length_map, List.length_map]
  have hVa : ∀ j, nq (facs ((rs.map rf).map swp) d0 j) ≤ V j * V j := fun j => by
    rw [hV]; show _ ≤ (if j ≤ rs.length then U (rs.length - j) else 0) * (if j ≤ rs.length then U (rs.length - j) else 0)
    by_cases h : j ≤ rs.length
    · rw [if_pos h, facs_rev _ j (by rw [hl]; exact h), hl]; exact ha _
    · rw [if_neg h, facs_deg _ j (by rw [hlm]; omega), nq_zero]; grind
  have eV : usum V (rs.length - k) (rs.length + 1) = usum U k (rs.length + 1) := by
    have a1 := (tot_usum V (rs.length - k) (rs.length + 1)).2 (by omega)
    have a2 := (tot_usum U k (rs.length + 1)).2 (by omega)
    have a3 : tot V (rs.length + 1) = tot (fun j => U (rs.length - j)) (rs.length + 1) := tot_congr _ (fun j hj => by rw [hV]; show (if j ≤ rs.length then U (rs.length - j) else 0) = _; rw [if_pos (by omega)])
    have a4 := tot_rev U rs.length
    have a5 : V (rs.length - k) = U k := by rw [hV]; show (if rs.length - k ≤ rs.length then U (rs.length - (rs.length - k)) else 0) = _; rw [if_pos (by omega)]; congr 1; omega
    grind
  have h2 := pellet ((rs.map rf).map swp) (k := rs.length - k) hV0 hVa (by rw [hlm]; omega) (by rw [hlm, eV]; exact hK) (by rw [facs_rev _ _ (by rw [hl]; omega), hl, show rs.length - (rs.length - k) = k by omega]; exact hak)
  rw [List.map_map, List.filter_map, List.length_map] at h2
  have e2 : rs.filter ((fun u => !good u) ∘ (swp ∘ rf)) = rs.filter (fun r => !decide (nq r < 1)) := by
    refine List.filter_congr (fun r hr => ?_)
    show (!decide (nq (neg r) < nq one)) = !decide (nq r < 1)
    rw [nq_one, nq_neg]
  rw [e2] at h2
  have h3 : ∀ (p : Rc → Bool) (l : List Rc), (l.filter p).length + (l.filter (fun r => !p r)).length = l.length := fun p l => by
    induction l with
    | nil => rfl
    | cons a l ih =>
      cases h : p a
      · have q1 : (a :: l).filter p = l.filter p := by simp [h]
        have q2 : (a :: l).filter (fun r => !p r) = a :: l.filter (fun r => !p r) := by simp [h]
        rw [q1, q2, List.length_cons, List.length_cons]; omega
      · have q1 : (a :: l).filter p = a :: l.filter p := by simp [h]
        have q2 : (a :: l).filter (fun r => !p r) = l.filter (fun r => !p r) := by simp [h]
        rw [q1, q2, List.length_cons, List.length_cons]; omega
  have h4 := h3 (fun r => decide (nq r < 1)) rs
  omega
end Rc
end Go.Ab
namespace Go.Ab
open Go.Proofs
open Cx (zero one)
attribute [-go_sem] appF newsF
variable {a b : AV} {z w : Cx} {B C n m d : Nat} {cs ds : List AV} {f g : Po}

/-- the norm -/
def nrm (z : Cx) : Dyadic := z.re * z.re + z.im * z.im
/-- how far a point is -/
def far (z : Cx) (P : Nat) (up : Bool) : Dyadic := droot (nrm z) P up
/-- how far all but one are -/
def osum (f : Po) (k : Int) (P : Nat) (up : Bool) : Nat → Dyadic
  | 0 => 0
  | i + 1 => if (i : Int) = k then osum f k P up i else osum f k P up i + far (f i) P up
theorem nrm_db (h : CB z B) : DB (nrm z) (B + B + 1) := (h.1.mul h.1).add (h.2.mul h.2)
theorem droot_0 {x : Dyadic} (h : dnum x ≤ 0) (P : Nat) (up : Bool) : droot x P up = 0 := if_pos h
theorem gnorm_r (hz : RC a z B) (hB : B ≤ 9000) : Sat CT false 31 [a] (DI (nrm z)) := by
  refine sat_of gauss_Norm.ok (by simp) ?_
  have DD := gauss_Norm.dr
  simp only [drP, drPx, drPt, drR, drS, drT, bodyOf, Tryz.f31, Nat.reduceEqDiff, reduceIte, true_and, and_true] at DD
  unfold nrm
  obtain ⟨n, l, e, m, k, g, rfl, h1, h2⟩ := hz
  have u1 := dmul_r h1 h1 (by omega) (by omega)
  have u2 := dmul_r h2 h2 (by omega) (by omega)
  have u3 := dadd_r (RD_D (h1.db.mul h1.db)) (RD_D (h2.db.mul h2.db)) (by omega) (by omega)
  simp -implicitDefEqProofs only [go_sem, Nat.reduceAdd, Nat.reduceEqDiff, Nat.reduceLT, reduceIte, reduceCtorEq, Int.reduceLE, Int.reduceLT, Int.reduceEq, Int.reduceAdd, Int.reduceMul, Int.reduceSub, Nat.reduceMul, Nat.reduceSub, Nat.reducePow, Nat.reduceLeDiff, Int.reduceToNat, Tryz.f31, DD]
  refine callK_q dyad_Mul.call (u1) rfl rfl ?_
  simp -implicitDefEqProofs only [go_sem, Nat.reduceAdd, Nat.reduceEqDiff, Nat.reduceLT, reduceIte, reduceCtorEq, Int.reduceLE, Int.reduceLT, Int.reduceEq, Int.reduceAdd, Int.reduceMul, Int.reduceSub, Nat.reduceMul, Nat.reduceSub, Nat.reducePow, Nat.reduceLeDiff, Int.reduceToNat, DD]
  refine callK_q dyad_Mul.call (u2) rfl rfl ?_
  simp -implicitDefEqProofs only [go_sem, Nat.reduceAdd, Nat.reduceEqDiff, Nat.reduceLT, reduceIte, reduceCtorEq, Int.reduceLE, Int.reduceLT, Int.reduceEq, Int.reduceAdd, Int.reduceMul, Int.reduceSub, Nat.reduceMul, Nat.reduceSub, Nat.reducePow, Nat.reduceLeDiff, Int.reduceToNat, DD]
  refine callK_q dyad_Add.call (u3) rfl rfl ?_
  simp -implicitDefEqProofs only [go_sem, Nat.reduceAdd, Nat.reduceEqDiff, Nat.reduceLT, reduceIte, reduceCtorEq, Int.reduceLE, Int.reduceLT, Int.reduceEq, Int.reduceAdd, Int.reduceMul, Int.reduceSub, Nat.reduceMul, Nat.reduceSub, Nat.reducePow, Nat.reduceLeDiff, Int.reduceToNat, DD]
/-- nought's cells, as they are at first -/
def zc3 : List AV := [Bo false, .v (.slice none 0 0), I64 0]
def dcl (d : Dyadic) : List AV := [Bo (decide (dnum d < 0)), U32 (lim (dnum d).natAbs), I64 (dexp d)]
theorem z0a : decide (dnum (0 : Dyadic) < 0) = false := rfl
theorem z0b : lim (dnum (0 : Dyadic)).natAbs = [] := by rw [dn0]; exact lim_zero
/-- whether the place is told for sure, what is told of a place -/
def tYes (f : Po) (d : Nat) (k P : Nat) : Prop := 0 < dsg (far (f k) P false - osum f k P true d)
def tNo (f : Po) (d : Nat) (k P : Nat) : Prop := dsg (far (f k) P true - osum f k P false d) ≤ 0
theorem pl3 {a b c : AV} (h : PlD a) (g : PlD b) (i : PlD c) : ∀ x ∈ [a, b, c], PlD x := fun x hx => by
  rcases List.mem_cons.1 hx with rfl | hx
  · exact h
  · exact pl2 g i x hx
theorem pl4 {a b c d : AV} (h : PlD a) (g : PlD b) (i : PlD c) (j : PlD d) : ∀ x ∈ [a, b, c, d], PlD x := fun x hx => by
  rcases List.mem_cons.1 hx with rfl | hx
  · exact h
  · exact pl3 g i j x hx
/-- which place is told: the first one for sure -/
def aYes (f : Po) (d : Nat) (k P : Nat) : Prop := 0 < dsg (far (f k) P false - (osum f (-1) P true d - far (f k) P true))

theorem droot_numB {a P n k : Nat} {ex : Int} (ha : a ≤ 10000) (hex : ex.natAbs ≤ 5000) (hP : P ≤ 400) (hn : n ≤ 2 * P + 7) (h1 : P < k) (h2 : k ≤ a + n + 2) :
    ((ex - n) / 2 - 1 + (k - P : Nat)).natAbs ≤ 13799 := by omega
theorem droot_dbB {x : Dyadic} {P : Nat} (h0 : 0 < dnum x) (hbx : bl (dnum x).natAbs ≤ 10000) (hex : (dexp x).natAbs ≤ 5000) (hP1 : 1 ≤ P) (hP : P ≤ 400) (up : Bool) : DB (droot x P up) 14200 := by
  obtain ⟨_, _, f3, f4⟩ := droot_to h0 hP1 up rfl rfl
  have hn := (rbitsN_ok (A := (dnum x).natAbs) (P := P) (ex := dexp x)).2.2
  have hr := RF_bits (s := false) f3 up
  unfold droot
  rw [if_neg (Int.not_le.2 h0)]
  exact DB.rawL (L := 401) (E := 13799) (Lt2.mono hr (by omega)) (droot_numB hbx hex hP hn f3 f4) (by decide)
theorem far_dbB (h : CB z B) (hB : B ≤ 2450) {P : Nat} (hP1 : 1 ≤ P) (hP : P ≤ 400) (up : Bool) : DB (far z P up) 14200 := by
  unfold far
  have hn := nrm_db h
  by_cases q : dnum (nrm z) ≤ 0
  · rw [droot_0 q]; exact DB.zero _
  · exact droot_dbB (Int.not_le.1 q) (Nat.le_trans (bl_B hn) (by omega)) (Nat.le_trans hn.num.2 (by omega)) hP1 hP up
theorem osum_dbB (h : PB f B) (hB : B ≤ 2450) (k : Int) {P : Nat} (hP1 : 1 ≤ P) (hP : P ≤ 400) (up : Bool) : ∀ i, DB (osum f k P up i) (14200 + i)
  | 0 => DB.zero _
  | i + 1 => by
    have ih := osum_dbB h hB k hP1 hP up i
    unfold osum
    split
    · exact ih.mono (by omega)
    · exact ih.add ((far_dbB (h i) hB hP1 hP up).mono (by omega))
theorem far_sB (hz : RC a z B) (hB : B ≤ 2450) (p m : Int) : Sat CT false 14 [a, I64 p, I64 m] (DI (far z (heldP p) (decide (m = 1)))) := by
  refine sat_of pellet_Far.ok (by simp) ?_
  have DD := pellet_Far.dr
  simp only [drP, drPx, drPt, drR, drS, drT, bodyOf, Tryz.f14, Nat.reduceEqDiff, reduceIte, true_and, and_true] at DD
  have g1 := gnorm_r hz (by omega)
  have hn := (nrm_db hz.cb).mono (C := 5000) (by omega)
  obtain ⟨n, l, e, m', k, g, rfl, h1, h2⟩ := hz
  by_cases q : dnum (nrm z) ≤ 0
  · have r1 := qroot_n (RD_D hn) q (by decide) p m
    rw [show far z (heldP p) (decide (m = 1)) = 0 from droot_0 q _ _, DI_0]
    simp -implicitDefEqProofs only [go_sem, Nat.reduceAdd, Nat.reduceEqDiff, Nat.reduceLT, reduceIte, reduceCtorEq, Int.reduceLE, Int.reduceLT, Int.reduceEq, Int.reduceAdd, Int.reduceMul, Int.reduceSub, Nat.reduceMul, Nat.reduceSub, Nat.reducePow, Nat.reduceLeDiff, Int.reduceToNat, Tryz.f14, DD]
    refine callK_q gauss_Norm.call (g1) rfl rfl ?_
    simp -implicitDefEqProofs only [go_sem, Nat.reduceAdd, Nat.reduceEqDiff, Nat.reduceLT, reduceIte, reduceCtorEq, Int.reduceLE, Int.reduceLT, Int.reduceEq, Int.reduceAdd, Int.reduceMul, Int.reduceSub, Nat.reduceMul, Nat.reduceSub, Nat.reducePow, Nat.reduceLeDiff, Int.reduceToNat, DD]
    refine callK_q quot_Root.call (r1) rfl rfl ?_
    simp -implicitDefEqProofs only [go_sem, Nat.reduceAdd, Nat.reduceEqDiff, Nat.reduceLT, reduceIte, reduceCtorEq, Int.reduceLE, Int.reduceLT, Int.reduceEq, Int.reduceAdd, Int.reduceMul, Int.reduceSub, Nat.reduceMul, Nat.reduceSub, Nat.reducePow, Nat.reduceLeDiff, Int.reduceToNat, DD, QZ]
    rfl
  · have r1 := qroot_ok (RD_D hn) (Int.not_le.1 q) (by decide) p m
    rw [show far z (heldP p) (decide (m = 1)) = droot (nrm z) (heldP p) (decide (m = 1)) from rfl]
    simp -implicitDefEqProofs only [go_sem, Nat.reduceAdd, Nat.reduceEqDiff, Nat.reduceLT, reduceIte, reduceCtorEq, Int.reduceLE, Int.reduceLT, Int.reduceEq, Int.reduceAdd, Int.reduceMul, Int.reduceSub, Nat.reduceMul, Nat.reduceSub, Nat.reducePow, Nat.reduceLeDiff, Int.reduceToNat, Tryz.f14, DD]
    refine callK_q gauss_Norm.call (g1) rfl rfl ?_
    simp -implicitDefEqProofs only [go_sem, Nat.reduceAdd, Nat.reduceEqDiff, Nat.reduceLT, reduceIte, reduceCtorEq, Int.reduceLE, Int.reduceLT, Int.reduceEq, Int.reduceAdd, Int.reduceMul, Int.reduceSub, Nat.reduceMul, Nat.reduceSub, Nat.reducePow, Nat.reduceLeDiff, Int.reduceToNat, DD]
    refine callK_q quot_Root.call (r1) rfl rfl ?_
    simp -implicitDefEqProofs only [go_sem, Nat.reduceAdd, Nat.reduceEqDiff, Nat.reduceLT, reduceIte, reduceCtorEq, Int.reduceLE, Int.reduceLT, Int.reduceEq, Int.reduceAdd, Int.reduceMul, Int.reduceSub, Nat.reduceMul, Nat.reduceSub, Nat.reducePow, Nat.reduceLeDiff, Int.reduceToNat, DD]
theorem others_sB (h : RP cs n f B) (hB : B ≤ 2450) (hn : n ≤ 1000) (k p m : Int) (hp : heldP p ≤ 400) : Sat CT false 23 [.sl n cs, I64 k, I64 p, I64 m] (DI (osum f k (heldP p) (decide (m = 1)) n)) := by
  refine sat_of pellet_others.ok (by simp) ?_
  have DD := pellet_others.dr
  simp only [drP, drPx, drPt, drR, drS, drT, bodyOf, Tryz.f23, Nat.reduceEqDiff, reduceIte, true_and, and_true] at DD
  have hlen := h.len
  have hP1 := (heldP_v p).2.2.1
  have hDB := osum_dbB h.pb hB k hP1 hp (decide (m = 1))
  simp -implicitDefEqProofs only [go_sem, Nat.reduceAdd, Nat.reduceEqDiff, Nat.reduceLT, reduceIte, reduceCtorEq, Int.reduceLE, Int.reduceLT, Int.reduceEq, Int.reduceAdd, Int.reduceMul, Int.reduceSub, Nat.reduceMul, Nat.reduceSub, Nat.reducePow, Nat.reduceLeDiff, Int.reduceToNat, Tryz.f23, DD]
  refine scope0 aW0_mono ?_
  simp -implicitDefEqProofs only [go_sem, Nat.reduceAdd, Nat.reduceEqDiff, Nat.reduceLT, reduceIte, reduceCtorEq, Int.reduceLE, Int.reduceLT, Int.reduceEq, Int.reduceAdd, Int.reduceMul, Int.reduceSub, Nat.reduceMul, Nat.reduceSub, Nat.reducePow, Nat.reduceLeDiff, Int.reduceToNat, DD]
  refine loop_of aW0_mono (fun q σ => ∃ sl H i oc, σ = ⟨sl, H⟩ ∧ q = n - i ∧ i ≤ n ∧ look sl 1 = I64 k ∧ look sl 2 = I64 p ∧ look sl 3 = I64 m ∧ look sl 8 = .ptr 0 0 ∧ look sl 9 = .ptr 1 0 ∧ look sl 12 = .sl n cs ∧ look sl 13 = I64 (n : Nat) ∧ look sl 14 = I64 (i : Nat) ∧ 1 < H.length ∧ H.getD 0 ⟨[], false, false⟩ = ⟨zc3, true, true⟩ ∧ H.getD 1 ⟨[], false, false⟩ = ⟨oc, true, true⟩ ∧ (oc = zc3 ∧ osum f k (heldP p) (decide (m = 1)) i = 0 ∨ oc = dcl (osum f k (heldP p) (decide (m = 1)) i))) ?_ (n := n)
    ⟨_, _, 0, zc3, rfl, rfl, Nat.zero_le _, by simp [x_look], by simp [x_look], by simp [x_look], by simp [x_look], by simp [x_look], by simp [x_look], by simp [x_look], by simp [x_look], by simp, rfl, rfl, .inl ⟨rfl, rfl⟩⟩
  rintro q _ ⟨sl, H, i, oc, rfl, rfl, hi, k1, k2, k3, k8, k9, k12, k13, k14, hH, hg0, hg1, ho⟩
  by_cases hid : i = n
  · subst hid
    have gs : ∀ x, (H.set 0 x).getD 0 ⟨[], false, false⟩ = x := fun x => by rw [getD_set (by omega), if_pos rfl]
    rcases ho with ⟨rfl, e0⟩ | rfl
    · rw [e0]
      simp -implicitDefEqProofs only [go_sem, Nat.reduceAdd, Nat.reduceEqDiff, Nat.reduceLT, reduceIte, reduceCtorEq, Int.reduceLE, Int.reduceLT, Int.reduceEq, Int.reduceAdd, Int.reduceMul, Int.reduceSub, Nat.reduceMul, Nat.reduceSub, Nat.reducePow, Nat.reduceLeDiff, Int.reduceToNat, DD, k1, k2, k3, k8, k9, k12, k13, k14, hg0, hg1, Int.lt_irrefl, zc3, gs, z0a, z0b, de0]
      rfl
    · simp -implicitDefEqProofs only [go_sem, Nat.reduceAdd, Nat.reduceEqDiff, Nat.reduceLT, reduceIte, reduceCtorEq, Int.reduceLE, Int.reduceLT, Int.reduceEq, Int.reduceAdd, Int.reduceMul, Int.reduceSub, Nat.reduceMul, Nat.reduceSub, Nat.reducePow, Nat.reduceLeDiff, Int.reduceToNat, DD, k1, k2, k3, k8, k9, k12, k13, k14, hg0, hg1, Int.lt_irrefl, zc3, dcl, gs]
  · have c1 : (i : Int) < (n : Int) := by omega
    have ci : IntKind.i64.wrap ((i : Int) + 1) = ((i + 1 : Nat) : Int) := by rw [wrap_id (by omega)]; omega
    have c2 : (0 : Int) ≤ (i : Int) := by omega
    have c4 : i * 6 < cs.length := by omega
    have c5 : i * 6 + 6 ≤ cs.length := by omega
    obtain ⟨s, l, e, t, kk, gg, hc, hr⟩ := h.cells (i := i) (by omega)
    have f1 := far_sB hr hB p m
    have g0 : ∀ y, (H ++ [y]).getD 0 ⟨[], false, false⟩ = ⟨zc3, true, true⟩ := fun y => by rw [getD_hp (by omega)]; exact hg0
    have g1 : ∀ y, (H ++ [y]).getD 1 ⟨[], false, false⟩ = ⟨oc, true, true⟩ := fun y => by rw [getD_hp hH]; exact hg1
    by_cases hk : (i : Int) = k
    · have eS : osum f k (heldP p) (decide (m = 1)) (i + 1) = osum f k (heldP p) (decide (m = 1)) i := if_pos hk
      subst hk
      simp -implicitDefEqProofs only [go_sem, Nat.reduceAdd, Nat.reduceEqDiff, Nat.reduceLT, reduceIte, reduceCtorEq, Int.reduceLE, Int.reduceLT, Int.reduceEq, Int.reduceAdd, Int.reduceMul, Int.reduceSub, Nat.reduceMul, Nat.reduceSub, Nat.reducePow, Nat.reduceLeDiff, Int.reduceToNat, DD, k1, k2, k3, k8, k9, k12, k13, k14, c1, c2, c4, c5, ci, hc, eq_self]
      exact ⟨n - (i + 1), by omega, _, _, i + 1, oc, rfl, rfl, by omega, by simp [x_look, k1], by simp [x_look, k2], by simp [x_look, k3], by simp [x_look, k8], by simp [x_look, k9], by simp [x_look, k12], by simp [x_look, k13], by simp [x_look], by simp; omega, g0 _, g1 _, by rw [eS]; exact ho⟩
    · have eS : osum f k (heldP p) (decide (m = 1)) (i + 1) = osum f k (heldP p) (decide (m = 1)) i + far (f i) (heldP p) (decide (m = 1)) := if_neg hk
      have a1 := dadd_r (RD_D ((hDB i).mono (C := 15200) (by omega))) (RD_D (far_dbB (h.pb i) hB hP1 hp (decide (m = 1)))) (by decide) (by decide)
      rw [← eS] at a1
      rcases ho with ⟨rfl, e0⟩ | rfl
      · rw [e0, DI_0] at a1
        simp -implicitDefEqProofs only [go_sem, Nat.reduceAdd, Nat.reduceEqDiff, Nat.reduceLT, reduceIte, reduceCtorEq, Int.reduceLE, Int.reduceLT, Int.reduceEq, Int.reduceAdd, Int.reduceMul, Int.reduceSub, Nat.reduceMul, Nat.reduceSub, Nat.reducePow, Nat.reduceLeDiff, Int.reduceToNat, DD, k1, k2, k3, k8, k9, k12, k13, k14, c1, c2, c4, c5, ci, hc, hk, g0, g1, zc3]
        refine callK_q pellet_Far.call (f1) rfl rfl ?_
        simp -implicitDefEqProofs only [go_sem, Nat.reduceAdd, Nat.reduceEqDiff, Nat.reduceLT, reduceIte, reduceCtorEq, Int.reduceLE, Int.reduceLT, Int.reduceEq, Int.reduceAdd, Int.reduceMul, Int.reduceSub, Nat.reduceMul, Nat.reduceSub, Nat.reducePow, Nat.reduceLeDiff, Int.reduceToNat, DD, k1, k2, k3, k8, k9, k12, k13, k14, c1, c2, c4, c5, ci, hc, hk, g0, g1, zc3]
        refine callK_q dyad_Add.call (a1) rfl rfl ?_
        simp -implicitDefEqProofs only [go_sem, Nat.reduceAdd, Nat.reduceEqDiff, Nat.reduceLT, reduceIte, reduceCtorEq, Int.reduceLE, Int.reduceLT, Int.reduceEq, Int.reduceAdd, Int.reduceMul, Int.reduceSub, Nat.reduceMul, Nat.reduceSub, Nat.reducePow, Nat.reduceLeDiff, Int.reduceToNat, DD, k1, k2, k3, k8, k9, k12, k13, k14, c1, c2, c4, c5, ci, hc, hk, g0, g1, zc3]
        exact ⟨n - (i + 1), by omega, _, _, i + 1, _, rfl, rfl, by omega, by simp [x_look, k1], by simp [x_look, k2], by simp [x_look, k3], by simp [x_look, k8], by simp [x_look, k9], by simp [x_look, k12], by simp [x_look, k13], by simp [x_look], by simp <;> omega, by rw [getD_set (by simp <;> omega), if_neg (by decide)]; exact g0 _, by (rw [getD_set (by simp <;> omega), if_pos rfl]) <;> rfl, .inr rfl⟩
      · simp -implicitDefEqProofs only [go_sem, Nat.reduceAdd, Nat.reduceEqDiff, Nat.reduceLT, reduceIte, reduceCtorEq, Int.reduceLE, Int.reduceLT, Int.reduceEq, Int.reduceAdd, Int.reduceMul, Int.reduceSub, Nat.reduceMul, Nat.reduceSub, Nat.reducePow, Nat.reduceLeDiff, Int.reduceToNat, DD, k1, k2, k3, k8, k9, k12, k13, k14, c1, c2, c4, c5, ci, hc, hk, g0, g1, dcl]
        refine callK_q pellet_Far.call (f1) rfl rfl ?_
        simp -implicitDefEqProofs only [go_sem, Nat.reduceAdd, Nat.reduceEqDiff, Nat.reduceLT, reduceIte, reduceCtorEq, Int.reduceLE, Int.reduceLT, Int.reduceEq, Int.reduceAdd, Int.reduceMul, Int.reduceSub, Nat.reduceMul, Nat.reduceSub, Nat.reducePow, Nat.reduceLeDiff, Int.reduceToNat, DD, k1, k2, k3, k8, k9, k12, k13, k14, c1, c2, c4, c5, ci, hc, hk, g0, g1, dcl]
        refine callK_q dyad_Add.call (a1) rfl rfl ?_
        simp -implicitDefEqProofs only [go_sem, Nat.reduceAdd, Nat.reduceEqDiff, Nat.reduceLT, reduceIte, reduceCtorEq, Int.reduceLE, Int.reduceLT, Int.reduceEq, Int.reduceAdd, Int.reduceMul, Int.reduceSub, Nat.reduceMul, Nat.reduceSub, Nat.reducePow, Nat.reduceLeDiff, Int.reduceToNat, DD, k1, k2, k3, k8, k9, k12, k13, k14, c1, c2, c4, c5, ci, hc, hk, g0, g1, dcl]
        exact ⟨n - (i + 1), by omega, _, _, i + 1, _, rfl, rfl, by omega, by simp [x_look, k1], by simp [x_look, k2], by simp [x_look, k3], by simp [x_look, k8], by simp [x_look, k9], by simp [x_look, k12], by simp [x_look, k13], by simp [x_look], by simp <;> omega, by rw [getD_set (by simp <;> omega), if_neg (by decide)]; exact g0 _, by (rw [getD_set (by simp <;> omega), if_pos rfl]) <;> rfl, .inr rfl⟩
theorem test_outB (h : RP cs n f B) (hB : B ≤ 2450) (hcs : ∀ c ∈ cs, IsD c) (k p : Int) (hk : k < 0 ∨ (dg n f : Nat) ≤ k) : Sat CT false 11 [.sl n cs, I64 k, I64 p] (I64 0) := by
  refine sat_of pellet_Test.ok (by simp) ?_
  have DD := pellet_Test.dr
  simp only [drP, drPx, drPt, drR, drS, drT, bodyOf, Tryz.f11, Nat.reduceEqDiff, reduceIte, true_and, and_true] at DD
  have q := ptrim_s h (by omega)
  have hP : PA (dg n f) f = .sl (dg n f) (pcl (dg n f) f) := rfl
  by_cases h0 : k < 0
  · simp -implicitDefEqProofs only [go_sem, Nat.reduceAdd, Nat.reduceEqDiff, Nat.reduceLT, reduceIte, reduceCtorEq, Int.reduceLE, Int.reduceLT, Int.reduceEq, Int.reduceAdd, Int.reduceMul, Int.reduceSub, Nat.reduceMul, Nat.reduceSub, Nat.reducePow, Nat.reduceLeDiff, Int.reduceToNat, Tryz.f11, DD, h0]
    refine callK_pl poly_Trim.call (q) (pl1 (pld_sl hcs)) ?_
    simp -implicitDefEqProofs only [go_sem, Nat.reduceAdd, Nat.reduceEqDiff, Nat.reduceLT, reduceIte, reduceCtorEq, Int.reduceLE, Int.reduceLT, Int.reduceEq, Int.reduceAdd, Int.reduceMul, Int.reduceSub, Nat.reduceMul, Nat.reduceSub, Nat.reducePow, Nat.reduceLeDiff, Int.reduceToNat, DD, h0, hP]
  · have h1 : (dg n f : Int) ≤ k := by omega
    simp -implicitDefEqProofs only [go_sem, Nat.reduceAdd, Nat.reduceEqDiff, Nat.reduceLT, reduceIte, reduceCtorEq, Int.reduceLE, Int.reduceLT, Int.reduceEq, Int.reduceAdd, Int.reduceMul, Int.reduceSub, Nat.reduceMul, Nat.reduceSub, Nat.reducePow, Nat.reduceLeDiff, Int.reduceToNat, Tryz.f11, DD, h0, ge_iff_le]
    refine callK_pl poly_Trim.call (q) (pl1 (pld_sl hcs)) ?_
    simp -implicitDefEqProofs only [go_sem, Nat.reduceAdd, Nat.reduceEqDiff, Nat.reduceLT, reduceIte, reduceCtorEq, Int.reduceLE, Int.reduceLT, Int.reduceEq, Int.reduceAdd, Int.reduceMul, Int.reduceSub, Nat.reduceMul, Nat.reduceSub, Nat.reducePow, Nat.reduceLeDiff, Int.reduceToNat, DD, h0, h1, hP, ge_iff_le]
set_option maxHeartbeats 1000000 in
theorem test_inB (h : RP cs n f B) (hB : B ≤ 2450) (hcs : ∀ c ∈ cs, IsD c) (hn : n ≤ 1000) (k : Nat) (hk : k < dg n f) (p : Int) (hp : heldP p ≤ 400) :
    (tYes f (dg n f) k (heldP p) → Sat CT false 11 [.sl n cs, I64 k, I64 p] (I64 1)) ∧ (¬ tYes f (dg n f) k (heldP p) → tNo f (dg n f) k (heldP p) → Sat CT false 11 [.sl n cs, I64 k, I64 p] (I64 0)) ∧
    (¬ tYes f (dg n f) k (heldP p) → ¬ tNo f (dg n f) k (heldP p) → Sat CT false 11 [.sl n cs, I64 k, I64 p] (I64 2)) := by
  have DD := pellet_Test.dr
  simp only [drP, drPx, drPt, drR, drS, drT, bodyOf, Tryz.f11, Nat.reduceEqDiff, reduceIte, true_and, and_true] at DD
  have hd := dg_le n f
  have q := ptrim_s h (by omega)
  have hP : PA (dg n f) f = .sl (dg n f) (pcl (dg n f) f) := rfl
  have hP1 := (heldP_v p).2.2.1
  have rp : RP (pcl (dg n f) f) (dg n f) f B := RP_P h.pb (dg_sp h.sp) (by omega)
  unfold tYes tNo
  generalize dg n f = d at *
  have c1 : ¬ (k : Int) < 0 := by omega
  have c2 : ¬ (d : Int) ≤ (k : Int) := by omega
  have c3 : (0 : Int) ≤ (k : Int) := by omega
  have c6 : (k : Int) < (d : Int) := by omega
  have c4 : k * 6 < (pcl d f).length := by rw [pcl_len]; omega
  have c5 : k * 6 + 6 ≤ (pcl d f).length := by rw [pcl_len]; omega
  have hc := pcl_el (n := d) f hk
  have hr : RC (CI (f k)) (f k) B := RC_C (h.pb k)
  have f0 := far_sB hr hB p 0
  have f1 := far_sB hr hB p 1
  have o1 := others_sB rp hB (by omega) k p 1 hp
  have o0 := others_sB rp hB (by omega) k p 0 hp
  rw [show decide ((0 : Int) = 1) = false from rfl] at f0 o0
  rw [show decide ((1 : Int) = 1) = true from rfl] at f1 o1
  have b0 := far_dbB (h.pb k) hB hP1 hp false
  have b1 := far_dbB (h.pb k) hB hP1 hp true
  have v1 := (osum_dbB h.pb hB k hP1 hp true d).mono (C := 15200) (by omega)
  have v0 := (osum_dbB h.pb hB k hP1 hp false d).mono (C := 15200) (by omega)
  have k1 := dcmp_r (RD_D b0) (RD_D v1) (by decide) (by decide)
  have k2 := dcmp_r (RD_D b1) (RD_D v0) (by decide) (by decide)
  generalize far (f k) (heldP p) false = x0 at *
  generalize far (f k) (heldP p) true = x1 at *
  generalize osum f k (heldP p) true d = y1 at *
  generalize osum f k (heldP p) false d = y0 at *
  unfold dsg
  refine ⟨fun g1 => ?_, fun g1 g2 => ?_, fun g1 g2 => ?_⟩
  · refine sat_of pellet_Test.ok (by simp) ?_
    simp -implicitDefEqProofs only [go_sem, Nat.reduceAdd, Nat.reduceEqDiff, Nat.reduceLT, reduceIte, reduceCtorEq, Int.reduceLE, Int.reduceLT, Int.reduceEq, Int.reduceAdd, Int.reduceMul, Int.reduceSub, Nat.reduceMul, Nat.reduceSub, Nat.reducePow, Nat.reduceLeDiff, Int.reduceToNat, Tryz.f11, DD, c1, ge_iff_le, gt_iff_lt]
    refine callK_pl poly_Trim.call (q) (pl1 (pld_sl hcs)) ?_
    simp -implicitDefEqProofs only [go_sem, Nat.reduceAdd, Nat.reduceEqDiff, Nat.reduceLT, reduceIte, reduceCtorEq, Int.reduceLE, Int.reduceLT, Int.reduceEq, Int.reduceAdd, Int.reduceMul, Int.reduceSub, Nat.reduceMul, Nat.reduceSub, Nat.reducePow, Nat.reduceLeDiff, Int.reduceToNat, DD, c1, c2, c3, c4, c5, c6, hP, hc, g1, ge_iff_le, gt_iff_lt]
    refine callK_pl pellet_Far.call (f0) (pl3 (pld_CI _) pld_int pld_int) ?_
    simp -implicitDefEqProofs only [go_sem, Nat.reduceAdd, Nat.reduceEqDiff, Nat.reduceLT, reduceIte, reduceCtorEq, Int.reduceLE, Int.reduceLT, Int.reduceEq, Int.reduceAdd, Int.reduceMul, Int.reduceSub, Nat.reduceMul, Nat.reduceSub, Nat.reducePow, Nat.reduceLeDiff, Int.reduceToNat, DD, c1, c2, c3, c4, c5, c6, hP, hc, g1, ge_iff_le, gt_iff_lt]
    refine callK_pl pellet_others.call (o1) (pl4 (pld_PA _ _) pld_int pld_int pld_int) ?_
    simp -implicitDefEqProofs only [go_sem, Nat.reduceAdd, Nat.reduceEqDiff, Nat.reduceLT, reduceIte, reduceCtorEq, Int.reduceLE, Int.reduceLT, Int.reduceEq, Int.reduceAdd, Int.reduceMul, Int.reduceSub, Nat.reduceMul, Nat.reduceSub, Nat.reducePow, Nat.reduceLeDiff, Int.reduceToNat, DD, c1, c2, c3, c4, c5, c6, hP, hc, g1, ge_iff_le, gt_iff_lt]
    refine callK_q dyad_Cmp.call (k1) rfl rfl ?_
    simp -implicitDefEqProofs only [go_sem, Nat.reduceAdd, Nat.reduceEqDiff, Nat.reduceLT, reduceIte, reduceCtorEq, Int.reduceLE, Int.reduceLT, Int.reduceEq, Int.reduceAdd, Int.reduceMul, Int.reduceSub, Nat.reduceMul, Nat.reduceSub, Nat.reducePow, Nat.reduceLeDiff, Int.reduceToNat, DD, c1, c2, c3, c4, c5, c6, hP, hc, g1, ge_iff_le, gt_iff_lt]
  · refine sat_of pellet_Test.ok (by simp) ?_
    simp -implicitDefEqProofs only [go_sem, Nat.reduceAdd, Nat.reduceEqDiff, Nat.reduceLT, reduceIte, reduceCtorEq, Int.reduceLE, Int.reduceLT, Int.reduceEq, Int.reduceAdd, Int.reduceMul, Int.reduceSub, Nat.reduceMul, Nat.reduceSub, Nat.reducePow, Nat.reduceLeDiff, Int.reduceToNat, Tryz.f11, DD, c1, ge_iff_le, gt_iff_lt]
    refine callK_pl poly_Trim.call (q) (pl1 (pld_sl hcs)) ?_
    simp -implicitDefEqProofs only [go_sem, Nat.reduceAdd, Nat.reduceEqDiff, Nat.reduceLT, reduceIte, reduceCtorEq, Int.reduceLE, Int.reduceLT, Int.reduceEq, Int.reduceAdd, Int.reduceMul, Int.reduceSub, Nat.reduceMul, Nat.reduceSub, Nat.reducePow, Nat.reduceLeDiff, Int.reduceToNat, DD, c1, c2, c3, c4, c5, c6, hP, hc, g1, ge_iff_le, gt_iff_lt, g2]
    refine callK_pl pellet_Far.call (f0) (pl3 (pld_CI _) pld_int pld_int) ?_
    simp -implicitDefEqProofs only [go_sem, Nat.reduceAdd, Nat.reduceEqDiff, Nat.reduceLT, reduceIte, reduceCtorEq, Int.reduceLE, Int.reduceLT, Int.reduceEq, Int.reduceAdd, Int.reduceMul, Int.reduceSub, Nat.reduceMul, Nat.reduceSub, Nat.reducePow, Nat.reduceLeDiff, Int.reduceToNat, DD, c1, c2, c3, c4, c5, c6, hP, hc, g1, ge_iff_le, gt_iff_lt, g2]
    refine callK_pl pellet_others.call (o1) (pl4 (pld_PA _ _) pld_int pld_int pld_int) ?_
    simp -implicitDefEqProofs only [go_sem, Nat.reduceAdd, Nat.reduceEqDiff, Nat.reduceLT, reduceIte, reduceCtorEq, Int.reduceLE, Int.reduceLT, Int.reduceEq, Int.reduceAdd, Int.reduceMul, Int.reduceSub, Nat.reduceMul, Nat.reduceSub, Nat.reducePow, Nat.reduceLeDiff, Int.reduceToNat, DD, c1, c2, c3, c4, c5, c6, hP, hc, g1, ge_iff_le, gt_iff_lt, g2]
    refine callK_q dyad_Cmp.call (k1) rfl rfl ?_
    simp -implicitDefEqProofs only [go_sem, Nat.reduceAdd, Nat.reduceEqDiff, Nat.reduceLT, reduceIte, reduceCtorEq, Int.reduceLE, Int.reduceLT, Int.reduceEq, Int.reduceAdd, Int.reduceMul, Int.reduceSub, Nat.reduceMul, Nat.reduceSub, Nat.reducePow, Nat.reduceLeDiff, Int.reduceToNat, DD, c1, c2, c3, c4, c5, c6, hP, hc, g1, ge_iff_le, gt_iff_lt, g2]
    refine callK_pl pellet_Far.call (f1) (pl3 (pld_CI _) pld_int pld_int) ?_
    simp -implicitDefEqProofs only [go_sem, Nat.reduceAdd, Nat.reduceEqDiff, Nat.reduceLT, reduceIte, reduceCtorEq, Int.reduceLE, Int.reduceLT, Int.reduceEq, Int.reduceAdd, Int.reduceMul, Int.reduceSub, Nat.reduceMul, Nat.reduceSub, Nat.reducePow, Nat.reduceLeDiff, Int.reduceToNat, DD, c1, c2, c3, c4, c5, c6, hP, hc, g1, ge_iff_le, gt_iff_lt, g2]
    refine callK_pl pellet_others.call (o0) (pl4 (pld_PA _ _) pld_int pld_int pld_int) ?_
    simp -implicitDefEqProofs only [go_sem, Nat.reduceAdd, Nat.reduceEqDiff, Nat.reduceLT, reduceIte, reduceCtorEq, Int.reduceLE, Int.reduceLT, Int.reduceEq, Int.reduceAdd, Int.reduceMul, Int.reduceSub, Nat.reduceMul, Nat.reduceSub, Nat.reducePow, Nat.reduceLeDiff, Int.reduceToNat, DD, c1, c2, c3, c4, c5, c6, hP, hc, g1, ge_iff_le, gt_iff_lt, g2]
    refine callK_q dyad_Cmp.call (k2) rfl rfl ?_
    simp -implicitDefEqProofs only [go_sem, Nat.reduceAdd, Nat.reduceEqDiff, Nat.reduceLT, reduceIte, reduceCtorEq, Int.reduceLE, Int.reduceLT, Int.reduceEq, Int.reduceAdd, Int.reduceMul, Int.reduceSub, Nat.reduceMul, Nat.reduceSub, Nat.reducePow, Nat.reduceLeDiff, Int.reduceToNat, DD, c1, c2, c3, c4, c5, c6, hP, hc, g1, ge_iff_le, gt_iff_lt, g2]
  · refine sat_of pellet_Test.ok (by simp) ?_
    simp -implicitDefEqProofs only [go_sem, Nat.reduceAdd, Nat.reduceEqDiff, Nat.reduceLT, reduceIte, reduceCtorEq, Int.reduceLE, Int.reduceLT, Int.reduceEq, Int.reduceAdd, Int.reduceMul, Int.reduceSub, Nat.reduceMul, Nat.reduceSub, Nat.reducePow, Nat.reduceLeDiff, Int.reduceToNat, Tryz.f11, DD, c1, ge_iff_le, gt_iff_lt]
    refine callK_pl poly_Trim.call (q) (pl1 (pld_sl hcs)) ?_
    simp -implicitDefEqProofs only [go_sem, Nat.reduceAdd, Nat.reduceEqDiff, Nat.reduceLT, reduceIte, reduceCtorEq, Int.reduceLE, Int.reduceLT, Int.reduceEq, Int.reduceAdd, Int.reduceMul, Int.reduceSub, Nat.reduceMul, Nat.reduceSub, Nat.reducePow, Nat.reduceLeDiff, Int.reduceToNat, DD, c1, c2, c3, c4, c5, c6, hP, hc, g1, ge_iff_le, gt_iff_lt, g2]
    refine callK_pl pellet_Far.call (f0) (pl3 (pld_CI _) pld_int pld_int) ?_
    simp -implicitDefEqProofs only [go_sem, Nat.reduceAdd, Nat.reduceEqDiff, Nat.reduceLT, reduceIte, reduceCtorEq, Int.reduceLE, Int.reduceLT, Int.reduceEq, Int.reduceAdd, Int.reduceMul, Int.reduceSub, Nat.reduceMul, Nat.reduceSub, Nat.reducePow, Nat.reduceLeDiff, Int.reduceToNat, DD, c1, c2, c3, c4, c5, c6, hP, hc, g1, ge_iff_le, gt_iff_lt, g2]
    refine callK_pl pellet_others.call (o1) (pl4 (pld_PA _ _) pld_int pld_int pld_int) ?_
    simp -implicitDefEqProofs only [go_sem, Nat.reduceAdd, Nat.reduceEqDiff, Nat.reduceLT, reduceIte, reduceCtorEq, Int.reduceLE, Int.reduceLT, Int.reduceEq, Int.reduceAdd, Int.reduceMul, Int.reduceSub, Nat.reduceMul, Nat.reduceSub, Nat.reducePow, Nat.reduceLeDiff, Int.reduceToNat, DD, c1, c2, c3, c4, c5, c6, hP, hc, g1, ge_iff_le, gt_iff_lt, g2]
    refine callK_q dyad_Cmp.call (k1) rfl rfl ?_
    simp -implicitDefEqProofs only [go_sem, Nat.reduceAdd, Nat.reduceEqDiff, Nat.reduceLT, reduceIte, reduceCtorEq, Int.reduceLE, Int.reduceLT, Int.reduceEq, Int.reduceAdd, Int.reduceMul, Int.reduceSub, Nat.reduceMul, Nat.reduceSub, Nat.reducePow, Nat.reduceLeDiff, Int.reduceToNat, DD, c1, c2, c3, c4, c5, c6, hP, hc, g1, ge_iff_le, gt_iff_lt, g2]
    refine callK_pl pellet_Far.call (f1) (pl3 (pld_CI _) pld_int pld_int) ?_
    simp -implicitDefEqProofs only [go_sem, Nat.reduceAdd, Nat.reduceEqDiff, Nat.reduceLT, reduceIte, reduceCtorEq, Int.reduceLE, Int.reduceLT, Int.reduceEq, Int.reduceAdd, Int.reduceMul, Int.reduceSub, Nat.reduceMul, Nat.reduceSub, Nat.reducePow, Nat.reduceLeDiff, Int.reduceToNat, DD, c1, c2, c3, c4, c5, c6, hP, hc, g1, ge_iff_le, gt_iff_lt, g2]
    refine callK_pl pellet_others.call (o0) (pl4 (pld_PA _ _) pld_int pld_int pld_int) ?_
    simp -implicitDefEqProofs only [go_sem, Nat.reduceAdd, Nat.reduceEqDiff, Nat.reduceLT, reduceIte, reduceCtorEq, Int.reduceLE, Int.reduceLT, Int.reduceEq, Int.reduceAdd, Int.reduceMul, Int.reduceSub, Nat.reduceMul, Nat.reduceSub, Nat.reducePow, Nat.reduceLeDiff, Int.reduceToNat, DD, c1, c2, c3, c4, c5, c6, hP, hc, g1, ge_iff_le, gt_iff_lt, g2]
    refine callK_q dyad_Cmp.call (k2) rfl rfl ?_
    simp -implicitDefEqProofs only [go_sem, Nat.reduceAdd, Nat.reduceEqDiff, Nat.reduceLT, reduceIte, reduceCtorEq, Int.reduceLE, Int.reduceLT, Int.reduceEq, Int.reduceAdd, Int.reduceMul, Int.reduceSub, Nat.reduceMul, Nat.reduceSub, Nat.reducePow, Nat.reduceLeDiff, Int.reduceToNat, DD, c1, c2, c3, c4, c5, c6, hP, hc, g1, ge_iff_le, gt_iff_lt, g2]
theorem any_sB (h : RP cs n f B) (hB : B ≤ 2450) (hcs : ∀ c ∈ cs, IsD c) (hn : n ≤ 1000) (p : Int) (hp : heldP p ≤ 400) :
    (∀ j, j < dg n f → (∀ i, i < j → ¬ aYes f (dg n f) i (heldP p)) → aYes f (dg n f) j (heldP p) → Sat CT false 8 [.sl n cs, I64 p] (.tup [I64 (j : Nat), Bo true])) ∧
    ((∀ i, i < dg n f → ¬ aYes f (dg n f) i (heldP p)) → Sat CT false 8 [.sl n cs, I64 p] (.tup [I64 (-1), Bo false])) := by
  have DD := pellet_Any.dr
  simp only [drP, drPx, drPt, drR, drS, drT, bodyOf, Tryz.f8, Nat.reduceEqDiff, reduceIte, true_and, and_true] at DD
  have hd := dg_le n f
  have q := ptrim_s h (by omega)
  have hP : PA (dg n f) f = .sl (dg n f) (pcl (dg n f) f) := rfl
  have hP1 := (heldP_v p).2.2.1
  have rp : RP (pcl (dg n f) f) (dg n f) f B := RP_P h.pb (dg_sp h.sp) (by omega)
  unfold aYes dsg
  generalize dg n f = d at *
  have f0 := fun k => far_sB (RC_C (h.pb k)) hB p 0
  have f1 := fun k => far_sB (RC_C (h.pb k)) hB p 1
  have o1 := others_sB rp hB (by omega) (-1) p 1 hp
  rw [show decide ((1 : Int) = 1) = true from rfl] at o1 f1
  rw [show decide ((0 : Int) = 1) = false from rfl] at f0
  have b0 := fun k => far_dbB (h.pb k) hB hP1 hp false
  have b1 := fun k => far_dbB (h.pb k) hB hP1 hp true
  have v1 := (osum_dbB h.pb hB (-1) hP1 hp true d).mono (C := 15200) (by omega)
  generalize osum f (-1) (heldP p) true d = S at *
  have u1 := fun k => dsub_r (RD_D v1) (RD_D (b1 k)) (by decide) (by decide)
  have k1 := fun k => dcmp_r (RD_D (b0 k)) (RD_D (v1.sub ((b1 k).mono (C := 15200) (by decide)))) (by decide) (by decide)
  constructor
  · intro j hj hno hyes
    refine sat_of pellet_Any.ok (by simp) ?_
    simp -implicitDefEqProofs only [go_sem, Nat.reduceAdd, Nat.reduceEqDiff, Nat.reduceLT, reduceIte, reduceCtorEq, Int.reduceLE, Int.reduceLT, Int.reduceEq, Int.reduceAdd, Int.reduceMul, Int.reduceSub, Nat.reduceMul, Nat.reduceSub, Nat.reducePow, Nat.reduceLeDiff, Int.reduceToNat, Tryz.f8, DD]
    refine callK_pl poly_Trim.call (q) (pl1 (pld_sl hcs)) ?_
    simp -implicitDefEqProofs only [go_sem, Nat.reduceAdd, Nat.reduceEqDiff, Nat.reduceLT, reduceIte, reduceCtorEq, Int.reduceLE, Int.reduceLT, Int.reduceEq, Int.reduceAdd, Int.reduceMul, Int.reduceSub, Nat.reduceMul, Nat.reduceSub, Nat.reducePow, Nat.reduceLeDiff, Int.reduceToNat, DD, hP]
    refine callK_pl pellet_others.call (o1) (pl4 (pld_PA _ _) pld_int pld_int pld_int) ?_
    simp -implicitDefEqProofs only [go_sem, Nat.reduceAdd, Nat.reduceEqDiff, Nat.reduceLT, reduceIte, reduceCtorEq, Int.reduceLE, Int.reduceLT, Int.reduceEq, Int.reduceAdd, Int.reduceMul, Int.reduceSub, Nat.reduceMul, Nat.reduceSub, Nat.reducePow, Nat.reduceLeDiff, Int.reduceToNat, DD, hP]
    refine loop_of aW0_mono (fun q σ => ∃ sl H i, σ = ⟨sl, H⟩ ∧ q = d - i ∧ i ≤ j ∧ look sl 1 = I64 p ∧ look sl 6 = .ptr 0 0 ∧ look sl 14 = .sl d (pcl d f) ∧ look sl 15 = I64 (d : Nat) ∧ look sl 16 = I64 (i : Nat) ∧ 0 < H.length ∧ H.getD 0 ⟨[], false, false⟩ = ⟨dcl S, true, true⟩) ?_ (n := d)
      ⟨_, _, 0, rfl, rfl, Nat.zero_le _, by simp [x_look], by simp [x_look], by simp [x_look], by simp [x_look], by simp [x_look], by simp, rfl⟩
    rintro r _ ⟨sl, H, i, rfl, rfl, hi, k1s, k6, k14, k15, k16, hH, hg0⟩
    have c1 : (i : Int) < (d : Int) := by omega
    have ci : IntKind.i64.wrap ((i : Int) + 1) = ((i + 1 : Nat) : Int) := by rw [wrap_id (by omega)]; omega
    have c2 : (0 : Int) ≤ (i : Int) := by omega
    have c4 : i * 6 < (pcl d f).length := by rw [pcl_len]; omega
    have c5 : i * 6 + 6 ≤ (pcl d f).length := by rw [pcl_len]; omega
    have hc := pcl_el (n := d) f (show i < d by omega)
    have g0 : ∀ y, (H ++ [y]).getD 0 ⟨[], false, false⟩ = ⟨dcl S, true, true⟩ := fun y => by rw [getD_hp hH]; exact hg0
    by_cases hij : i = j
    · subst hij
      have hy := hyes
      simp -implicitDefEqProofs only [go_sem, Nat.reduceAdd, Nat.reduceEqDiff, Nat.reduceLT, reduceIte, reduceCtorEq, Int.reduceLE, Int.reduceLT, Int.reduceEq, Int.reduceAdd, Int.reduceMul, Int.reduceSub, Nat.reduceMul, Nat.reduceSub, Nat.reducePow, Nat.reduceLeDiff, Int.reduceToNat, DD, k1s, k6, k14, k15, k16, hP, gt_iff_lt, c1, c2, c4, c5, ci, hc, g0, dcl, hy]
      refine callK_pl pellet_Far.call (f0 i) (pl3 (pld_CI _) pld_int pld_int) ?_
      simp -implicitDefEqProofs only [go_sem, Nat.reduceAdd, Nat.reduceEqDiff, Nat.reduceLT, reduceIte, reduceCtorEq, Int.reduceLE, Int.reduceLT, Int.reduceEq, Int.reduceAdd, Int.reduceMul, Int.reduceSub, Nat.reduceMul, Nat.reduceSub, Nat.reducePow, Nat.reduceLeDiff, Int.reduceToNat, DD, k1s, k6, k14, k15, k16, hP, gt_iff_lt, c1, c2, c4, c5, ci, hc, g0, dcl, hy]
      refine callK_pl pellet_Far.call (f1 i) (pl3 (pld_CI _) pld_int pld_int) ?_
      simp -implicitDefEqProofs only [go_sem, Nat.reduceAdd, Nat.reduceEqDiff, Nat.reduceLT, reduceIte, reduceCtorEq, Int.reduceLE, Int.reduceLT, Int.reduceEq, Int.reduceAdd, Int.reduceMul, Int.reduceSub, Nat.reduceMul, Nat.reduceSub, Nat.reducePow, Nat.reduceLeDiff, Int.reduceToNat, DD, k1s, k6, k14, k15, k16, hP, gt_iff_lt, c1, c2, c4, c5, ci, hc, g0, dcl, hy]
      refine callK_q dyad_Sub.call (u1 i) rfl rfl ?_
      simp -implicitDefEqProofs only [go_sem, Nat.reduceAdd, Nat.reduceEqDiff, Nat.reduceLT, reduceIte, reduceCtorEq, Int.reduceLE, Int.reduceLT, Int.reduceEq, Int.reduceAdd, Int.reduceMul, Int.reduceSub, Nat.reduceMul, Nat.reduceSub, Nat.reducePow, Nat.reduceLeDiff, Int.reduceToNat, DD, k1s, k6, k14, k15, k16, hP, gt_iff_lt, c1, c2, c4, c5, ci, hc, g0, dcl, hy]
      refine callK_q dyad_Cmp.call (k1 i) rfl rfl ?_
      simp -implicitDefEqProofs only [go_sem, Nat.reduceAdd, Nat.reduceEqDiff, Nat.reduceLT, reduceIte, reduceCtorEq, Int.reduceLE, Int.reduceLT, Int.reduceEq, Int.reduceAdd, Int.reduceMul, Int.reduceSub, Nat.reduceMul, Nat.reduceSub, Nat.reducePow, Nat.reduceLeDiff, Int.reduceToNat, DD, k1s, k6, k14, k15, k16, hP, gt_iff_lt, c1, c2, c4, c5, ci, hc, g0, dcl, hy]
    · have hy := hno i (by omega)
      simp -implicitDefEqProofs only [go_sem, Nat.reduceAdd, Nat.reduceEqDiff, Nat.reduceLT, reduceIte, reduceCtorEq, Int.reduceLE, Int.reduceLT, Int.reduceEq, Int.reduceAdd, Int.reduceMul, Int.reduceSub, Nat.reduceMul, Nat.reduceSub, Nat.reducePow, Nat.reduceLeDiff, Int.reduceToNat, DD, k1s, k6, k14, k15, k16, hP, gt_iff_lt, c1, c2, c4, c5, ci, hc, g0, dcl, hy]
      refine callK_pl pellet_Far.call (f0 i) (pl3 (pld_CI _) pld_int pld_int) ?_
      simp -implicitDefEqProofs only [go_sem, Nat.reduceAdd, Nat.reduceEqDiff, Nat.reduceLT, reduceIte, reduceCtorEq, Int.reduceLE, Int.reduceLT, Int.reduceEq, Int.reduceAdd, Int.reduceMul, Int.reduceSub, Nat.reduceMul, Nat.reduceSub, Nat.reducePow, Nat.reduceLeDiff, Int.reduceToNat, DD, k1s, k6, k14, k15, k16, hP, gt_iff_lt, c1, c2, c4, c5, ci, hc, g0, dcl, hy]
      refine callK_pl pellet_Far.call (f1 i) (pl3 (pld_CI _) pld_int pld_int) ?_
      simp -implicitDefEqProofs only [go_sem, Nat.reduceAdd, Nat.reduceEqDiff, Nat.reduceLT, reduceIte, reduceCtorEq, Int.reduceLE, Int.reduceLT, Int.reduceEq, Int.reduceAdd, Int.reduceMul, Int.reduceSub, Nat.reduceMul, Nat.reduceSub, Nat.reducePow, Nat.reduceLeDiff, Int.reduceToNat, DD, k1s, k6, k14, k15, k16, hP, gt_iff_lt, c1, c2, c4, c5, ci, hc, g0, dcl, hy]
      refine callK_q dyad_Sub.call (u1 i) rfl rfl ?_
      simp -implicitDefEqProofs only [go_sem, Nat.reduceAdd, Nat.reduceEqDiff, Nat.reduceLT, reduceIte, reduceCtorEq, Int.reduceLE, Int.reduceLT, Int.reduceEq, Int.reduceAdd, Int.reduceMul, Int.reduceSub, Nat.reduceMul, Nat.reduceSub, Nat.reducePow, Nat.reduceLeDiff, Int.reduceToNat, DD, k1s, k6, k14, k15, k16, hP, gt_iff_lt, c1, c2, c4, c5, ci, hc, g0, dcl, hy]
      refine callK_q dyad_Cmp.call (k1 i) rfl rfl ?_
      simp -implicitDefEqProofs only [go_sem, Nat.reduceAdd, Nat.reduceEqDiff, Nat.reduceLT, reduceIte, reduceCtorEq, Int.reduceLE, Int.reduceLT, Int.reduceEq, Int.reduceAdd, Int.reduceMul, Int.reduceSub, Nat.reduceMul, Nat.reduceSub, Nat.reducePow, Nat.reduceLeDiff, Int.reduceToNat, DD, k1s, k6, k14, k15, k16, hP, gt_iff_lt, c1, c2, c4, c5, ci, hc, g0, dcl, hy]
      exact ⟨d - (i + 1), by omega, _, _, i + 1, rfl, rfl, by omega, by simp [x_look, k1s], by simp [x_look, k6], by simp [x_look, k14], by simp [x_look, k15], by simp [x_look], by simp <;> omega, g0 _⟩
  · intro hno
    refine sat_of pellet_Any.ok (by simp) ?_
    simp -implicitDefEqProofs only [go_sem, Nat.reduceAdd, Nat.reduceEqDiff, Nat.reduceLT, reduceIte, reduceCtorEq, Int.reduceLE, Int.reduceLT, Int.reduceEq, Int.reduceAdd, Int.reduceMul, Int.reduceSub, Nat.reduceMul, Nat.reduceSub, Nat.reducePow, Nat.reduceLeDiff, Int.reduceToNat, Tryz.f8, DD]
    refine callK_pl poly_Trim.call (q) (pl1 (pld_sl hcs)) ?_
    simp -implicitDefEqProofs only [go_sem, Nat.reduceAdd, Nat.reduceEqDiff, Nat.reduceLT, reduceIte, reduceCtorEq, Int.reduceLE, Int.reduceLT, Int.reduceEq, Int.reduceAdd, Int.reduceMul, Int.reduceSub, Nat.reduceMul, Nat.reduceSub, Nat.reducePow, Nat.reduceLeDiff, Int.reduceToNat, DD, hP]
    refine callK_pl pellet_others.call (o1) (pl4 (pld_PA _ _) pld_int pld_int pld_int) ?_
    simp -implicitDefEqProofs only [go_sem, Nat.reduceAdd, Nat.reduceEqDiff, Nat.reduceLT, reduceIte, reduceCtorEq, Int.reduceLE, Int.reduceLT, Int.reduceEq, Int.reduceAdd, Int.reduceMul, Int.reduceSub, Nat.reduceMul, Nat.reduceSub, Nat.reducePow, Nat.reduceLeDiff, Int.reduceToNat, DD, hP]
    refine loop_of aW0_mono (fun q σ => ∃ sl H i, σ = ⟨sl, H⟩ ∧ q = d - i ∧ i ≤ d ∧ look sl 1 = I64 p ∧ look sl 6 = .ptr 0 0 ∧ look sl 14 = .sl d (pcl d f) ∧ look sl 15 = I64 (d : Nat) ∧ look sl 16 = I64 (i : Nat) ∧ 0 < H.length ∧ H.getD 0 ⟨[], false, false⟩ = ⟨dcl S, true, true⟩) ?_ (n := d)
      ⟨_, _, 0, rfl, rfl, Nat.zero_le _, by simp [x_look], by simp [x_look], by simp [x_look], by simp [x_look], by simp [x_look], by simp, rfl⟩
    rintro r _ ⟨sl, H, i, rfl, rfl, hi, k1s, k6, k14, k15, k16, hH, hg0⟩
    by_cases hid : i = d
    · subst hid
      simp -implicitDefEqProofs only [go_sem, Nat.reduceAdd, Nat.reduceEqDiff, Nat.reduceLT, reduceIte, reduceCtorEq, Int.reduceLE, Int.reduceLT, Int.reduceEq, Int.reduceAdd, Int.reduceMul, Int.reduceSub, Nat.reduceMul, Nat.reduceSub, Nat.reducePow, Nat.reduceLeDiff, Int.reduceToNat, DD, k1s, k6, k14, k15, k16, hP, gt_iff_lt, Int.lt_irrefl]
    · skip
      have c1 : (i : Int) < (d : Int) := by omega
      have ci : IntKind.i64.wrap ((i : Int) + 1) = ((i + 1 : Nat) : Int) := by rw [wrap_id (by omega)]; omega
      have c2 : (0 : Int) ≤ (i : Int) := by omega
      have c4 : i * 6 < (pcl d f).length := by rw [pcl_len]; omega
      have c5 : i * 6 + 6 ≤ (pcl d f).length := by rw [pcl_len]; omega
      have hc := pcl_el (n := d) f (show i < d by omega)
      have g0 : ∀ y, (H ++ [y]).getD 0 ⟨[], false, false⟩ = ⟨dcl S, true, true⟩ := fun y => by rw [getD_hp hH]; exact hg0
      have hy := hno i (by omega)
      simp -implicitDefEqProofs only [go_sem, Nat.reduceAdd, Nat.reduceEqDiff, Nat.reduceLT, reduceIte, reduceCtorEq, Int.reduceLE, Int.reduceLT, Int.reduceEq, Int.reduceAdd, Int.reduceMul, Int.reduceSub, Nat.reduceMul, Nat.reduceSub, Nat.reducePow, Nat.reduceLeDiff, Int.reduceToNat, DD, k1s, k6, k14, k15, k16, hP, gt_iff_lt, c1, c2, c4, c5, ci, hc, g0, dcl, hy]
      refine callK_pl pellet_Far.call (f0 i) (pl3 (pld_CI _) pld_int pld_int) ?_
      simp -implicitDefEqProofs only [go_sem, Nat.reduceAdd, Nat.reduceEqDiff, Nat.reduceLT, reduceIte, reduceCtorEq, Int.reduceLE, Int.reduceLT, Int.reduceEq, Int.reduceAdd, Int.reduceMul, Int.reduceSub, Nat.reduceMul, Nat.reduceSub, Nat.reducePow, Nat.reduceLeDiff, Int.reduceToNat, DD, k1s, k6, k14, k15, k16, hP, gt_iff_lt, c1, c2, c4, c5, ci, hc, g0, dcl, hy]
      refine callK_pl pellet_Far.call (f1 i) (pl3 (pld_CI _) pld_int pld_int) ?_
      simp -implicitDefEqProofs only [go_sem, Nat.reduceAdd, Nat.reduceEqDiff, Nat.reduceLT, reduceIte, reduceCtorEq, Int.reduceLE, Int.reduceLT, Int.reduceEq, Int.reduceAdd, Int.reduceMul, Int.reduceSub, Nat.reduceMul, Nat.reduceSub, Nat.reducePow, Nat.reduceLeDiff, Int.reduceToNat, DD, k1s, k6, k14, k15, k16, hP, gt_iff_lt, c1, c2, c4, c5, ci, hc, g0, dcl, hy]
      refine callK_q dyad_Sub.call (u1 i) rfl rfl ?_
      simp -implicitDefEqProofs only [go_sem, Nat.reduceAdd, Nat.reduceEqDiff, Nat.reduceLT, reduceIte, reduceCtorEq, Int.reduceLE, Int.reduceLT, Int.reduceEq, Int.reduceAdd, Int.reduceMul, Int.reduceSub, Nat.reduceMul, Nat.reduceSub, Nat.reducePow, Nat.reduceLeDiff, Int.reduceToNat, DD, k1s, k6, k14, k15, k16, hP, gt_iff_lt, c1, c2, c4, c5, ci, hc, g0, dcl, hy]
      refine callK_q dyad_Cmp.call (k1 i) rfl rfl ?_
      simp -implicitDefEqProofs only [go_sem, Nat.reduceAdd, Nat.reduceEqDiff, Nat.reduceLT, reduceIte, reduceCtorEq, Int.reduceLE, Int.reduceLT, Int.reduceEq, Int.reduceAdd, Int.reduceMul, Int.reduceSub, Nat.reduceMul, Nat.reduceSub, Nat.reducePow, Nat.reduceLeDiff, Int.reduceToNat, DD, k1s, k6, k14, k15, k16, hP, gt_iff_lt, c1, c2, c4, c5, ci, hc, g0, dcl, hy]
      exact ⟨d - (i + 1), by omega, _, _, i + 1, rfl, rfl, by omega, by simp [x_look, k1s], by simp [x_look, k6], by simp [x_look, k14], by simp [x_look, k15], by simp [x_look], by simp <;> omega, g0 _⟩
theorem qcl_lo {n i : Nat} (F : Nat → Raw) (h : i < n) : ((qcl n F).drop (i * 6)).take 3 = [Bo (F i).n, U32 (F i).l, I64 (F i).e] := by
  have := congrArg (List.take 3) (qcl_el F h)
  rw [List.take_take] at this
  exact this
theorem qcl_hi {n i : Nat} (F : Nat → Raw) (h : i < n) : ((qcl n F).drop (i * 6 + 3)).take 3 = [Bo (F i).m, U32 (F i).k, I64 (F i).f] := by
  have := congrArg (List.drop 3) (qcl_el F h)
  rw [List.drop_take, List.drop_drop] at this
  exact this
theorem small14_s (b : Bool) (l : List Nat) (e : Int) : Sat CT false 20 [.agg [Bo b, U32 l, I64 e]] (Bo (decide (l.length ≤ 3 ∧ -200 ≤ e ∧ e ≤ 200))) := by
  refine sat_of annuluslaw14_small.ok (by simp) ?_
  have DD := annuluslaw14_small.dr
  simp only [drP, drPx, drPt, drR, drS, drT, bodyOf, Tryz.f20, Nat.reduceEqDiff, reduceIte, true_and, and_true] at DD
  by_cases h1 : l.length ≤ 3
  · have c1 : (l.length : Int) ≤ 3 := by omega
    by_cases h2 : -200 ≤ e
    · by_cases h3 : e ≤ 200
      · rw [decide_eq_true ⟨h1, h2, h3⟩]
        simp -implicitDefEqProofs only [go_sem, Nat.reduceAdd, Nat.reduceEqDiff, Nat.reduceLT, reduceIte, reduceCtorEq, Int.reduceLE, Int.reduceLT, Int.reduceEq, Int.reduceAdd, Int.reduceMul, Int.reduceSub, Nat.reduceMul, Nat.reduceSub, Nat.reducePow, Nat.reduceLeDiff, Int.reduceToNat, Tryz.f20, DD, x_app, x_ga0, x_gas, x_gan, Int.cast_ofNat_Int, eq_self, Int.zero_lt_one, Bool.not_false, Bool.not_true, beq_self_eq_true, c1, h2, h3]
      · rw [decide_eq_false (fun h => h3 h.2.2)]
        simp -implicitDefEqProofs only [go_sem, Nat.reduceAdd, Nat.reduceEqDiff, Nat.reduceLT, reduceIte, reduceCtorEq, Int.reduceLE, Int.reduceLT, Int.reduceEq, Int.reduceAdd, Int.reduceMul, Int.reduceSub, Nat.reduceMul, Nat.reduceSub, Nat.reducePow, Nat.reduceLeDiff, Int.reduceToNat, Tryz.f20, DD, x_app, x_ga0, x_gas, x_gan, Int.cast_ofNat_Int, eq_self, Int.zero_lt_one, Bool.not_false, Bool.not_true, beq_self_eq_true, c1, h2, h3]
    · rw [decide_eq_false (fun h => h2 h.2.1)]
      simp -implicitDefEqProofs only [go_sem, Nat.reduceAdd, Nat.reduceEqDiff, Nat.reduceLT, reduceIte, reduceCtorEq, Int.reduceLE, Int.reduceLT, Int.reduceEq, Int.reduceAdd, Int.reduceMul, Int.reduceSub, Nat.reduceMul, Nat.reduceSub, Nat.reducePow, Nat.reduceLeDiff, Int.reduceToNat, Tryz.f20, DD, x_app, x_ga0, x_gas, x_gan, Int.cast_ofNat_Int, eq_self, Int.zero_lt_one, Bool.not_false, Bool.not_true, beq_self_eq_true, c1, h2]
  · have c1 : ¬ (l.length : Int) ≤ 3 := by omega
    rw [decide_eq_false (fun h => h1 h.1)]
    simp -implicitDefEqProofs only [go_sem, Nat.reduceAdd, Nat.reduceEqDiff, Nat.reduceLT, reduceIte, reduceCtorEq, Int.reduceLE, Int.reduceLT, Int.reduceEq, Int.reduceAdd, Int.reduceMul, Int.reduceSub, Nat.reduceMul, Nat.reduceSub, Nat.reducePow, Nat.reduceLeDiff, Int.reduceToNat, Tryz.f20, DD, x_app, x_ga0, x_gas, x_gan, Int.cast_ofNat_Int, eq_self, Int.zero_lt_one, Bool.not_false, Bool.not_true, beq_self_eq_true, c1]
theorem pld_dy (b : Bool) (l : List Nat) (e : Int) : PlD (.agg [Bo b, U32 l, I64 e]) := pld_agg (fun c hc => by
  simp only [List.mem_cons, List.not_mem_nil, or_false] at hc
  rcases hc with rfl | rfl | rfl <;> first | exact lf_bool | exact lf_int | exact lf_u32 _)
theorem few14_s (F : Nat → Raw) (hn : n ≤ 9223372036854775807) : Sat CT false 6 [.sl n (qcl n F)] (Bo (decide ((∀ i, i < n → (F i).sm) ∧ n ≤ 14))) := by
  refine sat_of annuluslaw14_few.ok (by simp) ?_
  have DD := annuluslaw14_few.dr
  simp only [drP, drPx, drPt, drR, drS, drT, bodyOf, Tryz.f6, Nat.reduceEqDiff, reduceIte, true_and, and_true] at DD
  have hL := qcl_len n F
  simp -implicitDefEqProofs only [go_sem, Nat.reduceAdd, Nat.reduceEqDiff, Nat.reduceLT, reduceIte, reduceCtorEq, Int.reduceLE, Int.reduceLT, Int.reduceEq, Int.reduceAdd, Int.reduceMul, Int.reduceSub, Nat.reduceMul, Nat.reduceSub, Nat.reducePow, Nat.reduceLeDiff, Int.reduceToNat, Tryz.f6, DD, x_app, x_ga0, x_gas, x_gan, Int.cast_ofNat_Int, eq_self, Int.zero_lt_one, Bool.not_false, Bool.not_true, beq_self_eq_true]
  refine loop_of aW0_mono (fun q σ => ∃ sl i, σ = ⟨sl, []⟩ ∧ q = n - i ∧ i ≤ n ∧ look sl 0 = .sl n (qcl n F) ∧ look sl 3 = I64 (i : Nat) ∧ ∀ j, j < i → (F j).sm) ?_ (n := n)
    ⟨_, 0, rfl, rfl, Nat.zero_le _, by simp [x_look], by simp [x_look], fun j hj => by omega⟩
  rintro q _ ⟨sl, i, rfl, rfl, hi, k0, k3, hinv⟩
  by_cases hid : i = n
  · subst hid
    have ed : decide ((∀ j, j < i → (F j).sm) ∧ i ≤ 14) = decide ((i : Int) ≤ 14) := decide_eq_decide.2 ⟨fun h => by omega, fun h => ⟨hinv, by omega⟩⟩
    rw [ed]
    simp -implicitDefEqProofs only [go_sem, Nat.reduceAdd, Nat.reduceEqDiff, Nat.reduceLT, reduceIte, reduceCtorEq, Int.reduceLE, Int.reduceLT, Int.reduceEq, Int.reduceAdd, Int.reduceMul, Int.reduceSub, Nat.reduceMul, Nat.reduceSub, Nat.reducePow, Nat.reduceLeDiff, Int.reduceToNat, DD, x_app, x_ga0, x_gas, x_gan, Int.cast_ofNat_Int, eq_self, Int.zero_lt_one, Bool.not_false, Bool.not_true, beq_self_eq_true, k0, k3, Int.lt_irrefl]
  · have c1 : (i : Int) < (n : Int) := by omega
    have ci : IntKind.i64.wrap ((i : Int) + 1) = ((i + 1 : Nat) : Int) := by rw [wrap_i64 (by omega) (by omega)]; omega
    have c2 : (0 : Int) ≤ (i : Int) := by omega
    have c4 : i * 6 < n * 6 := by omega
    have c5 : i * 6 + 3 ≤ n * 6 := by omega
    have c6 : i * 6 + 3 + 3 ≤ n * 6 := by omega
    have hc := qcl_lo F (show i < n by omega)
    have hc' := qcl_hi F (show i < n by omega)
    have q1 := small14_s (F i).n (F i).l (F i).e
    have q2 := small14_s (F i).m (F i).k (F i).f
    by_cases h1 : (F i).l.length ≤ 3 ∧ -200 ≤ (F i).e ∧ (F i).e ≤ 200
    · rw [decide_eq_true h1] at q1
      by_cases h2 : (F i).k.length ≤ 3 ∧ -200 ≤ (F i).f ∧ (F i).f ≤ 200
      · rw [decide_eq_true h2] at q2
        simp -implicitDefEqProofs only [go_sem, Nat.reduceAdd, Nat.reduceEqDiff, Nat.reduceLT, reduceIte, reduceCtorEq, Int.reduceLE, Int.reduceLT, Int.reduceEq, Int.reduceAdd, Int.reduceMul, Int.reduceSub, Nat.reduceMul, Nat.reduceSub, Nat.reducePow, Nat.reduceLeDiff, Int.reduceToNat, DD, x_app, x_ga0, x_gas, x_gan, Int.cast_ofNat_Int, eq_self, Int.zero_lt_one, Bool.not_false, Bool.not_true, beq_self_eq_true, k0, k3, ci, c1, c2, c4, c5, c6, hc, hc', hL]
        refine callK_pl annuluslaw14_small.call (q1) (pl1 (pld_dy _ _ _)) ?_
        simp -implicitDefEqProofs only [go_sem, Nat.reduceAdd, Nat.reduceEqDiff, Nat.reduceLT, reduceIte, reduceCtorEq, Int.reduceLE, Int.reduceLT, Int.reduceEq, Int.reduceAdd, Int.reduceMul, Int.reduceSub, Nat.reduceMul, Nat.reduceSub, Nat.reducePow, Nat.reduceLeDiff, Int.reduceToNat, DD, x_app, x_ga0, x_gas, x_gan, Int.cast_ofNat_Int, eq_self, Int.zero_lt_one, Bool.not_false, Bool.not_true, beq_self_eq_true, k0, k3, ci, c1, c2, c4, c5, c6, hc, hc', hL]
        refine callK_pl annuluslaw14_small.call (q2) (pl1 (pld_dy _ _ _)) ?_
        simp -implicitDefEqProofs only [go_sem, Nat.reduceAdd, Nat.reduceEqDiff, Nat.reduceLT, reduceIte, reduceCtorEq, Int.reduceLE, Int.reduceLT, Int.reduceEq, Int.reduceAdd, Int.reduceMul, Int.reduceSub, Nat.reduceMul, Nat.reduceSub, Nat.reducePow, Nat.reduceLeDiff, Int.reduceToNat, DD, x_app, x_ga0, x_gas, x_gan, Int.cast_ofNat_Int, eq_self, Int.zero_lt_one, Bool.not_false, Bool.not_true, beq_self_eq_true, k0, k3, ci, c1, c2, c4, c5, c6, hc, hc', hL]
        exact ⟨n - (i + 1), by omega, _, i + 1, rfl, rfl, by omega, by simp [x_look, k0], by simp [x_look], fun j hj => by
          rcases Nat.lt_or_ge j i with h | h
          · exact hinv j h
          · rw [show j = i by omega]; exact ⟨h1, h2⟩⟩
      · rw [decide_eq_false h2] at q2
        rw [decide_eq_false (fun h => h2 (h.1 i (by omega)).2)]
        simp -implicitDefEqProofs only [go_sem, Nat.reduceAdd, Nat.reduceEqDiff, Nat.reduceLT, reduceIte, reduceCtorEq, Int.reduceLE, Int.reduceLT, Int.reduceEq, Int.reduceAdd, Int.reduceMul, Int.reduceSub, Nat.reduceMul, Nat.reduceSub, Nat.reducePow, Nat.reduceLeDiff, Int.reduceToNat, DD, x_app, x_ga0, x_gas, x_gan, Int.cast_ofNat_Int, eq_self, Int.zero_lt_one, Bool.not_false, Bool.not_true, beq_self_eq_true, k0, k3, ci, c1, c2, c4, c5, c6, hc, hc', hL]
        refine callK_pl annuluslaw14_small.call (q1) (pl1 (pld_dy _ _ _)) ?_
        simp -implicitDefEqProofs only [go_sem, Nat.reduceAdd, Nat.reduceEqDiff, Nat.reduceLT, reduceIte, reduceCtorEq, Int.reduceLE, Int.reduceLT, Int.reduceEq, Int.reduceAdd, Int.reduceMul, Int.reduceSub, Nat.reduceMul, Nat.reduceSub, Nat.reducePow, Nat.reduceLeDiff, Int.reduceToNat, DD, x_app, x_ga0, x_gas, x_gan, Int.cast_ofNat_Int, eq_self, Int.zero_lt_one, Bool.not_false, Bool.not_true, beq_self_eq_true, k0, k3, ci, c1, c2, c4, c5, c6, hc, hc', hL]
        refine callK_pl annuluslaw14_small.call (q2) (pl1 (pld_dy _ _ _)) ?_
        simp -implicitDefEqProofs only [go_sem, Nat.reduceAdd, Nat.reduceEqDiff, Nat.reduceLT, reduceIte, reduceCtorEq, Int.reduceLE, Int.reduceLT, Int.reduceEq, Int.reduceAdd, Int.reduceMul, Int.reduceSub, Nat.reduceMul, Nat.reduceSub, Nat.reducePow, Nat.reduceLeDiff, Int.reduceToNat, DD, x_app, x_ga0, x_gas, x_gan, Int.cast_ofNat_Int, eq_self, Int.zero_lt_one, Bool.not_false, Bool.not_true, beq_self_eq_true, k0, k3, ci, c1, c2, c4, c5, c6, hc, hc', hL]
    · rw [decide_eq_false h1] at q1
      rw [decide_eq_false (fun h => h1 (h.1 i (by omega)).1)]
      simp -implicitDefEqProofs only [go_sem, Nat.reduceAdd, Nat.reduceEqDiff, Nat.reduceLT, reduceIte, reduceCtorEq, Int.reduceLE, Int.reduceLT, Int.reduceEq, Int.reduceAdd, Int.reduceMul, Int.reduceSub, Nat.reduceMul, Nat.reduceSub, Nat.reducePow, Nat.reduceLeDiff, Int.reduceToNat, DD, x_app, x_ga0, x_gas, x_gan, Int.cast_ofNat_Int, eq_self, Int.zero_lt_one, Bool.not_false, Bool.not_true, beq_self_eq_true, k0, k3, ci, c1, c2, c4, c5, c6, hc, hc', hL]
      refine callK_pl annuluslaw14_small.call (q1) (pl1 (pld_dy _ _ _)) ?_
      simp -implicitDefEqProofs only [go_sem, Nat.reduceAdd, Nat.reduceEqDiff, Nat.reduceLT, reduceIte, reduceCtorEq, Int.reduceLE, Int.reduceLT, Int.reduceEq, Int.reduceAdd, Int.reduceMul, Int.reduceSub, Nat.reduceMul, Nat.reduceSub, Nat.reducePow, Nat.reduceLeDiff, Int.reduceToNat, DD, x_app, x_ga0, x_gas, x_gan, Int.cast_ofNat_Int, eq_self, Int.zero_lt_one, Bool.not_false, Bool.not_true, beq_self_eq_true, k0, k3, ci, c1, c2, c4, c5, c6, hc, hc', hL]
/-- two coefficients -/
def pf2 (a b : Cx) : Po := fun i => match i with | 0 => a | 1 => b | _ + 2 => zero
theorem pf2_rp {a b : Cx} (ha : CB a 20) (hb : CB b 20) : RP (pcl 2 (pf2 a b)) 2 (pf2 a b) 296 := RP_P (fun i => by
  match i with
  | 0 => exact ⟨ha.1.mono (by decide), ha.2.mono (by decide)⟩
  | 1 => exact ⟨hb.1.mono (by decide), hb.2.mono (by decide)⟩
  | _ + 2 => exact ⟨DB.zero _, DB.zero _⟩) (fun k hk => by
    match k, hk with
    | k + 2, _ => rfl) (by decide)
theorem pf2_cl (a b : Cx) : pcl 2 (pf2 a b) = CIc a ++ CIc b := by rw [pclS, pclS, pcl0]; rfl
theorem pf2_dg (a b : Cx) (h : b ≠ zero) : dg 2 (pf2 a b) = 2 := by rw [dgS, if_neg (show ¬ pf2 a b 1 = zero from h)]
theorem far_sq {v w r : Int} (hr : 0 < r) (h : v * v + w * w = r * r) {P : Nat} (hP : 1 ≤ P) (hb : bl r.natAbs ≤ P) (up : Bool) : far ⟨dv v 0, dv w 0⟩ P up = dv r 0 := by
  have e : nrm ⟨dv v 0, dv w 0⟩ = dv r 0 * dv r 0 := by
    show dv v 0 * dv v 0 + dv w 0 * dv w 0 = _
    rw [dv_mul, dv_mul, dv_mul, dv_add, h]
  unfold far
  rw [e]
  have hf : Few (dv r 0) (bl r.natAbs) 0 := Few.of (Nat.le_refl _) (by decide)
  exact droot_exact (dnum_pos.2 hr) hP (Nat.le_trans hf.1 hb) up
theorem far_c {v : Int} (hv : 0 < v) {P : Nat} (hP : 1 ≤ P) (hb : bl v.natAbs ≤ P) (up : Bool) : far (cst v) P up = dv v 0 := far_sq (w := 0) hv (by omega) hP hb up
theorem osum_2 (a b : Cx) (k : Int) (P : Nat) (up : Bool) : osum (pf2 a b) k P up 2 = if (1 : Int) = k then (if (0 : Int) = k then 0 else 0 + far a P up) else (if (0 : Int) = k then 0 else 0 + far a P up) + far b P up := rfl
theorem known14_s : Sat CT false 5 [] (Bo true) := by
  refine sat_of annuluslaw14_known.ok (by simp) ?_
  have DD := annuluslaw14_known.dr
  simp only [drP, drPx, drPt, drR, drS, drT, bodyOf, Tryz.f5, Nat.reduceEqDiff, reduceIte, true_and, and_true] at DD
  have b5 := cst_cb (v := 5) (by decide)
  have b1 := cst_cb (v := 1) (by decide)
  have n1 : cst 1 ≠ zero := cst_ne (by decide)
  have k5 := rof8_sat 5 0 (by decide) (by decide) (by decide) (by decide)
  have k1 := rof8_sat 1 0 (by decide) (by decide) (by decide) (by decide)
  have k34 := rof8_sat 3 4 (by decide) (by decide) (by decide) (by decide)
  rw [cst_dv] at k5 k1
  have h20 : heldP 20 = 20 := rfl
  have f5 : ∀ up, far (cst 5) 20 up = dv 5 0 := far_c (by decide) (by decide) (by decide)
  have f1 : ∀ up, far (cst 1) 20 up = dv 1 0 := far_c (by decide) (by decide) (by decide)
  have z0 : (0 : Dyadic) + dv 5 0 = dv 5 0 := by grind
  have z1 : (0 : Dyadic) + dv 1 0 = dv 1 0 := by grind
  have r1 := pf2_rp b5 b1
  have r2 := pf2_rp b1 b1
  have g1 := pf2_dg (cst 5) (cst 1) n1
  have g2 := pf2_dg (cst 1) (cst 1) n1
  obtain ⟨a1, _⟩ := any_sB r1 (by decide) (isD_pcl _ _) (by decide) 20 (by decide)
  obtain ⟨_, a2⟩ := any_sB r2 (by decide) (isD_pcl _ _) (by decide) 20 (by decide)
  rw [g1, h20] at a1
  rw [g2, h20] at a2
  have a1 := a1 0 (by decide) (fun i hi => absurd hi (Nat.not_lt_zero i)) (by
    show 0 < dsg (far (cst 5) 20 false - (osum (pf2 (cst 5) (cst 1)) (-1) 20 true 2 - far (cst 5) 20 true))
    rw [osum_2, if_neg (by decide), if_neg (by decide), f5, f5, f1, z0, dv_add, dv_sub, dv_sub, dsg_dv]
    decide)
  have hno : ∀ i, i < 2 → ¬ aYes (pf2 (cst 1) (cst 1)) 2 i 20 := fun i hi => by
    have e : pf2 (cst 1) (cst 1) i = cst 1 := by
      match i, hi with
      | 0, _ => rfl
      | 1, _ => rfl
    unfold aYes
    rw [e, osum_2, if_neg (by decide), if_neg (by decide), f1, f1, z1, dv_add, dv_sub, dv_sub, dsg_dv]
    decide
  have a2 := a2 hno
  obtain ⟨t0, _, _⟩ := test_inB r1 (by decide) (isD_pcl _ _) (by decide) 0 (by rw [g1]; decide) 20 (by decide)
  obtain ⟨_, t1, _⟩ := test_inB r1 (by decide) (isD_pcl _ _) (by decide) 1 (by rw [g1]; decide) 20 (by decide)
  rw [g1, h20] at t0 t1
  have t0 := t0 (by
    show 0 < dsg (far (cst 5) 20 false - osum (pf2 (cst 5) (cst 1)) 0 20 true 2)
    rw [osum_2, if_neg (by decide), if_pos rfl, f5, f1, z1, dv_sub, dsg_dv]
    decide)
  have t1 := t1 (by
    show ¬ 0 < dsg (far (cst 1) 20 false - osum (pf2 (cst 5) (cst 1)) 1 20 true 2)
    rw [osum_2, if_pos rfl, if_neg (by decide), f5, f1, z0, dv_sub, dsg_dv]
    decide) (by
    show dsg (far (cst 1) 20 true - osum (pf2 (cst 5) (cst 1)) 1 20 false 2) ≤ 0
    rw [osum_2, if_pos rfl, if_neg (by decide), f5, f1, z0, dv_sub, dsg_dv]
    decide)
  have t2 := test_outB r1 (by decide) (isD_pcl _ _) 2 20 (.inr (by rw [g1]; decide))
  have b34 : CB ⟨dv 3 0, dv 4 0⟩ 20 := ⟨DB.raw (m := 3) (e := 0) (L := 7) (E := 0) (B := 20) (by decide) (by decide) (by decide), DB.raw (m := 4) (e := 0) (L := 7) (E := 0) (B := 20) (by decide) (by decide) (by decide)⟩
  have ff := far_sB (RC_C b34) (by decide) 10 1
  rw [show heldP 10 = 10 from rfl, far_sq (r := 5) (by decide) (by decide) (by decide) (by decide)] at ff
  have o5 := rof4_sat 5 (by decide) (by decide)
  have d5 : DB (dv 5 0) 10 := (few_c 5 (by decide)).1
  have e5 := requal4d d5 d5 (by decide) (by decide)
  rw [decide_eq_true rfl] at e5
  rw [pf2_cl] at a1 a2 t0 t1 t2
  simp -implicitDefEqProofs only [go_sem, Nat.reduceAdd, Nat.reduceEqDiff, Nat.reduceLT, reduceIte, reduceCtorEq, Int.reduceLE, Int.reduceLT, Int.reduceEq, Int.reduceAdd, Int.reduceMul, Int.reduceSub, Nat.reduceMul, Nat.reduceSub, Nat.reducePow, Nat.reduceLeDiff, Int.reduceToNat, Tryz.f5, DD]
  refine callK_pl annulusref8_Of.call (k5) (pl2 pld_int pld_int) ?_
  simp -implicitDefEqProofs only [go_sem, Nat.reduceAdd, Nat.reduceEqDiff, Nat.reduceLT, reduceIte, reduceCtorEq, Int.reduceLE, Int.reduceLT, Int.reduceEq, Int.reduceAdd, Int.reduceMul, Int.reduceSub, Nat.reduceMul, Nat.reduceSub, Nat.reducePow, Nat.reduceLeDiff, Int.reduceToNat, DD]
  refine callK_pl annulusref8_Of.call (k1) (pl2 pld_int pld_int) ?_
  simp -implicitDefEqProofs only [go_sem, Nat.reduceAdd, Nat.reduceEqDiff, Nat.reduceLT, reduceIte, reduceCtorEq, Int.reduceLE, Int.reduceLT, Int.reduceEq, Int.reduceAdd, Int.reduceMul, Int.reduceSub, Nat.reduceMul, Nat.reduceSub, Nat.reducePow, Nat.reduceLeDiff, Int.reduceToNat, DD]
  have R0 : RSl 6 (.own 6 0 0 2) [⟨CIc (cst 5) ++ CIc (cst 1), true, true⟩] (CIc (cst 5) ++ CIc (cst 1)) 2 := .inr ⟨_, true, rfl, rfl, by simp, rfl⟩
  have i1 : ∀ c ∈ CIc (cst 5) ++ CIc (cst 1), IsD c := by rw [← pf2_cl]; exact isD_pcl _ _
  have i2 : ∀ c ∈ CIc (cst 1) ++ CIc (cst 1), IsD c := by rw [← pf2_cl]; exact isD_pcl _ _
  refine callK_ar pellet_Any.call a1 (.cons (.row R0 rfl i1) (.cons (.pl pld_int) .nil)) rfl ?_
  intro H1 hk1
  have R1 := hk1.2 _ _ _ _ R0
  clear hk1 R0
  simp -implicitDefEqProofs only [go_sem, Nat.reduceAdd, Nat.reduceEqDiff, Nat.reduceLT, reduceIte, reduceCtorEq, Int.reduceLE, Int.reduceLT, Int.reduceEq, Int.reduceAdd, Int.reduceMul, Int.reduceSub, Nat.reduceMul, Nat.reduceSub, Nat.reducePow, Nat.reduceLeDiff, Int.reduceToNat, DD]
  refine callK_pl annulusref8_Of.call (k1) (pl2 pld_int pld_int) ?_
  simp -implicitDefEqProofs only [go_sem, Nat.reduceAdd, Nat.reduceEqDiff, Nat.reduceLT, reduceIte, reduceCtorEq, Int.reduceLE, Int.reduceLT, Int.reduceEq, Int.reduceAdd, Int.reduceMul, Int.reduceSub, Nat.reduceMul, Nat.reduceSub, Nat.reducePow, Nat.reduceLeDiff, Int.reduceToNat, DD]
  refine callK_pl annulusref8_Of.call (k1) (pl2 pld_int pld_int) ?_
  simp -implicitDefEqProofs only [go_sem, Nat.reduceAdd, Nat.reduceEqDiff, Nat.reduceLT, reduceIte, reduceCtorEq, Int.reduceLE, Int.reduceLT, Int.reduceEq, Int.reduceAdd, Int.reduceMul, Int.reduceSub, Nat.reduceMul, Nat.reduceSub, Nat.reducePow, Nat.reduceLeDiff, Int.reduceToNat, DD]
  have R2 := R1.ext ⟨CIc (cst 1) ++ CIc (cst 1), true, true⟩
  refine callK_ar pellet_Any.call a2 (.cons (.row (cs := CIc (cst 1) ++ CIc (cst 1)) (.inr ⟨_, true, rfl, x_hget, by simp, rfl⟩) rfl i2) (.cons (.pl pld_int) .nil)) rfl ?_
  intro H2 hk2
  have R3 := hk2.2 _ _ _ _ R2
  clear hk2 R2 R1
  simp -implicitDefEqProofs only [go_sem, Nat.reduceAdd, Nat.reduceEqDiff, Nat.reduceLT, reduceIte, reduceCtorEq, Int.reduceLE, Int.reduceLT, Int.reduceEq, Int.reduceAdd, Int.reduceMul, Int.reduceSub, Nat.reduceMul, Nat.reduceSub, Nat.reducePow, Nat.reduceLeDiff, Int.reduceToNat, DD]
  refine callK_ar pellet_Test.call t0 (.cons (.row R3 rfl i1) (.cons (.pl pld_int) (.cons (.pl pld_int) .nil))) rfl ?_
  intro H3 hk3
  have R4 := hk3.2 _ _ _ _ R3
  clear hk3 R3
  simp -implicitDefEqProofs only [go_sem, Nat.reduceAdd, Nat.reduceEqDiff, Nat.reduceLT, reduceIte, reduceCtorEq, Int.reduceLE, Int.reduceLT, Int.reduceEq, Int.reduceAdd, Int.reduceMul, Int.reduceSub, Nat.reduceMul, Nat.reduceSub, Nat.reducePow, Nat.reduceLeDiff, Int.reduceToNat, DD]
  refine callK_ar pellet_Test.call t1 (.cons (.row R4 rfl i1) (.cons (.pl pld_int) (.cons (.pl pld_int) .nil))) rfl ?_
  intro H4 hk4
  have R5 := hk4.2 _ _ _ _ R4
  clear hk4 R4
  simp -implicitDefEqProofs only [go_sem, Nat.reduceAdd, Nat.reduceEqDiff, Nat.reduceLT, reduceIte, reduceCtorEq, Int.reduceLE, Int.reduceLT, Int.reduceEq, Int.reduceAdd, Int.reduceMul, Int.reduceSub, Nat.reduceMul, Nat.reduceSub, Nat.reducePow, Nat.reduceLeDiff, Int.reduceToNat, DD]
  refine callK_ar pellet_Test.call t2 (.cons (.row R5 rfl i1) (.cons (.pl pld_int) (.cons (.pl pld_int) .nil))) rfl ?_
  intro H5 hk5
  clear hk5
  simp -implicitDefEqProofs only [go_sem, Nat.reduceAdd, Nat.reduceEqDiff, Nat.reduceLT, reduceIte, reduceCtorEq, Int.reduceLE, Int.reduceLT, Int.reduceEq, Int.reduceAdd, Int.reduceMul, Int.reduceSub, Nat.reduceMul, Nat.reduceSub, Nat.reducePow, Nat.reduceLeDiff, Int.reduceToNat, DD]
  refine callK_pl annulusref8_Of.call (k34) (pl2 pld_int pld_int) ?_
  simp -implicitDefEqProofs only [go_sem, Nat.reduceAdd, Nat.reduceEqDiff, Nat.reduceLT, reduceIte, reduceCtorEq, Int.reduceLE, Int.reduceLT, Int.reduceEq, Int.reduceAdd, Int.reduceMul, Int.reduceSub, Nat.reduceMul, Nat.reduceSub, Nat.reducePow, Nat.reduceLeDiff, Int.reduceToNat, DD]
  refine callK_pl pellet_Far.call (ff) (pl3 (pld_CI ⟨dv 3 0, dv 4 0⟩) pld_int pld_int) ?_
  simp -implicitDefEqProofs only [go_sem, Nat.reduceAdd, Nat.reduceEqDiff, Nat.reduceLT, reduceIte, reduceCtorEq, Int.reduceLE, Int.reduceLT, Int.reduceEq, Int.reduceAdd, Int.reduceMul, Int.reduceSub, Nat.reduceMul, Nat.reduceSub, Nat.reducePow, Nat.reduceLeDiff, Int.reduceToNat, DD]
  refine callK_q annulusref4_Of.call (o5) rfl rfl ?_
  simp -implicitDefEqProofs only [go_sem, Nat.reduceAdd, Nat.reduceEqDiff, Nat.reduceLT, reduceIte, reduceCtorEq, Int.reduceLE, Int.reduceLT, Int.reduceEq, Int.reduceAdd, Int.reduceMul, Int.reduceSub, Nat.reduceMul, Nat.reduceSub, Nat.reducePow, Nat.reduceLeDiff, Int.reduceToNat, DD]
  refine callK_q annulusref4_Equal.call (e5) rfl rfl ?_
  simp -implicitDefEqProofs only [go_sem, Nat.reduceAdd, Nat.reduceEqDiff, Nat.reduceLT, reduceIte, reduceCtorEq, Int.reduceLE, Int.reduceLT, Int.reduceEq, Int.reduceAdd, Int.reduceMul, Int.reduceSub, Nat.reduceMul, Nat.reduceSub, Nat.reducePow, Nat.reduceLeDiff, Int.reduceToNat, DD]
/-- as a rational point -/
def toRc (z : Cx) : Rc := ⟨z.re.toRat, z.im.toRat⟩
theorem two_pos (e : Int) : (0 : Rat) < 2 ^ e := Rat.zpow_pos (by decide)
theorem dsg_rat (x : Dyadic) : (dsg x ≤ 0 ↔ x.toRat ≤ 0) ∧ (0 < dsg x ↔ 0 < x.toRat) := by
  have hx : x.toRat = dnum x * 2 ^ dexp x := by
    have := dv_rat (dnum x) (dexp x)
    rw [dv_of] at this
    exact this
  have hp := two_pos (dexp x)
  have h0 : 0 < dsg x ↔ 0 < x.toRat := by
    unfold dsg
    rw [hx]
    constructor
    · intro h
      have h1 : 0 < dnum x := by
        rcases Int.lt_trichotomy (dnum x) 0 with g | g | g
        · rw [Int.sign_eq_neg_one_of_neg g] at h; exact absurd h (by decide)
        · rw [g] at h; exact absurd h (by decide)
        · exact g
      exact Rat.mul_pos (Rat.intCast_pos.2 h1) hp
    · intro h
      rcases Int.lt_trichotomy (dnum x) 0 with g | g | g
      · exfalso
        have : 0 < (-(dnum x : Rat)) * 2 ^ dexp x := Rat.mul_pos (by have : ((dnum x : Int) : Rat) < 0 := Rat.intCast_neg_iff.2 g; grind) hp
        grind
      · exfalso
        rw [g] at h
        have e : ((0 : Int) : Rat) = 0 := rfl
        rw [e, Rat.zero_mul] at h
        exact absurd h (by decide)
      · rw [Int.sign_eq_one_of_pos g]; decide
  exact ⟨⟨fun h => Rat.not_lt.1 (fun g => by have := h0.2 g; omega), fun h => Int.not_lt.1 (fun g => by have := h0.1 g; grind)⟩, h0⟩
theorem sub_rat (x y : Dyadic) : (x - y).toRat = x.toRat - y.toRat := by
  have e : x - y + y = x := by grind
  have := congrArg Dyadic.toRat e
  rw [Dyadic.toRat_add] at this
  grind
theorem nrm_rat (z : Cx) : (nrm z).toRat = Rc.nq (toRc z) := by
  unfold nrm
  rw [Dyadic.toRat_add, Dyadic.toRat_mul, Dyadic.toRat_mul]
  rfl
/-- how far a point is: between both sides -/
theorem far_rat (z : Cx) {P : Nat} (hP : 1 ≤ P) : 0 ≤ (far z P true).toRat ∧ Rc.nq (toRc z) ≤ (far z P true).toRat * (far z P true).toRat ∧ (far z P false).toRat * (far z P false).toRat ≤ Rc.nq (toRc z) := by
  rw [← nrm_rat]
  unfold far
  by_cases hx : dnum (nrm z) ≤ 0
  · have z0 : ∀ up, droot (nrm z) P up = 0 := fun up => if_pos hx
    have e0 : (0 : Dyadic).toRat = 0 := Dyadic.toRat_zero
    have h1 : (nrm z).toRat ≤ 0 := (dsg_rat (nrm z)).1.1 (by unfold dsg; exact sign_le hx)
    have h2 : 0 ≤ (nrm z).toRat := by rw [nrm_rat]; exact Rc.nq_nn _
    rw [z0, z0, e0]
    exact ⟨by grind, by grind, by grind⟩
  · have hx := Int.not_le.1 hx
    obtain ⟨s1, s2, _, _⟩ := droot_sides hx hP
    obtain ⟨r, A, k, e, _, _, _, h4⟩ := droot_form hx hP
    have h0 : 0 ≤ (droot (nrm z) P true).toRat := by
      rw [h4, dv_rat]
      refine Rat.mul_nonneg ?_ (by have := two_pos e; grind)
      refine Rat.intCast_nonneg.2 ?_
      split <;> omega
    have a1 := (dsg_rat _).1.1 s1
    rw [sub_rat, Dyadic.toRat_mul] at a1
    have a2 : 0 ≤ (droot (nrm z) P true * droot (nrm z) P true - nrm z).toRat := Rat.not_lt.1 (fun g => by
      have g2 : 0 < dsg (nrm z - droot (nrm z) P true * droot (nrm z) P true) := (dsg_rat _).2.2 (by rw [sub_rat] at g ⊢; grind)
      have g3 : dsg (nrm z - droot (nrm z) P true * droot (nrm z) P true) = -dsg (droot (nrm z) P true * droot (nrm z) P true - nrm z) := by
        rw [show nrm z - droot (nrm z) P true * droot (nrm z) P true = -(droot (nrm z) P true * droot (nrm z) P true - nrm z) by grind]
        unfold dsg
        rw [(dneg_num _).1, Int.sign_neg]
      omega)
    rw [sub_rat, Dyadic.toRat_mul] at a2
    exact ⟨h0, by grind, by grind⟩
theorem osum_rat (f : Po) (k P : Nat) : ∀ N, (osum f k P true N).toRat = Rc.usum (fun j => (far (f j) P true).toRat) k N
  | 0 => Dyadic.toRat_zero
  | j + 1 => by
    have ih := osum_rat f k P j
    show (if (j : Int) = (k : Int) then osum f k P true j else osum f k P true j + far (f j) P true).toRat = if j = k then _ else _
    by_cases e : j = k
    · rw [if_pos (by omega), if_pos e, ih]
    · rw [if_neg (by omega), if_neg e, Dyadic.toRat_add, ih]
theorem toRc_add (x y : Cx) : toRc (x + y) = toRc x + toRc y := Rc.cring (Dyadic.toRat_add _ _) (Dyadic.toRat_add _ _)
theorem toRc_mul (x y : Cx) : toRc (x * y) = toRc x * toRc y := by
  refine Rc.cring ?_ ?_
  · show (x.re * y.re - x.im * y.im).toRat = x.re.toRat * y.re.toRat - x.im.toRat * y.im.toRat
    rw [sub_rat, Dyadic.toRat_mul, Dyadic.toRat_mul]
  · show (x.re * y.im + x.im * y.re).toRat = x.re.toRat * y.im.toRat + x.im.toRat * y.re.toRat
    rw [Dyadic.toRat_add, Dyadic.toRat_mul, Dyadic.toRat_mul]
theorem toRc_neg (x : Cx) : toRc (-x) = Rc.neg (toRc x) := Rc.cring (Dyadic.toRat_neg _) (Dyadic.toRat_neg _)
theorem toRc_zero : toRc zero = Rc.zero := Rc.cring Dyadic.toRat_zero Dyadic.toRat_zero
def rsl (r : Nat → Cx) : Nat → List Rc
  | 0 => []
  | i + 1 => toRc (r i) :: rsl r i
theorem rsl_len (r : Nat → Cx) : ∀ n, (rsl r n).length = n
  | 0 => rfl
  | n + 1 => by show (rsl r n).length + 1 = _; rw [rsl_len r n]
theorem frm_facs (r : Nat → Cx) : ∀ n j, Rc.facs ((rsl r n).map Rc.rf) Rc.d0 j = toRc (frm r n j)
  | 0, j => by
    rw [frm0]
    cases j
    · rfl
    · rfl
  | n + 1, j => by
    rw [frmS, conv_lin]
    show Rc.fac (Rc.rf (toRc (r n))) (Rc.facs ((rsl r n).map Rc.rf) Rc.d0) j = _
    cases j with
    | zero =>
      show Rc.neg (toRc (r n)) * Rc.facs ((rsl r n).map Rc.rf) Rc.d0 0 = _
      rw [frm_facs r n 0, toRc_add, toRc_mul, toRc_neg, show px (frm r n) 0 = zero from rfl, toRc_zero, Rc.z_add]
    | succ j =>
      show Rc.neg (toRc (r n)) * Rc.facs ((rsl r n).map Rc.rf) Rc.d0 (j + 1) + Rc.one * Rc.facs ((rsl r n).map Rc.rf) Rc.d0 j = _
      rw [frm_facs r n (j + 1), frm_facs r n j, toRc_add, toRc_mul, toRc_neg, Rc.one_m, Rc.add_c]
      rfl
/-- a sure yes: just so many roots lie within the unit circle, and none on it -/
theorem sure_law (r : Nat → Cx) (n : Nat) {P : Nat} (hP : 1 ≤ P) (k : Nat) (hk : k ≤ n) (h : tYes (frm r n) (n + 1) k P) :
    ((rsl r n).filter (fun x => decide (Rc.nq x < 1))).length = k ∧ ∀ x ∈ rsl r n, Rc.nq x ≠ 1 := by
  unfold tYes at h
  have h1 := (dsg_rat _).2.1 h
  rw [sub_rat, osum_rat] at h1
  refine Rc.pellet_count (rsl r n) (U := fun j => (far (frm r n j) P true).toRat) (K := (far (frm r n k) P false).toRat) (fun j => (far_rat _ hP).1) (fun j => ?_) (by rw [rsl_len]; exact hk) (by rw [rsl_len]; grind) ?_
  · rw [frm_facs]; exact (far_rat _ hP).2.1
  · rw [frm_facs]; exact (far_rat _ hP).2.2

theorem osum_all {k : Nat} (P : Nat) (up : Bool) : ∀ d, (d ≤ k → osum f k P up d = osum f (-1) P up d) ∧ (k < d → osum f (-1) P up d = osum f k P up d + far (f k) P up)
  | 0 => ⟨fun _ => rfl, fun h => absurd h (Nat.not_lt_zero _)⟩
  | i + 1 => by
    obtain ⟨h1, h2⟩ := osum_all (k := k) P up i
    have hm : ¬ (i : Int) = -1 := by omega
    constructor
    · intro h
      have hk : ¬ (i : Int) = (k : Int) := by omega
      unfold osum
      rw [if_neg hk, if_neg hm, h1 (by omega)]
    · intro h
      unfold osum
      rw [if_neg hm]
      by_cases hk : (i : Int) = (k : Int)
      · have e : i = k := by omega
        subst e
        rw [if_pos rfl, h1 (Nat.le_refl _)]
      · rw [if_neg hk, h2 (by omega)]
        grind
theorem aYes_iff {k P : Nat} (h : k < d) : aYes f d k P ↔ tYes f d k P := by
  unfold aYes tYes
  rw [(osum_all P true d).2 h, show osum f k P true d + far (f k) P true - far (f k) P true = osum f k P true d by grind]
theorem first_of {p : Nat → Prop} : ∀ d : Nat, (∃ j, j < d ∧ (∀ i, i < j → ¬ p i) ∧ p j) ∨ ∀ i, i < d → ¬ p i
  | 0 => .inr (fun i h => absurd h (Nat.not_lt_zero i))
  | d + 1 => by
    rcases first_of (p := p) d with ⟨j, h1, h2, h3⟩ | h
    · exact .inl ⟨j, by omega, h2, h3⟩
    · by_cases q : p d
      · exact .inl ⟨d, by omega, h, q⟩
      · refine .inr (fun i hi => ?_)
        by_cases e : i = d
        · rw [e]; exact q
        · exact h i (by omega)
/-- what a test tells -/
def TV (f : Po) (d k P : Nat) (u : Int) : Prop := u = 1 ∧ tYes f d k P ∨ u = 0 ∧ ¬ tYes f d k P ∧ tNo f d k P ∨ u = 2 ∧ ¬ tYes f d k P ∧ ¬ tNo f d k P
theorem TV_ex (f : Po) (d k P : Nat) : ∃ u, TV f d k P u := by
  by_cases y : tYes f d k P
  · exact ⟨1, .inl ⟨rfl, y⟩⟩
  · by_cases o : tNo f d k P
    · exact ⟨0, .inr (.inl ⟨rfl, y, o⟩)⟩
    · exact ⟨2, .inr (.inr ⟨rfl, y, o⟩)⟩
theorem TV_one {k P : Nat} {u : Int} (h : TV f d k P u) : u = 1 ↔ tYes f d k P := by
  rcases h with ⟨rfl, h⟩ | ⟨rfl, h, _⟩ | ⟨rfl, h, _⟩
  · exact ⟨fun _ => h, fun _ => rfl⟩
  · exact ⟨fun e => absurd e (by decide), fun e => absurd e h⟩
  · exact ⟨fun e => absurd e (by decide), fun e => absurd e h⟩
theorem rnorm8_s (hz : CB z B) (hB : B ≤ 9000) : Sat CT false 33 [CI z] (DI (nrm z)) := by
  refine sat_of annulusref8_Norm.ok (by simp) ?_
  have DD := annulusref8_Norm.dr
  simp only [drP, drPx, drPt, drR, drS, drT, bodyOf, Tryz.f33, Nat.reduceEqDiff, reduceIte, true_and, and_true] at DD
  unfold nrm
  have u1 := rmul4 (RD_D hz.1) (RD_D hz.1) (by omega) (by omega)
  have u2 := rmul4 (RD_D hz.2) (RD_D hz.2) (by omega) (by omega)
  have u3 := radd4 (hz.1.mul hz.1) (hz.2.mul hz.2) (by omega) (by omega)
  simp -implicitDefEqProofs only [go_sem, Nat.reduceAdd, Nat.reduceEqDiff, Nat.reduceLT, reduceIte, reduceCtorEq, Int.reduceLE, Int.reduceLT, Int.reduceEq, Int.reduceAdd, Int.reduceMul, Int.reduceSub, Nat.reduceMul, Nat.reduceSub, Nat.reducePow, Nat.reduceLeDiff, Int.reduceToNat, Tryz.f33, DD]
  refine callK_q annulusref4_Mul.call (u1) rfl rfl ?_
  simp -implicitDefEqProofs only [go_sem, Nat.reduceAdd, Nat.reduceEqDiff, Nat.reduceLT, reduceIte, reduceCtorEq, Int.reduceLE, Int.reduceLT, Int.reduceEq, Int.reduceAdd, Int.reduceMul, Int.reduceSub, Nat.reduceMul, Nat.reduceSub, Nat.reducePow, Nat.reduceLeDiff, Int.reduceToNat, DD]
  refine callK_q annulusref4_Mul.call (u2) rfl rfl ?_
  simp -implicitDefEqProofs only [go_sem, Nat.reduceAdd, Nat.reduceEqDiff, Nat.reduceLT, reduceIte, reduceCtorEq, Int.reduceLE, Int.reduceLT, Int.reduceEq, Int.reduceAdd, Int.reduceMul, Int.reduceSub, Nat.reduceMul, Nat.reduceSub, Nat.reducePow, Nat.reduceLeDiff, Int.reduceToNat, DD]
  refine callK_q annulusref4_Add.call (u3) rfl rfl ?_
  simp -implicitDefEqProofs only [go_sem, Nat.reduceAdd, Nat.reduceEqDiff, Nat.reduceLT, reduceIte, reduceCtorEq, Int.reduceLE, Int.reduceLT, Int.reduceEq, Int.reduceAdd, Int.reduceMul, Int.reduceSub, Nat.reduceMul, Nat.reduceSub, Nat.reducePow, Nat.reduceLeDiff, Int.reduceToNat, DD]
theorem rcmp4_s {x y : Dyadic} (hx : DB x B) (hy : DB y C) (hB : B ≤ 19000) (hC : C ≤ 19000) : Sat CT false 28 [DI x, DI y] (I64 (dnum (x - y)).sign) := by
  refine sat_of annulusref4_Cmp.ok (by simp) ?_
  have DD := annulusref4_Cmp.dr
  simp only [drP, drPx, drPt, drR, drS, drT, bodyOf, Tryz.f28, Nat.reduceEqDiff, reduceIte, true_and, and_true] at DD
  have q1 := rsub4 hx hy (by omega) (by omega)
  have q2 := rsign4_r (RD_D ((hx.mono (Nat.le_max_left B C)).sub (hy.mono (Nat.le_max_right B C)))) (by omega)
  simp -implicitDefEqProofs only [go_sem, Nat.reduceAdd, Nat.reduceEqDiff, Nat.reduceLT, reduceIte, reduceCtorEq, Int.reduceLE, Int.reduceLT, Int.reduceEq, Int.reduceAdd, Int.reduceMul, Int.reduceSub, Nat.reduceMul, Nat.reduceSub, Nat.reducePow, Nat.reduceLeDiff, Int.reduceToNat, Tryz.f28, DD]
  refine callK_q annulusref4_Sub.call (q1) rfl rfl ?_
  simp -implicitDefEqProofs only [go_sem, Nat.reduceAdd, Nat.reduceEqDiff, Nat.reduceLT, reduceIte, reduceCtorEq, Int.reduceLE, Int.reduceLT, Int.reduceEq, Int.reduceAdd, Int.reduceMul, Int.reduceSub, Nat.reduceMul, Nat.reduceSub, Nat.reducePow, Nat.reduceLeDiff, Int.reduceToNat, DD]
  refine callK_q annulusref4_Sign.call (q2) rfl rfl ?_
  simp -implicitDefEqProofs only [go_sem, Nat.reduceAdd, Nat.reduceEqDiff, Nat.reduceLT, reduceIte, reduceCtorEq, Int.reduceLE, Int.reduceLT, Int.reduceEq, Int.reduceAdd, Int.reduceMul, Int.reduceSub, Nat.reduceMul, Nat.reduceSub, Nat.reducePow, Nat.reduceLeDiff, Int.reduceToNat, DD]
/-- the unit disc as it is handed in -/
def DZ : AV := .agg [Bo false, .sl 0 [], I64 0, Bo false, .sl 0 [], I64 0, Bo (decide (dnum (dv 1 0) < 0)), U32 (lim (dnum (dv 1 0)).natAbs), I64 (dexp (dv 1 0))]
theorem dsg_lt (x : Dyadic) : dsg x < 0 ↔ x.toRat < 0 := by
  have h1 := (dsg_rat x).1
  have h2 : dsg x = 0 ↔ x.toRat = 0 := by
    rw [dsg_zero]
    exact ⟨fun h => by rw [h]; exact Dyadic.toRat_zero, fun h => by rw [← Dyadic.toRat_inj, h]; exact Dyadic.toRat_zero.symm⟩
  constructor
  · intro h
    have a1 := h1.1 (by omega)
    have a2 : ¬ x.toRat = 0 := fun e => by have := h2.2 e; omega
    grind
  · intro h
    have a1 := h1.2 (by grind)
    have a2 : ¬ dsg x = 0 := fun e => by have := h2.1 e; grind
    omega
theorem one_rat : (dv 1 0).toRat = 1 := by
  rw [dv_rat, Rat.zpow_zero, Rat.mul_one]; rfl
theorem unit_lt (z : Cx) : (dnum (nrm z - dv 1 0)).sign < 0 ↔ Rc.nq (toRc z) < 1 := by
  have := dsg_lt (nrm z - dv 1 0)
  rw [sub_rat, nrm_rat, one_rat] at this
  unfold dsg at this
  rw [this]
  constructor <;> (intro h; grind)
theorem unit_le (z : Cx) : (dnum (nrm z - dv 1 0)).sign ≤ 0 ↔ Rc.nq (toRc z) ≤ 1 := by
  have := (dsg_rat (nrm z - dv 1 0)).1
  rw [sub_rat, nrm_rat, one_rat] at this
  unfold dsg at this
  rw [this]
  constructor <;> (intro h; grind)
theorem sub_zero' (c : Cx) : c - zero = c := Cx.ext' (show c.re - 0 = c.re by grind) (show c.im - 0 = c.im by grind)
theorem within_s (hc : CB z 296) : Sat CT false 36 [DZ, CI z] (Bo (decide (Rc.nq (toRc z) < 1))) := by
  refine sat_of annulusref8_Within.ok (by simp) ?_
  have DD := annulusref8_Within.dr
  simp only [drP, drPx, drPt, drR, drS, drT, bodyOf, Tryz.f36, Nat.reduceEqDiff, reduceIte, true_and, and_true] at DD
  have u1 := rsub8 hc (CB.zero 296) (by decide) (by decide)
  rw [sub_zero', CI_0] at u1
  have u2 := rnorm8_s hc (by decide)
  have b1 : DB (dv 1 0) 10 := (few_c 1 (by decide)).1
  have u3 := rmul4 (RD_D b1) (RD_D b1) (by decide) (by decide)
  rw [dv_mul, Int.mul_one, Int.add_zero] at u3
  have u4 := rcmp4_s (nrm_db hc) b1 (by decide) (by decide)
  have e : decide (Rc.nq (toRc z) < 1) = decide ((dnum (nrm z - dv 1 0)).sign < 0) := decide_eq_decide.2 (unit_lt z).symm
  rw [e]
  simp -implicitDefEqProofs only [go_sem, Nat.reduceAdd, Nat.reduceEqDiff, Nat.reduceLT, reduceIte, reduceCtorEq, Int.reduceLE, Int.reduceLT, Int.reduceEq, Int.reduceAdd, Int.reduceMul, Int.reduceSub, Nat.reduceMul, Nat.reduceSub, Nat.reducePow, Nat.reduceLeDiff, Int.reduceToNat, Tryz.f36, DD, DZ]
  refine callK_q annulusref8_Sub.call (u1) rfl rfl ?_
  simp -implicitDefEqProofs only [go_sem, Nat.reduceAdd, Nat.reduceEqDiff, Nat.reduceLT, reduceIte, reduceCtorEq, Int.reduceLE, Int.reduceLT, Int.reduceEq, Int.reduceAdd, Int.reduceMul, Int.reduceSub, Nat.reduceMul, Nat.reduceSub, Nat.reducePow, Nat.reduceLeDiff, Int.reduceToNat, DD]
  refine callK_q annulusref8_Norm.call (u2) rfl rfl ?_
  simp -implicitDefEqProofs only [go_sem, Nat.reduceAdd, Nat.reduceEqDiff, Nat.reduceLT, reduceIte, reduceCtorEq, Int.reduceLE, Int.reduceLT, Int.reduceEq, Int.reduceAdd, Int.reduceMul, Int.reduceSub, Nat.reduceMul, Nat.reduceSub, Nat.reducePow, Nat.reduceLeDiff, Int.reduceToNat, DD]
  refine callK_q annulusref4_Mul.call (u3) rfl rfl ?_
  simp -implicitDefEqProofs only [go_sem, Nat.reduceAdd, Nat.reduceEqDiff, Nat.reduceLT, reduceIte, reduceCtorEq, Int.reduceLE, Int.reduceLT, Int.reduceEq, Int.reduceAdd, Int.reduceMul, Int.reduceSub, Nat.reduceMul, Nat.reduceSub, Nat.reducePow, Nat.reduceLeDiff, Int.reduceToNat, DD]
  refine callK_q annulusref4_Cmp.call (u4) rfl rfl ?_
  simp -implicitDefEqProofs only [go_sem, Nat.reduceAdd, Nat.reduceEqDiff, Nat.reduceLT, reduceIte, reduceCtorEq, Int.reduceLE, Int.reduceLT, Int.reduceEq, Int.reduceAdd, Int.reduceMul, Int.reduceSub, Nat.reduceMul, Nat.reduceSub, Nat.reducePow, Nat.reduceLeDiff, Int.reduceToNat, DD]
theorem holds_s (hc : CB z 296) : Sat CT false 37 [DZ, CI z] (Bo (decide (Rc.nq (toRc z) ≤ 1))) := by
  refine sat_of annulusref8_Holds.ok (by simp) ?_
  have DD := annulusref8_Holds.dr
  simp only [drP, drPx, drPt, drR, drS, drT, bodyOf, Tryz.f37, Nat.reduceEqDiff, reduceIte, true_and, and_true] at DD
  have u1 := rsub8 hc (CB.zero 296) (by decide) (by decide)
  rw [sub_zero', CI_0] at u1
  have u2 := rnorm8_s hc (by decide)
  have b1 : DB (dv 1 0) 10 := (few_c 1 (by decide)).1
  have u3 := rmul4 (RD_D b1) (RD_D b1) (by decide) (by decide)
  rw [dv_mul, Int.mul_one, Int.add_zero] at u3
  have u4 := rcmp4_s (nrm_db hc) b1 (by decide) (by decide)
  have e : decide (Rc.nq (toRc z) ≤ 1) = decide ((dnum (nrm z - dv 1 0)).sign ≤ 0) := decide_eq_decide.2 (unit_le z).symm
  rw [e]
  simp -implicitDefEqProofs only [go_sem, Nat.reduceAdd, Nat.reduceEqDiff, Nat.reduceLT, reduceIte, reduceCtorEq, Int.reduceLE, Int.reduceLT, Int.reduceEq, Int.reduceAdd, Int.reduceMul, Int.reduceSub, Nat.reduceMul, Nat.reduceSub, Nat.reducePow, Nat.reduceLeDiff, Int.reduceToNat, Tryz.f37, DD, DZ]
  refine callK_q annulusref8_Sub.call (u1) rfl rfl ?_
  simp -implicitDefEqProofs only [go_sem, Nat.reduceAdd, Nat.reduceEqDiff, Nat.reduceLT, reduceIte, reduceCtorEq, Int.reduceLE, Int.reduceLT, Int.reduceEq, Int.reduceAdd, Int.reduceMul, Int.reduceSub, Nat.reduceMul, Nat.reduceSub, Nat.reducePow, Nat.reduceLeDiff, Int.reduceToNat, DD]
  refine callK_q annulusref8_Norm.call (u2) rfl rfl ?_
  simp -implicitDefEqProofs only [go_sem, Nat.reduceAdd, Nat.reduceEqDiff, Nat.reduceLT, reduceIte, reduceCtorEq, Int.reduceLE, Int.reduceLT, Int.reduceEq, Int.reduceAdd, Int.reduceMul, Int.reduceSub, Nat.reduceMul, Nat.reduceSub, Nat.reducePow, Nat.reduceLeDiff, Int.reduceToNat, DD]
  refine callK_q annulusref4_Mul.call (u3) rfl rfl ?_
  simp -implicitDefEqProofs only [go_sem, Nat.reduceAdd, Nat.reduceEqDiff, Nat.reduceLT, reduceIte, reduceCtorEq, Int.reduceLE, Int.reduceLT, Int.reduceEq, Int.reduceAdd, Int.reduceMul, Int.reduceSub, Nat.reduceMul, Nat.reduceSub, Nat.reducePow, Nat.reduceLeDiff, Int.reduceToNat, DD]
  refine callK_q annulusref4_Cmp.call (u4) rfl rfl ?_
  simp -implicitDefEqProofs only [go_sem, Nat.reduceAdd, Nat.reduceEqDiff, Nat.reduceLT, reduceIte, reduceCtorEq, Int.reduceLE, Int.reduceLT, Int.reduceEq, Int.reduceAdd, Int.reduceMul, Int.reduceSub, Nat.reduceMul, Nat.reduceSub, Nat.reducePow, Nat.reduceLeDiff, Int.reduceToNat, DD]
/-- how many of the first lie within -/
def ctn (r : Nat → Cx) : Nat → Nat
  | 0 => 0
  | i + 1 => if Rc.nq (toRc (r i)) < 1 then ctn r i + 1 else ctn r i
theorem ctn_le (r : Nat → Cx) : ∀ i, ctn r i ≤ i
  | 0 => Nat.le_refl _
  | i + 1 => by have := ctn_le r i; unfold ctn; split <;> omega
theorem cnt_rsl (r : Nat → Cx) : ∀ n, ((rsl r n).filter (fun x => decide (Rc.nq x < 1))).length = ctn r n
  | 0 => rfl
  | n + 1 => by
    have ih := cnt_rsl r n
    show ((toRc (r n) :: rsl r n).filter _).length = if Rc.nq (toRc (r n)) < 1 then ctn r n + 1 else ctn r n
    by_cases h : Rc.nq (toRc (r n)) < 1
    · rw [if_pos h, List.filter_cons_of_pos (by simpa using h), List.length_cons, ih]
    · rw [if_neg h, List.filter_cons_of_neg (by simpa using h), ih]
theorem rsl_mem (r : Nat → Cx) {i : Nat} : ∀ {n}, i < n → toRc (r i) ∈ rsl r n
  | 0, h => absurd h (Nat.not_lt_zero _)
  | n + 1, h => by
    by_cases e : i = n
    · rw [e]; exact List.mem_cons_self ..
    · exact List.mem_cons_of_mem _ (rsl_mem r (by omega))
def dzc : List AV := [Bo false, .sl 0 [], I64 0, Bo false, .sl 0 [], I64 0, Bo (decide (dnum (dv 1 0) < 0)), U32 (lim (dnum (dv 1 0)).natAbs), I64 (dexp (dv 1 0))]
set_option maxHeartbeats 1000000 in
theorem inside_s (h : RP cs n f 296) (hn : n ≤ 1000) : ∃ (x : Int) (ok : Bool), Sat CT false 17 [.sl n cs, DZ] (.tup [I64 x, Bo ok]) ∧
    ((∀ i, i < n → Rc.nq (toRc (f i)) ≠ 1) → x = (ctn f n : Nat) ∧ ok = true) := by
  have DD := annulusref11_Inside.dr
  simp only [drP, drPx, drPt, drR, drS, drT, bodyOf, Tryz.f17, Nat.reduceEqDiff, reduceIte, true_and, and_true] at DD
  have hlen := h.len
  rcases first_of (p := fun i => Rc.nq (toRc (f i)) = 1) n with ⟨j, hj, hno, hyes⟩ | hall
  · refine ⟨(ctn f j : Nat), false, ?_, fun q => absurd hyes (q j hj)⟩
    refine sat_of annulusref11_Inside.ok (by simp) ?_
    simp -implicitDefEqProofs only [go_sem, Nat.reduceAdd, Nat.reduceEqDiff, Nat.reduceLT, reduceIte, reduceCtorEq, Int.reduceLE, Int.reduceLT, Int.reduceEq, Int.reduceAdd, Int.reduceMul, Int.reduceSub, Nat.reduceMul, Nat.reduceSub, Nat.reducePow, Nat.reduceLeDiff, Int.reduceToNat, Tryz.f17, DD, DZ]
    refine loop_of aW0_mono (fun q σ => ∃ sl H i, σ = ⟨sl, H⟩ ∧ q = n - i ∧ i ≤ j ∧ look sl 0 = .sl n cs ∧ look sl 3 = .ptr 0 0 ∧ look sl 6 = I64 (ctn f i : Nat) ∧ look sl 7 = I64 (i : Nat) ∧ 0 < H.length ∧ H.getD 0 ⟨[], false, false⟩ = ⟨dzc, true, true⟩) ?_ (n := n)
      ⟨_, _, 0, rfl, rfl, Nat.zero_le _, by simp [x_look], by simp [x_look], by simp [x_look, ctn], by simp [x_look], by simp, rfl⟩
    rintro q _ ⟨sl, H, i, rfl, rfl, hi, k0, k3, k6, k7, hH, hg0⟩
    have c1 : (i : Int) < (n : Int) := by omega
    have ci : IntKind.i64.wrap ((i : Int) + 1) = ((i + 1 : Nat) : Int) := by rw [wrap_id (by omega)]; omega
    have hcl := ctn_le f i
    have cj : IntKind.i64.wrap ((ctn f i : Nat) + 1) = ((ctn f i + 1 : Nat) : Int) := by rw [wrap_id (by omega)]; omega
    have c2 : (0 : Int) ≤ (i : Int) := by omega
    have c4 : i * 6 < cs.length := by omega
    have c5 : i * 6 + 6 ≤ cs.length := by omega
    obtain ⟨s, l, e, t, kk, gg, hc, hr⟩ := h.cells (i := i) (by omega)
    have g0 : ∀ y, (H ++ [y]).getD 0 ⟨[], false, false⟩ = ⟨dzc, true, true⟩ := fun y => by rw [getD_hp hH]; exact hg0
    have rc := rcplx_r hr (by decide)
    have wi := within_s hr.cb
    have ho := holds_s hr.cb
    unfold DZ at wi ho
    have eC : ctn f (i + 1) = if Rc.nq (toRc (f i)) < 1 then ctn f i + 1 else ctn f i := rfl
    by_cases q1 : Rc.nq (toRc (f i)) < 1
    · rw [decide_eq_true q1] at wi
      have hij : i ≠ j := fun e => by rw [e] at q1; grind
      simp -implicitDefEqProofs only [go_sem, Nat.reduceAdd, Nat.reduceEqDiff, Nat.reduceLT, reduceIte, reduceCtorEq, Int.reduceLE, Int.reduceLT, Int.reduceEq, Int.reduceAdd, Int.reduceMul, Int.reduceSub, Nat.reduceMul, Nat.reduceSub, Nat.reducePow, Nat.reduceLeDiff, Int.reduceToNat, DD, k0, k3, k6, k7, c1, c2, c4, c5, ci, cj, hc, g0, dzc]
      refine callK_pl annulusref8_Cplx.call (rc) (pl1 (pld_RC hr)) ?_
      simp -implicitDefEqProofs only [go_sem, Nat.reduceAdd, Nat.reduceEqDiff, Nat.reduceLT, reduceIte, reduceCtorEq, Int.reduceLE, Int.reduceLT, Int.reduceEq, Int.reduceAdd, Int.reduceMul, Int.reduceSub, Nat.reduceMul, Nat.reduceSub, Nat.reducePow, Nat.reduceLeDiff, Int.reduceToNat, DD, k0, k3, k6, k7, c1, c2, c4, c5, ci, cj, hc, g0, dzc]
      refine callK_q annulusref8_Within.call (wi) rfl rfl ?_
      simp -implicitDefEqProofs only [go_sem, Nat.reduceAdd, Nat.reduceEqDiff, Nat.reduceLT, reduceIte, reduceCtorEq, Int.reduceLE, Int.reduceLT, Int.reduceEq, Int.reduceAdd, Int.reduceMul, Int.reduceSub, Nat.reduceMul, Nat.reduceSub, Nat.reducePow, Nat.reduceLeDiff, Int.reduceToNat, DD, k0, k3, k6, k7, c1, c2, c4, c5, ci, cj, hc, g0, dzc]
      exact ⟨n - (i + 1), by omega, _, _, i + 1, rfl, rfl, by omega, by simp [x_look, k0], by simp [x_look, k3], by rw [eC, if_pos q1]; simp [x_look, k6], by simp [x_look], by simp <;> omega, g0 _⟩
    · rw [decide_eq_false q1] at wi
      by_cases q2 : Rc.nq (toRc (f i)) ≤ 1
      · rw [decide_eq_true q2] at ho
        have hij : i = j := by
          rcases Nat.lt_or_ge i j with g | g
          · exact absurd (show Rc.nq (toRc (f i)) = 1 by grind) (hno i g)
          · omega
        subst hij
        simp -implicitDefEqProofs only [go_sem, Nat.reduceAdd, Nat.reduceEqDiff, Nat.reduceLT, reduceIte, reduceCtorEq, Int.reduceLE, Int.reduceLT, Int.reduceEq, Int.reduceAdd, Int.reduceMul, Int.reduceSub, Nat.reduceMul, Nat.reduceSub, Nat.reducePow, Nat.reduceLeDiff, Int.reduceToNat, DD, k0, k3, k6, k7, c1, c2, c4, c5, ci, cj, hc, g0, dzc]
        refine callK_pl annulusref8_Cplx.call (rc) (pl1 (pld_RC hr)) ?_
        simp -implicitDefEqProofs only [go_sem, Nat.reduceAdd, Nat.reduceEqDiff, Nat.reduceLT, reduceIte, reduceCtorEq, Int.reduceLE, Int.reduceLT, Int.reduceEq, Int.reduceAdd, Int.reduceMul, Int.reduceSub, Nat.reduceMul, Nat.reduceSub, Nat.reducePow, Nat.reduceLeDiff, Int.reduceToNat, DD, k0, k3, k6, k7, c1, c2, c4, c5, ci, cj, hc, g0, dzc]
        refine callK_q annulusref8_Within.call (wi) rfl rfl ?_
        simp -implicitDefEqProofs only [go_sem, Nat.reduceAdd, Nat.reduceEqDiff, Nat.reduceLT, reduceIte, reduceCtorEq, Int.reduceLE, Int.reduceLT, Int.reduceEq, Int.reduceAdd, Int.reduceMul, Int.reduceSub, Nat.reduceMul, Nat.reduceSub, Nat.reducePow, Nat.reduceLeDiff, Int.reduceToNat, DD, k0, k3, k6, k7, c1, c2, c4, c5, ci, cj, hc, g0, dzc]
        refine callK_q annulusref8_Holds.call (ho) rfl rfl ?_
        simp -implicitDefEqProofs only [go_sem, Nat.reduceAdd, Nat.reduceEqDiff, Nat.reduceLT, reduceIte, reduceCtorEq, Int.reduceLE, Int.reduceLT, Int.reduceEq, Int.reduceAdd, Int.reduceMul, Int.reduceSub, Nat.reduceMul, Nat.reduceSub, Nat.reducePow, Nat.reduceLeDiff, Int.reduceToNat, DD, k0, k3, k6, k7, c1, c2, c4, c5, ci, cj, hc, g0, dzc]
      · rw [decide_eq_false q2] at ho
        have hij : i ≠ j := fun e => by rw [e] at q2; grind
        simp -implicitDefEqProofs only [go_sem, Nat.reduceAdd, Nat.reduceEqDiff, Nat.reduceLT, reduceIte, reduceCtorEq, Int.reduceLE, Int.reduceLT, Int.reduceEq, Int.reduceAdd, Int.reduceMul, Int.reduceSub, Nat.reduceMul, Nat.reduceSub, Nat.reducePow, Nat.reduceLeDiff, Int.reduceToNat, DD, k0, k3, k6, k7, c1, c2, c4, c5, ci, cj, hc, g0, dzc]
        refine callK_pl annulusref8_Cplx.call (rc) (pl1 (pld_RC hr)) ?_
        simp -implicitDefEqProofs only [go_sem, Nat.reduceAdd, Nat.reduceEqDiff, Nat.reduceLT, reduceIte, reduceCtorEq, Int.reduceLE, Int.reduceLT, Int.reduceEq, Int.reduceAdd, Int.reduceMul, Int.reduceSub, Nat.reduceMul, Nat.reduceSub, Nat.reducePow, Nat.reduceLeDiff, Int.reduceToNat, DD, k0, k3, k6, k7, c1, c2, c4, c5, ci, cj, hc, g0, dzc]
        refine callK_q annulusref8_Within.call (wi) rfl rfl ?_
        simp -implicitDefEqProofs only [go_sem, Nat.reduceAdd, Nat.reduceEqDiff, Nat.reduceLT, reduceIte, reduceCtorEq, Int.reduceLE, Int.reduceLT, Int.reduceEq, Int.reduceAdd, Int.reduceMul, Int.reduceSub, Nat.reduceMul, Nat.reduceSub, Nat.reducePow, Nat.reduceLeDiff, Int.reduceToNat, DD, k0, k3, k6, k7, c1, c2, c4, c5, ci, cj, hc, g0, dzc]
        refine callK_q annulusref8_Holds.call (ho) rfl rfl ?_
        simp -implicitDefEqProofs only [go_sem, Nat.reduceAdd, Nat.reduceEqDiff, Nat.reduceLT, reduceIte, reduceCtorEq, Int.reduceLE, Int.reduceLT, Int.reduceEq, Int.reduceAdd, Int.reduceMul, Int.reduceSub, Nat.reduceMul, Nat.reduceSub, Nat.reducePow, Nat.reduceLeDiff, Int.reduceToNat, DD, k0, k3, k6, k7, c1, c2, c4, c5, ci, cj, hc, g0, dzc]
        exact ⟨n - (i + 1), by omega, _, _, i + 1, rfl, rfl, by omega, by simp [x_look, k0], by simp [x_look, k3], by rw [eC, if_neg q1]; simp [x_look, k6], by simp [x_look], by simp <;> omega, g0 _⟩
  · refine ⟨(ctn f n : Nat), true, ?_, fun _ => ⟨rfl, rfl⟩⟩
    refine sat_of annulusref11_Inside.ok (by simp) ?_
    simp -implicitDefEqProofs only [go_sem, Nat.reduceAdd, Nat.reduceEqDiff, Nat.reduceLT, reduceIte, reduceCtorEq, Int.reduceLE, Int.reduceLT, Int.reduceEq, Int.reduceAdd, Int.reduceMul, Int.reduceSub, Nat.reduceMul, Nat.reduceSub, Nat.reducePow, Nat.reduceLeDiff, Int.reduceToNat, Tryz.f17, DD, DZ]
    refine loop_of aW0_mono (fun q σ => ∃ sl H i, σ = ⟨sl, H⟩ ∧ q = n - i ∧ i ≤ n ∧ look sl 0 = .sl n cs ∧ look sl 3 = .ptr 0 0 ∧ look sl 6 = I64 (ctn f i : Nat) ∧ look sl 7 = I64 (i : Nat) ∧ 0 < H.length ∧ H.getD 0 ⟨[], false, false⟩ = ⟨dzc, true, true⟩) ?_ (n := n)
      ⟨_, _, 0, rfl, rfl, Nat.zero_le _, by simp [x_look], by simp [x_look], by simp [x_look, ctn], by simp [x_look], by simp, rfl⟩
    rintro q _ ⟨sl, H, i, rfl, rfl, hi, k0, k3, k6, k7, hH, hg0⟩
    by_cases hid : i = n
    · subst hid
      simp -implicitDefEqProofs only [go_sem, Nat.reduceAdd, Nat.reduceEqDiff, Nat.reduceLT, reduceIte, reduceCtorEq, Int.reduceLE, Int.reduceLT, Int.reduceEq, Int.reduceAdd, Int.reduceMul, Int.reduceSub, Nat.reduceMul, Nat.reduceSub, Nat.reducePow, Nat.reduceLeDiff, Int.reduceToNat, DD, k0, k3, k6, k7, Int.lt_irrefl]
    · have hn1 := hall i (by omega)
      have c1 : (i : Int) < (n : Int) := by omega
      have ci : IntKind.i64.wrap ((i : Int) + 1) = ((i + 1 : Nat) : Int) := by rw [wrap_id (by omega)]; omega
      have hcl := ctn_le f i
      have cj : IntKind.i64.wrap ((ctn f i : Nat) + 1) = ((ctn f i + 1 : Nat) : Int) := by rw [wrap_id (by omega)]; omega
      have c2 : (0 : Int) ≤ (i : Int) := by omega
      have c4 : i * 6 < cs.length := by omega
      have c5 : i * 6 + 6 ≤ cs.length := by omega
      obtain ⟨s, l, e, t, kk, gg, hc, hr⟩ := h.cells (i := i) (by omega)
      have g0 : ∀ y, (H ++ [y]).getD 0 ⟨[], false, false⟩ = ⟨dzc, true, true⟩ := fun y => by rw [getD_hp hH]; exact hg0
      have rc := rcplx_r hr (by decide)
      have wi := within_s hr.cb
      have ho := holds_s hr.cb
      unfold DZ at wi ho
      have eC : ctn f (i + 1) = if Rc.nq (toRc (f i)) < 1 then ctn f i + 1 else ctn f i := rfl
      by_cases q1 : Rc.nq (toRc (f i)) < 1
      · rw [decide_eq_true q1] at wi
        simp -implicitDefEqProofs only [go_sem, Nat.reduceAdd, Nat.reduceEqDiff, Nat.reduceLT, reduceIte, reduceCtorEq, Int.reduceLE, Int.reduceLT, Int.reduceEq, Int.reduceAdd, Int.reduceMul, Int.reduceSub, Nat.reduceMul, Nat.reduceSub, Nat.reducePow, Nat.reduceLeDiff, Int.reduceToNat, DD, k0, k3, k6, k7, c1, c2, c4, c5, ci, cj, hc, g0, dzc]
        refine callK_pl annulusref8_Cplx.call (rc) (pl1 (pld_RC hr)) ?_
        simp -implicitDefEqProofs only [go_sem, Nat.reduceAdd, Nat.reduceEqDiff, Nat.reduceLT, reduceIte, reduceCtorEq, Int.reduceLE, Int.reduceLT, Int.reduceEq, Int.reduceAdd, Int.reduceMul, Int.reduceSub, Nat.reduceMul, Nat.reduceSub, Nat.reducePow, Nat.reduceLeDiff, Int.reduceToNat, DD, k0, k3, k6, k7, c1, c2, c4, c5, ci, cj, hc, g0, dzc]
        refine callK_q annulusref8_Within.call (wi) rfl rfl ?_
        simp -implicitDefEqProofs only [go_sem, Nat.reduceAdd, Nat.reduceEqDiff, Nat.reduceLT, reduceIte, reduceCtorEq, Int.reduceLE, Int.reduceLT, Int.reduceEq, Int.reduceAdd, Int.reduceMul, Int.reduceSub, Nat.reduceMul, Nat.reduceSub, Nat.reducePow, Nat.reduceLeDiff, Int.reduceToNat, DD, k0, k3, k6, k7, c1, c2, c4, c5, ci, cj, hc, g0, dzc]
        exact ⟨n - (i + 1), by omega, _, _, i + 1, rfl, rfl, by omega, by simp [x_look, k0], by simp [x_look, k3], by rw [eC, if_pos q1]; simp [x_look, k6], by simp [x_look], by simp <;> omega, g0 _⟩
      · rw [decide_eq_false q1] at wi
        by_cases q2 : Rc.nq (toRc (f i)) ≤ 1
        · exact absurd (show Rc.nq (toRc (f i)) = 1 by grind) hn1
        · rw [decide_eq_false q2] at ho
          simp -implicitDefEqProofs only [go_sem, Nat.reduceAdd, Nat.reduceEqDiff, Nat.reduceLT, reduceIte, reduceCtorEq, Int.reduceLE, Int.reduceLT, Int.reduceEq, Int.reduceAdd, Int.reduceMul, Int.reduceSub, Nat.reduceMul, Nat.reduceSub, Nat.reducePow, Nat.reduceLeDiff, Int.reduceToNat, DD, k0, k3, k6, k7, c1, c2, c4, c5, ci, cj, hc, g0, dzc]
          refine callK_pl annulusref8_Cplx.call (rc) (pl1 (pld_RC hr)) ?_
          simp -implicitDefEqProofs only [go_sem, Nat.reduceAdd, Nat.reduceEqDiff, Nat.reduceLT, reduceIte, reduceCtorEq, Int.reduceLE, Int.reduceLT, Int.reduceEq, Int.reduceAdd, Int.reduceMul, Int.reduceSub, Nat.reduceMul, Nat.reduceSub, Nat.reducePow, Nat.reduceLeDiff, Int.reduceToNat, DD, k0, k3, k6, k7, c1, c2, c4, c5, ci, cj, hc, g0, dzc]
          refine callK_q annulusref8_Within.call (wi) rfl rfl ?_
          simp -implicitDefEqProofs only [go_sem, Nat.reduceAdd, Nat.reduceEqDiff, Nat.reduceLT, reduceIte, reduceCtorEq, Int.reduceLE, Int.reduceLT, Int.reduceEq, Int.reduceAdd, Int.reduceMul, Int.reduceSub, Nat.reduceMul, Nat.reduceSub, Nat.reducePow, Nat.reduceLeDiff, Int.reduceToNat, DD, k0, k3, k6, k7, c1, c2, c4, c5, ci, cj, hc, g0, dzc]
          refine callK_q annulusref8_Holds.call (ho) rfl rfl ?_
          simp -implicitDefEqProofs only [go_sem, Nat.reduceAdd, Nat.reduceEqDiff, Nat.reduceLT, reduceIte, reduceCtorEq, Int.reduceLE, Int.reduceLT, Int.reduceEq, Int.reduceAdd, Int.reduceMul, Int.reduceSub, Nat.reduceMul, Nat.reduceSub, Nat.reducePow, Nat.reduceLeDiff, Int.reduceToNat, DD, k0, k3, k6, k7, c1, c2, c4, c5, ci, cj, hc, g0, dzc]
          exact ⟨n - (i + 1), by omega, _, _, i + 1, rfl, rfl, by omega, by simp [x_look, k0], by simp [x_look, k3], by rw [eC, if_neg q1]; simp [x_look, k6], by simp [x_look], by simp <;> omega, g0 _⟩
theorem sure_cnt (r : Nat → Cx) (n : Nat) {P : Nat} (hP : 1 ≤ P) (k : Nat) (hk : k ≤ n) (h : tYes (frm r n) (n + 1) k P) : k = ctn r n ∧ ∀ i, i < n → Rc.nq (toRc (r i)) ≠ 1 := by
  obtain ⟨h1, h2⟩ := sure_law r n hP k hk h
  rw [cnt_rsl] at h1
  exact ⟨h1.symm, fun i hi => h2 _ (rsl_mem r hi)⟩
theorem few_len {n : Nat} (h : (7 : Int) < n) : ¬ (n : Int) ≤ 7 := by omega
/-- a test of a product from roots -/
theorem tv_test (r : Nat → Cx) (hp : PB (frm r n) 2450) (hs : Sp (n + 1) (frm r n)) (hd : dg (n + 1) (frm r n) = n + 1) (hn : n ≤ 7) (P : Nat) (hP : 1 ≤ P) (hP2 : P ≤ 400) (k : Nat) (hk : k ≤ n) :
    ∃ u : Int, Sat CT false 11 [PA (n + 1) (frm r n), I64 (k : Nat), I64 (P : Nat)] (I64 u) ∧ (u = 1 ↔ tYes (frm r n) (n + 1) k P) := by
  have rp := RP_P hp hs (show n + 1 ≤ 1000000 by omega)
  obtain ⟨p1, p2, p3⟩ := test_inB rp (by decide) (isD_pcl _ _) (by omega) k (by rw [hd]; omega) (P : Nat) (by rw [held_n P hP (by omega)]; exact hP2)
  rw [held_n P hP (by omega), hd] at p1 p2 p3
  obtain ⟨u, hu⟩ := TV_ex (frm r n) (n + 1) k P
  refine ⟨u, ?_, TV_one hu⟩
  rcases hu with ⟨rfl, g1⟩ | ⟨rfl, g1, g2⟩ | ⟨rfl, g1, g2⟩
  · exact p1 g1
  · exact p2 g1 g2
  · exact p3 g1 g2
set_option maxRecDepth 100000 in
set_option maxHeartbeats 2000000 in
theorem sure_main (F : Nat → Raw) (hF : ∀ i, (F i).ok) (hf : ∀ i, i < n → (F i).sm) (hn : n ≤ 7) (b : Nat) (hb : b < 256) : Sat CT false 4 [.sl n (qcl n F), .v (.int .u8 (b : Nat))] (Bo true) := by
  refine sat_of annuluslaw14_PelletSure.ok (by simp) ?_
  have DD := annuluslaw14_PelletSure.dr
  simp only [drP, drPx, drPt, drR, drS, drT, bodyOf, Tryz.f4, Nat.reduceEqDiff, reduceIte, true_and, and_true] at DD
  have kn := known14_s
  have fw := few14_s (n := n) F (by omega)
  rw [decide_eq_true (show (∀ i, i < n → (F i).sm) ∧ n ≤ 14 from ⟨hf, by omega⟩)] at fw
  have rq := RP_q (n := n) (fun i _ => hF i) hf (by omega)
  have hcb : ∀ i, i < n → CB (qpo n F i) 296 := fun i hi => rq.pb i
  have fr := rfrom_s (n := n) (B := 296) (qpo n F) rq.len (fun i hi => rq.el i hi) (by omega) (by decide) (by omega)
  obtain ⟨x, ok, ins, hins⟩ := inside_s rq (by omega)
  have hpb : PB (frm (qpo n F) n) 2450 := (PB.frm hcb (by decide) (Nat.le_refl n)).mono (by have : n * (296 + 3) ≤ 7 * 299 := Nat.mul_le_mul_right _ hn; omega)
  have hsp : Sp (n + 1) (frm (qpo n F) n) := Sp.frm _ _
  have hdg := dg_frm (qpo n F) n
  have m2 : ((b : Int).tmod 60) = ((b % 60 : Nat) : Int) := Int.tmod_eq_emod_of_nonneg (by omega)
  obtain ⟨β, hβ, hβ2⟩ : ∃ β, β = b % 60 ∧ β ≤ 59 := ⟨_, rfl, by omega⟩
  rw [← hβ] at m2
  have u5 : IntKind.i64.wrap (β : Int) = (β : Int) := wrap_id (by omega)
  obtain ⟨P, hP⟩ : ∃ P, P = β + 4 := ⟨_, rfl⟩
  have u6 : IntKind.i64.wrap ((β : Int) + 4) = (P : Int) := by rw [wrap_id (by omega), hP]; omega
  have hP1 : 1 ≤ P := by omega
  have hP2 : P ≤ 400 := by omega
  have o1 := rof4_sat 1 (by decide) (by decide)
  have tst := fun k hk => tv_test (n := n) (qpo n F) hpb hsp hdg hn P hP1 hP2 k hk
  have rp := RP_P hpb hsp (show n + 1 ≤ 1000000 by omega)
  obtain ⟨a1, a2⟩ := any_sB rp (by decide) (isD_pcl _ _) (by omega) (P : Nat) (by rw [held_n P hP1 (by omega)]; exact hP2)
  rw [held_n P hP1 (by omega), hdg] at a1 a2
  have key : (∃ k0, k0 ≤ n ∧ x = (k0 : Nat) ∧ ok = true ∧ Sat CT false 8 [PA (n + 1) (frm (qpo n F) n), I64 (P : Nat)] (.tup [I64 (k0 : Nat), Bo true]) ∧ ∀ k, k ≤ n → (tYes (frm (qpo n F) n) (n + 1) k P ↔ k = k0)) ∨
      (Sat CT false 8 [PA (n + 1) (frm (qpo n F) n), I64 (P : Nat)] (.tup [I64 (-1), Bo false]) ∧ ∀ k, k ≤ n → ¬ tYes (frm (qpo n F) n) (n + 1) k P) := by
    rcases first_of (p := fun i => tYes (frm (qpo n F) n) (n + 1) i P) (n + 1) with ⟨j, h1, h2, h3⟩ | h0
    · obtain ⟨e1, e2⟩ := sure_cnt (qpo n F) n hP1 j (by omega) h3
      obtain ⟨i1, i2⟩ := hins e2
      refine .inl ⟨j, by omega, by rw [i1, e1], i2, a1 j h1 (fun i hi g => h2 i hi ((aYes_iff (by omega)).1 g)) ((aYes_iff h1).2 h3), fun k hk => ⟨fun g => ?_, fun g => by rw [g]; exact h3⟩⟩
      rw [(sure_cnt (qpo n F) n hP1 k hk g).1, e1]
    · exact .inr ⟨a2 (fun i hi g => h0 i hi ((aYes_iff hi).1 g)), fun k hk => h0 k (by omega)⟩
  have c1 : ¬ (7 : Int) < (n : Int) := by omega
  have cj : ∀ i : Nat, i ≤ 8 → IntKind.i64.wrap ((i : Int) + 1) = ((i + 1 : Nat) : Int) := fun i hi => by rw [wrap_id (by omega)]; omega
  unfold DZ at ins
  generalize frm (qpo n F) n = p at *
  simp -implicitDefEqProofs only [go_sem, Nat.reduceAdd, Nat.reduceEqDiff, Nat.reduceLT, reduceIte, reduceCtorEq, Int.reduceLE, Int.reduceLT, Int.reduceEq, Int.reduceAdd, Int.reduceMul, Int.reduceSub, Nat.reduceMul, Nat.reduceSub, Nat.reducePow, Nat.reduceLeDiff, Int.reduceToNat, Tryz.f4, DD, c1, gt_iff_lt]
  refine callK_q annuluslaw14_known.call (kn) rfl rfl ?_
  simp -implicitDefEqProofs only [go_sem, Nat.reduceAdd, Nat.reduceEqDiff, Nat.reduceLT, reduceIte, reduceCtorEq, Int.reduceLE, Int.reduceLT, Int.reduceEq, Int.reduceAdd, Int.reduceMul, Int.reduceSub, Nat.reduceMul, Nat.reduceSub, Nat.reducePow, Nat.reduceLeDiff, Int.reduceToNat, DD, c1, gt_iff_lt]
  refine callK_pl annuluslaw14_few.call (fw) (pl1 (pld_q n F)) ?_
  simp -implicitDefEqProofs only [go_sem, Nat.reduceAdd, Nat.reduceEqDiff, Nat.reduceLT, reduceIte, reduceCtorEq, Int.reduceLE, Int.reduceLT, Int.reduceEq, Int.reduceAdd, Int.reduceMul, Int.reduceSub, Nat.reduceMul, Nat.reduceSub, Nat.reducePow, Nat.reduceLeDiff, Int.reduceToNat, DD, c1, gt_iff_lt]
  refine callK_pl annulusref11_From.call (fr) (pl1 (pld_q n F)) ?_
  simp -implicitDefEqProofs only [go_sem, Nat.reduceAdd, Nat.reduceEqDiff, Nat.reduceLT, reduceIte, reduceCtorEq, Int.reduceLE, Int.reduceLT, Int.reduceEq, Int.reduceAdd, Int.reduceMul, Int.reduceSub, Nat.reduceMul, Nat.reduceSub, Nat.reducePow, Nat.reduceLeDiff, Int.reduceToNat, DD, c1, gt_iff_lt]
  refine callK_q annulusref4_Of.call (o1) rfl rfl ?_
  simp -implicitDefEqProofs only [go_sem, Nat.reduceAdd, Nat.reduceEqDiff, Nat.reduceLT, reduceIte, reduceCtorEq, Int.reduceLE, Int.reduceLT, Int.reduceEq, Int.reduceAdd, Int.reduceMul, Int.reduceSub, Nat.reduceMul, Nat.reduceSub, Nat.reducePow, Nat.reduceLeDiff, Int.reduceToNat, DD, c1, gt_iff_lt]
  have idz : ∀ a ∈ [AV.sl n (qcl n F), .agg [Bo false, .sl 0 [], I64 0, Bo false, .sl 0 [], I64 0, Bo (decide (dnum (dv 1 0) < 0)), U32 (lim (dnum (dv 1 0)).natAbs), I64 (dexp (dv 1 0))]], IsD a := fun a ha => by
    rcases List.mem_cons.1 ha with rfl | ha
    · exact isD_sl (isD_qcl n F)
    · rw [List.mem_singleton.1 ha]
      simp [U32, isD_u32, isD_v, isD_nil, isD_agg]
  refine callK_q annulusref11_Inside.call ins rfl rfl ?_ (hi := idz)
  simp -implicitDefEqProofs only [go_sem, Nat.reduceAdd, Nat.reduceEqDiff, Nat.reduceLT, reduceIte, reduceCtorEq, Int.reduceLE, Int.reduceLT, Int.reduceEq, Int.reduceAdd, Int.reduceMul, Int.reduceSub, Nat.reduceMul, Nat.reduceSub, Nat.reducePow, Nat.reduceLeDiff, Int.reduceToNat, DD, c1, gt_iff_lt]
  rcases key with ⟨k0, hk0, rfl, rfl, an, hY⟩ | ⟨an, hN⟩
  · skip
    refine loop_of aW0_mono (fun q σ => ∃ sl i, σ = ⟨sl, []⟩ ∧ q = n + 1 - i ∧ i ≤ n + 1 ∧ look sl 0 = .sl n (qcl n F) ∧ look sl 1 = .v (.int .u8 (b : Nat)) ∧ look sl 5 = .sl (n + 1) (pcl (n + 1) p) ∧ look sl 6 = I64 (k0 : Nat) ∧ look sl 7 = Bo true ∧ look sl 8 = I64 (if k0 < i then 1 else 0) ∧ look sl 9 = I64 (i : Nat)) ?_ (n := n + 1)
      ⟨_, 0, rfl, rfl, Nat.zero_le _, by simp [x_look], by simp [x_look], by simp [x_look, PA], by simp [x_look], by simp [x_look], by simp [x_look], by simp [x_look]⟩
    rintro q _ ⟨sl, i, rfl, rfl, hi, k0', k1', k5', k6', k7', k8', k9'⟩
    by_cases hid : i = n + 1
    · subst hid
      have cN : ¬ ((n + 1 : Nat) : Int) ≤ (n : Int) := by omega
      rw [if_pos (show k0 < n + 1 by omega)] at k8'
      simp -implicitDefEqProofs only [go_sem, Nat.reduceAdd, Nat.reduceEqDiff, Nat.reduceLT, reduceIte, reduceCtorEq, Int.reduceLE, Int.reduceLT, Int.reduceEq, Int.reduceAdd, Int.reduceMul, Int.reduceSub, Nat.reduceMul, Nat.reduceSub, Nat.reducePow, Nat.reduceLeDiff, Int.reduceToNat, DD, c1, m2, u5, u6, k0', k1', k5', k6', k7', k8', k9', cN, gt_iff_lt, ge_iff_le]
      refine callK_pl pellet_Any.call (an) (pl2 (pld_PA _ _) pld_int) ?_
      simp -implicitDefEqProofs only [go_sem, Nat.reduceAdd, Nat.reduceEqDiff, Nat.reduceLT, reduceIte, reduceCtorEq, Int.reduceLE, Int.reduceLT, Int.reduceEq, Int.reduceAdd, Int.reduceMul, Int.reduceSub, Nat.reduceMul, Nat.reduceSub, Nat.reducePow, Nat.reduceLeDiff, Int.reduceToNat, DD, c1, m2, u5, u6, k0', k1', k5', k6', k7', k8', k9', cN, gt_iff_lt, ge_iff_le]
    · have cN : (i : Int) ≤ (n : Int) := by omega
      obtain ⟨u, t, hu⟩ := tst i (by omega)
      have ci := cj i (by omega)
      by_cases hik : i = k0
      · have hu1 : u = 1 := hu.2 ((hY i (by omega)).2 hik)
        subst hu1
        subst hik
        rw [if_neg (Nat.lt_irrefl i)] at k8'
        have w01 : IntKind.i64.wrap 1 = 1 := rfl
        simp -implicitDefEqProofs only [go_sem, Nat.reduceAdd, Nat.reduceEqDiff, Nat.reduceLT, reduceIte, reduceCtorEq, Int.reduceLE, Int.reduceLT, Int.reduceEq, Int.reduceAdd, Int.reduceMul, Int.reduceSub, Nat.reduceMul, Nat.reduceSub, Nat.reducePow, Nat.reduceLeDiff, Int.reduceToNat, DD, c1, m2, u5, u6, k0', k1', k5', k6', k7', k8', k9', cN, gt_iff_lt, ge_iff_le, ci, w01]
        refine callK_pl pellet_Test.call (t) (pl3 (pld_PA _ _) pld_int pld_int) ?_
        simp -implicitDefEqProofs only [go_sem, Nat.reduceAdd, Nat.reduceEqDiff, Nat.reduceLT, reduceIte, reduceCtorEq, Int.reduceLE, Int.reduceLT, Int.reduceEq, Int.reduceAdd, Int.reduceMul, Int.reduceSub, Nat.reduceMul, Nat.reduceSub, Nat.reducePow, Nat.reduceLeDiff, Int.reduceToNat, DD, c1, m2, u5, u6, k0', k1', k5', k6', k7', k8', k9', cN, gt_iff_lt, ge_iff_le, ci, w01, eq_self, ne_eq, not_true_eq_false]
        exact ⟨n + 1 - (i + 1), by omega, _, i + 1, rfl, rfl, by omega, by simp [x_look, k0'], by simp [x_look, k1'], by simp [x_look, k5'], by simp [x_look, k6'], by simp [x_look, k7'], by simp [x_look, k8'], by simp [x_look]⟩
      · have hu1 : ¬ u = 1 := fun g => hik ((hY i (by omega)).1 (hu.1 g))
        have e8 : (if k0 < i then (1 : Int) else 0) = if k0 < i + 1 then 1 else 0 := by
          by_cases g : k0 < i
          · rw [if_pos g, if_pos (by omega)]
          · rw [if_neg g, if_neg (by omega)]
        rw [e8] at k8'
        simp -implicitDefEqProofs only [go_sem, Nat.reduceAdd, Nat.reduceEqDiff, Nat.reduceLT, reduceIte, reduceCtorEq, Int.reduceLE, Int.reduceLT, Int.reduceEq, Int.reduceAdd, Int.reduceMul, Int.reduceSub, Nat.reduceMul, Nat.reduceSub, Nat.reducePow, Nat.reduceLeDiff, Int.reduceToNat, DD, c1, m2, u5, u6, k0', k1', k5', k6', k7', k8', k9', cN, gt_iff_lt, ge_iff_le, ci, hu1]
        refine callK_pl pellet_Test.call (t) (pl3 (pld_PA _ _) pld_int pld_int) ?_
        simp -implicitDefEqProofs only [go_sem, Nat.reduceAdd, Nat.reduceEqDiff, Nat.reduceLT, reduceIte, reduceCtorEq, Int.reduceLE, Int.reduceLT, Int.reduceEq, Int.reduceAdd, Int.reduceMul, Int.reduceSub, Nat.reduceMul, Nat.reduceSub, Nat.reducePow, Nat.reduceLeDiff, Int.reduceToNat, DD, c1, m2, u5, u6, k0', k1', k5', k6', k7', k8', k9', cN, gt_iff_lt, ge_iff_le, ci, hu1]
        exact ⟨n + 1 - (i + 1), by omega, _, i + 1, rfl, rfl, by omega, by simp [x_look, k0'], by simp [x_look, k1'], by simp [x_look, k5'], by simp [x_look, k6'], by simp [x_look, k7'], by simp [x_look, k8'], by simp [x_look]⟩
  · skip
    refine loop_of aW0_mono (fun q σ => ∃ sl i, σ = ⟨sl, []⟩ ∧ q = n + 1 - i ∧ i ≤ n + 1 ∧ look sl 0 = .sl n (qcl n F) ∧ look sl 1 = .v (.int .u8 (b : Nat)) ∧ look sl 5 = .sl (n + 1) (pcl (n + 1) p) ∧ look sl 6 = I64 x ∧ look sl 7 = Bo ok ∧ look sl 8 = I64 0 ∧ look sl 9 = I64 (i : Nat)) ?_ (n := n + 1)
      ⟨_, 0, rfl, rfl, Nat.zero_le _, by simp [x_look], by simp [x_look], by simp [x_look, PA], by simp [x_look], by simp [x_look], by simp [x_look], by simp [x_look]⟩
    rintro q _ ⟨sl, i, rfl, rfl, hi, k0', k1', k5', k6', k7', k8', k9'⟩
    by_cases hid : i = n + 1
    · subst hid
      have cN : ¬ ((n + 1 : Nat) : Int) ≤ (n : Int) := by omega
      simp -implicitDefEqProofs only [go_sem, Nat.reduceAdd, Nat.reduceEqDiff, Nat.reduceLT, reduceIte, reduceCtorEq, Int.reduceLE, Int.reduceLT, Int.reduceEq, Int.reduceAdd, Int.reduceMul, Int.reduceSub, Nat.reduceMul, Nat.reduceSub, Nat.reducePow, Nat.reduceLeDiff, Int.reduceToNat, DD, c1, m2, u5, u6, k0', k1', k5', k6', k7', k8', k9', cN, gt_iff_lt, ge_iff_le]
      refine callK_pl pellet_Any.call (an) (pl2 (pld_PA _ _) pld_int) ?_
      simp -implicitDefEqProofs only [go_sem, Nat.reduceAdd, Nat.reduceEqDiff, Nat.reduceLT, reduceIte, reduceCtorEq, Int.reduceLE, Int.reduceLT, Int.reduceEq, Int.reduceAdd, Int.reduceMul, Int.reduceSub, Nat.reduceMul, Nat.reduceSub, Nat.reducePow, Nat.reduceLeDiff, Int.reduceToNat, DD, c1, m2, u5, u6, k0', k1', k5', k6', k7', k8', k9', cN, gt_iff_lt, ge_iff_le]
    · have cN : (i : Int) ≤ (n : Int) := by omega
      obtain ⟨u, t, hu⟩ := tst i (by omega)
      have ci := cj i (by omega)
      have hu1 : ¬ u = 1 := fun g => hN i (by omega) (hu.1 g)
      simp -implicitDefEqProofs only [go_sem, Nat.reduceAdd, Nat.reduceEqDiff, Nat.reduceLT, reduceIte, reduceCtorEq, Int.reduceLE, Int.reduceLT, Int.reduceEq, Int.reduceAdd, Int.reduceMul, Int.reduceSub, Nat.reduceMul, Nat.reduceSub, Nat.reducePow, Nat.reduceLeDiff, Int.reduceToNat, DD, c1, m2, u5, u6, k0', k1', k5', k6', k7', k8', k9', cN, gt_iff_lt, ge_iff_le, ci, hu1]
      refine callK_pl pellet_Test.call (t) (pl3 (pld_PA _ _) pld_int pld_int) ?_
      simp -implicitDefEqProofs only [go_sem, Nat.reduceAdd, Nat.reduceEqDiff, Nat.reduceLT, reduceIte, reduceCtorEq, Int.reduceLE, Int.reduceLT, Int.reduceEq, Int.reduceAdd, Int.reduceMul, Int.reduceSub, Nat.reduceMul, Nat.reduceSub, Nat.reducePow, Nat.reduceLeDiff, Int.reduceToNat, DD, c1, m2, u5, u6, k0', k1', k5', k6', k7', k8', k9', cN, gt_iff_lt, ge_iff_le, ci, hu1]
      exact ⟨n + 1 - (i + 1), by omega, _, i + 1, rfl, rfl, by omega, by simp [x_look, k0'], by simp [x_look, k1'], by simp [x_look, k5'], by simp [x_look, k6'], by simp [x_look, k7'], by simp [x_look, k8'], by simp [x_look]⟩
theorem sure_out (F : Nat → Raw) (hn : n ≤ 9223372036854775807) (b : Nat) (h : ¬ ((∀ i, i < n → (F i).sm) ∧ n ≤ 14) ∨ ((∀ i, i < n → (F i).sm) ∧ n ≤ 14) ∧ (7 : Int) < (n : Int)) : Sat CT false 4 [.sl n (qcl n F), .v (.int .u8 (b : Nat))] (Bo true) := by
  refine sat_of annuluslaw14_PelletSure.ok (by simp) ?_
  have DD := annuluslaw14_PelletSure.dr
  simp only [drP, drPx, drPt, drR, drS, drT, bodyOf, Tryz.f4, Nat.reduceEqDiff, reduceIte, true_and, and_true] at DD
  have kn := known14_s
  have fw := few14_s (n := n) F hn
  rcases h with h | ⟨h, h7⟩
  · rw [decide_eq_false h] at fw
    simp -implicitDefEqProofs only [go_sem, Nat.reduceAdd, Nat.reduceEqDiff, Nat.reduceLT, reduceIte, reduceCtorEq, Int.reduceLE, Int.reduceLT, Int.reduceEq, Int.reduceAdd, Int.reduceMul, Int.reduceSub, Nat.reduceMul, Nat.reduceSub, Nat.reducePow, Nat.reduceLeDiff, Int.reduceToNat, Tryz.f4, DD, gt_iff_lt]
    refine callK_q annuluslaw14_known.call (kn) rfl rfl ?_
    simp -implicitDefEqProofs only [go_sem, Nat.reduceAdd, Nat.reduceEqDiff, Nat.reduceLT, reduceIte, reduceCtorEq, Int.reduceLE, Int.reduceLT, Int.reduceEq, Int.reduceAdd, Int.reduceMul, Int.reduceSub, Nat.reduceMul, Nat.reduceSub, Nat.reducePow, Nat.reduceLeDiff, Int.reduceToNat, DD, gt_iff_lt]
    refine callK_pl annuluslaw14_few.call (fw) (pl1 (pld_q n F)) ?_
    simp -implicitDefEqProofs only [go_sem, Nat.reduceAdd, Nat.reduceEqDiff, Nat.reduceLT, reduceIte, reduceCtorEq, Int.reduceLE, Int.reduceLT, Int.reduceEq, Int.reduceAdd, Int.reduceMul, Int.reduceSub, Nat.reduceMul, Nat.reduceSub, Nat.reducePow, Nat.reduceLeDiff, Int.reduceToNat, DD, gt_iff_lt]
  · rw [decide_eq_true h] at fw
    simp -implicitDefEqProofs only [go_sem, Nat.reduceAdd, Nat.reduceEqDiff, Nat.reduceLT, reduceIte, reduceCtorEq, Int.reduceLE, Int.reduceLT, Int.reduceEq, Int.reduceAdd, Int.reduceMul, Int.reduceSub, Nat.reduceMul, Nat.reduceSub, Nat.reducePow, Nat.reduceLeDiff, Int.reduceToNat, Tryz.f4, DD, h7, gt_iff_lt]
    refine callK_q annuluslaw14_known.call (kn) rfl rfl ?_
    simp -implicitDefEqProofs only [go_sem, Nat.reduceAdd, Nat.reduceEqDiff, Nat.reduceLT, reduceIte, reduceCtorEq, Int.reduceLE, Int.reduceLT, Int.reduceEq, Int.reduceAdd, Int.reduceMul, Int.reduceSub, Nat.reduceMul, Nat.reduceSub, Nat.reducePow, Nat.reduceLeDiff, Int.reduceToNat, DD, h7, gt_iff_lt]
    refine callK_pl annuluslaw14_few.call (fw) (pl1 (pld_q n F)) ?_
    simp -implicitDefEqProofs only [go_sem, Nat.reduceAdd, Nat.reduceEqDiff, Nat.reduceLT, reduceIte, reduceCtorEq, Int.reduceLE, Int.reduceLT, Int.reduceEq, Int.reduceAdd, Int.reduceMul, Int.reduceSub, Nat.reduceMul, Nat.reduceSub, Nat.reducePow, Nat.reduceLeDiff, Int.reduceToNat, DD, h7, gt_iff_lt]
theorem pelletSure_sat (F : Nat → Raw) (hF : ∀ i, (F i).ok) (hn : n ≤ 9223372036854775807) (b : Nat) (hb : b < 256) : Sat CT false 4 [.sl n (qcl n F), .v (.int .u8 (b : Nat))] (Bo true) := by
  by_cases h : (∀ i, i < n → (F i).sm) ∧ n ≤ 14
  · by_cases h7 : (7 : Int) < (n : Int)
    · exact sure_out F hn b (.inr ⟨h, h7⟩)
    · exact sure_main F hF h.1 (by omega) b hb
  · exact sure_out F hn b (.inl h)
end Go.Ab
