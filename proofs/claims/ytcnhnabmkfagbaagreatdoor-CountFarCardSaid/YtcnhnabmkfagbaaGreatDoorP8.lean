/-! Pellet's theorem over rational complex numbers: what is dominated at a place has just as many roots within the unit circle, and none on it. No program in sight. -/
set_option linter.unusedVariables false
set_option maxRecDepth 20000
set_option linter.unusedSimpArgs false
namespace Go.Ab
structure Rc where
  re : Rat
  im : Rat
namespace Rc
theorem ext' {x y : Rc} (h1 : x.re = y.re) (h2 : x.im = y.im) : x = y := by cases x; cases y; simp_all
instance : Add Rc := ⟨fun x y => ⟨x.re + y.re, x.im + y.im⟩⟩
instance : Mul Rc := ⟨fun x y => ⟨x.re * y.re - x.im * y.im, x.re * y.im + x.im * y.re⟩⟩
def zero : Rc := ⟨0, 0⟩
def one : Rc := ⟨1, 0⟩
def neg (x : Rc) : Rc := ⟨-x.re, -x.im⟩
/-- the square of how far it is -/
def nq (x : Rc) : Rat := x.re * x.re + x.im * x.im
theorem add_re (x y : Rc) : (x + y).re = x.re + y.re := rfl
theorem add_im (x y : Rc) : (x + y).im = x.im + y.im := rfl
theorem mul_re (x y : Rc) : (x * y).re = x.re * y.re - x.im * y.im := rfl
theorem mul_im (x y : Rc) : (x * y).im = x.re * y.im + x.im * y.re := rfl
theorem nq_mul (x y : Rc) : nq (x * y) = nq x * nq y := by unfold nq; rw [mul_re, mul_im]; grind
theorem sq_nn (a : Rat) : 0 ≤ a * a := by
  rcases Rat.le_total (a := 0) (b := a) with h | h
  · exact Rat.mul_nonneg h h
  · have : 0 ≤ (-a) * (-a) := Rat.mul_nonneg (by grind) (by grind)
    grind
theorem nq_nn (x : Rc) : 0 ≤ nq x := by
  have h1 := sq_nn x.re
  have h2 := sq_nn x.im
  unfold nq; grind
theorem le_of_sq {a b : Rat} (hb : 0 ≤ b) (h : a * a ≤ b * b) : a ≤ b := by
  refine Rat.not_lt.1 (fun g => ?_)
  have h1 : b * b < a * a := by
    have e1 : 0 < (a - b) * (a + b) := Rat.mul_pos (by grind) (by grind)
    grind
  grind
theorem mul_le2 {a b c d : Rat} (ha : 0 ≤ a) (hc : 0 ≤ c) (h1 : a ≤ b) (h2 : c ≤ d) : a * c ≤ b * d := by
  have e1 : 0 ≤ (b - a) * c := Rat.mul_nonneg (by grind) hc
  have e2 : 0 ≤ b * (d - c) := Rat.mul_nonneg (by grind) (by grind)
  grind
theorem nq_add {x y : Rc} {X Y : Rat} (hX : 0 ≤ X) (hY : 0 ≤ Y) (hx : nq x ≤ X * X) (hy : nq y ≤ Y * Y) : nq (x + y) ≤ (X + Y) * (X + Y) := by
  have h1 : (x.re * y.re + x.im * y.im) * (x.re * y.re + x.im * y.im) ≤ nq x * nq y := by
    have := sq_nn (x.re * y.im - x.im * y.re)
    unfold nq; grind
  have h2 : nq x * nq y ≤ X * X * (Y * Y) := mul_le2 (nq_nn x) (nq_nn y) hx hy
  have h3 : x.re * y.re + x.im * y.im ≤ X * Y := le_of_sq (Rat.mul_nonneg hX hY) (by grind)
  unfold nq at *
  rw [add_re, add_im]
  grind
theorem cring {x y : Rc} (h1 : x.re = y.re) (h2 : x.im = y.im) : x = y := ext' h1 h2
theorem zero_re : zero.re = 0 := rfl
theorem zero_im : zero.im = 0 := rfl
theorem one_re : one.re = 1 := rfl
theorem one_im : one.im = 0 := rfl
theorem add_c (x y : Rc) : x + y = y + x := cring (by simp only [add_re]; grind) (by simp only [add_im]; grind)
theorem add_z (x : Rc) : x + zero = x := cring (by simp only [add_re, zero_re]; grind) (by simp only [add_im, zero_im]; grind)
theorem z_add (x : Rc) : zero + x = x := by rw [add_c, add_z]
theorem mul_z (x : Rc) : x * zero = zero := cring (by simp only [mul_re, zero_re, zero_im]; grind) (by simp only [mul_im, zero_re, zero_im]; grind)
theorem z_mul (x : Rc) : zero * x = zero := cring (by simp only [mul_re, zero_re, zero_im]; grind) (by simp only [mul_im, zero_re, zero_im]; grind)
theorem one_m (x : Rc) : one * x = x := cring (by simp only [mul_re, one_re, one_im]; grind) (by simp only [mul_im, one_re, one_im]; grind)
theorem nq_zero : nq zero = 0 := by unfold nq; rw [zero_re, zero_im]; grind
theorem nq_eq0 {x : Rc} (h : nq x ≤ 0) : x = zero := by
  have h1 := sq_nn x.re
  have h2 := sq_nn x.im
  unfold nq at h
  have e1 : x.re * x.re = 0 := by grind
  have e2 : x.im * x.im = 0 := by grind
  refine cring ?_ ?_
  · rcases Rat.mul_eq_zero.1 e1 with q | q <;> exact q
  · rcases Rat.mul_eq_zero.1 e2 with q | q <;> exact q
def inv (x : Rc) : Rc := ⟨x.re / nq x, -x.im / nq x⟩
theorem mul_inv {x : Rc} (h : nq x ≠ 0) (y : Rc) : x * (inv x * y) = y := by
  have e : x.re * x.re + x.im * x.im ≠ 0 := h
  refine cring ?_ ?_
  · simp only [mul_re, mul_im, inv]; unfold nq; grind
  · simp only [mul_re, mul_im, inv]; unfold nq; grind
theorem nq_inv {x : Rc} (h : nq x ≠ 0) : nq (inv x) * nq x = 1 := by
  have := nq_mul x (inv x * one)
  rw [mul_inv h] at this
  have e1 : nq one = 1 := by unfold nq; rw [one_re, one_im]; grind
  rw [nq_mul, e1] at this
  grind

/-! series and linear factors -/
def d0 : Nat → Rc := fun l => match l with | 0 => one | _ + 1 => zero
def fac (u : Rc × Rc) (f : Nat → Rc) : Nat → Rc := fun l => match l with | 0 => u.1 * f 0 | l + 1 => u.1 * f (l + 1) + u.2 * f l
def facs : List (Rc × Rc) → (Nat → Rc) → Nat → Rc
  | [], f => f
  | u :: L, f => fac u (facs L f)
theorem fac_comm (u v : Rc × Rc) (f : Nat → Rc) : fac u (fac v f) = fac v (fac u f) := by
  funext l
  match l with
  | 0 => exact cring (by simp only [fac, mul_re, mul_im]; grind) (by simp only [fac, mul_re, mul_im]; grind)
  | 1 => exact cring (by simp only [fac, add_re, add_im, mul_re, mul_im]; grind) (by simp only [fac, add_re, add_im, mul_re, mul_im]; grind)
  | l + 2 => exact cring (by simp only [fac, add_re, add_im, mul_re, mul_im]; grind) (by simp only [fac, add_re, add_im, mul_re, mul_im]; grind)
theorem facs_fac (u : Rc × Rc) (f : Nat → Rc) : ∀ L, facs L (fac u f) = fac u (facs L f)
  | [] => rfl
  | v :: L => by
    show fac v (facs L (fac u f)) = fac u (fac v (facs L f))
    rw [facs_fac u f L, fac_comm]
theorem facs_split (p : Rc × Rc → Bool) (f : Nat → Rc) : ∀ L, facs L f = facs (L.filter (fun u => !p u)) (facs (L.filter p) f)
  | [] => rfl
  | u :: L => by
    show fac u (facs L f) = _
    rw [facs_split p f L]
    cases h : p u
    · have e1 : (u :: L).filter (fun u => !p u) = u :: L.filter (fun u => !p u) := by simp [h]
      have e2 : (u :: L).filter p = L.filter p := by simp [h]
      rw [e1, e2]
      rfl
    · have e1 : (u :: L).filter (fun u => !p u) = L.filter (fun u => !p u) := by simp [h]
      have e2 : (u :: L).filter p = u :: L.filter p := by simp [h]
      rw [e1, e2]
      show _ = facs _ (fac u (facs _ f))
      rw [facs_fac]
theorem facs_deg : ∀ (L : List (Rc × Rc)) (l : Nat), L.length < l → facs L d0 l = zero
  | [], l, h => by
    match l, h with
    | l + 1, _ => rfl
  | u :: L, l, h => by
    match l, h with
    | l + 1, h =>
      have h' : L.length < l := by simpa using h
      show u.1 * facs L d0 (l + 1) + u.2 * facs L d0 l = zero
      rw [facs_deg L (l + 1) (by omega), facs_deg L l h', mul_z, mul_z, add_z]
theorem facs_0 {f : Nat → Rc} (h : f 0 = zero) : ∀ L, facs L f 0 = zero
  | [] => h
  | u :: L => by
    show u.1 * facs L f 0 = zero
    rw [facs_0 h L, mul_z]
/-- times a power -/
def sh (j : Nat) (f : Nat → Rc) (l : Nat) : Rc := if j ≤ l then f (l - j) else zero
/-- a polynomial's first terms, times a series -/
def act (a : Nat → Rc) (f : Nat → Rc) : Nat → Nat → Rc
  | 0, _ => zero
  | j + 1, l => act a f j l + a j * sh j f l
def up1 (g : Nat → Rc) : Nat → Rc := fun l => match l with | 0 => zero | l + 1 => g l
theorem sh_up (j : Nat) (f : Nat → Rc) (l : Nat) : sh (j + 1) f l = up1 (sh j f) l := by
  match l with
  | 0 => exact if_neg (by omega)
  | l + 1 =>
    show (if j + 1 ≤ l + 1 then f (l + 1 - (j + 1)) else zero) = if j ≤ l then f (l - j) else zero
    by_cases h : j ≤ l
    · rw [if_pos h, if_pos (by omega), show l + 1 - (j + 1) = l - j by omega]
    · rw [if_neg h, if_neg (by omega)]
theorem act_fac (u : Rc × Rc) (a f : Nat → Rc) (l : Nat) : ∀ N, act (fac u a) f (N + 1) l = u.1 * act a f (N + 1) l + u.2 * up1 (act a f N) l
  | 0 => by
    have e : up1 (act a f 0) l = zero := by cases l <;> rfl
    show zero + u.1 * a 0 * sh 0 f l = u.1 * (zero + a 0 * sh 0 f l) + u.2 * up1 (act a f 0) l
    rw [e, mul_z, add_z, z_add, z_add]
    exact cring (by simp only [mul_re, mul_im]; grind) (by simp only [mul_re, mul_im]; grind)
  | N + 1 => by
    have ih := act_fac u a f l N
    have e : up1 (act a f (N + 1)) l = up1 (act a f N) l + a N * sh (N + 1) f l := by
      rw [sh_up]
      cases l
      · show zero = zero + a N * zero
        rw [mul_z, add_z]
      · rfl
    show act (fac u a) f (N + 1) l + (u.1 * a (N + 1) + u.2 * a N) * sh (N + 1) f l = u.1 * (act a f (N + 1) l + a (N + 1) * sh (N + 1) f l) + u.2 * up1 (act a f (N + 1)) l
    rw [ih, e]
    exact cring (by simp only [add_re, add_im, mul_re, mul_im]; grind) (by simp only [add_re, add_im, mul_re, mul_im]; grind)
theorem act_d0 (f : Nat → Rc) (l : Nat) : ∀ N, act d0 f (N + 1) l = f l
  | 0 => by
    show zero + one * (if 0 ≤ l then f (l - 0) else zero) = f l
    rw [if_pos (Nat.zero_le _), one_m, z_add]; rfl
  | N + 1 => by
    show act d0 f (N + 1) l + zero * sh (N + 1) f l = f l
    rw [act_d0 f l N, z_mul, add_z]
theorem act_facs (f : Nat → Rc) : ∀ (L : List (Rc × Rc)) (N l : Nat), L.length < N → act (facs L d0) f N l = facs L f l
  | [], N, l, h => by
    match N, h with
    | N + 1, _ => exact act_d0 f l N
  | u :: L, N, l, h => by
    match N, h with
    | N + 1, h =>
      have h' : L.length < N := by simpa using h
      show act (fac u (facs L d0)) f (N + 1) l = fac u (facs L f) l
      rw [act_fac]
      have e : ∀ l, act (facs L d0) f (N + 1) l = act (facs L d0) f N l := fun l => by
        show act (facs L d0) f N l + facs L d0 N * sh N f l = _
        rw [facs_deg L N h', z_mul, add_z]
      rw [e, act_facs f L N l h']
      cases l with
      | zero => show u.1 * facs L f 0 + u.2 * zero = u.1 * facs L f 0; rw [mul_z, add_z]
      | succ l => show u.1 * facs L f (l + 1) + u.2 * act (facs L d0) f N l = _; rw [act_facs f L N l h']; rfl
/-! sizes -/
def usum (U : Nat → Rat) (k : Nat) : Nat → Rat
  | 0 => 0
  | j + 1 => if j = k then usum U k j else usum U k j + U j
def actx (a f : Nat → Rc) (k : Nat) : Nat → Nat → Rc
  | 0, _ => zero
  | j + 1, l => if j = k then actx a f k j l else actx a f k j l + a j * sh j f l
theorem usum_nn {U : Nat → Rat} (h : ∀ j, 0 ≤ U j) (k : Nat) : ∀ N, 0 ≤ usum U k N
  | 0 => by unfold usum; grind
  | j + 1 => by
    have := usum_nn h k j
    have := h j
    unfold usum
    split <;> grind
theorem act_x (a f : Nat → Rc) (k l : Nat) : ∀ N, (N ≤ k → act a f N l = actx a f k N l) ∧ (k < N → act a f N l = actx a f k N l + a k * sh k f l)
  | 0 => ⟨fun _ => rfl, fun h => absurd h (Nat.not_lt_zero _)⟩
  | j + 1 => by
    obtain ⟨h1, h2⟩ := act_x a f k l j
    constructor
    · intro h
      show act a f j l + a j * sh j f l = if j = k then _ else _
      rw [if_neg (by omega), h1 (by omega)]
    · intro h
      show act a f j l + a j * sh j f l = (if j = k then _ else _) + _
      by_cases e : j = k
      · rw [if_pos e, h1 (by omega), e]
      · rw [if_neg e, h2 (by omega)]
        exact cring (by simp only [add_re]; grind) (by simp only [add_im]; grind)
theorem actx_le {a f : Nat → Rc} {U : Nat → Rat} {C : Rat} (hU : ∀ j, 0 ≤ U j) (ha : ∀ j, nq (a j) ≤ U j * U j) (hC : 0 ≤ C) (hf : ∀ i, nq (f i) ≤ C * C) (k l : Nat) : ∀ N, nq (actx a f k N l) ≤ usum U k N * C * (usum U k N * C)
  | 0 => by
    show nq zero ≤ 0 * C * (0 * C)
    rw [nq_zero]; grind
  | j + 1 => by
    have ih := actx_le hU ha hC hf k l j
    have hs : nq (sh j f l) ≤ C * C := by
      unfold sh
      split
      · exact hf _
      · rw [nq_zero]; exact sq_nn C
    have ht : nq (a j * sh j f l) ≤ U j * C * (U j * C) := by
      rw [nq_mul]
      have := mul_le2 (nq_nn (a j)) (nq_nn (sh j f l)) (ha j) hs
      grind
    unfold actx usum
    split
    · exact ih
    · have h1 := Rat.mul_nonneg (usum_nn hU k j) hC
      have h2 := Rat.mul_nonneg (hU j) hC
      have := nq_add h1 h2 ih ht
      grind
/-- powers of what is less than one -/
def pw (q : Rat) : Nat → Rat
  | 0 => 1
  | t + 1 => q * pw q t
theorem pw_nn {q : Rat} (h : 0 ≤ q) : ∀ t, 0 ≤ pw q t
  | 0 => by unfold pw; grind
  | t + 1 => Rat.mul_nonneg h (pw_nn h t)
theorem pw_le {q : Rat} (h0 : 0 ≤ q) (h1 : q ≤ 1) : ∀ t : Nat, pw q t * (1 + (t : Rat) * (1 - q)) ≤ 1
  | 0 => by unfold pw; grind
  | t + 1 => by
    have ih := pw_le h0 h1 t
    have hp := pw_nn h0 t
    have ht : (0 : Rat) ≤ (t : Rat) := by exact_mod_cast Nat.zero_le t
    have e : ((t + 1 : Nat) : Rat) = (t : Rat) + 1 := by push_cast; rfl
    have h2 : 0 ≤ (1 - q) * (1 - q) * ((t : Rat) + 1) := Rat.mul_nonneg (sq_nn _) (by grind)
    have h3 : 0 ≤ pw q t * ((1 - q) * (1 - q) * ((t : Rat) + 1)) := Rat.mul_nonneg hp h2
    show q * pw q t * (1 + ((t + 1 : Nat) : Rat) * (1 - q)) ≤ 1
    rw [e]
    grind
theorem arch (x : Rat) : ∃ t : Nat, x < (t : Rat) := by
  refine ⟨(x.floor + 1).toNat, ?_⟩
  have h := Rat.lt_floor_add_one x
  have h2 : ((x.floor + 1 : Int) : Rat) ≤ (((x.floor + 1).toNat : Int) : Rat) := Rat.intCast_le_intCast.2 (by omega)
  have h3 : (((x.floor + 1).toNat : Int) : Rat) = ((x.floor + 1).toNat : Rat) := rfl
  grind
theorem pw_small {q B e : Rat} (h0 : 0 ≤ q) (h1 : q < 1) (he : 0 < e) : ∃ t, pw q t * B < e := by
  have hd : 0 < e * (1 - q) := Rat.mul_pos he (by grind)
  obtain ⟨t, ht⟩ := arch (B / (e * (1 - q)))
  refine ⟨t, ?_⟩
  have hp := pw_nn h0 t
  have hl := pw_le h0 (by grind) t
  have hb : B ≤ (t : Rat) * (e * (1 - q)) := by
    have : B / (e * (1 - q)) * (e * (1 - q)) = B := Rat.div_mul_cancel (by grind)
    have : 0 ≤ ((t : Rat) - B / (e * (1 - q))) * (e * (1 - q)) := Rat.mul_nonneg (by grind) (by grind)
    grind
  by_cases z : pw q t = 0
  · rw [z]; grind
  · have h2 : 0 ≤ pw q t * ((t : Rat) * (e * (1 - q)) - B) := Rat.mul_nonneg hp (by grind)
    have h3 : 0 ≤ e * (1 - pw q t * (1 + (t : Rat) * (1 - q))) := Rat.mul_nonneg (by grind) (by grind)
    have h4 : 0 < e * pw q t := Rat.mul_pos he (by grind)
    grind
theorem low {x : Rat} (hx : 0 < x) : ∃ l, 0 < l ∧ l * l ≤ x := by
  by_cases h : x ≤ 1
  · exact ⟨x, hx, by have := Rat.mul_nonneg (show 0 ≤ x by grind) (show 0 ≤ 1 - x by grind); grind⟩
  · exact ⟨1, by grind, by grind⟩
/-- what is dominated forces nought -/
theorem dom_zero {a f : Nat → Rc} {U : Nat → Rat} {C K : Rat} {k N : Nat} (hU : ∀ j, 0 ≤ U j) (ha : ∀ j, nq (a j) ≤ U j * U j) (hC : 0 ≤ C) (hf : ∀ i, nq (f i) ≤ C * C) (hk : k < N)
    (hK : usum U k N < K) (hak : K * K ≤ nq (a k)) (h0 : ∀ l, k ≤ l → act a f N l = zero) (i : Nat) : f i = zero := by
  have hu := usum_nn hU k N
  have hK0 : 0 < K := by grind
  obtain ⟨q, hq⟩ : ∃ q, q = usum U k N / K := ⟨_, rfl⟩
  have hqK : q * K = usum U k N := by rw [hq]; exact Rat.div_mul_cancel (by grind)
  have hq0 : 0 ≤ q := by
    refine Rat.not_lt.1 (fun g => ?_)
    have : 0 < (-q) * K := Rat.mul_pos (by grind) hK0
    grind
  have hq1 : q < 1 := by
    refine Rat.not_le.1 (fun g => ?_)
    have : 0 ≤ (q - 1) * K := Rat.mul_nonneg (by grind) (by grind)
    grind
  have key : ∀ D, 0 ≤ D → (∀ i, nq (f i) ≤ D * D) → ∀ i, nq (f i) ≤ q * D * (q * D) := fun D hD hfD i => by
    have h1 := (act_x a f k (i + k) N).2 hk
    rw [h0 (i + k) (by omega)] at h1
    have e1 : sh k f (i + k) = f i := by unfold sh; rw [if_pos (by omega), Nat.add_sub_cancel]
    rw [e1] at h1
    have h2 : nq (a k * f i) = nq (actx a f k N (i + k)) := by
      have r := congrArg Rc.re h1
      have m := congrArg Rc.im h1
      rw [add_re, zero_re] at r
      rw [add_im, zero_im] at m
      unfold nq
      have r2 : (a k * f i).re = -(actx a f k N (i + k)).re := by grind
      have m2 : (a k * f i).im = -(actx a f k N (i + k)).im := by grind
      rw [r2, m2]; grind
    have h3 := actx_le hU ha hD hfD k (i + k) N
    rw [← h2, nq_mul, ← hqK] at h3
    have h4 : K * K * nq (f i) ≤ nq (a k) * nq (f i) := mul_le2 (sq_nn K) (nq_nn _) hak (by grind)
    refine Rat.not_lt.1 (fun g => ?_)
    have h5 : 0 < K * K * (nq (f i) - q * D * (q * D)) := Rat.mul_pos (Rat.mul_pos hK0 hK0) (by grind)
    grind
  have iter : ∀ t, ∀ i, nq (f i) ≤ pw q t * C * (pw q t * C) := fun t => by
    induction t with
    | zero => intro i; have := hf i; unfold pw; grind
    | succ t ih =>
      intro i
      have := key (pw q t * C) (Rat.mul_nonneg (pw_nn hq0 t) hC) ih i
      unfold pw
      grind
  refine nq_eq0 (Rat.not_lt.1 (fun g => ?_))
  obtain ⟨e, he, hee⟩ := low g
  obtain ⟨t, ht⟩ := pw_small (B := C) hq0 hq1 he
  have h1 := iter t i
  have h2 := Rat.mul_nonneg (pw_nn hq0 t) hC
  have h3 : 0 < (e - pw q t * C) * (e + pw q t * C) := Rat.mul_pos (by grind) (by grind)
  grind
/-! a bounded inverse -/
def ivs (u : Rc × Rc) (g : Nat → Rc) : Nat → Rc
  | 0 => inv u.1 * g 0
  | l + 1 => inv u.1 * (g (l + 1) + neg (u.2 * ivs u g l))
theorem ivs_fac {u : Rc × Rc} (h : nq u.1 ≠ 0) (g : Nat → Rc) : fac u (ivs u g) = g := by
  funext l
  match l with
  | 0 => exact mul_inv h _
  | l + 1 =>
    show u.1 * (inv u.1 * (g (l + 1) + neg (u.2 * ivs u g l))) + u.2 * ivs u g l = g (l + 1)
    rw [mul_inv h]
    exact cring (by simp only [add_re, neg]; grind) (by simp only [add_im, neg]; grind)
def good (u : Rc × Rc) : Bool := decide (nq u.2 < nq u.1)
theorem nq_neg (x : Rc) : nq (neg x) = nq x := by unfold nq neg; grind
theorem ivs_bound {u : Rc × Rc} (h : nq u.2 < nq u.1) {g : Nat → Rc} {C : Rat} (hC : 0 ≤ C) (hg : ∀ i, nq (g i) ≤ C * C) : ∃ D, 0 ≤ D ∧ ∀ i, nq (ivs u g i) ≤ D * D := by
  have h0 : 0 < nq u.1 := by have := nq_nn u.2; grind
  have hne : nq u.1 ≠ 0 := by grind
  have hi := nq_inv hne
  -- how far the inverse is, at most
  obtain ⟨l, hl, hll⟩ := low h0
  obtain ⟨s, hs⟩ : ∃ s, s = nq u.2 * nq (inv u.1) := ⟨_, rfl⟩
  have hs0 : 0 ≤ s := by rw [hs]; exact Rat.mul_nonneg (nq_nn _) (nq_nn _)
  have hin : 0 < nq (inv u.1) := by
    refine Rat.not_le.1 (fun q => ?_)
    have := nq_nn (inv u.1)
    have e : nq (inv u.1) = 0 := by grind
    rw [e] at hi
    grind
  have hs1 : s < 1 := by
    have : 0 < (nq u.1 - nq u.2) * nq (inv u.1) := Rat.mul_pos (by grind) hin
    grind
  obtain ⟨r, hr⟩ : ∃ r, r = (1 + s) / 2 := ⟨_, rfl⟩
  have hr0 : 0 ≤ r := by grind
  have hr1 : r < 1 := by grind
  have hrr : s ≤ r * r := by
    have h1 := sq_nn (r - 1)
    have h2 : s = 2 * r - 1 := by rw [hr]; grind
    clear hs hr hi
    rw [h2]
    grind
  obtain ⟨m, hm⟩ : ∃ m, m = 1 / l := ⟨_, rfl⟩
  have hml : m * l = 1 := by rw [hm]; exact Rat.div_mul_cancel (by grind)
  have hm0 : 0 ≤ m := by
    refine Rat.not_lt.1 (fun g => ?_)
    have : 0 < (-m) * l := Rat.mul_pos (by grind) hl
    grind
  have him : nq (inv u.1) ≤ m * m := by
    have h1 : 0 ≤ (nq u.1 - l * l) * nq (inv u.1) * (m * m) := Rat.mul_nonneg (Rat.mul_nonneg (by grind) (by grind)) (sq_nn m)
    have h2 : l * l * (m * m) = 1 := by grind
    have h3 : (nq u.1 - l * l) * nq (inv u.1) * (m * m) = m * m * (nq (inv u.1) * nq u.1) - nq (inv u.1) * (l * l * (m * m)) := by grind
    rw [h3, hi, h2] at h1
    grind
  obtain ⟨D, hD⟩ : ∃ D, D = m * C / (1 - r) := ⟨_, rfl⟩
  have hD1 : D * (1 - r) = m * C := by rw [hD]; exact Rat.div_mul_cancel (by grind)
  have hmC := Rat.mul_nonneg hm0 hC
  have hD0 : 0 ≤ D := by
    refine Rat.not_lt.1 (fun g => ?_)
    have : 0 < (-D) * (1 - r) := Rat.mul_pos (by grind) (by grind)
    grind
  have hst : ∀ i, nq (inv u.1 * g i) ≤ m * C * (m * C) := fun i => by
    rw [nq_mul]
    have := mul_le2 (nq_nn (inv u.1)) (nq_nn (g i)) him (hg i)
    grind
  refine ⟨D, hD0, fun i => ?_⟩
  induction i with
  | zero =>
    have h1 := hst 0
    have h2 : m * C ≤ D := by have := Rat.mul_nonneg hD0 hr0; grind
    have := mul_le2 hmC hmC h2 h2
    show nq (inv u.1 * g 0) ≤ _
    grind
  | succ i ih =>
    have e : ivs u g (i + 1) = inv u.1 * g (i + 1) + inv u.1 * neg (u.2 * ivs u g i) := by
      show inv u.1 * (g (i + 1) + neg (u.2 * ivs u g i)) = _
      exact cring (by simp only [add_re, add_im, mul_re, mul_im]; grind) (by simp only [add_re, add_im, mul_re, mul_im]; grind)
    have h2 : nq (inv u.1 * neg (u.2 * ivs u g i)) ≤ r * D * (r * D) := by
      rw [nq_mul, nq_neg, nq_mul]
      have := mul_le2 hs0 (nq_nn (ivs u g i)) hrr ih
      grind
    have h3 := nq_add hmC (Rat.mul_nonneg hr0 hD0) (hst (i + 1)) h2
    rw [e]
    have h4 : m * C + r * D = D := by grind
    rw [h4] at h3
    exact h3
def solve : List (Rc × Rc) → (Nat → Rc) → Nat → Rc
  | [], g => g
  | u :: L, g => solve L (ivs u g)
theorem solve_ok : ∀ (L : List (Rc × Rc)) (g : Nat → Rc) (C : Rat), 0 ≤ C → (∀ i, nq (g i) ≤ C * C) → (∀ u ∈ L, nq u.2 < nq u.1) → facs L (solve L g) = g ∧ ∃ D, 0 ≤ D ∧ ∀ i, nq (solve L g i) ≤ D * D
  | [], g, C, hC, hg, _ => ⟨rfl, C, hC, hg⟩
  | u :: L, g, C, hC, hg, hL => by
    have hu := hL u (List.mem_cons_self ..)
    obtain ⟨D, hD, hb⟩ := ivs_bound hu hC hg
    obtain ⟨h1, h2⟩ := solve_ok L (ivs u g) D hD hb (fun v hv => hL v (List.mem_cons_of_mem _ hv))
    refine ⟨?_, h2⟩
    show fac u (facs L (solve L (ivs u g))) = g
    rw [h1]
    exact ivs_fac (by have := nq_nn u.2; grind) g
/-- PELLET: what is dominated at a place has no fewer factors that aren't good -/
theorem pellet (L : List (Rc × Rc)) {U : Nat → Rat} {K : Rat} {k : Nat} (hU : ∀ j, 0 ≤ U j) (ha : ∀ j, nq (facs L d0 j) ≤ U j * U j) (hk : k ≤ L.length) (hK : usum U k (L.length + 1) < K) (hak : K * K ≤ nq (facs L d0 k)) :
    k ≤ (L.filter (fun u => !good u)).length := by
  refine Nat.not_lt.1 (fun hlt => ?_)
  have hd : ∀ i, nq (d0 i) ≤ 1 * 1 := fun i => by
    cases i
    · show nq one ≤ _; unfold nq; rw [one_re, one_im]; grind
    · show nq zero ≤ _; rw [nq_zero]; grind
  obtain ⟨h1, C, hC, hb⟩ := solve_ok (L.filter good) d0 1 (by grind) hd (fun u hu => by
    have := (List.mem_filter.1 hu).2
    exact of_decide_eq_true this)
  have h2 := facs_split good (solve (L.filter good) d0) L
  rw [h1] at h2
  have h0 : ∀ l, k ≤ l → act (facs L d0) (solve (L.filter good) d0) (L.length + 1) l = zero := fun l hl => by
    rw [act_facs _ L _ l (by omega), h2]
    exact facs_deg _ l (by omega)
  have hz := dom_zero hU ha hC hb (show k < L.length + 1 by omega) hK hak h0 0
  have := facs_0 hz (L.filter good)
  rw [h1] at this
  have e : (1 : Rat) = 0 := congrArg Rc.re this
  exact absurd e (by decide)
/-! roots on the circle -/
theorem facs_pick {u : Rc × Rc} : ∀ {L : List (Rc × Rc)}, u ∈ L → ∃ L', L'.length + 1 = L.length ∧ ∀ f, facs L f = facs L' (fac u f)
  | v :: M, h => by
    by_cases e : u = v
    · subst e
      exact ⟨M, rfl, fun f => (facs_fac u f M).symm⟩
    · have h2 : u ∈ M := by
        rcases List.mem_cons.1 h with q | q
        · exact absurd q e
        · exact q
      obtain ⟨M', h3, h4⟩ := facs_pick h2
      refine ⟨v :: M', by simp [h3], fun f => ?_⟩
      show fac v (facs M f) = fac v (facs M' (fac u f))
      rw [h4]
theorem facs_local {g : Nat → Rc} {a b : Nat} (hg : ∀ l, a ≤ l → l ≤ b → g l = zero) : ∀ (L : List (Rc × Rc)) (N : Nat), a + L.length ≤ N → N ≤ b → facs L g N = zero
  | [], N, h1, h2 => hg N h1 h2
  | u :: L, N, h1, h2 => by
    have h1' : a + L.length + 1 ≤ N := by simpa [Nat.add_assoc] using h1
    match N, h1', h2 with
    | N + 1, h1', h2 =>
      show u.1 * facs L g (N + 1) + u.2 * facs L g N = zero
      rw [facs_local hg L (N + 1) (by omega) h2, facs_local hg L N (by omega) (by omega), mul_z, mul_z, add_z]
def rpw (r : Rc) : Nat → Rc
  | 0 => one
  | i + 1 => r * rpw r i
theorem nq_one : nq one = 1 := by unfold nq; rw [one_re, one_im]; grind
theorem nq_rpw {r : Rc} (h : nq r = 1) : ∀ i, nq (rpw r i) = 1
  | 0 => nq_one
  | i + 1 => by show nq (r * rpw r i) = 1; rw [nq_mul, h, nq_rpw h i]; grind
def rf (r : Rc) : Rc × Rc := (neg r, one)
theorem pellet_none {L : List (Rc × Rc)} {U : Nat → Rat} {K : Rat} {k : Nat} (hU : ∀ j, 0 ≤ U j) (ha : ∀ j, nq (facs L d0 j) ≤ U j * U j) (hk : k ≤ L.length) (hK : usum U k (L.length + 1) < K) (hak : K * K ≤ nq (facs L d0 k)) (r : Rc) (hr : rf r ∈ L) : nq r ≠ 1 := fun h1 => by
  obtain ⟨L', e1, e2⟩ := facs_pick hr
  obtain ⟨f, hf⟩ : ∃ f : Nat → Rc, f = fun i => if i ≤ L.length then rpw r (L.length - i) else zero := ⟨_, rfl⟩
  have hb : ∀ i, nq (f i) ≤ 1 * 1 := fun i => by
    rw [hf]
    show nq (if i ≤ L.length then rpw r (L.length - i) else zero) ≤ _
    split
    · rw [nq_rpw h1]; grind
    · rw [nq_zero]; grind
  have hz : ∀ l, 1 ≤ l → l ≤ L.length → fac (rf r) f l = zero := fun l h h' => by
    match l, h with
    | l + 1, _ =>
      show neg r * f (l + 1) + one * f l = zero
      rw [hf]
      show neg r * (if l + 1 ≤ L.length then rpw r (L.length - (l + 1)) else zero) + one * (if l ≤ L.length then rpw r (L.length - l) else zero) = zero
      rw [if_pos h', if_pos (by omega), show L.length - l = (L.length - (l + 1)) + 1 by omega]
      show neg r * rpw r (L.length - (l + 1)) + one * (r * rpw r (L.length - (l + 1))) = zero
      exact cring (by simp only [neg, add_re, mul_re, mul_im, one_re, one_im, zero_re]; grind) (by simp only [neg, add_im, mul_re, mul_im, one_re, one_im, zero_im]; grind)
  have h0 : act (facs L d0) f (L.length + 1) L.length = zero := by
    rw [act_facs _ L _ _ (by omega), e2]
    exact facs_local hz L' L.length (by omega) (Nat.le_refl _)
  have h2 := (act_x (facs L d0) f k L.length (L.length + 1)).2 (by omega)
  rw [h0] at h2
  have e3 : sh k f L.length = rpw r k := by
    unfold sh
    rw [if_pos hk, hf]
    show (if L.length - k ≤ L.length then rpw r (L.length - (L.length - k)) else zero) = _
    rw [if_pos (by omega), show L.length - (L.length - k) = k by omega]
  rw [e3] at h2
  have h3 := actx_le hU ha (show (0 : Rat) ≤ 1 by grind) hb k L.length (L.length + 1)
  have h4 : nq (facs L d0 k * rpw r k) = nq (actx (facs L d0) f k (L.length + 1) L.length) := by
    have x := congrArg Rc.re h2
    have m := congrArg Rc.im h2
    rw [add_re, zero_re] at x
    rw [add_im, zero_im] at m
    unfold nq
    have r2 : (facs L d0 k * rpw r k).re = -(actx (facs L d0) f k (L.length + 1) L.length).re := by grind
    have m2 : (facs L d0 k * rpw r k).im = -(actx (facs L d0) f k (L.length + 1) L.length).im := by grind
    rw [r2, m2]; grind
  rw [← h4, nq_mul, nq_rpw h1] at h3
  have hu := usum_nn hU k (L.length + 1)
  have h5 : 0 < (K - usum U k (L.length + 1)) * (K + usum U k (L.length + 1)) := Rat.mul_pos (by grind) (by grind)
  grind
/-! the other way round -/
def swp (u : Rc × Rc) : Rc × Rc := (u.2, u.1)
theorem facs_rev : ∀ (L : List (Rc × Rc)) (j : Nat), j ≤ L.length → facs (L.map swp) d0 j = facs L d0 (L.length - j)
  | [], j, h => by
    have : j = 0 := by simpa using h
    subst this
    rfl
  | u :: L, j, h => by
    have hl : (u :: L).length = L.length + 1 := rfl
    have hm : (L.map swp).length = L.length := List.length_map ..
    rw [hl] at h ⊢
    show fac (swp u) (facs (L.map swp) d0) j = fac u (facs L d0) (L.length + 1 - j)
    match j, h with
    | 0, _ =>
      show u.2 * facs (L.map swp) d0 0 = u.1 * facs L d0 (L.length + 1) + u.2 * facs L d0 L.length
      rw [facs_rev L 0 (Nat.zero_le _), facs_deg L (L.length + 1) (by omega), mul_z, z_add]
      rfl
    | j + 1, h =>
      show u.2 * facs (L.map swp) d0 (j + 1) + u.1 * facs (L.map swp) d0 j = _
      rw [facs_rev L j (by omega)]
      by_cases e : j = L.length
      · subst e
        rw [facs_deg (L.map swp) (L.length + 1) (by omega), mul_z, z_add, show L.length + 1 - (L.length + 1) = 0 by omega, Nat.sub_self]
        rfl
      · rw [facs_rev L (j + 1) (by omega), show L.length + 1 - (j + 1) = (L.length - (j + 1)) + 1 by omega]
        show _ = u.1 * facs L d0 (L.length - (j + 1) + 1) + u.2 * facs L d0 (L.length - (j + 1))
        rw [add_c, show L.length - (j + 1) + 1 = L.length - j by omega]
def tot (U : Nat → Rat) : Nat → Rat
  | 0 => 0
  | j + 1 => tot U j + U j
theorem tot_usum (U : Nat → Rat) (k : Nat) : ∀ N, (N ≤ k → usum U k N = tot U N) ∧ (k < N → tot U N = usum U k N + U k)
  | 0 => ⟨fun _ => rfl, fun h => absurd h (Nat.not_lt_zero _)⟩
  | j + 1 => by
    obtain ⟨h1, h2⟩ := tot_usum U k j
    constructor
    · intro h
      show (if j = k then _ else usum U k j + U j) = tot U j + U j
      rw [if_neg (by omega), h1 (by omega)]
    · intro h
      show tot U j + U j = (if j = k then usum U k j else usum U k j + U j) + U k
      by_cases e : j = k
      · rw [if_pos e, h1 (by omega), e]
      · rw [if_neg e, h2 (by omega)]; grind
theorem tot_succ (U : Nat → Rat) : ∀ n, tot U (n + 1) = U 0 + tot (fun j => U (j + 1)) n
  | 0 => by show (0 : Rat) + U 0 = U 0 + 0; grind
  | n + 1 => by
    have ih := tot_succ U n
    show tot U (n + 1) + U (n + 1) = U 0 + (tot (fun j => U (j + 1)) n + U (n + 1))
    rw [ih]; grind
theorem tot_congr {U V : Nat → Rat} : ∀ n, (∀ j, j < n → U j = V j) → tot U n = tot V n
  | 0, _ => rfl
  | n + 1, h => by
    show tot U n + U n = tot V n + V n
    rw [tot_congr n (fun j hj => h j (by omega)), h n (by omega)]
theorem tot_rev (U : Nat → Rat) : ∀ n, tot (fun j => U (n - j)) (n + 1) = tot U (n + 1)
  | 0 => rfl
  | n + 1 => by
    rw [tot_succ]
    have e : tot (fun j => U (n + 1 - (j + 1))) (n + 1) = tot (fun j => U (n - j)) (n + 1) := tot_congr _ (fun j hj => by show U _ = U _; congr 1; omega)
    show U (n + 1 - 0) + tot (fun j => U (n + 1 - (j + 1))) (n + 1) = tot U (n + 1) + U (n + 1)
    rw [e, tot_rev U n, Nat.sub_zero]
    grind
/-- PELLET: what is dominated at a place has just as many roots within the circle, and none on it -/
theorem pellet_count (rs : List Rc) {U : Nat → Rat} {K : Rat} {k : Nat} (hU : ∀ j, 0 ≤ U j) (ha : ∀ j, nq (facs (rs.map rf) d0 j) ≤ U j * U j) (hk : k ≤ rs.length) (hK : usum U k (rs.length + 1) < K) (hak : K * K ≤ nq (facs (rs.map rf) d0 k)) :
    (rs.filter (fun r => decide (nq r < 1))).length = k ∧ ∀ r ∈ rs, nq r ≠ 1 := by
  have hl : (rs.map rf).length = rs.length := List.length_map ..
  have none : ∀ r ∈ rs, nq r ≠ 1 := fun r hr => pellet_none hU ha (by rw [hl]; exact hk) (by rw [hl]; exact hK) hak r (List.mem_map_of_mem hr)
  refine ⟨?_, none⟩
  have h1 := pellet (rs.map rf) hU ha (by rw [hl]; exact hk) (by rw [hl]; exact hK) hak
  rw [List.filter_map, List.length_map] at h1
  have e1 : rs.filter ((fun u => !good u) ∘ rf) = rs.filter (fun r => decide (nq r < 1)) := by
    refine List.filter_congr (fun r hr => ?_)
    have hn := none r hr
    show (!decide (nq one < nq (neg r))) = decide (nq r < 1)
    rw [nq_one, nq_neg]
    by_cases g : nq r < 1
    · rw [decide_eq_true g, decide_eq_false (by grind)]; rfl
    · rw [decide_eq_false g, decide_eq_true (by grind)]; rfl
  rw [e1] at h1
  -- the other way round
  obtain ⟨V, hV⟩ : ∃ V : Nat → Rat, V = fun j => if j ≤ rs.length then U (rs.length - j) else 0 := ⟨_, rfl⟩
  have hV0 : ∀ j, 0 ≤ V j := fun j => by
    rw [hV]; show 0 ≤ (if j ≤ rs.length then U (rs.length - j) else 0)
    split
    · exact hU _
    · grind
  have hlm : ((rs.map rf).map swp).length = rs.length := by rw [List.length_map, List.length_map]
  have hVa : ∀ j, nq (facs ((rs.map rf).map swp) d0 j) ≤ V j * V j := fun j => by
    rw [hV]; show _ ≤ (if j ≤ rs.length then U (rs.length - j) else 0) * (if j ≤ rs.length then U (rs.length - j) else 0)
    by_cases h : j ≤ rs.length
    · rw [if_pos h, facs_rev _ j (by rw [hl]; exact h), hl]; exact ha _
    · rw [if_neg h, facs_deg _ j (by rw [hlm]; omega), nq_zero]; grind
  have eV : usum V (rs.length - k) (rs.length + 1) = usum U k (rs.length + 1) := by
    have a1 := (tot_usum V (rs.length - k) (rs.length + 1)).2 (by omega)
    have a2 := (tot_usum U k (rs.length + 1)).2 (by omega)
    have a3 : tot V (rs.length + 1) = tot (fun j => U (rs.length - j)) (rs.length + 1) := tot_congr _ (fun j hj => by rw [hV]; show (if j ≤ rs.length then U (rs.length - j) else 0) = _; rw [if_pos (by omega)])
    have a4 := tot_rev U rs.length
    have a5 : V (rs.length - k) = U k := by rw [hV]; show (if rs.length - k ≤ rs.length then U (rs.length - (rs.length - k)) else 0) = _; rw [if_pos (by omega)]; congr 1; omega
    grind
  have h2 := pellet ((rs.map rf).map swp) (k := rs.length - k) hV0 hVa (by rw [hlm]; omega) (by rw [hlm, eV]; exact hK) (by rw [facs_rev _ _ (by rw [hl]; omega), hl, show rs.length - (rs.length - k) = k by omega]; exact hak)
  rw [List.map_map, List.filter_map, List.length_map] at h2
  have e2 : rs.filter ((fun u => !good u) ∘ (swp ∘ rf)) = rs.filter (fun r => !decide (nq r < 1)) := by
    refine List.filter_congr (fun r hr => ?_)
    show (!decide (nq (neg r) < nq one)) = !decide (nq r < 1)
    rw [nq_one, nq_neg]
  rw [e2] at h2
  have h3 : ∀ (p : Rc → Bool) (l : List Rc), (l.filter p).length + (l.filter (fun r => !p r)).length = l.length := fun p l => by
    induction l with
    | nil => rfl
    | cons a l ih =>
      cases h : p a
      · have q1 : (a :: l).filter p = l.filter p := by simp [h]
        have q2 : (a :: l).filter (fun r => !p r) = a :: l.filter (fun r => !p r) := by simp [h]
        rw [q1, q2, List.length_cons, List.length_cons]; omega
      · have q1 : (a :: l).filter p = a :: l.filter p := by simp [h]
        have q2 : (a :: l).filter (fun r => !p r) = l.filter (fun r => !p r) := by simp [h]
        rw [q1, q2, List.length_cons, List.length_cons]; omega
  have h4 := h3 (fun r => decide (nq r < 1)) rs
  omega
end Rc
end Go.Ab
