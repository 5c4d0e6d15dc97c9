/- Numbers in limbs, without any program. -/
import Derived.Test.YtikhbokeaikcpaaDoorA2
import Derived.Lib.ItoaNum
set_option linter.unusedVariables false
set_option maxRecDepth 20000
set_option linter.unusedSimpArgs false
/-! Numbers in limbs, without any program. -/
namespace Go.Ab

def nv : List Nat → Nat
  | [] => 0
  | x :: r => x + 4294967296 * nv r
def Lm (l : List Nat) : Prop := ∀ x ∈ l, x < 4294967296
/-- without noughts on top -/
def cutL : List Nat → List Nat
  | [] => []
  | x :: r => match cutL r with
    | [] => if x = 0 then [] else [x]
    | y :: s => x :: y :: s
/-- the limbs of a number -/
def lim (n : Nat) : List Nat := if h : n = 0 then [] else n % 4294967296 :: lim (n / 4294967296)
termination_by n
decreasing_by omega

theorem nv_append (l m : List Nat) : nv (l ++ m) = nv l + 4294967296 ^ l.length * nv m := by
  induction l with
  | nil => simp [nv]
  | cons x r ih => simp only [List.cons_append, nv, ih, List.length_cons, Nat.pow_succ]; rw [Nat.mul_add, Nat.add_assoc]; congr 2; rw [← Nat.mul_assoc, Nat.mul_comm (4294967296 ^ r.length)]
theorem cutL_zero (m : List Nat) : cutL (m ++ [0]) = cutL m := by
  induction m with
  | nil => rfl
  | cons x r ih => simp only [List.cons_append, cutL, ih]
theorem cutL_ne (m : List Nat) {x : Nat} (h : x ≠ 0) : cutL (m ++ [x]) = m ++ [x] := by
  induction m with
  | nil => simp [cutL, h]
  | cons y r ih =>
    simp only [List.cons_append, cutL, ih]
    cases hr : r ++ [x] with
    | nil => simp at hr
    | cons a b => rfl
theorem nv_cutL (l : List Nat) : nv (cutL l) = nv l := by
  induction l with
  | nil => rfl
  | cons x r ih =>
    simp only [cutL, nv]
    cases h : cutL r with
    | nil =>
      rw [h] at ih
      have : nv r = 0 := ih.symm
      simp only [this]
      by_cases hx : x = 0 <;> simp [hx, nv]
    | cons y s => rw [h] at ih; simp only [nv] at ih ⊢; rw [ih]
theorem take_succ_getD (l : List Nat) {k : Nat} (h : k < l.length) : l.take (k + 1) = l.take k ++ [l.getD k 0] := by
  rw [List.take_succ_eq_append_getElem h]; simp [List.getD_eq_getElem?_getD, h]
theorem cutL_length (l : List Nat) : (cutL l).length ≤ l.length := by
  induction l with
  | nil => simp [cutL]
  | cons x r ih =>
    simp only [cutL]
    cases h : cutL r with
    | nil => by_cases hx : x = 0 <;> simp [hx]
    | cons y s => rw [h] at ih; simp at ih ⊢; omega
theorem lim_zero : lim 0 = [] := by rw [lim]; simp
theorem lim_pos {n : Nat} (h : n ≠ 0) : lim n = n % 4294967296 :: lim (n / 4294967296) := by rw [lim, dif_neg h]
theorem nv_lim (n : Nat) : nv (lim n) = n := by
  induction n using Nat.strongRecOn with
  | _ n ih =>
    by_cases h : n = 0
    · rw [h, lim_zero]; rfl
    · rw [lim_pos h]; simp only [nv]; rw [ih (n / 4294967296) (by omega)]; omega
theorem Lm_lim (n : Nat) : Lm (lim n) := by
  induction n using Nat.strongRecOn with
  | _ n ih =>
    by_cases h : n = 0
    · rw [h, lim_zero]; intro x hx; cases hx
    · rw [lim_pos h]; intro x hx
      rcases List.mem_cons.mp hx with q | q
      · omega
      · exact ih (n / 4294967296) (by omega) x q
theorem lim_eq_nil {n : Nat} : lim n = [] ↔ n = 0 := by
  constructor
  · intro h
    by_cases e : n = 0
    · exact e
    · rw [lim_pos e] at h; cases h
  · rintro rfl; exact lim_zero
theorem cutL_lim {l : List Nat} (h : Lm l) : cutL l = lim (nv l) := by
  induction l with
  | nil => rw [show nv [] = 0 from rfl, lim_zero]; rfl
  | cons x r ih =>
    have hr : Lm r := fun y hy => h y (by simp [hy])
    have hx : x < 4294967296 := h x (by simp)
    simp only [cutL, ih hr, nv]
    cases hl : lim (nv r) with
    | nil =>
      have h0 := lim_eq_nil.mp hl
      rw [h0]
      by_cases e : x = 0
      · rw [if_pos e, e, lim_zero]
      · rw [if_neg e, lim_pos (by omega)]
        have e1 : (x + 4294967296 * 0) / 4294967296 = 0 := by omega
        have e2 : (x + 4294967296 * 0) % 4294967296 = x := by omega
        rw [e1, lim_zero, e2]
    | cons y s =>
      have hne : nv r ≠ 0 := fun e => by rw [e, lim_zero] at hl; cases hl
      rw [lim_pos (by omega)]
      have e1 : (x + 4294967296 * nv r) / 4294967296 = nv r := by omega
      have e2 : (x + 4294967296 * nv r) % 4294967296 = x := by omega
      rw [e1, hl, e2]
theorem Lm_cutL {l : List Nat} (h : Lm l) : Lm (cutL l) := by rw [cutL_lim h]; exact Lm_lim _
theorem Lm_take {l : List Nat} (h : Lm l) (n : Nat) : Lm (l.take n) := fun x hx => h x (List.mem_of_mem_take hx)
theorem Lm_drop {l : List Nat} (h : Lm l) (n : Nat) : Lm (l.drop n) := fun x hx => h x (List.mem_of_mem_drop hx)
theorem Lm_set {l : List Nat} (h : Lm l) {i x : Nat} (hx : x < 4294967296) : Lm (l.set i x) := fun y hy => by
  rcases List.mem_or_eq_of_mem_set hy with q | q
  · exact h y q
  · rw [q]; exact hx
theorem Lm_getD {l : List Nat} (h : Lm l) (i : Nat) : l.getD i 0 < 4294967296 := by
  by_cases hi : i < l.length
  · have : l.getD i 0 = l[i] := by simp [List.getD_eq_getElem?_getD, hi]
    rw [this]; exact h _ (List.getElem_mem hi)
  · have : l.getD i 0 = 0 := by simp [List.getD_eq_getElem?_getD, Nat.not_lt.mp hi]
    rw [this]; decide
theorem Lm_rep (n : Nat) : Lm (List.replicate n 0) := fun x hx => by rw [List.eq_of_mem_replicate hx]; decide
theorem nv_take_succ (l : List Nat) (k : Nat) : nv (l.take (k + 1)) = nv (l.take k) + 4294967296 ^ k * l.getD k 0 := by
  by_cases h : k < l.length
  · rw [take_succ_getD l h, nv_append]
    have : (l.take k).length = k := by simp; omega
    rw [this]; simp [nv]
  · have e1 : l.take (k + 1) = l := List.take_of_length_le (by omega)
    have e2 : l.take k = l := List.take_of_length_le (by omega)
    have e3 : l.getD k 0 = 0 := by simp [List.getD_eq_getElem?_getD, Nat.not_lt.mp h]
    rw [e1, e2, e3]; simp
theorem nv_lt {l : List Nat} (h : Lm l) : nv l < 4294967296 ^ l.length := by
  induction l with
  | nil => simp [nv]
  | cons x r ih =>
    have := ih (fun y hy => h y (by simp [hy]))
    have hx := h x (by simp)
    simp only [nv, List.length_cons, Nat.pow_succ]
    omega
theorem nv_rep (n : Nat) : nv (List.replicate n 0) = 0 := by
  induction n with
  | zero => rfl
  | succ n ih => simp [List.replicate_succ, nv, ih]
theorem lim_length_le {n k : Nat} (h : n < 4294967296 ^ k) : (lim n).length ≤ k := by
  induction k generalizing n with
  | zero => have : n = 0 := by simpa using h
            rw [this, lim_zero]; simp
  | succ k ih =>
    by_cases e : n = 0
    · rw [e, lim_zero]; simp
    · rw [lim_pos e]
      have : n / 4294967296 < 4294967296 ^ k := by rw [Nat.div_lt_iff_lt_mul (by decide)]; rw [Nat.pow_succ] at h; exact h
      have := ih this
      simp; omega
end Go.Ab

set_option linter.unusedVariables false
set_option linter.unusedSimpArgs false
/-! Limbs: steps of the schoolbook's ways, without any program. -/
namespace Go.Ab

theorem nv_set_zero {l : List Nat} {j v : Nat} (hj : j < l.length) : nv ((l.set j v).take (j + 1)) = nv (l.take j) + 4294967296 ^ j * v := by
  rw [nv_take_succ]
  congr 1
  · congr 1; rw [List.take_set_of_le (Nat.le_refl _)]
  · congr 1; simp [List.getD_eq_getElem?_getD, hj]
/-- one limb of a sum -/
theorem add_step {P Q A X Y c o : Nat} (j : Nat) (h : o + P * c = A + Q) (hP : P = 4294967296 ^ j) :
    (o + P * ((c + X + Y) % 4294967296)) + 4294967296 ^ (j + 1) * ((c + X + Y) / 4294967296) = (A + P * X) + (Q + P * Y) := by
  subst hP
  have e := Nat.div_add_mod (c + X + Y) 4294967296
  have e2 : 4294967296 ^ j * ((c + X + Y) % 4294967296) + 4294967296 ^ (j + 1) * ((c + X + Y) / 4294967296) = 4294967296 ^ j * (c + X + Y) := by
    rw [Nat.pow_succ, Nat.mul_assoc, ← Nat.mul_add, Nat.add_comm ((c + X + Y) % 4294967296), e]
  have e3 : 4294967296 ^ j * (c + X + Y) = 4294967296 ^ j * c + 4294967296 ^ j * X + 4294967296 ^ j * Y := by rw [Nat.mul_add, Nat.mul_add]
  omega
theorem add_done {n P c o la lb : Nat} (h : o + P * c = la + lb) (hP : P = 4294967296 ^ (n + 1)) (h1 : la < 4294967296 ^ n) (h2 : lb < 4294967296 ^ n) : c = 0 ∧ o = la + lb := by
  rw [Nat.pow_succ] at hP
  generalize 4294967296 ^ n = Q at hP h1 h2
  cases c with
  | zero => exact ⟨rfl, by simpa using h⟩
  | succ c =>
    exfalso
    have : P * (c + 1) = P * c + P := Nat.mul_succ P c
    omega
theorem pow_mono {a b : Nat} (h : a ≤ b) : 4294967296 ^ a ≤ 4294967296 ^ b := Nat.pow_le_pow_right (by decide) h
theorem nv_lt_of {l : List Nat} (h : Lm l) {n : Nat} (hn : l.length ≤ n) : nv l < 4294967296 ^ n := Nat.lt_of_lt_of_le (nv_lt h) (pow_mono hn)
theorem nv_take_all {l : List Nat} {n : Nat} (h : l.length ≤ n) : nv (l.take n) = nv l := by rw [List.take_of_length_le h]
end Go.Ab

set_option linter.unusedVariables false
set_option linter.unusedSimpArgs false
/-! Drawn regions of a function, all at once; more of limbs. -/
namespace Go.Ab

def drB : Code → Bool
  | .region _ ops d => !d || drawOk ops
  | .seq x y => drB x && drB y
  | .cond _ x y => drB x && drB y
  | .block _ c => drB c
  | .loop c => drB c
  | .scope c => drB c
  | _ => true
def drR (ops : Array Oper) : Bool → Prop
  | true => drawOk ops = true
  | false => True
def drP : Code → Prop
  | .region _ ops d => drR ops d
  | .seq x y => drP x ∧ drP y
  | .cond _ x y => drP x ∧ drP y
  | .block _ c => drP c
  | .loop c => drP c
  | .scope c => drP c
  | _ => True
/-- With one region that is not of that kind: all its orders. -/
def drS (ops : Array Oper) (L : List (List Nat)) : Prop := drawOk ops = false ∧ eOk ops = true ∧ linsEA ops = L
def drPx (k : Nat) (L : List (List Nat)) : Code → Prop
  | .region id ops d => if id = k then drS ops L else drR ops d
  | .seq x y => drPx k L x ∧ drPx k L y
  | .cond _ x y => drPx k L x ∧ drPx k L y
  | .block _ c => drPx k L c
  | .loop c => drPx k L c
  | .scope c => drPx k L c
  | _ => True
/-- With one region that calls in its middle: the tree of its orders. -/
def drT (ops : Array Oper) (T : OT) : Prop := drawOk ops = false ∧ eOk ops = false ∧ tOk ops = true ∧ treeEA ops = T
def drPt (k : Nat) (T : OT) : Code → Prop
  | .region id ops d => if id = k then drT ops T else drR ops d
  | .seq x y => drPt k T x ∧ drPt k T y
  | .cond _ x y => drPt k T x ∧ drPt k T y
  | .block _ c => drPt k T c
  | .loop c => drPt k T c
  | .scope c => drPt k T c
  | _ => True
theorem drP_of : ∀ {c : Code}, drB c = true → drP c := by
  intro c
  induction c with
  | region id ops d => cases d <;> simp [drB, drP, drR]
  | seq x y ihx ihy => intro h; simp [drB] at h; exact ⟨ihx h.1, ihy h.2⟩
  | cond c x y ihx ihy => intro h; simp [drB] at h; exact ⟨ihx h.1, ihy h.2⟩
  | block id c ih => intro h; exact ih h
  | loop c ih => intro h; exact ih h
  | scope c ih => intro h; exact ih h
  | _ => intros; trivial

theorem x_m63 : min 63 64 = 63 := rfl
theorem x_m1 : min 1 64 = 1 := rfl
theorem x_m1' : min 1 32 = 1 := rfl
theorem isD_nil (n : Nat) : IsD (.sl n []) := isD_sl fun c hc => by cases hc
theorem isD_v (x : Value) : IsD (.v x) := .v x
theorem incI {j : Nat} (h : j < 4611686018427387904) : IntKind.i64.wrap ((j : Int) + 1) = ((j + 1 : Nat) : Int) := by rw [wrap_i64 (by omega) (by omega)]; omega
theorem decI {j : Nat} (h : j < 4611686018427387904) : IntKind.i64.wrap (((j + 1 : Nat) : Int) - 1) = (j : Int) := by rw [wrap_i64 (by omega) (by omega)]; omega
/-- -1, 0, 1 -/
def cmpN (x y : Nat) : Int := if x < y then -1 else if y < x then 1 else 0
theorem cmpN_lt {x y : Nat} (h : x < y) : cmpN x y = -1 := if_pos h
theorem cmpN_gt {x y : Nat} (h : y < x) : cmpN x y = 1 := by unfold cmpN; rw [if_neg (by omega), if_pos h]
theorem cmpN_eq {x y : Nat} (h : x = y) : cmpN x y = 0 := by unfold cmpN; rw [if_neg (by omega), if_neg (by omega)]
theorem nv_split (l : List Nat) (i : Nat) : nv l = nv (l.take i) + 4294967296 ^ i * nv (l.drop i) := by
  by_cases h : i ≤ l.length
  · conv => lhs; rw [← List.take_append_drop i l, nv_append]
    rw [List.length_take, Nat.min_eq_left h]
  · rw [List.take_of_length_le (by omega), List.drop_of_length_le (by omega)]; simp [nv]
theorem nv_drop_getD {l : List Nat} {i : Nat} (h : i < l.length) : nv (l.drop i) = l.getD i 0 + 4294967296 * nv (l.drop (i + 1)) := by
  rw [List.drop_eq_getElem_cons h]; simp [nv, List.getD_eq_getElem?_getD, h]
theorem nv_lt_drop {a b : List Nat} (ha : Lm a) {i : Nat} (h1 : i < a.length) (h2 : i < b.length) (he : a.drop (i + 1) = b.drop (i + 1)) (hlt : a.getD i 0 < b.getD i 0) : nv a < nv b := by
  rw [nv_split a i, nv_split b i, nv_drop_getD h1, nv_drop_getD h2, he]
  have e := nv_lt (Lm_take ha i)
  rw [List.length_take, Nat.min_eq_left (by omega)] at e
  generalize 4294967296 ^ i = P at e
  have e2 : a.getD i 0 + 4294967296 * nv (b.drop (i + 1)) + 1 ≤ b.getD i 0 + 4294967296 * nv (b.drop (i + 1)) := by omega
  have e3 := Nat.mul_le_mul_left P e2
  rw [Nat.mul_add P _ 1] at e3
  omega
theorem lim_lt {x y : Nat} (h : (lim x).length < (lim y).length) : x < y := by
  rcases Nat.lt_or_ge x y with q | q
  · exact q
  · have h1 := nv_lt (Lm_lim x)
    rw [nv_lim] at h1
    have := lim_length_le (n := y) (k := (lim x).length) (by omega)
    omega

theorem bv_and (n : Nat) {a b : Nat} (ha : a < 2 ^ n) (hb : b < 2 ^ n) : (BitVec.ofInt n (a : Int) &&& BitVec.ofInt n (b : Int)).toNat = a &&& b := by
  rw [BitVec.ofInt_natCast, BitVec.ofInt_natCast, BitVec.toNat_and, BitVec.toNat_ofNat, BitVec.toNat_ofNat, Nat.mod_eq_of_lt ha, Nat.mod_eq_of_lt hb]
theorem bv_or (n : Nat) {a b : Nat} (ha : a < 2 ^ n) (hb : b < 2 ^ n) : (BitVec.ofInt n (a : Int) ||| BitVec.ofInt n (b : Int)).toNat = a ||| b := by
  rw [BitVec.ofInt_natCast, BitVec.ofInt_natCast, BitVec.toNat_or, BitVec.toNat_ofNat, BitVec.toNat_ofNat, Nat.mod_eq_of_lt ha, Nat.mod_eq_of_lt hb]
theorem and64 {a b : Nat} (ha : a < 18446744073709551616) (hb : b < 18446744073709551616) : bits .and .u64 (a : Int) (b : Int) = ((a &&& b : Nat) : Int) := by
  have h : a &&& b < 18446744073709551616 := Nat.lt_of_le_of_lt Nat.and_le_left ha
  show IntKind.u64.wrap ((BitVec.ofInt 64 (a : Int) &&& BitVec.ofInt 64 (b : Int)).toNat : Int) = _
  rw [bv_and 64 (by omega) (by omega), wrap_u64 (by omega) (by omega)]
theorem or64 {a b : Nat} (ha : a < 18446744073709551616) (hb : b < 18446744073709551616) : bits .or .u64 (a : Int) (b : Int) = ((a ||| b : Nat) : Int) := by
  have h : a ||| b < 2 ^ 64 := Nat.or_lt_two_pow (by omega) (by omega)
  show IntKind.u64.wrap ((BitVec.ofInt 64 (a : Int) ||| BitVec.ofInt 64 (b : Int)).toNat : Int) = _
  rw [bv_or 64 (by omega) (by omega), wrap_u64 (by omega) (by omega)]
theorem and32 {a b : Nat} (ha : a < 4294967296) (hb : b < 4294967296) : bits .and .u32 (a : Int) (b : Int) = ((a &&& b : Nat) : Int) := by
  have h : a &&& b < 4294967296 := Nat.lt_of_le_of_lt Nat.and_le_left ha
  show IntKind.u32.wrap ((BitVec.ofInt 32 (a : Int) &&& BitVec.ofInt 32 (b : Int)).toNat : Int) = _
  rw [bv_and 32 (by omega) (by omega), wrap_u32]; omega
theorem sub_done {P n A B o t c : Nat} (hP : P = 4294967296 ^ n) (h : o + t = A + P * c) (ht : t + P * (B / P) = B) (hA : A < P) (hB : B ≤ A) (ho : o < P) : c = 0 ∧ o = A - B := by
  have h0 : B / P = 0 := Nat.div_eq_of_lt (by omega)
  rw [h0] at ht
  cases c with
  | zero => simp at h ht; exact ⟨rfl, by omega⟩
  | succ c => rw [Nat.mul_succ] at h; simp at ht; omega
theorem nv_take_div {l : List Nat} (hl : Lm l) (n : Nat) : nv (l.take n) + 4294967296 ^ n * (nv l / 4294967296 ^ n) = nv l := by
  have h1 := nv_split l n
  have h2 : nv (l.take n) < 4294967296 ^ n := nv_lt_of (Lm_take hl n) (by simp; omega)
  generalize 4294967296 ^ n = P at *
  have h3 : nv l / P = nv (l.drop n) := by
    rw [h1, Nat.add_comm, Nat.mul_add_div (by omega), Nat.div_eq_of_lt h2, Nat.add_zero]
  rw [h3]; exact h1.symm
theorem sub_w {X Y c : Nat} (hX : X < 4294967296) (hY : Y < 4294967296) (hc : c ≤ 1) : ∃ V D c' : Nat, IntKind.u64.wrap (IntKind.u64.wrap ((X : Int) - (Y : Int)) - (c : Int)) = (V : Int) ∧ IntKind.u32.wrap (V : Int) = (D : Int) ∧ D < 4294967296 ∧ c' ≤ 1 ∧
    bits .and .u64 (((V : Int)).fdiv (2 ^ 32)) 1 = (c' : Int) ∧ ((V : Int)).fdiv (2 ^ 63) = (c' : Int) ∧ X + 4294967296 * c' = Y + c + D := by
  have key : ∀ V c' : Nat, V < 18446744073709551616 → c' ≤ 1 → V / 4294967296 &&& 1 = c' → V / 9223372036854775808 = c' → bits .and .u64 (((V : Int)).fdiv (2 ^ 32)) 1 = (c' : Int) ∧ ((V : Int)).fdiv (2 ^ 63) = (c' : Int) := by
    intro V c' h1 h2 h3 h4
    have e1 : ((V : Int)).fdiv (2 ^ 32) = ((V / 4294967296 : Nat) : Int) := by rw [Int.fdiv_eq_ediv_of_nonneg _ (by omega)]; omega
    have e2 : ((V : Int)).fdiv (2 ^ 63) = ((V / 9223372036854775808 : Nat) : Int) := by rw [Int.fdiv_eq_ediv_of_nonneg _ (by omega)]; omega
    rw [e1, e2, show (1 : Int) = ((1 : Nat) : Int) from rfl, and64 (by omega) (by omega), h3, h4]
    exact ⟨rfl, rfl⟩
  by_cases h : Y + c ≤ X
  · have k := key (X - Y - c) 0 (by omega) (by omega) (by rw [show (X - Y - c) / 4294967296 = 0 by omega]; rfl) (by omega)
    exact ⟨X - Y - c, X - Y - c, 0, by rw [wrap_u64', wrap_u64']; omega, by rw [wrap_u32]; omega, by omega, by omega, k.1, k.2, by omega⟩
  · have k := key (18446744073709551616 + X - Y - c) 1 (by omega) (by omega) (by rw [show (18446744073709551616 + X - Y - c) / 4294967296 = 4294967295 by omega]; rfl) (by omega)
    exact ⟨18446744073709551616 + X - Y - c, 4294967296 + X - Y - c, 1, by rw [wrap_u64', wrap_u64']; omega, by rw [wrap_u32]; omega, by omega, by omega, k.1, k.2, by omega⟩
theorem sub_step {P A Q X Y D o c c' : Nat} (j : Nat) (h : o + Q = A + P * c) (hP : P = 4294967296 ^ j) (hd : X + 4294967296 * c' = Y + c + D) : (o + P * D) + (Q + P * Y) = (A + P * X) + 4294967296 ^ (j + 1) * c' := by
  rw [Nat.pow_succ, ← hP]
  have e : P * (X + 4294967296 * c') = P * (Y + c + D) := by rw [hd]
  rw [Nat.mul_add, Nat.mul_add, Nat.mul_add, ← Nat.mul_assoc] at e
  omega

theorem nv_set_take {l : List Nat} {j n v : Nat} (hj : j < n) (hn : n ≤ l.length) : nv ((l.set j v).take n) + 4294967296 ^ j * l.getD j 0 = nv (l.take n) + 4294967296 ^ j * v := by
  have h1 := nv_split ((l.set j v).take n) (j + 1)
  have h2 := nv_split (l.take n) (j + 1)
  rw [List.take_take, Nat.min_eq_left (by omega), nv_set_zero (by omega)] at h1
  rw [List.take_take, Nat.min_eq_left (by omega), nv_take_succ] at h2
  have h3 : ((l.set j v).take n).drop (j + 1) = (l.take n).drop (j + 1) := by rw [List.drop_take, List.drop_take, List.drop_set_of_lt (by omega)]
  rw [h3] at h1
  omega
theorem mul_step {O O' S a x N y c old new c' i k : Nat} (h : O + 4294967296 ^ (i + k) * c = S + 4294967296 ^ i * (x * N)) (hs : O' + 4294967296 ^ (i + k) * old = O + 4294967296 ^ (i + k) * new) (hn : new + 4294967296 * c' = c + old + x * y) :
    O' + 4294967296 ^ (i + (k + 1)) * c' = S + 4294967296 ^ i * (x * (N + 4294967296 ^ k * y)) := by
  have e1 : 4294967296 ^ (i + k) * (new + 4294967296 * c') = 4294967296 ^ (i + k) * (c + old + x * y) := by rw [hn]
  have e2 : 4294967296 ^ (i + (k + 1)) * c' = 4294967296 ^ (i + k) * (4294967296 * c') := by rw [← Nat.add_assoc, Nat.pow_succ, Nat.mul_assoc]
  have e3 : 4294967296 ^ i * (x * (N + 4294967296 ^ k * y)) = 4294967296 ^ i * (x * N) + 4294967296 ^ (i + k) * (x * y) := by
    rw [Nat.mul_add, Nat.mul_add, Nat.pow_add]
    congr 1
    rw [← Nat.mul_assoc x, Nat.mul_comm x, Nat.mul_assoc, Nat.mul_assoc]
  rw [e2, e3]
  rw [Nat.mul_add, Nat.mul_add, Nat.mul_add] at e1
  omega
theorem limb_split (v : Nat) : v % 4294967296 + 4294967296 * (v / 4294967296) = v := Nat.mod_add_div v 4294967296
theorem mul_lt {x y : Nat} (hx : x < 4294967296) (hy : y < 4294967296) : x * y ≤ 18446744065119617025 := by
  have := Nat.mul_le_mul (show x ≤ 4294967295 by omega) (show y ≤ 4294967295 by omega)
  omega
theorem getD_set_ne {l : List Nat} {i j v : Nat} (h : i ≠ j) : (l.set i v).getD j 0 = l.getD j 0 := by simp [List.getD_eq_getElem?_getD, List.getElem?_set, h]
end Go.Ab

set_option linter.unusedVariables false
set_option linter.unusedSimpArgs false
/-! Limbs shifted, without any program. -/
namespace Go.Ab

/-- what a limb below hands up, shifted by r bits -/
def prv (l : List Nat) (i : Nat) : Nat := if i = 0 then 0 else l.getD (i - 1) 0
def cry (l : List Nat) (r i : Nat) : Nat := prv l i * 2 ^ r / 4294967296
theorem prv_succ (l : List Nat) (i : Nat) : prv l (i + 1) = l.getD i 0 := by simp [prv]
theorem prv_lt {l : List Nat} (h : Lm l) (i : Nat) : prv l i < 4294967296 := by
  unfold prv; split
  · omega
  · exact Lm_getD h _
theorem pow_r {r : Nat} (h : r < 32) : 2 ^ r * 2 ^ (32 - r) = 4294967296 := by
  rw [← Nat.pow_add, show r + (32 - r) = 32 by omega]
theorem pow_r_lt {r : Nat} (h : r < 32) : 2 ^ r ≤ 2147483648 ∧ 1 ≤ 2 ^ r := ⟨by
  have := Nat.pow_le_pow_right (show 0 < 2 by omega) (show r ≤ 31 by omega); omega, Nat.one_le_two_pow⟩
theorem cry_lt {l : List Nat} (h : Lm l) (r i : Nat) : cry l r i < 2 ^ r := by
  unfold cry
  rw [Nat.div_lt_iff_lt_mul (by omega), Nat.mul_comm]
  exact Nat.mul_lt_mul_of_pos_left (prv_lt h i) (Nat.two_pow_pos r)
theorem sh_mul_lt {X r : Nat} (hX : X < 4294967296) (hr : r < 32) : X * 2 ^ r ≤ 9223372034707292160 := by
  have h1 := (pow_r_lt hr).1
  have := Nat.mul_le_mul (show X ≤ 4294967295 by omega) h1
  omega
theorem sh_or {X r c : Nat} (hc : c < 2 ^ r) : X * 2 ^ r ||| c = X * 2 ^ r + c := by
  rw [Nat.mul_comm, Nat.two_pow_add_eq_or_of_lt hc]
theorem sh_div {X r c : Nat} (hr : r < 32) (hc : c < 2 ^ r) : (X * 2 ^ r + c) / 4294967296 = X * 2 ^ r / 4294967296 := by
  have e := pow_r hr
  generalize 2 ^ r = P at *
  generalize 2 ^ (32 - r) = Q at *
  rw [← e, ← Nat.div_div_eq_div_mul, ← Nat.div_div_eq_div_mul]
  congr 1
  rw [Nat.mul_comm X P, Nat.mul_add_div (by omega), Nat.div_eq_of_lt hc, Nat.mul_div_cancel_left _ (by omega)]
  omega
/-- one limb of what is shifted upwards -/
theorem up_step {o r i q : Nat} {l : List Nat} (hl : Lm l) (hr : r < 32) (h : o + 4294967296 ^ (q + i) * cry l r i = 4294967296 ^ q * (2 ^ r * nv (l.take i))) :
    (o + 4294967296 ^ (q + i) * ((l.getD i 0 * 2 ^ r + cry l r i) % 4294967296)) + 4294967296 ^ (q + (i + 1)) * cry l r (i + 1) = 4294967296 ^ q * (2 ^ r * nv (l.take (i + 1))) := by
  have hc := cry_lt hl r i
  have e1 : cry l r (i + 1) = (l.getD i 0 * 2 ^ r + cry l r i) / 4294967296 := by rw [sh_div hr hc]; simp [cry, prv_succ]
  rw [e1, nv_take_succ]
  have e2 := Nat.mod_add_div (l.getD i 0 * 2 ^ r + cry l r i) 4294967296
  have e3 : 4294967296 ^ (q + i) * ((l.getD i 0 * 2 ^ r + cry l r i) % 4294967296) + 4294967296 ^ (q + (i + 1)) * ((l.getD i 0 * 2 ^ r + cry l r i) / 4294967296) = 4294967296 ^ (q + i) * (l.getD i 0 * 2 ^ r) + 4294967296 ^ (q + i) * cry l r i := by
    rw [← Nat.add_assoc q, Nat.pow_succ, Nat.mul_assoc, ← Nat.mul_add, e2, Nat.mul_add]
  have e4 : 4294967296 ^ q * (2 ^ r * (nv (l.take i) + 4294967296 ^ i * l.getD i 0)) = 4294967296 ^ q * (2 ^ r * nv (l.take i)) + 4294967296 ^ (q + i) * (l.getD i 0 * 2 ^ r) := by
    rw [Nat.mul_add, Nat.mul_add, Nat.pow_add]
    congr 1
    simp only [Nat.mul_assoc, Nat.mul_comm, Nat.mul_left_comm]
  rw [e4]
  omega
theorem up_done {q r : Nat} {x : Nat} : 4294967296 ^ q * (2 ^ r * x) = x * 2 ^ (32 * q + r) := by
  rw [Nat.pow_add, Nat.pow_mul, show (2 : Nat) ^ 32 = 4294967296 from rfl]
  simp only [Nat.mul_assoc, Nat.mul_comm, Nat.mul_left_comm]
theorem nv_div_pow {l : List Nat} (hl : Lm l) (k : Nat) : nv l / 4294967296 ^ k = nv (l.drop k) := by
  have h1 := nv_split l k
  have h2 : nv (l.take k) < 4294967296 ^ k := nv_lt_of (Lm_take hl k) (by simp; omega)
  generalize 4294967296 ^ k = P at *
  rw [h1, Nat.add_comm, Nat.mul_add_div (by omega), Nat.div_eq_of_lt h2, Nat.add_zero]
theorem nv_two (l : List Nat) : ∃ Y, nv l = l.getD 0 0 + 4294967296 * l.getD 1 0 + 18446744073709551616 * Y := by
  match l with
  | [] => exact ⟨0, by simp [nv]⟩
  | [x] => exact ⟨0, by simp [nv]⟩
  | x :: y :: r => exact ⟨nv r, by simp [nv]; omega⟩
theorem getD_drop0 (l : List Nat) (k i : Nat) : (l.drop k).getD i 0 = l.getD (k + i) 0 := by simp [List.getD_eq_getElem?_getD]
/-- a limb of what is shifted downwards -/
theorem down_limb {l : List Nat} (hl : Lm l) {r : Nat} (hr : r < 32) (q i : Nat) : nv l / 2 ^ (32 * q + r) / 4294967296 ^ i % 4294967296 = (l.getD (q + i) 0 + 4294967296 * l.getD (q + i + 1) 0) / 2 ^ r % 4294967296 := by
  have e1 : nv l / 2 ^ (32 * q + r) / 4294967296 ^ i = nv l / 4294967296 ^ (q + i) / 2 ^ r := by
    rw [Nat.div_div_eq_div_mul, Nat.div_div_eq_div_mul]
    congr 1
    rw [Nat.pow_add, Nat.pow_mul, show (2 : Nat) ^ 32 = 4294967296 from rfl, Nat.pow_add]
    simp only [Nat.mul_assoc, Nat.mul_comm, Nat.mul_left_comm]
  rw [e1, nv_div_pow hl]
  obtain ⟨Y, hY⟩ := nv_two (l.drop (q + i))
  rw [getD_drop0, getD_drop0] at hY
  simp only [Nat.add_zero] at hY
  rw [hY]
  have e := pow_r hr
  have hp := pow_r_lt hr
  generalize 2 ^ r = P at *
  generalize 2 ^ (32 - r) = Q at *
  have e2 : 18446744073709551616 * Y = P * (4294967296 * (Q * Y)) := by
    rw [show 18446744073709551616 = 4294967296 * 4294967296 from rfl, Nat.mul_assoc, Nat.mul_left_comm P, ← Nat.mul_assoc P, e]
  rw [e2, Nat.add_mul_div_left _ _ (by omega), Nat.add_mul_mod_self_left]
theorem down_lt {l : List Nat} (hl : Lm l) {q r L : Nat} (hL : l.length ≤ q + L) : nv l / 2 ^ (32 * q + r) < 4294967296 ^ L := by
  have h := nv_lt_of hl hL
  rw [Nat.pow_add] at h
  have e : (2 : Nat) ^ (32 * q + r) = 4294967296 ^ q * 2 ^ r := by rw [Nat.pow_add, Nat.pow_mul]
  rw [e]
  have h1 : 0 < 4294967296 ^ q := Nat.pow_pos (by omega)
  have h2 := Nat.two_pow_pos r
  generalize 4294967296 ^ q = P at *
  generalize 4294967296 ^ L = M at *
  rw [← Nat.div_div_eq_div_mul]
  refine Nat.lt_of_le_of_lt (Nat.div_le_self _ _) ?_
  rw [Nat.div_lt_iff_lt_mul h1, Nat.mul_comm]
  exact h
theorem mod_pow_succ (M i : Nat) : M % 4294967296 ^ (i + 1) = M % 4294967296 ^ i + 4294967296 ^ i * (M / 4294967296 ^ i % 4294967296) := by
  rw [Nat.pow_succ, Nat.mod_mul]
theorem or_hi {x y : Nat} (hx : x < 4294967296) : x ||| 4294967296 * y = x + 4294967296 * y := by
  have := Nat.two_pow_add_eq_or_of_lt (i := 32) (b := x) (by omega) y
  rw [Nat.or_comm, Nat.add_comm x]
  exact this.symm
/-- how far is shifted -/
def shN (n : Int) : Nat := (min (max n 0) 100000).toNat
theorem shN_le (n : Int) : shN n ≤ 100000 := by unfold shN; omega
end Go.Ab

set_option linter.unusedVariables false
set_option linter.unusedSimpArgs false
/-! How many bits, without any program. -/
namespace Go.Ab

def bl (x : Nat) : Nat := if x = 0 then 0 else x.log2 + 1
theorem bl_lt (x : Nat) : x < 2 ^ bl x := by
  unfold bl; split
  · rename_i h; rw [h]; decide
  · exact Nat.lt_log2_self
theorem bl_le {x : Nat} (h : x ≠ 0) : 2 ^ (bl x - 1) ≤ x := by
  unfold bl; rw [if_neg h]; exact Nat.log2_self_le h
theorem bl_pos {x : Nat} (h : x ≠ 0) : 1 ≤ bl x := by unfold bl; rw [if_neg h]; omega
theorem bl_zero : bl 0 = 0 := rfl
theorem bl_eq {x n : Nat} (h1 : 2 ^ (n - 1) ≤ x) (h2 : x < 2 ^ n) (hn : 1 ≤ n) : bl x = n := by
  have hx : x ≠ 0 := by have := Nat.two_pow_pos (n - 1); omega
  unfold bl; rw [if_neg hx]
  have e1 : n - 1 ≤ x.log2 := (Nat.le_log2 hx).mpr h1
  have e2 : x.log2 < n := (Nat.log2_lt hx).mpr h2
  omega
theorem bl_le_of {x n : Nat} (h : x < 2 ^ n) : bl x ≤ n := by
  unfold bl; split
  · omega
  · rename_i hx; have := (Nat.log2_lt hx).mpr h; omega
theorem libBl {x : Nat} (h : x < 18446744073709551616) : Lib.bitLen x = bl x := by
  by_cases h0 : x = 0
  · subst h0; decide
  · obtain ⟨h1, h2, h3⟩ := Lib.bitLenAux_bounds 64 x (by omega) h0
    exact (bl_eq h2 h3 h1).symm
/-- of limbs with something on top -/
theorem bl_nv {A : List Nat} (hA : Lm A) {k : Nat} (hk : A.length = k + 1) (hx : A.getD k 0 ≠ 0) : bl (nv A) = 32 * k + bl (A.getD k 0) := by
  have h1 := nv_split A k
  rw [nv_drop_getD (by omega), List.drop_of_length_le (by omega), show nv [] = 0 from rfl, Nat.mul_zero, Nat.add_zero] at h1
  have h2 : nv (A.take k) < 4294967296 ^ k := nv_lt_of (Lm_take hA k) (by simp; omega)
  have e1 : (4294967296 : Nat) ^ k = 2 ^ (32 * k) := by rw [Nat.pow_mul]
  rw [e1] at h1 h2
  generalize A.getD k 0 = x at *
  have g1 := bl_le hx
  have g2 := bl_lt x
  have g3 := bl_pos hx
  refine bl_eq ?_ ?_ (by omega)
  · rw [show 32 * k + bl x - 1 = 32 * k + (bl x - 1) by omega, Nat.pow_add]
    have := Nat.mul_le_mul_left (2 ^ (32 * k)) g1
    omega
  · rw [Nat.pow_add, h1]
    have := Nat.mul_le_mul_left (2 ^ (32 * k)) (show x + 1 ≤ 2 ^ bl x from g2)
    rw [Nat.mul_add, Nat.mul_one] at this
    omega
theorem cut_top {l : List Nat} {k : Nat} (hk : (cutL l).length = k + 1) : (cutL l).getD k 0 ≠ 0 := by
  induction l generalizing k with
  | nil => simp [cutL] at hk
  | cons x r ih =>
    simp only [cutL] at hk ⊢
    cases h : cutL r with
    | nil =>
      rw [h] at hk
      by_cases hx : x = 0
      · simp [hx] at hk
      · simp [hx] at hk; subst hk; simp [hx]
    | cons y s =>
      rw [h] at hk ih
      simp at hk
      subst hk
      have := ih (k := s.length) (by simp)
      simp at this ⊢
      exact this
/-- noughts at the end -/
theorem tz_and {t m : Nat} (ht : t < 32) (h : 2 ^ t * (2 * m + 1) < 4294967296) : 2 ^ t * (2 * m + 1) &&& (4294967296 - 2 ^ t * (2 * m + 1)) = 2 ^ t := by
  apply Nat.eq_of_testBit_eq
  intro i
  have hp := Nat.two_pow_pos t
  have e1 : 4294967296 - 2 ^ t * (2 * m + 1) = 2 ^ 32 - ((2 ^ t * (2 * m) + (2 ^ t - 1)) + 1) := by rw [Nat.mul_add]; omega
  have e2 : 2 ^ t * (2 * m) + (2 ^ t - 1) < 2 ^ 32 := by rw [Nat.mul_add] at h; omega
  rw [Nat.testBit_and, e1, Nat.testBit_two_pow_sub_succ e2, Nat.testBit_two_pow_mul_add _ (by omega), Nat.testBit_two_pow_mul, Nat.testBit_two_pow]
  by_cases h1 : i < t
  · simp [h1, Nat.not_le.mpr h1]; omega
  · by_cases h2 : i = t
    · subst h2
      simp [ht, Nat.testBit_zero]
    · have h3 : ¬ t = i := by omega
      rw [if_neg h1, decide_eq_false h3]
      obtain ⟨k, hk⟩ : ∃ k, i - t = k + 1 := ⟨i - t - 1, by omega⟩
      rw [hk, Nat.testBit_succ, Nat.testBit_succ, show (2 * m + 1) / 2 = m by omega, show 2 * m / 2 = m by omega]
      cases m.testBit k <;> simp

def tz (x : Nat) : Nat := if h : x = 0 then 0 else if x % 2 = 1 then 0 else tz (x / 2) + 1
termination_by x
decreasing_by omega
theorem tz_ex {x : Nat} (h : x ≠ 0) : ∃ t m, x = 2 ^ t * (2 * m + 1) := by
  induction x using Nat.strongRecOn with
  | _ x ih =>
    by_cases h1 : x % 2 = 1
    · exact ⟨0, x / 2, by omega⟩
    · obtain ⟨t, m, e⟩ := ih (x / 2) (by omega) (by omega)
      exact ⟨t + 1, m, by rw [Nat.pow_succ, Nat.mul_assoc, Nat.mul_left_comm, ← e]; omega⟩
theorem tz_eq (t m : Nat) : tz (2 ^ t * (2 * m + 1)) = t := by
  induction t with
  | zero => rw [tz]; simp
  | succ t ih =>
    have hp := Nat.two_pow_pos t
    have e : 2 ^ (t + 1) * (2 * m + 1) = 2 * (2 ^ t * (2 * m + 1)) := by rw [Nat.pow_succ, Nat.mul_assoc, Nat.mul_left_comm]
    have h0 : 2 ^ t * (2 * m + 1) ≠ 0 := Nat.ne_of_gt (Nat.mul_pos hp (by omega))
    rw [tz, e, dif_neg (by omega), if_neg (by omega), show 2 * (2 ^ t * (2 * m + 1)) / 2 = 2 ^ t * (2 * m + 1) by omega, ih]
theorem tz_bit {x : Nat} (h : x ≠ 0) : x.testBit (tz x) = true ∧ ∀ i, i < tz x → x.testBit i = false := by
  obtain ⟨t, m, rfl⟩ := tz_ex h
  rw [tz_eq]
  constructor
  · rw [Nat.testBit_two_pow_mul]; simp [Nat.testBit_zero]
  · intro i hi
    rw [Nat.testBit_two_pow_mul]; simp; omega
theorem tz_lt {x n : Nat} (h : x ≠ 0) (hn : x < 2 ^ n) : tz x < n := by
  obtain ⟨t, m, rfl⟩ := tz_ex h
  rw [tz_eq]
  rcases Nat.lt_or_ge t n with q | q
  · exact q
  · have := Nat.pow_le_pow_right (show 0 < 2 by omega) q
    have h1 : 2 ^ t * 1 ≤ 2 ^ t * (2 * m + 1) := Nat.mul_le_mul_left _ (by omega)
    omega
theorem take_zero_nv {l : List Nat} {i : Nat} (h : nv (l.take i) = 0) : nv l = 4294967296 ^ i * nv (l.drop i) := by rw [nv_split l i, h, Nat.zero_add]
theorem tz_nv {l : List Nat} (hl : Lm l) {i : Nat} (hi : i < l.length) (h0 : nv (l.take i) = 0) (hx : l.getD i 0 ≠ 0) : tz (nv l) = 32 * i + tz (l.getD i 0) := by
  rw [take_zero_nv h0, nv_drop_getD hi]
  have hlt := Lm_getD hl i
  generalize l.getD i 0 = x at *
  have ht := tz_lt hx (n := 32) (by omega)
  obtain ⟨t, m, rfl⟩ := tz_ex hx
  rw [tz_eq] at ht ⊢
  generalize nv (l.drop (i + 1)) = Y
  have e : 4294967296 ^ i * (2 ^ t * (2 * m + 1) + 4294967296 * Y) = 2 ^ (32 * i + t) * (2 * (m + 2 ^ (31 - t) * Y) + 1) := by
    rw [Nat.pow_add, Nat.pow_mul, show (2 : Nat) ^ 32 = 4294967296 from rfl, Nat.mul_assoc]
    congr 1
    have e2 : 4294967296 = 2 ^ t * (2 * 2 ^ (31 - t)) := by
      rw [Nat.mul_comm 2, ← Nat.pow_succ, ← Nat.pow_add, show t + (31 - t).succ = 32 by omega]
    have e3 : 2 * (m + 2 ^ (31 - t) * Y) + 1 = (2 * m + 1) + 2 * 2 ^ (31 - t) * Y := by rw [Nat.mul_add, Nat.mul_assoc]; omega
    rw [e3, Nat.mul_add (2 ^ t) (2 * m + 1), ← Nat.mul_assoc (2 ^ t) (2 * 2 ^ (31 - t)), ← e2]
  rw [e, tz_eq]
theorem testBit_nv {l : List Nat} (hl : Lm l) (q : Nat) {r : Nat} (hr : r < 32) : (nv l).testBit (32 * q + r) = (l.getD q 0).testBit r := by
  by_cases hq : q < l.length
  · have h1 := nv_split l q
    have h2 : nv (l.take q) < 2 ^ (32 * q) := by rw [Nat.pow_mul]; exact nv_lt_of (Lm_take hl q) (by simp; omega)
    rw [nv_drop_getD hq, show (4294967296 : Nat) ^ q = 2 ^ (32 * q) by rw [Nat.pow_mul], Nat.add_comm] at h1
    rw [h1, Nat.testBit_two_pow_mul_add _ h2, if_neg (by omega), show 32 * q + r - 32 * q = r by omega, Nat.add_comm, show (4294967296 : Nat) = 2 ^ 32 from rfl, Nat.testBit_two_pow_mul_add _ (Lm_getD hl q), if_pos hr]
  · have h1 : nv l < 2 ^ (32 * q + r) := by
      have := nv_lt_of hl (n := q) (by omega)
      have e : (4294967296 : Nat) ^ q = 2 ^ (32 * q) := by rw [Nat.pow_mul]
      rw [e] at this
      exact Nat.lt_of_lt_of_le this (Nat.pow_le_pow_right (by omega) (by omega))
    rw [Nat.testBit_lt_two_pow h1]
    simp [List.getD_eq_getElem?_getD, Nat.not_lt.mp hq]
theorem testBit_dec (x r : Nat) : decide (((x / 2 ^ r &&& 1 : Nat) : Int) = 1) = x.testBit r := by
  rw [Nat.and_one_is_mod, Nat.testBit_eq_decide_div_mod_eq]
  congr 1
  apply propext
  omega
theorem x_rep1 : u32s (List.replicate 1 0) = [.v (.int .u32 0)] := rfl
theorem x_rep2 : u32s (List.replicate 2 0) = [.v (.int .u32 0), .v (.int .u32 0)] := rfl
theorem x_fill1 (a b : AV) : spl [a] 0 [b] = [b] := rfl
theorem x_fill2 (a b c : AV) : spl [a, c] 0 [b] = [b, c] := rfl
theorem x_fill2' (a b c : AV) : spl [a, c] 1 [b] = [a, b] := rfl
end Go.Ab

set_option linter.unusedVariables false
set_option linter.unusedSimpArgs false
/-! One digit of a quotient, without any program. -/
namespace Go.Ab

end Go.Ab

set_option linter.unusedVariables false
set_option linter.unusedSimpArgs false
/-! A quotient, digit by digit, without any program. -/
namespace Go.Ab

end Go.Ab

set_option linter.unusedVariables false
set_option linter.unusedSimpArgs false
set_option linter.unusedSectionVars false
/-! Answers in new memory; whole roots, bits: without any program. -/
namespace Go.Ab
open Go.RowKit (Below)

section
variable {C : Ctx} {B : Nat} {X : Nat → Prop} {w0 : World} {mu : Mu} {H : Heap} {w : World}
end

/-- the whole root -/
def isq : Nat → Nat
  | 0 => 0
  | n + 1 => if (isq n + 1) * (isq n + 1) ≤ n + 1 then isq n + 1 else isq n
/-! one bit in a limb -/
end Go.Ab
