/- Contracts of this seat's functions (of each call: what it answers), walked over the abstract machine, and the laws of numbers that they want. Conditions: those that each theorem states. -/
import Derived.Test.YtdkdpebfnddfpaaDoorS2
set_option linter.unusedVariables false
set_option maxRecDepth 20000
set_option linter.unusedSimpArgs false
set_option linter.unusedSectionVars false
namespace Go.Ab
open Go.Proofs
open Cx (zero one)
attribute [-go_sem] appF newsF
variable {a b : AV} {z w : Cx} {B C n m : Nat} {cs ds : List AV} {f g : Po}
theorem droot_form2 {x : Dyadic} (hx : 0 < dnum x) {P : Nat} (hP : 1 ≤ P) : ∃ (r A k : Nat) (e : Int), bl r = P ∧ e = dtop x / 2 - P + 1 ∧ x = dv (A : Int) (2 * e - k) ∧ r = isq (A / 2 ^ k) ∧
    (∀ up, droot x P up = dv ((r : Int) + (if up = true ∧ ¬ (A % 2 ^ k = 0 ∧ r * r = A / 2 ^ k) then 1 else 0)) e) := by
  have hA : (dnum x).natAbs ≠ 0 := by omega
  obtain ⟨t, ht⟩ : ∃ t, t = dtop x / 2 := ⟨_, rfl⟩
  obtain ⟨sh, hsh⟩ : ∃ sh, sh = dexp x - 2 * (t - P + 1) := ⟨_, rfl⟩
  have hx0 : ¬ x = 0 := fun e => by rw [e] at hx; exact absurd hx (by decide)
  have ht' : t = ((bl (dnum x).natAbs : Int) - 1 + dexp x) / 2 := by rw [ht]; unfold dtop; rw [if_neg hx0]
  have hf := fun up => droot_eq hx hP ht hsh up
  obtain ⟨r1, r2, _⟩ := rbitsN_ok (A := (dnum x).natAbs) (P := P) (ex := dexp x)
  obtain ⟨l1, l2, l3⟩ := root_law hA hP r1 r2 ht' hsh false
  obtain ⟨k, hk⟩ : ∃ k, k = (-sh).toNat := ⟨_, rfl⟩
  obtain ⟨A, hAe⟩ : ∃ A, A = (dnum x).natAbs * 2 ^ sh.toNat := ⟨_, rfl⟩
  have hM : mvN (dnum x).natAbs sh = A / 2 ^ k := by rw [hk, hAe]; rfl
  have hX : mvX (dnum x).natAbs sh ↔ A % 2 ^ k = 0 := by
    unfold mvX
    rw [← hk, hAe]
    by_cases q : k = 0
    · rw [q]; simp [Nat.mod_one]
    · have : sh.toNat = 0 := by omega
      rw [this]; simp
  refine ⟨isq (A / 2 ^ k), A, k, t - P + 1, ?_, by rw [ht], ?_, rfl, fun up => ?_⟩
  · have e : ∀ a d : Nat, RF (a : Int) d false = ((a / d : Nat) : Int) := fun a d => by unfold RF; simp
    rw [e, if_neg (fun g => by cases g.1), Int.add_zero, hM] at l3
    rw [← Int.ofNat.inj l3]
    exact bl_cut l2 hP
  · have e1 : dnum x = ((dnum x).natAbs : Int) := by omega
    have e2 : (A : Int) = dnum x * 2 ^ sh.toNat := by rw [hAe, e1]; push_cast; simp
    rw [e2, dv_shift, show 2 * (t - (P : Int) + 1) - (k : Int) + (sh.toNat : Int) = dexp x by omega, dv_of]
  · rw [← hf up, hM]
    congr 2
    by_cases q : up = true ∧ ¬ (A % 2 ^ k = 0 ∧ isq (A / 2 ^ k) * isq (A / 2 ^ k) = A / 2 ^ k)
    · rw [if_pos q, if_pos ⟨q.1, fun g => q.2 ⟨hX.1 g.1, g.2⟩⟩]
    · rw [if_neg q, if_neg (fun g => q ⟨g.1, fun z => g.2 ⟨hX.2 z.1, z.2⟩⟩)]
theorem dv_pair (x y : Dyadic) : ∃ m n e, x = dv m e ∧ y = dv n e := by
  refine ⟨dnum x * 2 ^ (dexp x - min (dexp x) (dexp y)).toNat, dnum y * 2 ^ (dexp y - min (dexp x) (dexp y)).toNat, min (dexp x) (dexp y), ?_, ?_⟩
  · rw [← dv_cast (e := dexp x) _ (by omega), dv_of]
  · rw [← dv_cast (e := dexp y) _ (by omega), dv_of]
theorem sign_le_iff {z : Int} : z.sign ≤ 0 ↔ z ≤ 0 := by
  refine ⟨fun h => Int.not_lt.1 (fun g => ?_), sign_le⟩
  rw [Int.sign_eq_one_of_pos g] at h
  exact absurd h (by decide)
theorem sign_pos_iff {z : Int} : 0 < z.sign ↔ 0 < z := by
  have := sign_le_iff (z := z)
  omega
theorem dle_add {x y : Dyadic} (hx : dsg x ≤ 0) (hy : dsg y ≤ 0) : dsg (x + y) ≤ 0 := by
  obtain ⟨m, n, e, rfl, rfl⟩ := dv_pair x y
  rw [dsg_dv, sign_le_iff] at hx hy
  rw [dv_add, dsg_dv, sign_le_iff]
  omega
theorem dlt_sub {x y : Dyadic} (hx : 0 < dsg x) (hy : dsg y ≤ 0) : 0 < dsg (x - y) := by
  obtain ⟨m, n, e, rfl, rfl⟩ := dv_pair x y
  rw [dsg_dv, sign_pos_iff] at hx
  rw [dsg_dv, sign_le_iff] at hy
  rw [dv_sub, dsg_dv, sign_pos_iff]
  omega
theorem isq_ge {y M : Nat} (h : y * y ≤ M) : y ≤ isq M := Nat.not_lt.1 (fun g => by
  have h1 := (isq_spec M).2
  have h2 := Nat.mul_le_mul (show isq M + 1 ≤ y by omega) (show isq M + 1 ≤ y by omega)
  omega)
/-- the root that is rounded upwards: the least one whose square is no less -/
theorem up_spec {A k r : Nat} (hr : r = isq (A / 2 ^ k)) : ∃ c : Nat, (c = r ∧ r * r * 2 ^ k = A ∨ c = r + 1 ∧ r * r * 2 ^ k < A) ∧ A ≤ c * c * 2 ^ k ∧
    (r : Int) + (if true = true ∧ ¬ (A % 2 ^ k = 0 ∧ r * r = A / 2 ^ k) then 1 else 0) = c := by
  obtain ⟨s1, s2⟩ := isq_spec (A / 2 ^ k)
  rw [← hr] at s1 s2
  have hA := Nat.div_mul_le_self A (2 ^ k)
  have hp := Nat.two_pow_pos k
  have hA2 : A < (A / 2 ^ k + 1) * 2 ^ k := by
    have := Nat.div_add_mod A (2 ^ k)
    have := Nat.mod_lt A hp
    rw [Nat.add_mul, Nat.one_mul, Nat.mul_comm (A / 2 ^ k)]
    omega
  have h1 := Nat.mul_le_mul_right (2 ^ k) s1
  by_cases q : A % 2 ^ k = 0 ∧ r * r = A / 2 ^ k
  · have e : r * r * 2 ^ k = A := by rw [q.2]; exact Nat.div_mul_cancel (Nat.dvd_of_mod_eq_zero q.1)
    exact ⟨r, .inl ⟨rfl, e⟩, by omega, by rw [if_neg (fun g => g.2 q)]; omega⟩
  · refine ⟨r + 1, .inr ⟨rfl, Nat.lt_of_le_of_ne (Nat.le_trans h1 hA) (fun e => q ?_)⟩, Nat.le_of_lt (Nat.lt_of_lt_of_le hA2 (Nat.mul_le_mul_right _ s2)), by rw [if_pos ⟨rfl, q⟩]; omega⟩
    constructor
    · rw [← e]; exact Nat.mul_mod_left _ _
    · rw [← e]; exact (Nat.mul_div_cancel _ hp).symm
theorem droot_near (x : Dyadic) {P Q : Nat} (hP : 1 ≤ P) (hQ : P ≤ Q) : dsg (droot x P false - droot x Q false) ≤ 0 ∧ dsg (droot x Q true - droot x P true) ≤ 0 ∧ dsg (droot x P false - droot x P true) ≤ 0 := by
  by_cases hx : dnum x ≤ 0
  · have z : ∀ P up, droot x P up = 0 := fun P up => if_pos hx
    rw [z, z, z, z, show (0 : Dyadic) - 0 = 0 by grind]
    exact ⟨by decide, by decide, by decide⟩
  have hx := Int.not_le.1 hx
  obtain ⟨r, A, k, e, h1, he, h2, h3, h4⟩ := droot_form2 hx hP
  obtain ⟨r', A', k', e', h1', he', h2', h3', h4'⟩ := droot_form2 hx (show 1 ≤ Q by omega)
  obtain ⟨j, hj⟩ : ∃ j, j = Q - P := ⟨_, rfl⟩
  have hee : e = e' + (j : Nat) := by omega
  -- both tell the same number
  have hAA : A * 2 ^ (2 * j + k') = A' * 2 ^ k := by
    have e1 : dv ((A : Int) * 2 ^ (2 * j + k')) (2 * e' - k - k') = x := by rw [dv_shift, h2]; congr 1; omega
    have e2 : dv ((A' : Int) * 2 ^ k) (2 * e' - k - k') = x := by rw [dv_shift, h2']; congr 1; omega
    have e3 : dv ((A : Int) * 2 ^ (2 * j + k') - (A' : Int) * 2 ^ k) (2 * e' - k - k') = 0 := by rw [← dv_sub, e1, e2]; grind
    have e4 := dv_eq_zero.1 e3
    have a1 : ((A * 2 ^ (2 * j + k') : Nat) : Int) = (A : Int) * 2 ^ (2 * j + k') := by push_cast; rfl
    have a2 : ((A' * 2 ^ k : Nat) : Int) = (A' : Int) * 2 ^ k := by push_cast; rfl
    omega
  have sq : ∀ c : Nat, c * 2 ^ j * (c * 2 ^ j) * 2 ^ k' * 2 ^ k = c * c * 2 ^ k * 2 ^ (2 * j + k') := fun c => by
    rw [sq_pow, Nat.pow_add]
    generalize 2 ^ (2 * j) = X
    generalize 2 ^ k' = Y
    generalize 2 ^ k = Z
    grind
  obtain ⟨s1, s2⟩ := isq_spec (A / 2 ^ k)
  rw [← h3] at s1 s2
  have lo : r * r * 2 ^ k ≤ A := Nat.le_trans (Nat.mul_le_mul_right _ s1) (Nat.div_mul_le_self _ _)
  have l0 : r * 2 ^ j ≤ r' := by
    rw [h3']
    refine isq_ge ((Nat.le_div_iff_mul_le (Nat.two_pow_pos _)).2 ?_)
    refine Nat.le_of_mul_le_mul_right ?_ (Nat.two_pow_pos k)
    rw [sq, ← hAA]
    exact Nat.mul_le_mul_right _ lo
  obtain ⟨c, c1, c2, c3⟩ := up_spec h3
  obtain ⟨c', c1', c2', c3'⟩ := up_spec h3'
  have u0 : c' ≤ c * 2 ^ j := by
    have hc : A' ≤ c * 2 ^ j * (c * 2 ^ j) * 2 ^ k' := by
      refine Nat.le_of_mul_le_mul_right ?_ (Nat.two_pow_pos k)
      rw [sq, ← hAA]
      exact Nat.mul_le_mul_right _ c2
    refine Nat.not_lt.1 (fun g => ?_)
    rcases c1' with ⟨q, q2⟩ | ⟨q, q2⟩
    · have := Nat.mul_lt_mul_of_pos_right (Nat.mul_self_lt_mul_self (show c * 2 ^ j < r' by omega)) (Nat.two_pow_pos k')
      omega
    · have := Nat.mul_le_mul_right (2 ^ k') (Nat.mul_self_le_mul_self (show c * 2 ^ j ≤ r' by omega))
      omega
  have lof : ∀ R : Nat, (R : Int) + (if false = true ∧ ¬ (A % 2 ^ k = 0 ∧ r * r = A / 2 ^ k) then 1 else 0) = R := fun R => by rw [if_neg (fun g => by cases g.1)]; omega
  have lof' : ∀ R : Nat, (R : Int) + (if false = true ∧ ¬ (A' % 2 ^ k' = 0 ∧ r' * r' = A' / 2 ^ k') then 1 else 0) = R := fun R => by rw [if_neg (fun g => by cases g.1)]; omega
  have p1 : ((r * 2 ^ j : Nat) : Int) = (r : Int) * 2 ^ j := by push_cast; rfl
  have p2 : ((c * 2 ^ j : Nat) : Int) = (c : Int) * 2 ^ j := by push_cast; rfl
  rw [h4, h4', h4, h4', c3, c3', lof, lof']
  refine ⟨?_, ?_, dsg_le (by rcases c1 with ⟨q, _⟩ | ⟨q, _⟩ <;> omega)⟩
  · rw [dv_cast _ hee]; exact dsg_le (by omega)
  · rw [dv_cast (c : Int) hee]; exact dsg_le (by omega)
theorem osum_near (f : Po) (k : Int) {P Q : Nat} (hP : 1 ≤ P) (hQ : P ≤ Q) : ∀ i, dsg (osum f k P false i - osum f k Q false i) ≤ 0 ∧ dsg (osum f k Q true i - osum f k P true i) ≤ 0 ∧ dsg (osum f k P false i - osum f k P true i) ≤ 0
  | 0 => by
    show dsg ((0 : Dyadic) - 0) ≤ 0 ∧ dsg ((0 : Dyadic) - 0) ≤ 0 ∧ dsg ((0 : Dyadic) - 0) ≤ 0
    rw [show (0 : Dyadic) - 0 = 0 by grind]
    exact ⟨by decide, by decide, by decide⟩
  | i + 1 => by
    obtain ⟨a1, a2, a3⟩ := osum_near f k hP hQ i
    obtain ⟨b1, b2, b3⟩ := droot_near (nrm (f i)) hP hQ
    have eq : ∀ a b c d : Dyadic, a + c - (b + d) = (a - b) + (c - d) := fun a b c d => by grind
    unfold osum far
    split
    · exact ⟨a1, a2, a3⟩
    · rw [eq, eq, eq]
      exact ⟨dle_add a1 b1, dle_add a2 b2, dle_add a3 b3⟩
theorem tYes_mono {d k P Q : Nat} (hP : 1 ≤ P) (hQ : P ≤ Q) (h : tYes f d k P) : tYes f d k Q := by
  unfold tYes at *
  obtain ⟨a1, _, _⟩ := droot_near (nrm (f k)) hP hQ
  obtain ⟨_, b2, _⟩ := osum_near f k hP hQ d
  have e : far (f k) Q false - osum f k Q true d = (far (f k) P false - osum f k P true d) - ((droot (nrm (f k)) P false - droot (nrm (f k)) Q false) + (osum f k Q true d - osum f k P true d)) := by
    unfold far; grind
  rw [e]
  exact dlt_sub h (dle_add a1 b2)
theorem tNo_mono {d k P Q : Nat} (hP : 1 ≤ P) (hQ : P ≤ Q) (h : tNo f d k P) : tNo f d k Q := by
  unfold tNo at *
  obtain ⟨_, a2, _⟩ := droot_near (nrm (f k)) hP hQ
  obtain ⟨b1, _, _⟩ := osum_near f k hP hQ d
  have e : far (f k) Q true - osum f k Q false d = (far (f k) P true - osum f k P false d) + ((droot (nrm (f k)) Q true - droot (nrm (f k)) P true) + (osum f k P false d - osum f k Q false d)) := by
    unfold far; grind
  rw [e]
  exact dle_add h (dle_add a2 b1)
theorem tNo_yes {d k P : Nat} (hP : 1 ≤ P) (h : tNo f d k P) : ¬ tYes f d k P := by
  unfold tNo tYes at *
  obtain ⟨_, _, a3⟩ := droot_near (nrm (f k)) hP (Nat.le_refl P)
  obtain ⟨_, _, b3⟩ := osum_near f k hP (Nat.le_refl P) d
  have e : far (f k) P false - osum f k P true d = (far (f k) P true - osum f k P false d) + ((droot (nrm (f k)) P false - droot (nrm (f k)) P true) + (osum f k P false d - osum f k P true d)) := by
    unfold far; grind
  rw [e]
  exact Int.not_lt.2 (dle_add h (dle_add a3 b3))
theorem test_more (h : RP cs n f 296) (hcs : ∀ c ∈ cs, IsD c) (hn : n ≤ 1000) (k P Q : Nat) (hP : 1 ≤ P) (hQ : P ≤ Q) (hQ2 : Q ≤ 400) :
    ∃ u v : Int, Sat CT false 33 [.sl n cs, I64 (k : Nat), I64 (P : Nat)] (I64 u) ∧ Sat CT false 33 [.sl n cs, I64 (k : Nat), I64 (Q : Nat)] (I64 v) ∧ (u = 1 ∧ v = 1 ∨ u = 0 ∧ v = 0 ∨ u = 2 ∧ True) := by
  by_cases hk : k < dg n f
  · obtain ⟨p1, p2, p3⟩ := test_in h hcs hn k hk (P : Nat) (by rw [held_n P hP (by omega)]; omega)
    obtain ⟨q1, q2, q3⟩ := test_in h hcs hn k hk (Q : Nat) (by rw [held_n Q (by omega) (by omega)]; omega)
    rw [held_n P hP (by omega)] at p1 p2 p3
    rw [held_n Q (by omega) (by omega)] at q1 q2 q3
    by_cases y : tYes f (dg n f) k P
    · exact ⟨1, 1, p1 y, q1 (tYes_mono hP hQ y), .inl ⟨rfl, rfl⟩⟩
    · by_cases o : tNo f (dg n f) k P
      · have o2 := tNo_mono hP hQ o
        exact ⟨0, 0, p2 y o, q2 (tNo_yes (by omega) o2) o2, .inr (.inl ⟨rfl, rfl⟩)⟩
      · have key : ∃ v : Int, Sat CT false 33 [.sl n cs, I64 (k : Nat), I64 (Q : Nat)] (I64 v) := by
          by_cases y2 : tYes f (dg n f) k Q
          · exact ⟨1, q1 y2⟩
          · by_cases o2 : tNo f (dg n f) k Q
            · exact ⟨0, q2 y2 o2⟩
            · exact ⟨2, q3 y2 o2⟩
        obtain ⟨v, hv⟩ := key
        exact ⟨2, v, p3 y o, hv, .inr (.inr ⟨rfl, trivial⟩)⟩
  · have o : (k : Int) < 0 ∨ (dg n f : Nat) ≤ (k : Int) := .inr (by omega)
    exact ⟨0, 0, test_out h hcs (k : Nat) (P : Nat) o, test_out h hcs (k : Nat) (Q : Nat) o, .inr (.inl ⟨rfl, rfl⟩)⟩
set_option maxRecDepth 100000 in
theorem pelletMore_sat (F : Nat → Raw) (hF : ∀ i, (F i).ok) (hn : n ≤ 9223372036854775807) (k : Nat) (hk : k < 256) (a : Nat) (ha : a < 256) (b : Nat) (hb : b < 256) : Sat CT false 8 [.sl n (qcl n F), .v (.int .u8 (k : Nat)), .v (.int .u8 (a : Nat)), .v (.int .u8 (b : Nat))] (Bo true) := by
  refine sat_of annuluslaw14_PelletMore.ok (by simp) ?_
  have DD := annuluslaw14_PelletMore.dr
  simp only [drP, drPx, drPt, drR, drS, drT, bodyOf, Tryd.f8, Nat.reduceEqDiff, reduceIte, true_and, and_true] at DD
  have kn := known14_s
  have fw := few14_s F hn
  by_cases hf : (∀ i, i < n → (F i).sm) ∧ n ≤ 14
  · rw [decide_eq_true hf] at fw
    have m1 : (min (a : Int) (b : Int)).tmod 100 = ((min a b % 100 : Nat) : Int) := by rw [Int.tmod_eq_emod_of_nonneg (by omega)]; omega
    have m2 : (max (a : Int) (b : Int)).tmod 100 = ((max a b % 100 : Nat) : Int) := by rw [Int.tmod_eq_emod_of_nonneg (by omega)]; omega
    have m3 : (k : Int).tmod 16 = ((k % 16 : Nat) : Int) := Int.tmod_eq_emod_of_nonneg (by omega)
    obtain ⟨α, hα, hα2⟩ : ∃ α, α = min a b % 100 ∧ α ≤ 99 := ⟨_, rfl, by omega⟩
    obtain ⟨β, hβ, hβ2⟩ : ∃ β, β = max a b % 100 ∧ β ≤ 99 := ⟨_, rfl, by omega⟩
    obtain ⟨κ, hκ, hκ2⟩ : ∃ κ, κ = k % 16 ∧ κ ≤ 15 := ⟨_, rfl, by omega⟩
    rw [← hα] at m1
    rw [← hβ] at m2
    rw [← hκ] at m3
    clear hα hβ hκ
    have w1 : IntKind.i64.wrap (α : Int) = (α : Int) := wrap_id (by omega)
    have w2 : IntKind.i64.wrap (β : Int) = (β : Int) := wrap_id (by omega)
    have w3 : IntKind.i64.wrap (κ : Int) = (κ : Int) := wrap_id (by omega)
    have w4 : IntKind.i64.wrap ((α : Int) + 1) = ((α + 1 : Nat) : Int) := by rw [wrap_id (by omega)]; omega
    have w5 : IntKind.i64.wrap ((β : Int) + 1) = ((β + 1 : Nat) : Int) := by rw [wrap_id (by omega)]; omega
    by_cases hab : α ≤ β
    · have c1 : ¬ ((β + 1 : Nat) : Int) < ((α + 1 : Nat) : Int) := by omega
      obtain ⟨u, v, t1, t2, huv⟩ := test_more (RP_q (fun i _ => hF i) hf.1 (by omega)) (isD_qcl n F) (by omega) κ (α + 1) (β + 1) (by omega) (by omega) (by omega)
      rcases huv with ⟨rfl, hv⟩ | ⟨rfl, hv⟩ | ⟨rfl, hv⟩ <;>
        (skip
         simp -implicitDefEqProofs only [go_sem, Nat.reduceAdd, Nat.reduceEqDiff, Nat.reduceLT, reduceIte, reduceCtorEq, Int.reduceLE, Int.reduceLT, Int.reduceEq, Int.reduceAdd, Int.reduceMul, Int.reduceSub, Nat.reduceMul, Nat.reduceSub, Nat.reducePow, Nat.reduceLeDiff, Int.reduceToNat, Tryd.f8, DD, m1, m2, m3, w1, w2, w3, w4, w5, c1, gt_iff_lt, hv]
         refine callK_q annuluslaw14_known.call (kn) rfl rfl ?_
         simp -implicitDefEqProofs only [go_sem, Nat.reduceAdd, Nat.reduceEqDiff, Nat.reduceLT, reduceIte, reduceCtorEq, Int.reduceLE, Int.reduceLT, Int.reduceEq, Int.reduceAdd, Int.reduceMul, Int.reduceSub, Nat.reduceMul, Nat.reduceSub, Nat.reducePow, Nat.reduceLeDiff, Int.reduceToNat, DD, m1, m2, m3, w1, w2, w3, w4, w5, c1, gt_iff_lt, hv]
         refine callK_pl annuluslaw14_few.call (fw) (pl1 (pld_q n F)) ?_
         simp -implicitDefEqProofs only [go_sem, Nat.reduceAdd, Nat.reduceEqDiff, Nat.reduceLT, reduceIte, reduceCtorEq, Int.reduceLE, Int.reduceLT, Int.reduceEq, Int.reduceAdd, Int.reduceMul, Int.reduceSub, Nat.reduceMul, Nat.reduceSub, Nat.reducePow, Nat.reduceLeDiff, Int.reduceToNat, DD, m1, m2, m3, w1, w2, w3, w4, w5, c1, gt_iff_lt, hv]
         refine callK_pl pellet_Test.call (t1) (pl3 (pld_q n F) pld_int pld_int) ?_
         simp -implicitDefEqProofs only [go_sem, Nat.reduceAdd, Nat.reduceEqDiff, Nat.reduceLT, reduceIte, reduceCtorEq, Int.reduceLE, Int.reduceLT, Int.reduceEq, Int.reduceAdd, Int.reduceMul, Int.reduceSub, Nat.reduceMul, Nat.reduceSub, Nat.reducePow, Nat.reduceLeDiff, Int.reduceToNat, DD, m1, m2, m3, w1, w2, w3, w4, w5, c1, gt_iff_lt, hv]
         refine callK_pl pellet_Test.call (t2) (pl3 (pld_q n F) pld_int pld_int) ?_
         simp -implicitDefEqProofs only [go_sem, Nat.reduceAdd, Nat.reduceEqDiff, Nat.reduceLT, reduceIte, reduceCtorEq, Int.reduceLE, Int.reduceLT, Int.reduceEq, Int.reduceAdd, Int.reduceMul, Int.reduceSub, Nat.reduceMul, Nat.reduceSub, Nat.reducePow, Nat.reduceLeDiff, Int.reduceToNat, DD, m1, m2, m3, w1, w2, w3, w4, w5, c1, gt_iff_lt, hv])
    · have c1 : ((β + 1 : Nat) : Int) < ((α + 1 : Nat) : Int) := by omega
      simp -implicitDefEqProofs only [go_sem, Nat.reduceAdd, Nat.reduceEqDiff, Nat.reduceLT, reduceIte, reduceCtorEq, Int.reduceLE, Int.reduceLT, Int.reduceEq, Int.reduceAdd, Int.reduceMul, Int.reduceSub, Nat.reduceMul, Nat.reduceSub, Nat.reducePow, Nat.reduceLeDiff, Int.reduceToNat, Tryd.f8, DD, m1, m2, m3, w1, w2, w3, w4, w5, c1, gt_iff_lt]
      refine callK_q annuluslaw14_known.call (kn) rfl rfl ?_
      simp -implicitDefEqProofs only [go_sem, Nat.reduceAdd, Nat.reduceEqDiff, Nat.reduceLT, reduceIte, reduceCtorEq, Int.reduceLE, Int.reduceLT, Int.reduceEq, Int.reduceAdd, Int.reduceMul, Int.reduceSub, Nat.reduceMul, Nat.reduceSub, Nat.reducePow, Nat.reduceLeDiff, Int.reduceToNat, DD, m1, m2, m3, w1, w2, w3, w4, w5, c1, gt_iff_lt]
      refine callK_pl annuluslaw14_few.call (fw) (pl1 (pld_q n F)) ?_
      simp -implicitDefEqProofs only [go_sem, Nat.reduceAdd, Nat.reduceEqDiff, Nat.reduceLT, reduceIte, reduceCtorEq, Int.reduceLE, Int.reduceLT, Int.reduceEq, Int.reduceAdd, Int.reduceMul, Int.reduceSub, Nat.reduceMul, Nat.reduceSub, Nat.reducePow, Nat.reduceLeDiff, Int.reduceToNat, DD, m1, m2, m3, w1, w2, w3, w4, w5, c1, gt_iff_lt]
  · rw [decide_eq_false hf] at fw
    simp -implicitDefEqProofs only [go_sem, Nat.reduceAdd, Nat.reduceEqDiff, Nat.reduceLT, reduceIte, reduceCtorEq, Int.reduceLE, Int.reduceLT, Int.reduceEq, Int.reduceAdd, Int.reduceMul, Int.reduceSub, Nat.reduceMul, Nat.reduceSub, Nat.reducePow, Nat.reduceLeDiff, Int.reduceToNat, Tryd.f8, DD]
    refine callK_q annuluslaw14_known.call (kn) rfl rfl ?_
    simp -implicitDefEqProofs only [go_sem, Nat.reduceAdd, Nat.reduceEqDiff, Nat.reduceLT, reduceIte, reduceCtorEq, Int.reduceLE, Int.reduceLT, Int.reduceEq, Int.reduceAdd, Int.reduceMul, Int.reduceSub, Nat.reduceMul, Nat.reduceSub, Nat.reducePow, Nat.reduceLeDiff, Int.reduceToNat, DD]
    refine callK_pl annuluslaw14_few.call (fw) (pl1 (pld_q n F)) ?_
    simp -implicitDefEqProofs only [go_sem, Nat.reduceAdd, Nat.reduceEqDiff, Nat.reduceLT, reduceIte, reduceCtorEq, Int.reduceLE, Int.reduceLT, Int.reduceEq, Int.reduceAdd, Int.reduceMul, Int.reduceSub, Nat.reduceMul, Nat.reduceSub, Nat.reducePow, Nat.reduceLeDiff, Int.reduceToNat, DD]
end Go.Ab
