/- Contracts of this seat's functions (of each call: what it answers), walked over the abstract machine, and the laws of numbers that they want. Conditions: those that each theorem states. -/
import Derived.Test.YtdkdpebfnddfpaaGreatDoorN10
set_option linter.unusedVariables false
set_option maxRecDepth 20000
set_option linter.unusedSimpArgs false
namespace Go.Ab
open Go.Proofs

noncomputable def B49 : Code := scp (sq2 (bodyOf Tryz.f116))
noncomputable def P49a : Code := sq1 (bodyOf Tryz.f116)
noncomputable def P49b : Code := sq1 B49
noncomputable def P49c : Code := sq1 (sq2 B49)
noncomputable def P49d : Code := sq1 (sq2 (sq2 B49))
noncomputable def P49e : Code := sq1 (sq2 (sq2 (sq2 B49)))
noncomputable def H49 : Code := sq1 (sq2 (sq2 (sq2 (sq2 (sq2 B49)))))
noncomputable def T49 : Code := sq2 (sq2 (sq2 (sq2 (sq2 (sq2 B49)))))
noncomputable def K49 : Code := .seq H49 T49
noncomputable def C49 : Code := .seq P49b (.seq P49c (.seq P49d (.seq P49e (.seq (.label 0) K49))))
theorem f49_eq : bodyOf Tryz.f116 = .seq P49a (.scope C49) := by kernel_rfl
theorem f49_find : findLabel C49 0 = some (.seq .skip K49) := by kernel_rfl

theorem and_mask {c : Nat} (h : c < 18446744073709551616) : bits .and .u64 (c : Int) 4294967295 = ((c % 4294967296 : Nat) : Int) := by
  have := and64 h (b := 4294967295) (by omega)
  rw [show (4294967295 : Nat) = 2 ^ 32 - 1 from rfl, Nat.and_two_pow_sub_one_eq_mod] at this
  exact this
theorem app_get {p s : List Nat} {i : Nat} (h : i < s.length) : (u32s (p ++ s)).getD (p.length + i) .bad = .v (.int .u32 (s.getD i 0 : Nat)) := by
  rw [getD_u32s (by simp; omega), getD_app]
theorem app_spl {p s : List Nat} {i x : Nat} (h : i < s.length) : spl (u32s (p ++ s)) (p.length + i) [.v (.int .u32 (x : Nat))] = u32s (p ++ s.set i x) := by
  rw [spl_u32s (by simp; omega) (by omega), Int.toNat_natCast, set_app]
theorem getD_of_drop {l m : List Nat} {i : Nat} (h : l.drop i = m.drop i) : l.getD i 0 = m.getD i 0 := by
  have := congrArg (fun x => x.getD 0 0) h
  simp only [getD_drop0, Nat.add_zero] at this
  exact this
theorem drop_set_succ {l : List Nat} {i x : Nat} : (l.set i x).drop (i + 1) = l.drop (i + 1) := List.drop_set_of_lt (by omega)
theorem drop_succ_of {l m : List Nat} {i : Nat} (h : l.drop i = m.drop i) : l.drop (i + 1) = m.drop (i + 1) := by
  have := congrArg (fun x => x.drop 1) h
  simpa only [List.drop_drop] using this

theorem tail49 {jump : Code → APost → AState → Prop} (hj : JumpMono jump) {Q : APost} (o0 o1 o3 : AObj) (pre S v : List Nat) (m : Nat) (hv : Lm v) (hS : Lm S) (hvl : v.length = m + 2) (hSl : m + 3 ≤ S.length) (hm : m < 1099511627776)
    (g : Nat) (hg : g < 4294967296) (hgQ : nv (S.take (m + 3)) / nv v ≤ g) (hgQ2 : g ≤ nv (S.take (m + 3)) / nv v + 1) (hV : 0 < nv v)
    (hQ : ∀ sl S', look sl 4 = W32 (nv (S.take (m + 3)) / nv v : Nat) → Lm S' → S'.length = S.length → nv (S'.take (m + 3)) = nv (S.take (m + 3)) % nv v → S'.drop (m + 3) = S.drop (m + 3) → Q .ret ⟨sl, [o0, o1, ⟨u32s (pre ++ S'), true, true⟩, o3]⟩)
    (sl : List (Nat × AV)) (h0 : look sl 0 = .own 1 2 pre.length (m + 3)) (h1 : look sl 1 = .sl (m + 2) (u32s v)) (h5 : look sl 5 = I64 ((m + 2 : Nat) : Int)) (h8 : look sl 8 = W64 (g : Nat)) :
    aW CT 164 jump T49 Q ⟨sl, [o0, o1, ⟨u32s (pre ++ S), true, true⟩, o3]⟩ := by
  have DD := nat_step.dr
  simp only [drP, drPx, drPt, drR, drS, drT, bodyOf, Tryz.f116, Nat.reduceEqDiff, reduceIte, true_and, and_true] at DD
  simp -implicitDefEqProofs only [go_sem, Nat.reduceAdd, Nat.reduceEqDiff, Nat.reduceLT, reduceIte, reduceCtorEq, Int.reduceLE, Int.reduceLT, Int.reduceEq, Int.reduceAdd, Int.reduceMul, Int.reduceSub, Nat.reduceMul, Nat.reduceSub, Nat.reducePow, Nat.reduceLeDiff, Int.reduceToNat, DD, T49, B49, sq2, scp, bodyOf, Tryz.f116, h0, h1, h5, h8]
  refine loop_of hj (fun k σ => ∃ sl S' c b i, σ = ⟨sl, [o0, o1, ⟨u32s (pre ++ S'), true, true⟩, o3]⟩ ∧ k = m + 2 - i ∧ i ≤ m + 2 ∧ S'.length = S.length ∧ Lm S' ∧ c < 4294967296 ∧ b ≤ 1 ∧ S'.drop i = S.drop i ∧
      look sl 0 = .own 1 2 pre.length (m + 3) ∧ look sl 1 = .sl (m + 2) (u32s v) ∧ look sl 5 = I64 ((m + 2 : Nat) : Int) ∧ look sl 8 = W64 (g : Nat) ∧ look sl 10 = W64 (b : Nat) ∧ look sl 11 = W64 (c : Nat) ∧ look sl 74 = I64 ((m + 2 : Nat) : Int) ∧ look sl 75 = I64 (i : Nat) ∧
      nv (S'.take i) + g * nv (v.take i) = nv (S.take i) + 4294967296 ^ i * (c + b)) ?_ (n := m + 2)
      ⟨_, S, 0, 0, 0, rfl, rfl, by omega, rfl, hS, by omega, by omega, rfl, by simp [x_look, h0], by simp [x_look, h1], by simp [x_look, h5], by simp [x_look, h8], by simp [x_look], by simp [x_look], by simp [x_look, h5], by simp [x_look], by simp [nv]⟩
  clear h0 h1 h5 h8
  clear sl
  rintro _ _ ⟨sl, S', c, b, i, rfl, rfl, hi, hlen, hS', hc, hb, hdr, h0, h1, h5, h8, h10, h11, h74, h75, hinv⟩
  have hX := Lm_getD hS i
  have hge := getD_of_drop hdr
  by_cases hlt : i < m + 2
  · have d1 : (i : Int) < ((m + 2 : Nat) : Int) := by omega
    have d2 : (0 : Int) ≤ (i : Int) := by omega
    have d3 : i < v.length := by omega
    have d4 : (i : Int) < ((m + 3 : Nat) : Int) := by omega
    have d4' : i < m + 3 := by omega
    have d5 := getD_u32s (l := v) (i := i) (by omega)
    have d6 : pre.length + i < (pre ++ S').length := by simp; omega
    have d7 : pre.length + i + 1 ≤ (pre ++ S').length := by simp; omega
    have d8 := app_get (p := pre) (s := S') (i := i) (by omega)
    have d9 := fun x => app_spl (p := pre) (s := S') (i := i) (x := x) (by omega)
    have hy := Lm_getD hv i
    have t1 := nv_take_succ v i
    have t2 := nv_take_succ S i
    have hset := fun x => nv_set_zero (l := S') (j := i) (v := x) (by omega)
    rw [hge] at d8
    generalize S.getD i 0 = X at *
    generalize v.getD i 0 = y at *
    have hml := mul_lt hg hy
    have wy : IntKind.u64.wrap (y : Int) = (y : Int) := wrap64n (by omega)
    have wX : IntKind.u64.wrap (X : Int) = (X : Int) := wrap64n (by omega)
    have w1 : IntKind.u64.wrap ((g : Int) * (y : Int)) = ((g * y : Nat) : Int) := by rw [wrap_u64 (by omega) (by rw [← Int.natCast_mul]; omega), Int.natCast_mul]
    have w2 : IntKind.u64.wrap ((c : Int) + ((g * y : Nat) : Int)) = ((c + g * y : Nat) : Int) := by rw [wrap_u64 (by omega) (by omega)]; omega
    have hc1 : c + g * y < 18446744073709551616 := by omega
    have w3 := and_mask hc1
    have w4 := fdiv32 (c + g * y)
    have hsp := limb_split (c + g * y)
    have hlo : (c + g * y) % 4294967296 < 4294967296 := Nat.mod_lt _ (by omega)
    have hhi : (c + g * y) / 4294967296 < 4294967296 := by omega
    generalize (c + g * y) % 4294967296 = lo at *
    generalize (c + g * y) / 4294967296 = hi2 at *
    obtain ⟨Vx, Dx, b', w5, w6, hD, hb', w7, _, hdd⟩ := sub_w hX hlo hb
    have w8 := incI (j := i) (by omega)
    have s3 : leafA (.v (.int .u32 (Dx : Int))) = true := rfl
    have d9 := d9 Dx
    simp -implicitDefEqProofs only [go_sem, Nat.reduceAdd, Nat.reduceEqDiff, Nat.reduceLT, reduceIte, reduceCtorEq, Int.reduceLE, Int.reduceLT, Int.reduceEq, Int.reduceAdd, Int.reduceMul, Int.reduceSub, Nat.reduceMul, Nat.reduceSub, Nat.reducePow, Nat.reduceLeDiff, Int.reduceToNat, DD, h0, h1, h5, h8, h10, h11, h74, h75, d1, d2, d3, d4, d4', d5, d6, d7, d8, d9, wy, wX, w1, w2, w3, w4, w5, w6, w7, w8, s3, List.all_cons, List.all_nil, Bool.and_true, Bool.and_self]
    refine ⟨m + 2 - (i + 1), by omega, _, S'.set i Dx, hi2, b', i + 1, rfl, rfl, by omega, by simp [hlen], Lm_set hS' hD, hhi, hb', by rw [drop_set_succ]; exact drop_succ_of hdr,
      by simp [x_look, h0], by simp [x_look, h1], by simp [x_look, h5], by simp [x_look, h8], by simp [x_look], by simp [x_look], by simp [x_look, h74], by simp [x_look], ?_⟩
    rw [hset, t1, t2]
    exact ms_step i rfl hinv hsp hdd
  · have hie : i = m + 2 := by omega
    subst hie
    replace hinv : Hid _ := hinv
    have d1 : ¬ (((m + 2 : Nat) : Int) < ((m + 2 : Nat) : Int)) := by omega
    have d2 : (0 : Int) ≤ ((m + 2 : Nat) : Int) := by omega
    have d4 : ((m + 2 : Nat) : Int) < ((m + 3 : Nat) : Int) := by omega
    have d4' : m + 2 < m + 3 := by omega
    have d6 : pre.length + (m + 2) < (pre ++ S').length := by simp; omega
    have d7 : pre.length + (m + 2) + 1 ≤ (pre ++ S').length := by simp; omega
    have d8 := app_get (p := pre) (s := S') (i := m + 2) (by omega)
    have d9 := fun x => app_spl (p := pre) (s := S') (i := m + 2) (x := x) (by omega)
    rw [hge] at d8
    have t2 : Hid _ := nv_take_succ S (m + 2)
    have hset : ∀ x, Hid _ := fun x => nv_set_zero (l := S') (j := m + 2) (v := x) (by omega)
    generalize hXe : S.getD (m + 2) 0 = X at hX d8
    have wX : IntKind.u64.wrap (X : Int) = (X : Int) := wrap64n (by omega)
    obtain ⟨Vx, Dx, b', w5, w6, hD, hb', w7, _, hdd⟩ := sub_w hX hc hb
    have d9 := d9 Dx
    have s3 : leafA (.v (.int .u32 (Dx : Int))) = true := rfl
    have hms : Hid (nv ((S'.set (m + 2) Dx).take (m + 2 + 1)) + g * nv v = nv (S.take (m + 2 + 1)) + 4294967296 ^ (m + 2 + 1) * b') := by
      have hms := ms_step (g := g) (y := 0) (lo := c) (hi := 0) (m + 2) rfl hinv (by rw [Nat.mul_zero, Nat.mul_zero]) hdd
      have hz0 : nv v + 4294967296 ^ (m + 2) * 0 = nv v := by rw [Nat.mul_zero, Nat.add_zero]
      have hset : nv ((S'.set (m + 2) Dx).take (m + 2 + 1)) = nv (S'.take (m + 2)) + 4294967296 ^ (m + 2) * Dx := hset Dx
      have t2 : nv (S.take (m + 2 + 1)) = nv (S.take (m + 2)) + 4294967296 ^ (m + 2) * S.getD (m + 2) 0 := t2
      rw [nv_take_all (l := v) (Nat.le_of_eq hvl), hz0, ← hset, Nat.zero_add] at hms
      rw [t2, hXe]
      exact hms
    have hS2 : Lm (S'.set (m + 2) Dx) := Lm_set hS' hD
    have hl2 : (S'.set (m + 2) Dx).length = S.length := by simp [hlen]
    have hdr2 : (S'.set (m + 2) Dx).drop (m + 3) = S.drop (m + 3) := by rw [drop_set_succ]; exact drop_succ_of hdr
    have hgD : (S'.set (m + 2) Dx).getD (m + 2) 0 = Dx := by rw [List.getD_eq_getElem?_getD, List.getElem?_set_self (by omega)]; rfl
    generalize hS2e : S'.set (m + 2) Dx = S2 at *
    clear hinv hset hS2e hdr hge t2
    by_cases hb0 : b' = 0
    · subst hb0
      have c1 : ((0 : Nat) : Int) = 0 := rfl
      have wg : IntKind.u32.wrap (g : Int) = (g : Int) := by rw [wrap_u32]; omega
      have q12 : g = nv (S.take (m + 3)) / nv v ∧ nv (S2.take (m + 3)) = nv (S.take (m + 3)) % nv v := by
        have hms : nv (S2.take (m + 2 + 1)) + g * nv v = nv (S.take (m + 2 + 1)) + 4294967296 ^ (m + 2 + 1) * 0 := hms
        rw [Nat.mul_zero, Nat.add_zero] at hms
        exact kn_fin0 hms hgQ hV
      obtain ⟨q1, q2⟩ := q12
      simp -implicitDefEqProofs only [go_sem, Nat.reduceAdd, Nat.reduceEqDiff, Nat.reduceLT, reduceIte, reduceCtorEq, Int.reduceLE, Int.reduceLT, Int.reduceEq, Int.reduceAdd, Int.reduceMul, Int.reduceSub, Nat.reduceMul, Nat.reduceSub, Nat.reducePow, Nat.reduceLeDiff, Int.reduceToNat, DD, h0, h1, h5, h8, h10, h11, h74, h75, d1, d2, d4, d4', d6, d7, d8, d9, wX, w5, w6, w7, c1, wg, s3, List.all_cons, List.all_nil, Bool.and_true, Bool.and_self]
      exact hQ _ S2 (by simp [x_look, q1]) hS2 hl2 q2 hdr2
    · have hb1 : b' = 1 := by omega
      subst hb1
      have c1 : ¬ (((1 : Nat) : Int) = 0) := by omega
      have q12 : g = nv (S.take (m + 3)) / nv v + 1 ∧ Hid (nv (S2.take (m + 2 + 1)) + nv v = 4294967296 ^ (m + 2 + 1) + nv (S.take (m + 3)) % nv v) := by
        have hms : nv (S2.take (m + 2 + 1)) + g * nv v = nv (S.take (m + 2 + 1)) + 4294967296 ^ (m + 2 + 1) * 1 := hms
        rw [Nat.mul_one] at hms
        exact kn_fin1 hms (nv_lt_of (Lm_take hS2 _) (by rw [List.length_take]; exact Nat.min_le_left _ _)) hgQ hgQ2 hV
      obtain ⟨q1, q2⟩ := q12
      simp -implicitDefEqProofs only [go_sem, Nat.reduceAdd, Nat.reduceEqDiff, Nat.reduceLT, reduceIte, reduceCtorEq, Int.reduceLE, Int.reduceLT, Int.reduceEq, Int.reduceAdd, Int.reduceMul, Int.reduceSub, Nat.reduceMul, Nat.reduceSub, Nat.reducePow, Nat.reduceLeDiff, Int.reduceToNat, DD, h0, h1, h5, h8, h10, h11, h74, h75, d1, d2, d4, d4', d6, d7, d8, d9, wX, w5, w6, w7, c1, s3, List.all_cons, List.all_nil, Bool.and_true, Bool.and_self]
      refine loop_of hj (fun k σ => ∃ sl S3 c i, σ = ⟨sl, [o0, o1, ⟨u32s (pre ++ S3), true, true⟩, o3]⟩ ∧ k = m + 2 - i ∧ i ≤ m + 2 ∧ S3.length = S.length ∧ Lm S3 ∧ c ≤ 1 ∧ S3.drop i = S2.drop i ∧
        look sl 0 = .own 1 2 pre.length (m + 3) ∧ look sl 1 = .sl (m + 2) (u32s v) ∧ look sl 5 = I64 ((m + 2 : Nat) : Int) ∧ look sl 8 = W64 (g : Nat) ∧ look sl 11 = W64 (c : Nat) ∧ look sl 128 = I64 ((m + 2 : Nat) : Int) ∧ look sl 129 = I64 (i : Nat) ∧
        nv (S3.take i) + 4294967296 ^ i * c = nv (S2.take i) + nv (v.take i)) ?_ (n := m + 2)
        ⟨_, S2, 0, 0, rfl, rfl, by omega, hl2, hS2, by omega, rfl, by simp [x_look, h0], by simp [x_look, h1], by simp [x_look, h5], by simp [x_look, h8], by simp [x_look], by simp [x_look, h5], by simp [x_look], by simp [nv]⟩
      clear h0 h1 h5 h8 h10 h11 h74 h75 w5 w6 w7 d8 d9 d6 d7 hdd
      clear sl
      rintro _ _ ⟨sl, S3, c2, i, rfl, rfl, hi2, hlen3, hS3, hc2, hdr3, h0, h1, h5, h8, h11, h128, h129, hinv⟩
      have hX2 := Lm_getD hS2 i
      have hge := getD_of_drop hdr3
      by_cases hlt2 : i < m + 2
      · have d1 : (i : Int) < ((m + 2 : Nat) : Int) := by omega
        have d2 : (0 : Int) ≤ (i : Int) := by omega
        have d3 : i < v.length := by omega
        have d4 : (i : Int) < ((m + 3 : Nat) : Int) := by omega
        have d4' : i < m + 3 := by omega
        have d5 := getD_u32s (l := v) (i := i) (by omega)
        have d6 : pre.length + i < (pre ++ S3).length := by simp; omega
        have d7 : pre.length + i + 1 ≤ (pre ++ S3).length := by simp; omega
        have d8 := app_get (p := pre) (s := S3) (i := i) (by omega)
        have d9 := fun x => app_spl (p := pre) (s := S3) (i := i) (x := x) (by omega)
        have hy := Lm_getD hv i
        have t1 := nv_take_succ v i
        have t2 := nv_take_succ S2 i
        have hset := fun x => nv_set_zero (l := S3) (j := i) (v := x) (by omega)
        rw [hge] at d8
        generalize S2.getD i 0 = X2 at *
        generalize v.getD i 0 = y at *
        have wy : IntKind.u64.wrap (y : Int) = (y : Int) := wrap64n (by omega)
        have wX : IntKind.u64.wrap (X2 : Int) = (X2 : Int) := wrap64n (by omega)
        have w1 : IntKind.u64.wrap ((X2 : Int) + (y : Int)) = ((X2 + y : Nat) : Int) := by rw [wrap_u64 (by omega) (by omega)]; omega
        have w2 : IntKind.u64.wrap ((c2 : Int) + ((X2 + y : Nat) : Int)) = ((c2 + X2 + y : Nat) : Int) := by rw [wrap_u64 (by omega) (by omega)]; omega
        have w3 := wrap32n (c2 + X2 + y)
        have w4 := fdiv32 (c2 + X2 + y)
        have hst := add_step i hinv (X := X2) (Y := y) rfl
        have hlo : (c2 + X2 + y) % 4294967296 < 4294967296 := Nat.mod_lt _ (by omega)
        have hhi : (c2 + X2 + y) / 4294967296 ≤ 1 := by omega
        generalize (c2 + X2 + y) % 4294967296 = lo at *
        generalize (c2 + X2 + y) / 4294967296 = hi3 at *
        have w8 := incI (j := i) (by omega)
        have s3 : leafA (.v (.int .u32 (lo : Int))) = true := rfl
        have d9 := d9 lo
        simp -implicitDefEqProofs only [go_sem, Nat.reduceAdd, Nat.reduceEqDiff, Nat.reduceLT, reduceIte, reduceCtorEq, Int.reduceLE, Int.reduceLT, Int.reduceEq, Int.reduceAdd, Int.reduceMul, Int.reduceSub, Nat.reduceMul, Nat.reduceSub, Nat.reducePow, Nat.reduceLeDiff, Int.reduceToNat, DD, h0, h1, h5, h8, h11, h128, h129, d1, d2, d3, d4, d4', d5, d6, d7, d8, d9, wy, wX, w1, w2, w3, w4, w8, s3, List.all_cons, List.all_nil, Bool.and_true, Bool.and_self]
        refine ⟨m + 2 - (i + 1), by omega, _, S3.set i lo, hi3, i + 1, rfl, rfl, by omega, by simp [hlen3], Lm_set hS3 hlo, hhi, by rw [drop_set_succ]; exact drop_succ_of hdr3,
          by simp [x_look, h0], by simp [x_look, h1], by simp [x_look, h5], by simp [x_look, h8], by simp [x_look], by simp [x_look, h128], by simp [x_look], ?_⟩
        rw [hset, t1, t2]
        exact hst
      · have hie : i = m + 2 := by omega
        subst hie
        replace hinv : Hid _ := hinv
        have d1 : ¬ (((m + 2 : Nat) : Int) < ((m + 2 : Nat) : Int)) := by omega
        have d6 : pre.length + (m + 2) < (pre ++ S3).length := by simp; omega
        have d7 : pre.length + (m + 2) + 1 ≤ (pre ++ S3).length := by simp; omega
        have d8 := app_get (p := pre) (s := S3) (i := m + 2) (by omega)
        have d9 : spl (u32s (pre ++ S3)) (pre.length + (m + 2)) [.v (.int .u32 0)] = u32s (pre ++ S3.set (m + 2) 0) := app_spl (p := pre) (s := S3) (i := m + 2) (x := 0) (by omega)
        rw [hge, hgD] at d8
        have k12 : Dx + c2 = 4294967296 ∧ nv (S3.take (m + 2)) = nv (S.take (m + 3)) % nv v := by
          have hinv : nv (S3.take (m + 2)) + 4294967296 ^ (m + 2) * c2 = nv (S2.take (m + 2)) + nv (v.take (m + 2)) := hinv
          have q2 : nv (S2.take (m + 2 + 1)) + nv v = 4294967296 ^ (m + 2 + 1) + nv (S.take (m + 3)) % nv v := q2
          rw [nv_take_all (l := v) (Nat.le_of_eq hvl)] at hinv
          have hR : nv (S.take (m + 3)) % nv v < 4294967296 ^ (m + 2) := Nat.lt_of_lt_of_le (Nat.mod_lt _ hV) (Nat.le_of_lt (by rw [← hvl]; exact nv_lt hv))
          have hp : (4294967296 : Nat) ^ (m + 2 + 1) = 4294967296 ^ (m + 2) * 4294967296 := Nat.pow_succ _ _
          have ht := nv_lt_of (Lm_take hS3 (m + 2)) (n := m + 2) (by rw [List.length_take]; exact Nat.min_le_left _ _)
          rw [nv_take_succ S2 (m + 2), hgD, hp] at q2
          clear hp
          generalize 4294967296 ^ (m + 2) = N at *
          exact kn_add ht hR hinv q2
        obtain ⟨k1, k2⟩ := k12
        have wc : IntKind.u32.wrap (c2 : Int) = (c2 : Int) := by rw [wrap_u32]; omega
        have ws : IntKind.u32.wrap ((Dx : Int) + (c2 : Int)) = 0 := by rw [wrap_u32]; omega
        have hg1 : 1 ≤ g := by rw [q1]; exact Nat.le_add_left 1 _
        have hgm : g - 1 = nv (S.take (m + 3)) / nv v := by rw [q1, Nat.add_sub_cancel]
        have wg1 : IntKind.u64.wrap ((g : Int) - 1) = ((g - 1 : Nat) : Int) := by rw [wrap_u64 (by omega) (by omega)]; omega
        have wg2 : IntKind.u32.wrap ((g - 1 : Nat) : Int) = ((g - 1 : Nat) : Int) := by rw [wrap_u32]; omega
        have s3 : leafA (.v (.int .u32 0)) = true := rfl
        simp -implicitDefEqProofs only [go_sem, Nat.reduceAdd, Nat.reduceEqDiff, Nat.reduceLT, reduceIte, reduceCtorEq, Int.reduceLE, Int.reduceLT, Int.reduceEq, Int.reduceAdd, Int.reduceMul, Int.reduceSub, Nat.reduceMul, Nat.reduceSub, Nat.reducePow, Nat.reduceLeDiff, Int.reduceToNat, DD, h0, h1, h5, h8, h11, h128, h129, d1, d2, d4, d4', d6, d7, d8, wc, ws, wg1, wg2, s3, d9, List.all_cons, List.all_nil, Bool.and_true, Bool.and_self]
        refine hQ _ (S3.set (m + 2) 0) (by simp [x_look, hgm]) (Lm_set hS3 (by omega)) (by simp [hlen3]) ?_ (by rw [drop_set_succ]; rw [← hdr2]; exact drop_succ_of hdr3)
        have hz : nv ((S3.set (m + 2) 0).take (m + 2 + 1)) = nv (S3.take (m + 2)) + 4294967296 ^ (m + 2) * 0 := nv_set_zero (by omega)
        rw [Nat.mul_zero, Nat.add_zero, k2] at hz
        exact hz

/-- What is known at the label. -/
def Lab49 (o0 o1 o3 : AObj) (pre S v : List Nat) (m n : Nat) (σ : AState) : Prop := ∃ sl g rest, σ = ⟨sl, [o0, o1, ⟨u32s (pre ++ S), true, true⟩, o3]⟩ ∧ n = 4294967296 - rest ∧ rest < 4294967296 ∧ g ≤ 4294967297 ∧
  g * v.getD (m + 1) 0 + rest = S.getD (m + 1) 0 + 4294967296 * S.getD (m + 2) 0 ∧ nv (S.take (m + 3)) / nv v ≤ g ∧
  look sl 0 = .own 1 2 pre.length (m + 3) ∧ look sl 1 = .sl (m + 2) (u32s v) ∧ look sl 5 = I64 ((m + 2 : Nat) : Int) ∧ look sl 7 = W64 (v.getD (m + 1) 0 : Nat) ∧ look sl 8 = W64 (g : Nat) ∧ look sl 9 = W64 (rest : Nat)

theorem head49 {jump : Code → APost → AState → Prop} (hj : JumpMono jump) {Q : APost} (o0 o1 o3 : AObj) (pre S v : List Nat) (m : Nat) (hv : Lm v) (hS : Lm S) (hvl : v.length = m + 2) (hSl : m + 3 ≤ S.length) (hm : m < 1099511627776)
    (htop : 2147483648 ≤ v.getD (m + 1) 0) (hW : nv (S.take (m + 3)) < 4294967296 * nv v)
    (hQ : ∀ sl S', look sl 4 = W32 (nv (S.take (m + 3)) / nv v : Nat) → Lm S' → S'.length = S.length → nv (S'.take (m + 3)) = nv (S.take (m + 3)) % nv v → S'.drop (m + 3) = S.drop (m + 3) → Q .ret ⟨sl, [o0, o1, ⟨u32s (pre ++ S'), true, true⟩, o3]⟩)
    (n : Nat) (σ : AState) (h : Lab49 o0 o1 o3 pre S v m n σ) : aW CT 164 jump K49 (gotoP 0 Q (fun σ => ∃ k, k < n ∧ Lab49 o0 o1 o3 pre S v m k σ)) σ := by
  obtain ⟨sl, g, rest, rfl, rfl, hr, hg1, he, hgQ, h0, h1, h5, h7, h8, h9⟩ := h
  have hV3 := nv_top2 hvl.symm
  have hW3 := nv_top3 hSl
  have hdv := Lm_getD hv (m + 1)
  have hv2 := Lm_getD hv m
  have hu2 := Lm_getD hS m
  have hu1 := Lm_getD hS (m + 1)
  have hvl2 : nv (v.take m) < 4294967296 ^ m := nv_lt_of (Lm_take hv m) (by simp; omega)
  have hwl2 : nv (S.take m) < 4294967296 ^ m := nv_lt_of (Lm_take hS m) (by simp; omega)
  have hPpos : 0 < 4294967296 ^ m := Nat.pow_pos (by omega)
  have hVpos : 0 < nv v := by
    rw [hV3]
    have := Nat.mul_pos hPpos (show 0 < v.getD m 0 + 4294967296 * v.getD (m + 1) 0 by omega)
    omega
  have hQB : nv (S.take (m + 3)) / nv v < 4294967296 := (Nat.div_lt_iff_lt_mul hVpos).mpr hW
  have hQ1 : nv (S.take (m + 3)) / nv v * nv v ≤ nv (S.take (m + 3)) := Nat.div_mul_le_self _ _
  have hQ2 : nv (S.take (m + 3)) < (nv (S.take (m + 3)) / nv v + 1) * nv v := by
    have e1 := Nat.div_add_mod (nv (S.take (m + 3))) (nv v)
    have e2 := Nat.mod_lt (nv (S.take (m + 3))) hVpos
    rw [Nat.add_mul, Nat.one_mul, Nat.mul_comm (nv (S.take (m + 3)) / nv v)]
    omega
  have hTail := fun g' (hg' : g' < 4294967296) (hq : nv (S.take (m + 3)) / nv v ≤ g') (hq2 : g' ≤ nv (S.take (m + 3)) / nv v + 1) (K : AState → Prop) => tail49 (jump := jump) hj (Q := gotoP 0 Q K) o0 o1 o3 pre S v m hv hS hvl hSl hm g' hg' hq hq2 hVpos
    (fun sl S' a1 a2 a3 a4 a5 => hQ sl S' a1 a2 a3 a4 a5)
  generalize hQd : nv (S.take (m + 3)) / nv v = Qd at *
  rw [hW3, hV3] at hQ1 hQ2
  have hu0 := Lm_getD hS (m + 2)
  have htd : S.getD (m + 1) 0 + 4294967296 * S.getD (m + 2) 0 < v.getD (m + 1) 0 * 4294967296 + 4294967296 := by
    refine Nat.lt_of_not_le fun q => ?_
    have q1 : v.getD (m + 1) 0 + 1 ≤ S.getD (m + 2) 0 := by omega
    have q2 : 4294967296 * nv v ≤ nv (S.take (m + 3)) := by
      rw [hW3, hV3]
      have z1 := Nat.mul_le_mul_left (4294967296 ^ m) (show 4294967296 * (v.getD m 0 + 4294967296 * v.getD (m + 1) 0 + 1) ≤ S.getD m 0 + 4294967296 * (S.getD (m + 1) 0 + 4294967296 * S.getD (m + 2) 0) by omega)
      have z2 : 4294967296 ^ m * (4294967296 * (v.getD m 0 + 4294967296 * v.getD (m + 1) 0 + 1)) = 4294967296 * (4294967296 ^ m * (v.getD m 0 + 4294967296 * v.getD (m + 1) 0)) + 4294967296 * 4294967296 ^ m := by
        rw [Nat.mul_left_comm, Nat.mul_add (4294967296 ^ m), Nat.mul_add 4294967296, Nat.mul_one]
      omega
    omega
  have c2 : IntKind.i64.wrap (((m + 2 : Nat) : Int) - 2) = (m : Int) := by rw [wrap_i64 (by omega) (by omega)]; omega
  have c3 : (0 : Int) ≤ (m : Int) := by omega
  have c4 : (m : Int) < ((m + 2 : Nat) : Int) := by omega
  have c5 : (m : Int) < ((m + 3 : Nat) : Int) := by omega
  have c6 : m < v.length := by omega
  have c7 : m < m + 3 := by omega
  have c8 : pre.length + m < (pre ++ S).length := by simp; omega
  have c9 := app_get (p := pre) (s := S) (i := m) (by omega)
  have c10 := getD_u32s c6
  have DD := nat_step.dr
  simp only [drP, drPx, drPt, drR, drS, drT, bodyOf, Tryz.f116, Nat.reduceEqDiff, reduceIte, true_and, and_true] at DD
  have hce := fun (hc : g * v.getD m 0 ≤ rest * 4294967296 + S.getD m 0) (hgB : g < 4294967296) => kn_e (M := 4294967296) (d := v.getD (m + 1) 0) (by omega) hvl2 hgB (by rw [he]; exact hQ2) hc
  have hcc := fun (hc : rest * 4294967296 + S.getD m 0 < g * v.getD m 0) => kn_c (M := 4294967296) (d := v.getD (m + 1) 0) hwl2 (by rw [he]; exact hQ1) hc
  have hxx := fun (g' r' : Nat) (hq : g' * v.getD (m + 1) 0 + r' = S.getD (m + 1) 0 + 4294967296 * S.getD (m + 2) 0) (hr' : 4294967296 ≤ r') => kn_x (u2 := S.getD m 0) hv2 hq htd hr'
  have hce' := fun (g' r' : Nat) (hq : g' * v.getD (m + 1) 0 + r' = S.getD (m + 1) 0 + 4294967296 * S.getD (m + 2) 0) (hgB : g' < 4294967296) (hc : g' * v.getD m 0 ≤ r' * 4294967296 + S.getD m 0) => kn_e (M := 4294967296) (d := v.getD (m + 1) 0) (by omega) hvl2 hgB (by rw [hq]; exact hQ2) hc
  have fg := fdiv32 g
  have wv2 : IntKind.u64.wrap ((v.getD m 0 : Nat) : Int) = ((v.getD m 0 : Nat) : Int) := wrap64n (by omega)
  have wu2 : IntKind.u64.wrap ((S.getD m 0 : Nat) : Int) = ((S.getD m 0 : Nat) : Int) := wrap64n (by omega)
  have wr : IntKind.u64.wrap ((rest : Int) * 2 ^ 32) = ((4294967296 * rest : Nat) : Int) := by
    rw [show (rest : Int) * 2 ^ 32 = ((4294967296 * rest : Nat) : Int) by omega]; exact wrap64n (by omega)
  have wo := or64 (a := 4294967296 * rest) (b := S.getD m 0) (by omega) (by omega)
  rw [Nat.or_comm, or_hi hu2] at wo
  -- what is done where the guess is too great
  have wg1 : 1 ≤ g → IntKind.u64.wrap ((g : Int) - 1) = ((g - 1 : Nat) : Int) := fun _ => by rw [wrap_u64 (by omega) (by omega)]; omega
  have wrd : IntKind.u64.wrap ((rest : Int) + ((v.getD (m + 1) 0 : Nat) : Int)) = ((rest + v.getD (m + 1) 0 : Nat) : Int) := by rw [wrap_u64 (by omega) (by omega)]; omega
  have frd := fdiv32 (rest + v.getD (m + 1) 0)
  have hem : 1 ≤ g → (g - 1) * v.getD (m + 1) 0 + (rest + v.getD (m + 1) 0) = S.getD (m + 1) 0 + 4294967296 * S.getD (m + 2) 0 := fun h1 => by
    have : g * v.getD (m + 1) 0 = (g - 1) * v.getD (m + 1) 0 + v.getD (m + 1) 0 := by rw [← Nat.succ_mul]; congr 1; omega
    omega
  by_cases hbig : 4294967296 ≤ g
  · have b1 : ¬ (((g / 4294967296 : Nat) : Int) = 0) := by omega
    have b2 := wg1 (by omega)
    have b3 := hem (by omega)
    by_cases hrb : 4294967296 ≤ rest + v.getD (m + 1) 0
    · have b4 : ¬ (((rest + v.getD (m + 1) 0) / 4294967296 : Nat) : Int) = 0 := by omega
      have b5 := hxx (g - 1) _ b3 hrb
      simp -implicitDefEqProofs only [go_sem, Nat.reduceAdd, Nat.reduceEqDiff, Nat.reduceLT, reduceIte, reduceCtorEq, Int.reduceLE, Int.reduceLT, Int.reduceEq, Int.reduceAdd, Int.reduceMul, Int.reduceSub, Nat.reduceMul, Nat.reduceSub, Nat.reducePow, Nat.reduceLeDiff, Int.reduceToNat, DD, K49, H49, B49, sq1, sq2, scp, bodyOf, Tryz.f116, h0, h1, h5, h7, h8, h9, fg, b1, b2, wrd, frd, b4]
      exact hTail (g - 1) b5.1 (by omega) (hce' _ _ b3 b5.1 b5.2) _ _ (by simp [x_look, h0]) (by simp [x_look, h1]) (by simp [x_look, h5]) (by simp [x_look])
    · have b4 : (((rest + v.getD (m + 1) 0) / 4294967296 : Nat) : Int) = 0 := by omega
      simp -implicitDefEqProofs only [go_sem, Nat.reduceAdd, Nat.reduceEqDiff, Nat.reduceLT, reduceIte, reduceCtorEq, Int.reduceLE, Int.reduceLT, Int.reduceEq, Int.reduceAdd, Int.reduceMul, Int.reduceSub, Nat.reduceMul, Nat.reduceSub, Nat.reducePow, Nat.reduceLeDiff, Int.reduceToNat, DD, K49, H49, B49, sq1, sq2, scp, bodyOf, Tryz.f116, h0, h1, h5, h7, h8, h9, fg, b1, b2, wrd, frd, b4, x_gp0]
      exact ⟨4294967296 - (rest + v.getD (m + 1) 0), by omega, _, g - 1, rest + v.getD (m + 1) 0, rfl, rfl, by omega, by omega, b3, by rw [hQd]; omega, by simp [x_look, h0], by simp [x_look, h1], by simp [x_look, h5], by simp [x_look, h7], by simp [x_look], by simp [x_look]⟩
  · have hgB : g < 4294967296 := by omega
    have b1 : (((g / 4294967296 : Nat) : Int) = 0) := by omega
    have hml := mul_lt hgB hv2
    have wm : IntKind.u64.wrap ((g : Int) * ((v.getD m 0 : Nat) : Int)) = ((g * v.getD m 0 : Nat) : Int) := by rw [wrap_u64 (by omega) (by rw [← Int.natCast_mul]; omega), Int.natCast_mul]
    by_cases hc : rest * 4294967296 + S.getD m 0 < g * v.getD m 0
    · have hc' : ((S.getD m 0 + 4294967296 * rest : Nat) : Int) < ((g * v.getD m 0 : Nat) : Int) := by omega
      have hlt := hcc hc
      have b2 := wg1 (by omega)
      have b3 := hem (by omega)
      by_cases hrb : 4294967296 ≤ rest + v.getD (m + 1) 0
      · have b4 : ¬ (((rest + v.getD (m + 1) 0) / 4294967296 : Nat) : Int) = 0 := by omega
        have b5 := hxx (g - 1) _ b3 hrb
        simp -implicitDefEqProofs only [go_sem, Nat.reduceAdd, Nat.reduceEqDiff, Nat.reduceLT, reduceIte, reduceCtorEq, Int.reduceLE, Int.reduceLT, Int.reduceEq, Int.reduceAdd, Int.reduceMul, Int.reduceSub, Nat.reduceMul, Nat.reduceSub, Nat.reducePow, Nat.reduceLeDiff, Int.reduceToNat, DD, K49, H49, B49, sq1, sq2, scp, bodyOf, Tryz.f116, h0, h1, h5, h7, h8, h9, fg, b1, b2, wrd, frd, b4, c2, c3, c4, c5, c6, c7, c8, c9, c10, wv2, wu2, wr, wo, wm, hc']
        exact hTail (g - 1) b5.1 (by omega) (hce' _ _ b3 b5.1 b5.2) _ _ (by simp [x_look, h0]) (by simp [x_look, h1]) (by simp [x_look, h5]) (by simp [x_look])
      · have b4 : (((rest + v.getD (m + 1) 0) / 4294967296 : Nat) : Int) = 0 := by omega
        simp -implicitDefEqProofs only [go_sem, Nat.reduceAdd, Nat.reduceEqDiff, Nat.reduceLT, reduceIte, reduceCtorEq, Int.reduceLE, Int.reduceLT, Int.reduceEq, Int.reduceAdd, Int.reduceMul, Int.reduceSub, Nat.reduceMul, Nat.reduceSub, Nat.reducePow, Nat.reduceLeDiff, Int.reduceToNat, DD, K49, H49, B49, sq1, sq2, scp, bodyOf, Tryz.f116, h0, h1, h5, h7, h8, h9, fg, b1, b2, wrd, frd, b4, c2, c3, c4, c5, c6, c7, c8, c9, c10, wv2, wu2, wr, wo, wm, hc', x_gp0]
        exact ⟨4294967296 - (rest + v.getD (m + 1) 0), by omega, _, g - 1, rest + v.getD (m + 1) 0, rfl, rfl, by omega, by omega, b3, by rw [hQd]; omega, by simp [x_look, h0], by simp [x_look, h1], by simp [x_look, h5], by simp [x_look, h7], by simp [x_look], by simp [x_look]⟩
    · have hc' : ¬ ((S.getD m 0 + 4294967296 * rest : Nat) : Int) < ((g * v.getD m 0 : Nat) : Int) := by omega
      simp -implicitDefEqProofs only [go_sem, Nat.reduceAdd, Nat.reduceEqDiff, Nat.reduceLT, reduceIte, reduceCtorEq, Int.reduceLE, Int.reduceLT, Int.reduceEq, Int.reduceAdd, Int.reduceMul, Int.reduceSub, Nat.reduceMul, Nat.reduceSub, Nat.reducePow, Nat.reduceLeDiff, Int.reduceToNat, DD, K49, H49, B49, sq1, sq2, scp, bodyOf, Tryz.f116, h0, h1, h5, h7, h8, h9, fg, b1, c2, c3, c4, c5, c6, c7, c8, c9, c10, wv2, wu2, wr, wo, wm, hc']
      exact hTail g hgB hgQ (hce (by omega) hgB) _ _ (by simp [x_look, h0]) (by simp [x_look, h1]) (by simp [x_look, h5]) (by simp [x_look, h8])
end Go.Ab
