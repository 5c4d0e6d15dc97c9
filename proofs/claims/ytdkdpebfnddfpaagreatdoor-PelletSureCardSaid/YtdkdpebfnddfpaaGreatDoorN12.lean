/- Contracts of this seat's functions (of each call: what it answers), walked over the abstract machine, and the laws of numbers that they want. Conditions: those that each theorem states. -/
import Derived.Test.YtdkdpebfnddfpaaGreatDoorN11
set_option linter.unusedVariables false
set_option maxRecDepth 20000
set_option linter.unusedSimpArgs false
namespace Go.Ab
open Go.Proofs

theorem step_hsat (o0 o1 o3 : AObj) (pre S v : List Nat) (m : Nat) (hv : Lm v) (hS : Lm S) (hvl : v.length = m + 2) (hSl : m + 3 ≤ S.length) (hm : m < 1099511627776)
    (htop : 2147483648 ≤ v.getD (m + 1) 0) (hW : nv (S.take (m + 3)) < 4294967296 * nv v) :
    HSat CT 116 [.own 1 2 pre.length (m + 3), .sl (m + 2) (u32s v)] [o0, o1, ⟨u32s (pre ++ S), true, true⟩, o3]
      (fun r H' => ∃ S', r = W32 (nv (S.take (m + 3)) / nv v : Nat) ∧ H' = [o0, o1, ⟨u32s (pre ++ S'), true, true⟩, o3] ∧ Lm S' ∧ S'.length = S.length ∧ nv (S'.take (m + 3)) = nv (S.take (m + 3)) % nv v ∧ S'.drop (m + 3) = S.drop (m + 3)) := by
  refine hsat_of nat_step.ok nat_step.call (by simp) ?_
  rw [f49_eq]
  have DD := nat_step.dr
  simp only [drP, drPx, drPt, drR, drS, drT, bodyOf, Tryz.f116, Nat.reduceEqDiff, reduceIte, true_and, and_true] at DD
  have hdv := Lm_getD hv (m + 1)
  have hv2 := Lm_getD hv m
  have hu2 := Lm_getD hS m
  have hu1 := Lm_getD hS (m + 1)
  have hu0 := Lm_getD hS (m + 2)
  have hV3 := nv_top2 hvl.symm
  have hW3 := nv_top3 hSl
  have hwl2 : nv (S.take m) < 4294967296 ^ m := nv_lt_of (Lm_take hS m) (by rw [List.length_take]; exact Nat.min_le_left _ _)
  have hQd : nv (S.take (m + 3)) / nv v ≤ (S.getD (m + 1) 0 + 4294967296 * S.getD (m + 2) 0) / v.getD (m + 1) 0 := by
    rw [Nat.le_div_iff_mul_le (by omega)]
    have hQ1 : nv (S.take (m + 3)) / nv v * nv v ≤ nv (S.take (m + 3)) := Nat.div_mul_le_self _ _
    generalize nv (S.take (m + 3)) / nv v = Qd at *
    rw [hW3, hV3] at hQ1
    exact kn_a hwl2 hu2 hQ1
  have htd : S.getD (m + 1) 0 + 4294967296 * S.getD (m + 2) 0 < v.getD (m + 1) 0 * 4294967296 + 4294967296 := by
    refine Nat.lt_of_not_le fun q => ?_
    have q1 : v.getD (m + 1) 0 + 1 ≤ S.getD (m + 2) 0 := by omega
    have q2 : 4294967296 * nv v ≤ nv (S.take (m + 3)) := by
      have hvl2 : nv (v.take m) < 4294967296 ^ m := nv_lt_of (Lm_take hv m) (by rw [List.length_take]; exact Nat.min_le_left _ _)
      rw [hW3, hV3]
      have z1 := Nat.mul_le_mul_left (4294967296 ^ m) (show 4294967296 * (v.getD m 0 + 4294967296 * v.getD (m + 1) 0 + 1) ≤ S.getD m 0 + 4294967296 * (S.getD (m + 1) 0 + 4294967296 * S.getD (m + 2) 0) by omega)
      have z2 : 4294967296 ^ m * (4294967296 * (v.getD m 0 + 4294967296 * v.getD (m + 1) 0 + 1)) = 4294967296 * (4294967296 ^ m * (v.getD m 0 + 4294967296 * v.getD (m + 1) 0)) + 4294967296 * 4294967296 ^ m := by
        rw [Nat.mul_left_comm, Nat.mul_add (4294967296 ^ m), Nat.mul_add 4294967296, Nat.mul_one]
      omega
    omega
  clear hV3 hW3 hwl2
  have hem := Nat.div_add_mod (S.getD (m + 1) 0 + 4294967296 * S.getD (m + 2) 0) (v.getD (m + 1) 0)
  have hmr := Nat.mod_lt (S.getD (m + 1) 0 + 4294967296 * S.getD (m + 2) 0) (show 0 < v.getD (m + 1) 0 by omega)
  have hgl : (S.getD (m + 1) 0 + 4294967296 * S.getD (m + 2) 0) / v.getD (m + 1) 0 ≤ 4294967297 := by
    refine Nat.le_of_lt_succ ((Nat.div_lt_iff_lt_mul (by omega)).mpr ?_)
    omega
  rw [Nat.mul_comm] at hem
  have c1 : IntKind.i64.wrap (((m + 2 : Nat) : Int) - 1) = ((m + 1 : Nat) : Int) := by rw [wrap_i64 (by omega) (by omega)]; omega
  have c2 : (0 : Int) ≤ ((m + 1 : Nat) : Int) := by omega
  have c3 : (0 : Int) ≤ ((m + 2 : Nat) : Int) := by omega
  have c4 : ((m + 1 : Nat) : Int) < ((m + 2 : Nat) : Int) := by omega
  have c5 : ((m + 1 : Nat) : Int) < ((m + 3 : Nat) : Int) := by omega
  have c6 : ((m + 2 : Nat) : Int) < ((m + 3 : Nat) : Int) := by omega
  have c7 : m + 1 < v.length := by omega
  have c8 : pre.length + (m + 1) < (pre ++ S).length := by simp; omega
  have c9 : pre.length + (m + 2) < (pre ++ S).length := by simp; omega
  have c10 := app_get (p := pre) (s := S) (i := m + 1) (by omega)
  have c11 := app_get (p := pre) (s := S) (i := m + 2) (by omega)
  have c12 := getD_u32s c7
  have wd : IntKind.u64.wrap ((v.getD (m + 1) 0 : Nat) : Int) = ((v.getD (m + 1) 0 : Nat) : Int) := wrap64n (by omega)
  have wu1 : IntKind.u64.wrap ((S.getD (m + 1) 0 : Nat) : Int) = ((S.getD (m + 1) 0 : Nat) : Int) := wrap64n (by omega)
  have wu0 : IntKind.u64.wrap ((S.getD (m + 2) 0 : Nat) : Int) = ((S.getD (m + 2) 0 : Nat) : Int) := wrap64n (by omega)
  have wr : IntKind.u64.wrap (((S.getD (m + 2) 0 : Nat) : Int) * 2 ^ 32) = ((4294967296 * S.getD (m + 2) 0 : Nat) : Int) := by
    rw [show ((S.getD (m + 2) 0 : Nat) : Int) * 2 ^ 32 = ((4294967296 * S.getD (m + 2) 0 : Nat) : Int) by omega]; exact wrap64n (by omega)
  have wo := or64 (a := 4294967296 * S.getD (m + 2) 0) (b := S.getD (m + 1) 0) (by omega) (by omega)
  rw [Nat.or_comm, or_hi hu1] at wo
  have wnz : ¬ (((v.getD (m + 1) 0 : Nat) : Int) = 0) := by omega
  have hHead := fun (jump : Code → APost → AState → Prop) (hj : JumpMono jump) (Q : APost) => head49 (jump := jump) hj (Q := Q) o0 o1 o3 pre S v m hv hS hvl hSl hm htop hW
  have hLab := fun (n : Nat) (σ : AState) => (Iff.rfl : Lab49 o0 o1 o3 pre S v m n σ ↔ Lab49 o0 o1 o3 pre S v m n σ)
  generalize hT : S.getD (m + 1) 0 + 4294967296 * S.getD (m + 2) 0 = T at *
  generalize hdd : v.getD (m + 1) 0 = d at *
  have wq : IntKind.u64.wrap ((T : Int).tdiv (d : Int)) = ((T / d : Nat) : Int) := by
    rw [Int.tdiv_eq_ediv_of_nonneg (by omega)]
    show IntKind.u64.wrap ((T / d : Nat) : Int) = _
    generalize T / d = x at *
    exact wrap64n (by omega)
  have wm : (T : Int).tmod (d : Int) = ((T % d : Nat) : Int) := by rw [Int.tmod_eq_emod_of_nonneg (by omega)]; rfl
  simp -implicitDefEqProofs only [go_sem, Nat.reduceAdd, Nat.reduceEqDiff, Nat.reduceLT, reduceIte, reduceCtorEq, Int.reduceLE, Int.reduceLT, Int.reduceEq, Int.reduceAdd, Int.reduceMul, Int.reduceSub, Nat.reduceMul, Nat.reduceSub, Nat.reducePow, Nat.reduceLeDiff, Int.reduceToNat, DD, P49a, sq1, sq2, scp, bodyOf, Tryz.f116]
  refine scope_inv aW0_mono (aW_mono aW0_mono) 0 f49_find (Lab49 o0 o1 o3 pre S v m) (fun n σ h => ?_) (n := 4294967296 - T % d) ?_
  · rw [x_skipseq]
    refine hHead noJump noJump_mono _ ?_ n σ h
    intro sl S' a1 a2 a3 a4 a5
    simp -implicitDefEqProofs only [go_sem, Nat.reduceAdd, Nat.reduceEqDiff, Nat.reduceLT, reduceIte, reduceCtorEq, Int.reduceLE, Int.reduceLT, Int.reduceEq, Int.reduceAdd, Int.reduceMul, Int.reduceSub, Nat.reduceMul, Nat.reduceSub, Nat.reducePow, Nat.reduceLeDiff, Int.reduceToNat, DD, a1, x_gp2]
    exact ⟨S', rfl, a2, a3, a4, a5⟩
  · simp -implicitDefEqProofs only [go_sem, Nat.reduceAdd, Nat.reduceEqDiff, Nat.reduceLT, reduceIte, reduceCtorEq, Int.reduceLE, Int.reduceLT, Int.reduceEq, Int.reduceAdd, Int.reduceMul, Int.reduceSub, Nat.reduceMul, Nat.reduceSub, Nat.reducePow, Nat.reduceLeDiff, Int.reduceToNat, DD, C49, P49b, P49c, P49d, P49e, B49, sq1, sq2, scp, bodyOf, Tryz.f116, c1, c2, c3, c4, c5, c6, c7, c8, c9, c10, c11, c12, wd, wu1, wu0, wr, wo, wnz, wq, wm]
    refine hHead _ aW0_mono _ ?_ _ _ ⟨_, T / d, T % d, rfl, rfl, by omega, hgl, by rw [hdd, hT]; exact hem, hQd, by simp [x_look], by simp [x_look], by simp [x_look], by rw [hdd]; simp [x_look], by simp [x_look], by simp [x_look]⟩
    intro sl S' a1 a2 a3 a4 a5
    simp -implicitDefEqProofs only [go_sem, Nat.reduceAdd, Nat.reduceEqDiff, Nat.reduceLT, reduceIte, reduceCtorEq, Int.reduceLE, Int.reduceLT, Int.reduceEq, Int.reduceAdd, Int.reduceMul, Int.reduceSub, Nat.reduceMul, Nat.reduceSub, Nat.reducePow, Nat.reduceLeDiff, Int.reduceToNat, DD, a1, x_gp2]
    exact ⟨S', rfl, a2, a3, a4, a5⟩
end Go.Ab
