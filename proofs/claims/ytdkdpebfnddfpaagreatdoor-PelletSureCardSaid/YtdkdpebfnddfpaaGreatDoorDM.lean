/- Contracts of layers 11 and 13 that PelletSure wants (products, rows that are frozen, From). -/
import Derived.Test.YtdkdpebfnddfpaaGreatDoorD10
set_option linter.unusedVariables false
set_option maxRecDepth 20000
set_option linter.unusedSimpArgs false
set_option linter.unusedSectionVars false
namespace Go.Ab
open Go.Proofs
open Cx (zero one)
attribute [-go_sem] appF newsF
variable {a b : AV} {z w : Cx} {B C n m : Nat} {cs ds : List AV} {f g : Po}
end Go.Ab

set_option linter.unusedVariables false
set_option linter.unusedSimpArgs false
set_option linter.unusedSectionVars false
namespace Go.Ab
open Go.Proofs
open Cx (zero one)
attribute [-go_sem] appF newsF
variable {a b : AV} {z w : Cx} {B C n m : Nat} {cs ds : List AV} {f g : Po}
/-- plain, and read as d -/
structure PlR (a d : AV) : Prop where
  isd : IsD d
  snp : ∀ H, snap H a = d
  own : ∀ H, ownOK H false a
  fzn : ∀ H l, fzArgs H (a :: l) = fzArgs H l
theorem PlD.r {a : AV} (h : PlD a) : PlR a a := ⟨h.isd, h.snp, h.own, h.fzn⟩
inductive PRs : List AV → List AV → Prop
  | nil : PRs [] []
  | cons {a d : AV} {l m : List AV} (h : PlR a d) (t : PRs l m) : PRs (a :: l) (d :: m)
theorem callK_pr {C : Ctx} {d : Bool} {f : FuncId} {args ds : List AV} {H : Heap} {r : AV} {K : AV → Heap → Prop} (hc : callable C.P f = true) (h : Sat C false f ds r) (ha : PRs args ds) (hK : K r H) : callK C d f args H K := by
  have key : fzArgs H args = H ∧ args.map (snap H) = ds ∧ (∀ a ∈ args, ownOK H false a) ∧ ∀ a ∈ ds, IsD a := by
    clear h
    induction ha with
    | nil => exact ⟨rfl, rfl, fun a q => (by cases q), fun a q => (by cases q)⟩
    | cons h t ih =>
      obtain ⟨q1, q2, q3, q4⟩ := ih
      refine ⟨(h.fzn _ _).trans q1, by rw [List.map_cons, h.snp, q2], fun b hb => ?_, fun b hb => ?_⟩
      · rcases List.mem_cons.1 hb with rfl | hb
        · exact h.own _
        · exact q3 b hb
      · rcases List.mem_cons.1 hb with rfl | hb
        · exact h.isd
        · exact q4 b hb
  have e2 : fzH d false H args = H := by cases d; exact key.1; rfl
  exact callK_of false hc h e2 key.2.1 key.2.2.1 key.2.2.2 hK
def zc6 : List AV := [Bo false, .v (.slice none 0 0), I64 0, Bo false, .v (.slice none 0 0), I64 0]
/-- six cells that read as a point -/
def Blk (l : List AV) (z : Cx) : Prop := l = CIc z ∨ (z = zero ∧ l = zc6)
theorem Blk.plr {l : List AV} {z : Cx} (h : Blk l z) : PlR (.agg l) (CI z) := by
  rcases h with rfl | ⟨rfl, rfl⟩
  · exact (pld_CI z).r
  · refine ⟨(pld_CI zero).isd, fun H => by rw [CI_0]; rfl, fun H c hc => ?_, fun H l => rfl⟩
    simp only [zc6, List.mem_cons, List.not_mem_nil, or_false] at hc
    rcases hc with rfl | rfl | rfl | rfl | rfl | rfl <;> trivial
theorem CIc_0 : CIc zero = [Bo false, .sl 0 [], I64 0, Bo false, .sl 0 [], I64 0] := AV.agg.inj CI_0
theorem Blk.snp {l : List AV} {z : Cx} (h : Blk l z) : l.map snap0 = CIc z := by
  rcases h with rfl | ⟨rfl, rfl⟩
  · rfl
  · rw [CIc_0]; rfl
/-- a row of cells that reads as coefficients -/
def MR (cells : List AV) (N : Nat) (F : Po) : Prop := cells.length = N * 6 ∧ ∀ s, s < N → Blk ((cells.drop (s * 6)).take 6) (F s)
theorem spl_get {cells vc : List AV} {off : Nat} (h : off + vc.length ≤ cells.length) (j : Nat) : (spl cells off vc)[j]? = if off ≤ j ∧ j < off + vc.length then vc[j - off]? else cells[j]? := by
  unfold spl
  rcases Nat.lt_or_ge j off with h1 | h1
  · rw [if_neg (by omega), List.getElem?_append_left (by simp; omega), List.getElem?_append_left (by simp; omega), List.getElem?_take, if_pos h1]
  · rcases Nat.lt_or_ge j (off + vc.length) with h2 | h2
    · rw [if_pos ⟨h1, h2⟩, List.getElem?_append_left (by simp; omega), List.getElem?_append_right (by simp; omega)]
      congr 1; simp; omega
    · rw [if_neg (by omega), List.getElem?_append_right (by simp; omega), List.getElem?_drop]
      congr 1; simp; omega
theorem spl_len {cells vc : List AV} {off : Nat} (h : off + vc.length ≤ cells.length) : (spl cells off vc).length = cells.length := by
  unfold spl; simp; omega
theorem blk_spl {cells vc : List AV} {N s0 s : Nat} (hl : cells.length = N * 6) (hv : vc.length = 6) (h0 : s0 < N) : ((spl cells (s0 * 6) vc).drop (s * 6)).take 6 = if s = s0 then vc else (cells.drop (s * 6)).take 6 := by
  have hle : s0 * 6 + vc.length ≤ cells.length := by omega
  by_cases h : s = s0
  · subst h
    rw [if_pos rfl]
    apply List.ext_getElem?
    intro j
    rw [List.getElem?_take, List.getElem?_drop, spl_get hle]
    by_cases hj : j < 6
    · rw [if_pos hj, if_pos (by omega)]; congr 1; omega
    · rw [if_neg hj, List.getElem?_eq_none (by omega)]
  · rw [if_neg h]
    apply List.ext_getElem?
    intro j
    rw [List.getElem?_take, List.getElem?_take, List.getElem?_drop, List.getElem?_drop, spl_get hle]
    by_cases hj : j < 6
    · rw [if_pos hj, if_pos hj, if_neg (by omega)]
    · rw [if_neg hj, if_neg hj]
theorem MR.set {cells : List AV} {N s0 : Nat} {F : Po} (h : MR cells N F) (h0 : s0 < N) (v : Cx) : MR (spl cells (s0 * 6) (CIc v)) N (fun s => if s = s0 then v else F s) := by
  refine ⟨by rw [spl_len (by have := h.1; show s0 * 6 + 6 ≤ _; omega)]; exact h.1, fun s hs => ?_⟩
  rw [blk_spl h.1 rfl h0]
  show Blk _ (if s = s0 then v else F s)
  by_cases e : s = s0
  · rw [if_pos e, if_pos e]; exact .inl rfl
  · rw [if_neg e, if_neg e]; exact h.2 s hs
theorem MR.congr {cells : List AV} {N : Nat} {F G : Po} (h : MR cells N F) (e : ∀ s, F s = G s) : MR cells N G := ⟨h.1, fun s hs => by rw [← e s]; exact h.2 s hs⟩
theorem MR.snp {cells : List AV} {N : Nat} {F : Po} (h : MR cells N F) : cells.map snap0 = pcl N F := by
  have key : ∀ i, i ≤ N → (cells.take (i * 6)).map snap0 = pcl i F := by
    intro i
    induction i with
    | zero => intro _; rw [pcl0, Nat.zero_mul]; rfl
    | succ i ih =>
      intro hi
      rw [pclS, ← ih (by omega), ← (h.2 i (by omega)).snp, ← List.map_append, Nat.succ_mul, List.take_add]
  have := key N (Nat.le_refl N)
  rwa [← h.1, List.take_length] at this
theorem mr_zero (N : Nat) : MR (zerosA [.bool false, .slice none 0 0, .int .i64 0, .bool false, .slice none 0 0, .int .i64 0] N) N pz := by
  refine ⟨zer_len N, fun s hs => .inr ⟨rfl, ?_⟩⟩
  apply List.ext_getElem?
  intro j
  rw [List.getElem?_take, List.getElem?_drop]
  by_cases hj : j < 6
  · rw [if_pos hj]
    unfold zerosA
    rw [List.getElem?_map, List.getElem?_range (by show s * 6 + j < N * 6; omega)]
    have : (s * 6 + j) % 6 = j := by omega
    show some (AV.v (([.bool false, .slice none 0 0, .int .i64 0, .bool false, .slice none 0 0, .int .i64 0] : List Value).getD ((s * 6 + j) % 6) undef)) = _
    rw [this]
    match j, hj with
    | 0, _ => rfl
    | 1, _ => rfl
    | 2, _ => rfl
    | 3, _ => rfl
    | 4, _ => rfl
    | 5, _ => rfl
  · rw [if_neg hj]; exact (List.getElem?_eq_none (by show 6 ≤ j; omega)).symm
theorem isD_map {N : Nat} {F : Po} {cells : List AV} (h : MR cells N F) : ∀ c ∈ pcl N F, IsD c := isD_pcl N F
end Go.Ab

set_option linter.unusedVariables false
set_option linter.unusedSimpArgs false
set_option linter.unusedSectionVars false
namespace Go.Ab
open Go.Proofs
open Cx (zero one)
attribute [-go_sem] appF newsF
variable {a b : AV} {z w : Cx} {B C n m : Nat} {cs ds : List AV} {f g : Po}
theorem x_takeCIc {z : Cx} : (CIc z).take 6 = CIc z := rfl
attribute [go_sem] x_takeCIc
theorem at_P (hs : Sp n f) (i : Nat) : atA (pcl n f) n i = CI (f i) := by
  unfold atA; split
  · rename_i q; rw [pcl_el f q]; rfl
  · rename_i q; rw [hs i (by omega)]
theorem rmul_s (h : PB f B) (h' : PB g C) (hs : Sp n f) (hs' : Sp m g) (hB : B + C + n ≤ 19990) (hnm : n + m ≤ 1000000) : Sat CT false 34 [PA n f, PA m g] (PA (dg (n + m) (conv f g)) (conv f g)) := by
  refine sat_of annulusref11_Mul.ok (by simp) ?_
  have DD := annulusref11_Mul.dr
  simp only [drP, drPx, drPt, drR, drS, drT, bodyOf, Tryz.f34, Nat.reduceEqDiff, reduceIte, true_and, and_true] at DD
  have hP := PB.conv h h' hs
  have hsp := Sp.conv1 hs hs'
  have hM := PB.macc h h'
  by_cases hn0 : n = 0
  · subst hn0
    rw [dg_conv0 hs hs' (.inl (dg0 f)), PA_0]
    simp -implicitDefEqProofs only [go_sem, Nat.reduceAdd, Nat.reduceEqDiff, Nat.reduceLT, reduceIte, reduceCtorEq, Int.reduceLE, Int.reduceLT, Int.reduceEq, Int.reduceAdd, Int.reduceMul, Int.reduceSub, Nat.reduceMul, Nat.reduceSub, Nat.reducePow, Nat.reduceLeDiff, Int.reduceToNat, Tryz.f34, DD, x_app, x_ga0, x_gas, x_gan, Int.cast_ofNat_Int, eq_self, Int.zero_lt_one, Bool.not_false, Bool.not_true, beq_self_eq_true, PA, Int.natCast_zero]
  · by_cases hm0 : m = 0
    · subst hm0
      rw [dg_conv0 hs hs' (.inr (dg0 g)), PA_0]
      have c1 : ¬ (n : Int) = 0 := by omega
      simp -implicitDefEqProofs only [go_sem, Nat.reduceAdd, Nat.reduceEqDiff, Nat.reduceLT, reduceIte, reduceCtorEq, Int.reduceLE, Int.reduceLT, Int.reduceEq, Int.reduceAdd, Int.reduceMul, Int.reduceSub, Nat.reduceMul, Nat.reduceSub, Nat.reducePow, Nat.reduceLeDiff, Int.reduceToNat, Tryz.f34, DD, x_app, x_ga0, x_gas, x_gan, Int.cast_ofNat_Int, eq_self, Int.zero_lt_one, Bool.not_false, Bool.not_true, beq_self_eq_true, PA, c1, Int.natCast_zero]
    · obtain ⟨N, hN⟩ : ∃ N, n + m = N + 1 := ⟨n + m - 1, by omega⟩
      have hsN : Sp N (conv f g) := by
        obtain ⟨n', rfl⟩ : ∃ n', n = n' + 1 := ⟨n - 1, by omega⟩
        obtain ⟨m', rfl⟩ : ∃ m', m = m' + 1 := ⟨m - 1, by omega⟩
        exact (Sp.conv hs hs').mono (by omega)
      rw [dg_ind hsp hsN]
      have c1 : ¬ (n : Int) = 0 := by omega
      have c1' : ¬ (m : Int) = 0 := by omega
      have cN : IntKind.i64.wrap ((n : Int) + (m : Int)) = ((N : Nat) : Int) + 1 := by rw [wrap_id (by omega)]; omega
      have cN' : IntKind.i64.wrap ((N : Int) + 1 - 1) = ((N : Nat) : Int) := by rw [wrap_id (by omega)]; omega
      have hL := pcl_len n f
      have hL' := pcl_len m g
      simp -implicitDefEqProofs only [go_sem, Nat.reduceAdd, Nat.reduceEqDiff, Nat.reduceLT, reduceIte, reduceCtorEq, Int.reduceLE, Int.reduceLT, Int.reduceEq, Int.reduceAdd, Int.reduceMul, Int.reduceSub, Nat.reduceMul, Nat.reduceSub, Nat.reducePow, Nat.reduceLeDiff, Int.reduceToNat, Tryz.f34, DD, x_app, x_ga0, x_gas, x_gan, Int.cast_ofNat_Int, eq_self, Int.zero_lt_one, Bool.not_false, Bool.not_true, beq_self_eq_true, PA, c1, c1', cN, cN']
      refine ⟨by omega, ?_⟩
      refine loop_of aW0_mono (fun k σ => ∃ sl cells i, σ = ⟨sl, [⟨cells, true, true⟩]⟩ ∧ k = n - i ∧ i ≤ n ∧ look sl 0 = .sl n (pcl n f) ∧ look sl 1 = .sl m (pcl m g) ∧ look sl 5 = .own 6 0 0 N ∧ look sl 6 = I64 (i : Nat) ∧ MR cells N (macc f g i 0)) ?_ (n := n)
        ⟨_, _, 0, rfl, rfl, Nat.zero_le _, by simp [x_look], by simp [x_look], by simp [x_look], by simp [x_look], (mr_zero N).congr (fun s => (macc_00 f g s).symm)⟩
      rintro k _ ⟨sl, cells, i, rfl, rfl, hi, k0, k1, k5, k6, hm⟩
      by_cases hid : i = n
      · subst hid
        rw [macc_end hs] at hm
        simp -implicitDefEqProofs only [go_sem, Nat.reduceAdd, Nat.reduceEqDiff, Nat.reduceLT, reduceIte, reduceCtorEq, Int.reduceLE, Int.reduceLT, Int.reduceEq, Int.reduceAdd, Int.reduceMul, Int.reduceSub, Nat.reduceMul, Nat.reduceSub, Nat.reducePow, Nat.reduceLeDiff, Int.reduceToNat, DD, x_app, x_ga0, x_gas, x_gan, Int.cast_ofNat_Int, eq_self, Int.zero_lt_one, Bool.not_false, Bool.not_true, beq_self_eq_true, k0, k1, k5, k6, Int.lt_irrefl]
        refine callK_ar annulusref11_Trim.call (rtrim_P hP hsN (by omega) (by omega)) (.cons (.row (cs := cells) (.inr ⟨0, true, rfl, rfl, by simp, hm.1⟩) hm.snp (isD_pcl _ _)) .nil) rfl ?_
        intro H' _
        simp -implicitDefEqProofs only [go_sem, Nat.reduceAdd, Nat.reduceEqDiff, Nat.reduceLT, reduceIte, reduceCtorEq, Int.reduceLE, Int.reduceLT, Int.reduceEq, Int.reduceAdd, Int.reduceMul, Int.reduceSub, Nat.reduceMul, Nat.reduceSub, Nat.reducePow, Nat.reduceLeDiff, Int.reduceToNat, DD, x_app, x_ga0, x_gas, x_gan, Int.cast_ofNat_Int, eq_self, Int.zero_lt_one, Bool.not_false, Bool.not_true, beq_self_eq_true, k0, k1, k5, k6]
        exact ⟨trivial, isD_PA _ _, rfl⟩
      · have c2 : (i : Int) < (n : Int) := by omega
        have ci : IntKind.i64.wrap ((i : Int) + 1) = ((i + 1 : Nat) : Int) := by rw [wrap_id (by omega)]; omega
        have c3 : (0 : Int) ≤ (i : Int) := by omega
        have c4 : i * 6 < n * 6 := by omega
        have c5 : i * 6 + 6 ≤ n * 6 := by omega
        have hc := pcl_el f (show i < n by omega)
        simp -implicitDefEqProofs only [go_sem, Nat.reduceAdd, Nat.reduceEqDiff, Nat.reduceLT, reduceIte, reduceCtorEq, Int.reduceLE, Int.reduceLT, Int.reduceEq, Int.reduceAdd, Int.reduceMul, Int.reduceSub, Nat.reduceMul, Nat.reduceSub, Nat.reducePow, Nat.reduceLeDiff, Int.reduceToNat, DD, x_app, x_ga0, x_gas, x_gan, Int.cast_ofNat_Int, eq_self, Int.zero_lt_one, Bool.not_false, Bool.not_true, beq_self_eq_true, k0, k1, k5, k6, ci, c2, c3, c4, c5, hc, hL, hL']
        refine loop_of aW0_mono (fun q σ => ∃ sl cells k, σ = ⟨sl, [⟨cells, true, true⟩]⟩ ∧ q = m - k ∧ k ≤ m ∧ look sl 0 = .sl n (pcl n f) ∧ look sl 1 = .sl m (pcl m g) ∧ look sl 5 = .own 6 0 0 N ∧ look sl 6 = I64 (i : Nat) ∧ look sl 7 = I64 (k : Nat) ∧ MR cells N (macc f g i k)) ?_ (n := m)
          ⟨_, cells, 0, rfl, rfl, Nat.zero_le _, by simp [x_look, k0], by simp [x_look, k1], by simp [x_look, k5], by simp [x_look, k6], by simp [x_look], hm⟩
        clear k0 k1 k5 k6 hm
        rintro q _ ⟨sl, cells, k, rfl, rfl, hk, k0, k1, k5, k6, k7, hm⟩
        by_cases hkd : k = m
        · subst hkd
          simp -implicitDefEqProofs only [go_sem, Nat.reduceAdd, Nat.reduceEqDiff, Nat.reduceLT, reduceIte, reduceCtorEq, Int.reduceLE, Int.reduceLT, Int.reduceEq, Int.reduceAdd, Int.reduceMul, Int.reduceSub, Nat.reduceMul, Nat.reduceSub, Nat.reducePow, Nat.reduceLeDiff, Int.reduceToNat, DD, x_app, x_ga0, x_gas, x_gan, Int.cast_ofNat_Int, eq_self, Int.zero_lt_one, Bool.not_false, Bool.not_true, beq_self_eq_true, k0, k1, k5, k6, k7, ci, Int.lt_irrefl]
          exact ⟨n - (i + 1), by omega, _, cells, i + 1, rfl, rfl, by omega, by simp [x_look, k0], by simp [x_look, k1], by simp [x_look, k5], by simp [x_look], by rw [← macc_row hs']; exact hm⟩
        · have d1 : (k : Int) < (m : Int) := by omega
          have ck : IntKind.i64.wrap ((k : Int) + 1) = ((k + 1 : Nat) : Int) := by rw [wrap_id (by omega)]; omega
          have d2 : (0 : Int) ≤ (k : Int) := by omega
          have d4 : k * 6 < m * 6 := by omega
          have d5 : k * 6 + 6 ≤ m * 6 := by omega
          have hc' := pcl_el g (show k < m by omega)
          have d6 : IntKind.i64.wrap ((i : Int) + (k : Int)) = ((i + k : Nat) : Int) := by rw [wrap_id (by omega)]; omega
          have d7 : (0 : Int) ≤ ((i + k : Nat) : Int) := by omega
          have d8 : ((i + k : Nat) : Int) < (N : Int) := by omega
          have d9 : (i + k) * 6 + 6 ≤ cells.length := by have := hm.1; omega
          have q1 := rmul8 (h i) (h' k) (by omega)
          have q2 := radd8 (hM i k (i + k)) ((h i).mul (h' k)) (by omega) (by omega)
          have hb := hm.2 (i + k) (by omega)
          simp -implicitDefEqProofs only [go_sem, Nat.reduceAdd, Nat.reduceEqDiff, Nat.reduceLT, reduceIte, reduceCtorEq, Int.reduceLE, Int.reduceLT, Int.reduceEq, Int.reduceAdd, Int.reduceMul, Int.reduceSub, Nat.reduceMul, Nat.reduceSub, Nat.reducePow, Nat.reduceLeDiff, Int.reduceToNat, DD, x_app, x_ga0, x_gas, x_gan, Int.cast_ofNat_Int, eq_self, Int.zero_lt_one, Bool.not_false, Bool.not_true, beq_self_eq_true, k0, k1, k5, k6, k7, ci, ck, c2, c3, c4, c5, hc, d1, d2, d4, d5, d6, d7, d8, d9, hc', hL, hL']
          refine callK_pl annulusref8_Mul.call (q1) (pl2 (pld_CI _) (pld_CI _)) ?_
          simp -implicitDefEqProofs only [go_sem, Nat.reduceAdd, Nat.reduceEqDiff, Nat.reduceLT, reduceIte, reduceCtorEq, Int.reduceLE, Int.reduceLT, Int.reduceEq, Int.reduceAdd, Int.reduceMul, Int.reduceSub, Nat.reduceMul, Nat.reduceSub, Nat.reducePow, Nat.reduceLeDiff, Int.reduceToNat, DD, x_app, x_ga0, x_gas, x_gan, Int.cast_ofNat_Int, eq_self, Int.zero_lt_one, Bool.not_false, Bool.not_true, beq_self_eq_true, k0, k1, k5, k6, k7, ci, ck, c2, c3, c4, c5, hc, d1, d2, d4, d5, d6, d7, d8, d9, hc', hL, hL']
          refine callK_pr annulusref8_Add.call q2 (.cons hb.plr (.cons (pld_CI _).r .nil)) ?_
          simp -implicitDefEqProofs only [go_sem, Nat.reduceAdd, Nat.reduceEqDiff, Nat.reduceLT, reduceIte, reduceCtorEq, Int.reduceLE, Int.reduceLT, Int.reduceEq, Int.reduceAdd, Int.reduceMul, Int.reduceSub, Nat.reduceMul, Nat.reduceSub, Nat.reducePow, Nat.reduceLeDiff, Int.reduceToNat, DD, x_app, x_ga0, x_gas, x_gan, Int.cast_ofNat_Int, eq_self, Int.zero_lt_one, Bool.not_false, Bool.not_true, beq_self_eq_true, k0, k1, k5, k6, k7, ci, ck, c2, c3, c4, c5, hc, d1, d2, d4, d5, d6, d7, d8, d9, hc', hL, hL']
          have hm2 := (hm.set (s0 := i + k) (by omega) (macc f g i k (i + k) + f i * g k)).congr (G := macc f g i (k + 1)) (fun s => by
            rw [macc_S f g i k s]
            by_cases e : s = i + k
            · rw [if_pos e, if_pos e, e]
            · rw [if_neg e, if_neg e])
          exact ⟨m - (k + 1), by omega, _, _, k + 1, rfl, rfl, by omega, by simp [x_look, k0], by simp [x_look, k1], by simp [x_look, k5], by simp [x_look, k6], by simp [x_look], hm2⟩
theorem PB.dp {f : Po} {B : Nat} (h : PB f B) (i : Nat) : PB (dp i f) B := fun k => h (k + i)
theorem Blk.len {l : List AV} {z : Cx} (h : Blk l z) : l.length = 6 := by rcases h with rfl | ⟨_, rfl⟩ <;> rfl
theorem Blk.take {l : List AV} {z : Cx} (h : Blk l z) : l.take 6 = l := List.take_of_length_le (Nat.le_of_eq h.len)
theorem pos_of {r : Nat} (h : r ≠ 0) : ∃ q, r = q + 1 := ⟨r - 1, by omega⟩
theorem x_leafOwn {sz k o n : Nat} : leafA (.own sz k o n) = true := rfl
attribute [go_sem] x_frz x_frk x_leafOwn
theorem x_tmod2 (i : Nat) : (i : Int).tmod 2 = ((i % 2 : Nat) : Int) := by rw [Int.tmod_eq_emod_of_nonneg (by omega)]; omega
/-- One appended to an own row. -/
theorem app_one {P : Program} {g : Operand → AV} {H : Heap} {s x : Operand} {t t' e e' : TypeId} {rt re rt' : TK} {K : AV → Heap → Prop} {cs news : List AV} {n m : Nat}
    (h1 : tk P t = some rt) (h2 : rt.sd = .sl e) (h3 : tk P e = some re) (h4 : tk P t' = some rt') (h5 : rt'.sd = .sl e') (hz : re.zero.length = re.size) (hpos : 0 < re.size)
    {k : Nat} (hA : g s = .own re.size k 0 n) (hH : H.getD k ⟨[], false, false⟩ = ⟨cs, true, true⟩) (hcl : cs.length = n * re.size) (hx : g x = .sl m news) (hl : news.length = m * re.size) (hleaf : news.all leafA = true) (hb : (n + m) * re.bytes ≤ 2 ^ 47) (hb2 : n + m ≤ 2 ^ 62)
    (hK : ∀ H', H'.getD H.length ⟨[], false, false⟩ = ⟨cs ++ news, true, true⟩ → H'.length = H.length + 1 → K (.own re.size H.length 0 (n + m)) H') : outK (appF P g H s x t t') K := by
  have hN : newsF P g H re x t' = some (news.length = m * re.size, m, news) := by
    unfold newsF
    rw [h4]; dsimp only; rw [h5]; dsimp only; rw [hx]
  unfold appF
  simp only [h1, h2, h3, hN]
  rw [hA]
  simp only [outK, hd, hH, List.drop_zero]
  rw [← hcl, List.take_length]
  refine ⟨⟨hl, trivial, hpos, trivial, by omega, hleaf, hz, hb, hb2⟩, ?_⟩
  refine hK _ ?_ (by simp)
  rw [List.getD_eq_getElem?_getD, List.getElem?_append_right (by simp)]; simp
theorem isD_PA2 (n m : Nat) (f g : Po) : IsD (.tup [PA n f, PA m g]) := isD_tup (fun c hc => by simp only [List.mem_cons, List.not_mem_nil, or_false] at hc; rcases hc with rfl | rfl <;> exact isD_PA _ _)
theorem len_two {H H' : Heap} {x : AObj} (h : H'.length = (H ++ [x]).length + 1) : H.length ≤ H'.length := by rw [h]; simp; omega
theorem leaf_pcl (n : Nat) (f : Po) : (pcl n f).all leafA = true := by
  induction n with
  | zero => rw [pcl0]; rfl
  | succ n ih => rw [pclS, List.all_append, ih]; rfl
theorem pcl_set {N i : Nat} {F : Po} (hi : i < N) (v : Cx) : spl (pcl N F) (i * 6) (CIc v) = pcl N (fun s => if s = i then v else F s) := by
  have h := (show MR (pcl N F) N F from ⟨pcl_len N F, fun s hs => .inl (pcl_el F hs)⟩).set hi v
  apply List.ext_getElem?
  intro j
  by_cases hj : j < N * 6
  · have h1 : ((spl (pcl N F) (i * 6) (CIc v)).drop (j / 6 * 6)).take 6 = ((pcl N (fun s => if s = i then v else F s)).drop (j / 6 * 6)).take 6 := by
      rw [pcl_el _ (show j / 6 < N by omega), blk_spl (pcl_len N F) rfl hi]
      by_cases e : j / 6 = i
      · rw [if_pos e, if_pos e]
      · rw [if_neg e, if_neg e, pcl_el F (by omega)]
    have h2 := congrArg (fun l => l[j % 6]?) h1
    simp only [List.getElem?_take, List.getElem?_drop] at h2
    rw [if_pos (by omega), if_pos (by omega), show j / 6 * 6 + j % 6 = j by omega] at h2
    simpa using h2
  · rw [List.getElem?_eq_none (by rw [h.1]; omega), List.getElem?_eq_none (by rw [pcl_len]; omega)]
/-- half of the places -/
theorem Sp.pE {n : Nat} {f : Po} (h : Sp n f) : Sp n (pE f) := fun k hk => h _ (by omega)
theorem Sp.pO {n : Nat} {f : Po} (h : Sp n f) : Sp n (pO f) := fun k hk => h _ (by omega)
theorem Sp.pE' {n : Nat} {f : Po} (h : Sp n f) : Sp ((n + 1) / 2) (Go.Ab.pE f) := fun k hk => h _ (by omega)
theorem Sp.pO' {n : Nat} {f : Po} (h : Sp n f) : Sp (n / 2) (Go.Ab.pO f) := fun k hk => h _ (by omega)
theorem rsl_frz {sz : Nat} {a : AV} {H : Heap} {cs : List AV} {n : Nat} (h : ASl sz a H cs n) : (a = .v (.slice none 0 0) ∧ n = 0 ∧ cs = []) ∨ ∃ k, a = .own sz k 0 n ∧ (fzAll H).getD k ⟨[], false, false⟩ = ⟨cs, true, false⟩ ∧ cs.length = n * sz := by
  rcases h with h1 | ⟨k, h1, h2, h3, h4⟩
  · exact .inl h1
  · refine .inr ⟨k, h1, ?_, h4⟩
    have := hd_fzAll H k
    unfold hd at this
    rw [this, h2]
/-- A call in a region that draws its order, with a frozen row. -/
theorem callK_fz {C : Ctx} {d : Bool} {f : FuncId} {a : AV} {n sz : Nat} {cs ds : List AV} {H : Heap} {r : AV} {K : AV → Heap → Prop} (hc : callable C.P f = true) (h : Sat C false f [.sl n ds] r)
    (ha : (a = .v (.slice none 0 0) ∧ n = 0 ∧ cs = []) ∨ ∃ k, a = .own sz k 0 n ∧ H.getD k ⟨[], false, false⟩ = ⟨cs, true, false⟩ ∧ cs.length = n * sz) (e : cs.map snap0 = ds) (hds : ∀ c ∈ ds, IsD c) (hd1 : d = true) (hK : K r H) : callK C d f [a] H K := by
  subst hd1
  refine callK_of false (H' := H) hc h rfl ?_ ?_ (fun b hb => by rw [List.mem_singleton] at hb; rw [hb]; exact isD_sl hds) hK
  · rcases ha with ⟨rfl, rfl, rfl⟩ | ⟨k, rfl, h2, h4⟩
    · subst e; rfl
    · show [AV.sl n (((H.getD k ⟨[], false, false⟩).cells.drop 0 |>.take (n * sz)).map snap0)] = _
      rw [h2, List.drop_zero, ← h4, List.take_length, e]
  · intro b hb
    rw [List.mem_singleton] at hb
    rw [hb]
    rcases ha with ⟨rfl, rfl, rfl⟩ | ⟨k, rfl, h2, h4⟩
    · trivial
    · show (H.getD k ⟨[], false, false⟩).rd = true ∧ (false = true ∨ (H.getD k ⟨[], false, false⟩).wr = false) ∧ 0 + n * sz ≤ (H.getD k ⟨[], false, false⟩).cells.length
      rw [h2]; exact ⟨rfl, .inr rfl, by show 0 + n * sz ≤ cs.length; omega⟩
end Go.Ab

set_option linter.unusedVariables false
set_option linter.unusedSimpArgs false
set_option linter.unusedSectionVars false
namespace Go.Ab
open Go.Proofs
open Cx (zero one)
attribute [-go_sem] appF newsF
variable {a b : AV} {z w : Cx} {B C n m : Nat} {cs ds : List AV} {f g : Po}
theorem AR.ext {H : Heap} {a d : AV} (h : AR H a d) (x : AObj) : AR (H ++ [x]) a d := by
  cases h with
  | pl h => exact .pl h
  | row h e hd => exact .row (h.ext x) e hd
  | none => exact .none
theorem own1_t {H : Heap} {a : AV} (h : own1 H false a) : own1 H true a := by
  cases a with
  | own sz k o n => exact ⟨h.1, .inl rfl, h.2.2⟩
  | _ => trivial
theorem ownOK_t {H : Heap} {a : AV} (h : ownOK H false a) : ownOK H true a := by
  cases a with
  | own sz k o n => exact ⟨h.1, .inl rfl, h.2.2⟩
  | agg cs => exact fun c hc => own1_t (h c hc)
  | tup cs => exact fun c hc => own1_t (h c hc)
  | _ => trivial
theorem ret_AR {H : Heap} {a d : AV} (h : AR H a d) : ownOK H true a ∧ IsD d ∧ snap H a = d := by
  cases h with
  | pl h => exact ⟨ownOK_t (h.own H), h.isd, h.snp H⟩
  | none => exact ⟨trivial, isD_nil 0, rfl⟩
  | row h e hd =>
    rcases h with ⟨rfl, rfl, rfl⟩ | ⟨k, wr, rfl, h2, h3, h4⟩
    · subst e; exact ⟨trivial, isD_nil 0, rfl⟩
    · refine ⟨?_, isD_sl hd, ?_⟩
      · simp only [ownOK, Go.Ab.hd, h2]; exact ⟨trivial, .inl trivial, by omega⟩
      · simp only [snap, Go.Ab.hd, h2, List.drop_zero]
        rw [← h4, List.take_length, e]
theorem rfrom_h (r : Nat → Cx) (hcs : cs.length = n * 6) (hr : ∀ i, i < n → RC (.agg ((cs.drop (i * 6)).take 6)) (r i) B) (hB : n * (B + 4) + B + 10 ≤ 19990) (hB1 : 1 ≤ B) (hn : n ≤ 100000) : HSat CT 16 [.sl n cs] [] (fun a H => AR H a (PA (n + 1) (frm r n))) := by
  refine hsat_of annulusref11_From.ok annulusref11_From.call (by simp) ?_
  have DD := annulusref11_From.dr
  simp only [drP, drPx, drPt, drR, drS, drT, bodyOf, Tryz.f16, Nat.reduceEqDiff, reduceIte, true_and, and_true] at DD
  have hcb : ∀ i, i < n → CB (r i) B := fun i hi => (hr i hi).cb
  have q0 := rof8_sat 1 0 (by omega) (by omega) (by omega) (by omega)
  rw [one_dv] at q0
  simp -implicitDefEqProofs only [go_sem, Nat.reduceAdd, Nat.reduceEqDiff, Nat.reduceLT, reduceIte, reduceCtorEq, Int.reduceLE, Int.reduceLT, Int.reduceEq, Int.reduceAdd, Int.reduceMul, Int.reduceSub, Nat.reduceMul, Nat.reduceSub, Nat.reducePow, Nat.reduceLeDiff, Int.reduceToNat, Tryz.f16, DD, x_app, x_ga0, x_gas, x_gan, Int.cast_ofNat_Int, eq_self, Int.zero_lt_one, Bool.not_false, Bool.not_true, beq_self_eq_true]
  refine callK_pl annulusref8_Of.call (q0) (pl2 pld_int pld_int) ?_
  simp -implicitDefEqProofs only [go_sem, Nat.reduceAdd, Nat.reduceEqDiff, Nat.reduceLT, reduceIte, reduceCtorEq, Int.reduceLE, Int.reduceLT, Int.reduceEq, Int.reduceAdd, Int.reduceMul, Int.reduceSub, Nat.reduceMul, Nat.reduceSub, Nat.reducePow, Nat.reduceLeDiff, Int.reduceToNat, DD, x_app, x_ga0, x_gas, x_gan, Int.cast_ofNat_Int, eq_self, Int.zero_lt_one, Bool.not_false, Bool.not_true, beq_self_eq_true]
  refine loop_of aW0_mono (fun q σ => ∃ sl H i, σ = ⟨sl, H⟩ ∧ q = n - i ∧ i ≤ n ∧ look sl 0 = .sl n cs ∧ look sl 4 = I64 (i : Nat) ∧ AR H (look sl 3) (PA (i + 1) (frm r i))) ?_ (n := n)
    ⟨_, _, 0, rfl, rfl, Nat.zero_le _, by simp [x_look], by simp [x_look], by simp only [x_look, reduceIte, Nat.reduceEqDiff]; exact .row (cs := CIc one) (.inr ⟨0, true, rfl, rfl, by simp, rfl⟩) (by rw [frm0]; rfl) (isD_pcl _ _)⟩
  rintro q _ ⟨sl, H, i, rfl, rfl, hi, k0, k4, hA⟩
  by_cases hid : i = n
  · subst hid
    simp -implicitDefEqProofs only [go_sem, Nat.reduceAdd, Nat.reduceEqDiff, Nat.reduceLT, reduceIte, reduceCtorEq, Int.reduceLE, Int.reduceLT, Int.reduceEq, Int.reduceAdd, Int.reduceMul, Int.reduceSub, Nat.reduceMul, Nat.reduceSub, Nat.reducePow, Nat.reduceLeDiff, Int.reduceToNat, DD, x_app, x_ga0, x_gas, x_gan, Int.cast_ofNat_Int, eq_self, Int.zero_lt_one, Bool.not_false, Bool.not_true, beq_self_eq_true, k0, k4, Int.lt_irrefl]
    exact hA
  · have c1 : (i : Int) < (n : Int) := by omega
    have ci : IntKind.i64.wrap ((i : Int) + 1) = ((i + 1 : Nat) : Int) := by rw [wrap_id (by omega)]; omega
    have c2 : (0 : Int) ≤ (i : Int) := by omega
    have c4 : i * 6 < cs.length := by omega
    have c5 : i * 6 + 6 ≤ cs.length := by omega
    have hri := hr i (by omega)
    obtain ⟨s, l, e, t, kk, gg, hc, _⟩ := id hri
    rw [hc] at hri
    have hc : (cs.drop (i * 6)).take 6 = [Bo s, U32 l, I64 e, Bo t, U32 kk, I64 gg] := AV.agg.inj hc
    have hbi := PB.frm hcb hB1 (i := i) (by omega)
    have hle := Nat.mul_le_mul_right (B + 4) (show i + 1 ≤ n by omega)
    have e1 : (i + 1) * (B + 4) = i * (B + 3) + i + B + 4 := by rw [Nat.succ_mul, Nat.mul_succ i (B + 3)]; omega
    have q1 := rcplx_r hri (by omega)
    have q2 := rneg8 hri.cb (by omega)
    have q3 := rmul_s hbi (PB.lin hri.cb hB1) (Sp.frm r i) (Sp.lin (r i)) (by omega) (by omega)
    rw [dg_frmS r i (dg_frm r i), ← frmS] at q3
    simp -implicitDefEqProofs only [go_sem, Nat.reduceAdd, Nat.reduceEqDiff, Nat.reduceLT, reduceIte, reduceCtorEq, Int.reduceLE, Int.reduceLT, Int.reduceEq, Int.reduceAdd, Int.reduceMul, Int.reduceSub, Nat.reduceMul, Nat.reduceSub, Nat.reducePow, Nat.reduceLeDiff, Int.reduceToNat, DD, x_app, x_ga0, x_gas, x_gan, Int.cast_ofNat_Int, eq_self, Int.zero_lt_one, Bool.not_false, Bool.not_true, beq_self_eq_true, k0, k4, ci, c1, c2, c4, c5, hc]
    refine callK_pl annulusref8_Cplx.call (q1) (pl1 (pld_RC hri)) ?_
    simp -implicitDefEqProofs only [go_sem, Nat.reduceAdd, Nat.reduceEqDiff, Nat.reduceLT, reduceIte, reduceCtorEq, Int.reduceLE, Int.reduceLT, Int.reduceEq, Int.reduceAdd, Int.reduceMul, Int.reduceSub, Nat.reduceMul, Nat.reduceSub, Nat.reducePow, Nat.reduceLeDiff, Int.reduceToNat, DD, x_app, x_ga0, x_gas, x_gan, Int.cast_ofNat_Int, eq_self, Int.zero_lt_one, Bool.not_false, Bool.not_true, beq_self_eq_true, k0, k4, ci, c1, c2, c4, c5, hc]
    refine callK_pl annulusref8_Neg.call (q2) (pl1 (pld_CI _)) ?_
    simp -implicitDefEqProofs only [go_sem, Nat.reduceAdd, Nat.reduceEqDiff, Nat.reduceLT, reduceIte, reduceCtorEq, Int.reduceLE, Int.reduceLT, Int.reduceEq, Int.reduceAdd, Int.reduceMul, Int.reduceSub, Nat.reduceMul, Nat.reduceSub, Nat.reducePow, Nat.reduceLeDiff, Int.reduceToNat, DD, x_app, x_ga0, x_gas, x_gan, Int.cast_ofNat_Int, eq_self, Int.zero_lt_one, Bool.not_false, Bool.not_true, beq_self_eq_true, k0, k4, ci, c1, c2, c4, c5, hc]
    refine callK_pl annulusref8_Of.call (q0) (pl2 pld_int pld_int) ?_
    simp -implicitDefEqProofs only [go_sem, Nat.reduceAdd, Nat.reduceEqDiff, Nat.reduceLT, reduceIte, reduceCtorEq, Int.reduceLE, Int.reduceLT, Int.reduceEq, Int.reduceAdd, Int.reduceMul, Int.reduceSub, Nat.reduceMul, Nat.reduceSub, Nat.reducePow, Nat.reduceLeDiff, Int.reduceToNat, DD, x_app, x_ga0, x_gas, x_gan, Int.cast_ofNat_Int, eq_self, Int.zero_lt_one, Bool.not_false, Bool.not_true, beq_self_eq_true, k0, k4, ci, c1, c2, c4, c5, hc, CIc]
    refine callK_ar annulusref11_Mul.call q3 (.cons (hA.ext _) (.cons (.row (cs := CIc (- r i) ++ CIc one) (.inr ⟨_, true, rfl, x_hget, by simp, rfl⟩) rfl (isD_pcl _ _)) .nil)) rfl ?_
    intro H' _
    simp -implicitDefEqProofs only [go_sem, Nat.reduceAdd, Nat.reduceEqDiff, Nat.reduceLT, reduceIte, reduceCtorEq, Int.reduceLE, Int.reduceLT, Int.reduceEq, Int.reduceAdd, Int.reduceMul, Int.reduceSub, Nat.reduceMul, Nat.reduceSub, Nat.reducePow, Nat.reduceLeDiff, Int.reduceToNat, DD, x_app, x_ga0, x_gas, x_gan, Int.cast_ofNat_Int, eq_self, Int.zero_lt_one, Bool.not_false, Bool.not_true, beq_self_eq_true, k0, k4, ci, c1, c2, c4, c5, hc]
    exact ⟨n - (i + 1), by omega, _, _, i + 1, rfl, rfl, by omega, by simp [x_look, k0], by simp [x_look], by simp only [x_look, reduceIte, Nat.reduceEqDiff]; exact .pl (pld_PA _ _)⟩
theorem rfrom_s (r : Nat → Cx) (hcs : cs.length = n * 6) (hr : ∀ i, i < n → RC (.agg ((cs.drop (i * 6)).take 6)) (r i) B) (hB : n * (B + 4) + B + 10 ≤ 19990) (hB1 : 1 ≤ B) (hn : n ≤ 100000) : Sat CT false 16 [.sl n cs] (PA (n + 1) (frm r n)) := sat_of_hsat (rfrom_h r hcs hr hB hB1 hn) (fun a H' q => ret_AR q)
end Go.Ab
