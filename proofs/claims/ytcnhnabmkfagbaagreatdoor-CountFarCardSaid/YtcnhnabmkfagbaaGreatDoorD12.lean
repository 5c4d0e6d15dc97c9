/- Contracts of this seat's functions (of each call: what it answers), walked over the abstract machine, and the laws of numbers that they want. Conditions: those that each theorem states. -/
import Derived.Test.YtcnhnabmkfagbaaGreatDoorD11
set_option linter.unusedVariables false
set_option maxRecDepth 20000
set_option linter.unusedSimpArgs false
set_option linter.unusedSectionVars false
namespace Go.Ab
open Go.Proofs
open Cx (zero one)
attribute [-go_sem] appF newsF
variable {a b : AV} {z w : Cx} {B C n m : Nat} {cs ds : List AV} {f g : Po}
/-- plain, and read as d -/
structure PlR (a d : AV) : Prop where
  isd : IsD d
  snp : ∀ H, snap H a = d
  own : ∀ H, ownOK H false a
  fzn : ∀ H l, fzArgs H (a :: l) = fzArgs H l
theorem PlD.r {a : AV} (h : PlD a) : PlR a a := ⟨h.isd, h.snp, h.own, h.fzn⟩
inductive PRs : List AV → List AV → Prop
  | nil : PRs [] []
  | cons {a d : AV} {l m : List AV} (h : PlR a d) (t : PRs l m) : PRs (a :: l) (d :: m)
theorem callK_pr {C : Ctx} {d : Bool} {f : FuncId} {args ds : List AV} {H : Heap} {r : AV} {K : AV → Heap → Prop} (hc : callable C.P f = true) (h : Sat C false f ds r) (ha : PRs args ds) (hK : K r H) : callK C d f args H K := by
  have key : fzArgs H args = H ∧ args.map (snap H) = ds ∧ (∀ a ∈ args, ownOK H false a) ∧ ∀ a ∈ ds, IsD a := by
    clear h
    induction ha with
    | nil => exact ⟨rfl, rfl, fun a q => (by cases q), fun a q => (by cases q)⟩
    | cons h t ih =>
      obtain ⟨q1, q2, q3, q4⟩ := ih
      refine ⟨(h.fzn _ _).trans q1, by rw [List.map_cons, h.snp, q2], fun b hb => ?_, fun b hb => ?_⟩
      · rcases List.mem_cons.1 hb with rfl | hb
        · exact h.own _
        · exact q3 b hb
      · rcases List.mem_cons.1 hb with rfl | hb
        · exact h.isd
        · exact q4 b hb
  have e2 : fzH d false H args = H := by cases d; exact key.1; rfl
  exact callK_of false hc h e2 key.2.1 key.2.2.1 key.2.2.2 hK
def zc6 : List AV := [Bo false, .v (.slice none 0 0), I64 0, Bo false, .v (.slice none 0 0), I64 0]
/-- six cells that read as a point -/
def Blk (l : List AV) (z : Cx) : Prop := l = CIc z ∨ (z = zero ∧ l = zc6)
theorem Blk.plr {l : List AV} {z : Cx} (h : Blk l z) : PlR (.agg l) (CI z) := by
  rcases h with rfl | ⟨rfl, rfl⟩
  · exact (pld_CI z).r
  · refine ⟨(pld_CI zero).isd, fun H => by rw [CI_0]; rfl, fun H c hc => ?_, fun H l => rfl⟩
    simp only [zc6, List.mem_cons, List.not_mem_nil, or_false] at hc
    rcases hc with rfl | rfl | rfl | rfl | rfl | rfl <;> trivial
theorem CIc_0 : CIc zero = [Bo false, .sl 0 [], I64 0, Bo false, .sl 0 [], I64 0] := AV.agg.inj CI_0
theorem Blk.snp {l : List AV} {z : Cx} (h : Blk l z) : l.map snap0 = CIc z := by
  rcases h with rfl | ⟨rfl, rfl⟩
  · rfl
  · rw [CIc_0]; rfl
/-- a row of cells that reads as coefficients -/
def MR (cells : List AV) (N : Nat) (F : Po) : Prop := cells.length = N * 6 ∧ ∀ s, s < N → Blk ((cells.drop (s * 6)).take 6) (F s)
theorem spl_get {cells vc : List AV} {off : Nat} (h : off + vc.length ≤ cells.length) (j : Nat) : (spl cells off vc)[j]? = if off ≤ j ∧ j < off + vc.length then vc[j - off]? else cells[j]? := by
  unfold spl
  rcases Nat.lt_or_ge j off with h1 | h1
  · rw [if_neg (by omega), List.getElem?_append_left (by simp; omega), List.getElem?_append_left (by simp; omega), List.getElem?_take, if_pos h1]
  · rcases Nat.lt_or_ge j (off + vc.length) with h2 | h2
    · rw [if_pos ⟨h1, h2⟩, List.getElem?_append_left (by simp; omega), List.getElem?_append_right (by simp; omega)]
      congr 1; simp; omega
    · rw [if_neg (by omega), List.getElem?_append_right (by simp; omega), List.getElem?_drop]
      congr 1; simp; omega
theorem spl_len {cells vc : List AV} {off : Nat} (h : off + vc.length ≤ cells.length) : (spl cells off vc).length = cells.length := by
  unfold spl; simp; omega
theorem blk_spl {cells vc : List AV} {N s0 s : Nat} (hl : cells.length = N * 6) (hv : vc.length = 6) (h0 : s0 < N) : ((spl cells (s0 * 6) vc).drop (s * 6)).take 6 = if s = s0 then vc else (cells.drop (s * 6)).take 6 := by
  have hle : s0 * 6 + vc.length ≤ cells.length := by omega
  by_cases h : s = s0
  · subst h
    rw [if_pos rfl]
    apply List.ext_getElem?
    intro j
    rw [List.getElem?_take, List.getElem?_drop, spl_get hle]
    by_cases hj : j < 6
    · rw [if_pos hj, if_pos (by omega)]; congr 1; omega
    · rw [if_neg hj, List.getElem?_eq_none (by omega)]
  · rw [if_neg h]
    apply List.ext_getElem?
    intro j
    rw [List.getElem?_take, List.getElem?_take, List.getElem?_drop, List.getElem?_drop, spl_get hle]
    by_cases hj : j < 6
    · rw [if_pos hj, if_pos hj, if_neg (by omega)]
    · rw [if_neg hj, if_neg hj]
theorem MR.set {cells : List AV} {N s0 : Nat} {F : Po} (h : MR cells N F) (h0 : s0 < N) (v : Cx) : MR (spl cells (s0 * 6) (CIc v)) N (fun s => if s = s0 then v else F s) := by
  refine ⟨by rw [spl_len (by have := h.1; show s0 * 6 + 6 ≤ _; omega)]; exact h.1, fun s hs => ?_⟩
  rw [blk_spl h.1 rfl h0]
  show Blk _ (if s = s0 then v else F s)
  by_cases e : s = s0
  · rw [if_pos e, if_pos e]; exact .inl rfl
  · rw [if_neg e, if_neg e]; exact h.2 s hs
theorem MR.congr {cells : List AV} {N : Nat} {F G : Po} (h : MR cells N F) (e : ∀ s, F s = G s) : MR cells N G := ⟨h.1, fun s hs => by rw [← e s]; exact h.2 s hs⟩
theorem MR.snp {cells : List AV} {N : Nat} {F : Po} (h : MR cells N F) : cells.map snap0 = pcl N F := by
  have key : ∀ i, i ≤ N → (cells.take (i * 6)).map snap0 = pcl i F := by
    intro i
    induction i with
    | zero => intro _; rw [pcl0, Nat.zero_mul]; rfl
    | succ i ih =>
      intro hi
      rw [pclS, ← ih (by omega), ← (h.2 i (by omega)).snp, ← List.map_append, Nat.succ_mul, List.take_add]
  have := key N (Nat.le_refl N)
  rwa [← h.1, List.take_length] at this
theorem mr_zero (N : Nat) : MR (zerosA [.bool false, .slice none 0 0, .int .i64 0, .bool false, .slice none 0 0, .int .i64 0] N) N pz := by
  refine ⟨zer_len N, fun s hs => .inr ⟨rfl, ?_⟩⟩
  apply List.ext_getElem?
  intro j
  rw [List.getElem?_take, List.getElem?_drop]
  by_cases hj : j < 6
  · rw [if_pos hj]
    unfold zerosA
    rw [List.getElem?_map, List.getElem?_range (by show s * 6 + j < N * 6; omega)]
    have : (s * 6 + j) % 6 = j := by omega
    show some (AV.v (([.bool false, .slice none 0 0, .int .i64 0, .bool false, .slice none 0 0, .int .i64 0] : List Value).getD ((s * 6 + j) % 6) undef)) = _
    rw [this]
    match j, hj with
    | 0, _ => rfl
    | 1, _ => rfl
    | 2, _ => rfl
    | 3, _ => rfl
    | 4, _ => rfl
    | 5, _ => rfl
  · rw [if_neg hj]; exact (List.getElem?_eq_none (by show 6 ≤ j; omega)).symm
theorem pmul_s (h : RP cs n f B) (h' : RP ds m g C) (hB : B + C + n ≤ 19990) (hcs : ∀ c ∈ cs, IsD c) (hds : ∀ c ∈ ds, IsD c) (hnm : n + m ≤ 1000000) : Sat CT false 65 [.sl n cs, .sl m ds] (PA (dg (n + m) (conv f g)) (conv f g)) := by
  refine sat_of poly_Mul.ok (by simp) ?_
  have DD := poly_Mul.dr
  simp only [drP, drPx, drPt, drR, drS, drT, bodyOf, Tryz.f65, Nat.reduceEqDiff, reduceIte, true_and, and_true] at DD
  have hlen := h.len
  have hlen' := h'.len
  have hP := PB.conv h.pb h'.pb h.sp
  have hsp := Sp.conv1 h.sp h'.sp
  have hM := PB.macc h.pb h'.pb
  have cN : IntKind.i64.wrap ((n : Int) + (m : Int)) = ((n + m : Nat) : Int) := by rw [wrap_id (by omega)]; omega
  simp -implicitDefEqProofs only [go_sem, simprocAttr, -Int.reducePow, Tryz.f65, DD, x_app, x_ga0, x_gas, x_gan, Int.cast_ofNat_Int, eq_self, Int.zero_lt_one, Bool.not_false, Bool.not_true, beq_self_eq_true, cN]
  refine ⟨by omega, ?_⟩
  refine loop_of aW0_mono (fun k σ => ∃ sl H cells i, σ = ⟨sl, H⟩ ∧ k = n - i ∧ i ≤ n ∧ look sl 0 = .sl n cs ∧ look sl 1 = .sl m ds ∧ look sl 5 = .own 6 0 0 (n + m) ∧ look sl 16 = .sl n cs ∧ look sl 17 = I64 (n : Nat) ∧ look sl 18 = I64 (i : Nat) ∧ 0 < H.length ∧ H.getD 0 ⟨[], false, false⟩ = ⟨cells, true, true⟩ ∧ MR cells (n + m) (macc f g i 0)) ?_ (n := n)
    ⟨_, _, _, 0, rfl, rfl, Nat.zero_le _, by simp [x_look], by simp [x_look], by simp [x_look], by simp [x_look], by simp [x_look], by simp [x_look], by simp, rfl, (mr_zero (n + m)).congr (fun s => (macc_00 f g s).symm)⟩
  rintro k _ ⟨sl, H, cells, i, rfl, rfl, hi, k0, k1, k5, k16, k17, k18, hH, hg0, hm⟩
  by_cases hid : i = n
  · subst hid
    rw [macc_end h.sp] at hm
    simp -implicitDefEqProofs only [go_sem, simprocAttr, -Int.reducePow, DD, x_app, x_ga0, x_gas, x_gan, Int.cast_ofNat_Int, eq_self, Int.zero_lt_one, Bool.not_false, Bool.not_true, beq_self_eq_true, k0, k1, k5, k16, k17, k18, Int.lt_irrefl]
    refine callK_ar poly_Trim.call (ptrim_P hP hsp hnm (by omega)) (.cons (.row (cs := cells) (.inr ⟨0, true, rfl, hg0, hH, hm.1⟩) hm.snp (isD_pcl _ _)) .nil) rfl ?_
    intro H' _
    simp -implicitDefEqProofs only [go_sem, simprocAttr, -Int.reducePow, DD, x_app, x_ga0, x_gas, x_gan, Int.cast_ofNat_Int, eq_self, Int.zero_lt_one, Bool.not_false, Bool.not_true, beq_self_eq_true, k0, k1, k5, k16, k17, k18]
    exact ⟨trivial, isD_PA _ _, rfl⟩
  · have c1 : (i : Int) < (n : Int) := by omega
    have ci : IntKind.i64.wrap ((i : Int) + 1) = ((i + 1 : Nat) : Int) := by rw [wrap_id (by omega)]; omega
    have c2 : (0 : Int) ≤ (i : Int) := by omega
    have c4 : i * 6 < cs.length := by omega
    have c5 : i * 6 + 6 ≤ cs.length := by omega
    obtain ⟨s, l, e, t, kk, gg, hc, hr⟩ := h.cells (i := i) (by omega)
    simp -implicitDefEqProofs only [go_sem, simprocAttr, -Int.reducePow, DD, x_app, x_ga0, x_gas, x_gan, Int.cast_ofNat_Int, eq_self, Int.zero_lt_one, Bool.not_false, Bool.not_true, beq_self_eq_true, k0, k1, k5, k16, k17, k18, ci, c1, c2, c4, c5, hc]
    refine loop_of aW0_mono (fun q σ => ∃ sl H cells k, σ = ⟨sl, H⟩ ∧ q = m - k ∧ k ≤ m ∧ look sl 0 = .sl n cs ∧ look sl 1 = .sl m ds ∧ look sl 5 = .own 6 0 0 (n + m) ∧ look sl 16 = .sl n cs ∧ look sl 17 = I64 (n : Nat) ∧ look sl 18 = I64 (i : Nat) ∧ look sl 6 = I64 (i : Nat) ∧ look sl 23 = .sl m ds ∧ look sl 24 = I64 (m : Nat) ∧ look sl 25 = I64 (k : Nat) ∧ 0 < H.length ∧ H.getD 0 ⟨[], false, false⟩ = ⟨cells, true, true⟩ ∧ MR cells (n + m) (macc f g i k) ∧ ∃ ka, look sl 7 = .ptr ka 0 ∧ ka < H.length ∧ ka ≠ 0 ∧ H.getD ka ⟨[], false, false⟩ = ⟨[Bo s, U32 l, I64 e, Bo t, U32 kk, I64 gg], true, true⟩) ?_ (n := m)
      ⟨_, _, cells, 0, rfl, rfl, Nat.zero_le _, by simp [x_look, k0], by simp [x_look, k1], by simp [x_look, k5], by simp [x_look, k16], by simp [x_look, k17], by simp [x_look, k18], by simp [x_look], by simp [x_look], by simp [x_look], by simp [x_look], by simp, by rw [getD_hp hH]; exact hg0, hm, H.length, by simp [x_look], by simp, by omega, by rw [x_hget]; rfl⟩
    clear k0 k1 k5 k16 k17 k18 hg0 hm hH
    rintro q _ ⟨sl, H, cells, k, rfl, rfl, hk, k0, k1, k5, k16, k17, k18, k6, k23, k24, k25, hH, hg0, hm, ka, k7, hka, hka0, hga⟩
    by_cases hkd : k = m
    · subst hkd
      simp -implicitDefEqProofs only [go_sem, simprocAttr, -Int.reducePow, DD, x_app, x_ga0, x_gas, x_gan, Int.cast_ofNat_Int, eq_self, Int.zero_lt_one, Bool.not_false, Bool.not_true, beq_self_eq_true, k0, k1, k5, k16, k17, k18, k6, k23, k24, k25, k7, ci, Int.lt_irrefl]
      exact ⟨n - (i + 1), by omega, _, _, cells, i + 1, rfl, rfl, by omega, by simp [x_look, k0], by simp [x_look, k1], by simp [x_look, k5], by simp [x_look, k16], by simp [x_look, k17], by simp [x_look], hH, hg0, by rw [← macc_row h'.sp]; exact hm⟩
    · have d1 : (k : Int) < (m : Int) := by omega
      have ck : IntKind.i64.wrap ((k : Int) + 1) = ((k + 1 : Nat) : Int) := by rw [wrap_id (by omega)]; omega
      have d2 : (0 : Int) ≤ (k : Int) := by omega
      have d4 : k * 6 < ds.length := by omega
      have d5 : k * 6 + 6 ≤ ds.length := by omega
      obtain ⟨s', l', e', t', kk', gg', hc', hr'⟩ := h'.cells (i := k) (by omega)
      have d6 : IntKind.i64.wrap ((i : Int) + (k : Int)) = ((i + k : Nat) : Int) := by rw [wrap_id (by omega)]; omega
      have d7 : (0 : Int) ≤ ((i + k : Nat) : Int) := by omega
      have d8 : ((i + k : Nat) : Int) < ((n + m : Nat) : Int) := by omega
      have d9 : (i + k) * 6 + 6 ≤ cells.length := by have := hm.1; omega
      have g0 : ∀ y, (H ++ [y]).getD 0 ⟨[], false, false⟩ = ⟨cells, true, true⟩ := fun y => by rw [getD_hp hH]; exact hg0
      have ga : ∀ y, (H ++ [y]).getD ka ⟨[], false, false⟩ = ⟨[Bo s, U32 l, I64 e, Bo t, U32 kk, I64 gg], true, true⟩ := fun y => by rw [getD_hp hka]; exact hga
      have q1 := gmul_r hr hr' (by omega)
      have q2 := gadd_r (RC_C (hM i k (i + k))) (RC_C (hr.cb.mul hr'.cb)) (by omega) (by omega)
      have hb := hm.2 (i + k) (by omega)
      simp -implicitDefEqProofs only [go_sem, simprocAttr, -Int.reducePow, DD, x_app, x_ga0, x_gas, x_gan, Int.cast_ofNat_Int, eq_self, Int.zero_lt_one, Bool.not_false, Bool.not_true, beq_self_eq_true, k0, k1, k5, k16, k17, k18, k6, k23, k24, k25, k7, ci, ck, d1, d2, d4, d5, d6, d7, d8, d9, hc', g0, ga]
      refine callK_pl gauss_Mul.call (q1) (pl2 (pld_RC hr) (pld_RC hr')) ?_
      simp -implicitDefEqProofs only [go_sem, simprocAttr, -Int.reducePow, DD, x_app, x_ga0, x_gas, x_gan, Int.cast_ofNat_Int, eq_self, Int.zero_lt_one, Bool.not_false, Bool.not_true, beq_self_eq_true, k0, k1, k5, k16, k17, k18, k6, k23, k24, k25, k7, ci, ck, d1, d2, d4, d5, d6, d7, d8, d9, hc', g0, ga]
      refine callK_pr gauss_Add.call q2 (.cons hb.plr (.cons (pld_CI _).r .nil)) ?_
      simp -implicitDefEqProofs only [go_sem, simprocAttr, -Int.reducePow, DD, x_app, x_ga0, x_gas, x_gan, Int.cast_ofNat_Int, eq_self, Int.zero_lt_one, Bool.not_false, Bool.not_true, beq_self_eq_true, k0, k1, k5, k16, k17, k18, k6, k23, k24, k25, k7, ci, ck, d1, d2, d4, d5, d6, d7, d8, d9, hc', g0, ga]
      have hm2 := (hm.set (s0 := i + k) (by omega) (macc f g i k (i + k) + f i * g k)).congr (G := macc f g i (k + 1)) (fun s => by
        rw [macc_S f g i k s]
        by_cases e : s = i + k
        · rw [if_pos e, if_pos e, e]
        · rw [if_neg e, if_neg e])
      exact ⟨m - (k + 1), by omega, _, _, _, k + 1, rfl, rfl, by omega, by simp [x_look, k0], by simp [x_look, k1], by simp [x_look, k5], by simp [x_look, k16], by simp [x_look, k17], by simp [x_look, k18], by simp [x_look, k6], by simp [x_look, k23], by simp [x_look, k24], by simp [x_look], by simp, by rw [getD_set (by simp)]; rfl, hm2, ka, by simp [x_look, k7], by simp; omega, hka0, by rw [getD_set (by simp; omega), if_neg (Ne.symm hka0)]; exact ga _⟩
end Go.Ab
