/- Contracts of this seat's functions (of each call: what it answers), walked over the abstract machine, and the laws of numbers that they want. Conditions: those that each theorem states. -/
import Derived.Test.YtcnhnabmkfagbaaGreatDoorD12
set_option linter.unusedVariables false
set_option maxRecDepth 20000
set_option linter.unusedSimpArgs false
set_option linter.unusedSectionVars false
namespace Go.Ab
open Go.Proofs
open Cx (zero one)
attribute [-go_sem] appF newsF
variable {a b : AV} {z w : Cx} {B C n m : Nat} {cs ds : List AV} {f g : Po}
theorem x_takeCIc {z : Cx} : (CIc z).take 6 = CIc z := rfl
attribute [go_sem] x_takeCIc
theorem rmul_s (h : PB f B) (h' : PB g C) (hs : Sp n f) (hs' : Sp m g) (hB : B + C + n ≤ 19990) (hnm : n + m ≤ 1000000) : Sat CT false 48 [PA n f, PA m g] (PA (dg (n + m) (conv f g)) (conv f g)) := by
  refine sat_of annulusref11_Mul.ok (by simp) ?_
  have DD := annulusref11_Mul.dr
  simp only [drP, drPx, drPt, drR, drS, drT, bodyOf, Tryz.f48, Nat.reduceEqDiff, reduceIte, true_and, and_true] at DD
  have hP := PB.conv h h' hs
  have hsp := Sp.conv1 hs hs'
  have hM := PB.macc h h'
  by_cases hn0 : n = 0
  · subst hn0
    rw [dg_conv0 hs hs' (.inl (dg0 f)), PA_0]
    simp -implicitDefEqProofs only [go_sem, simprocAttr, -Int.reducePow, Tryz.f48, DD, x_app, x_ga0, x_gas, x_gan, Int.cast_ofNat_Int, eq_self, Int.zero_lt_one, Bool.not_false, Bool.not_true, beq_self_eq_true, PA, Int.natCast_zero]
  · by_cases hm0 : m = 0
    · subst hm0
      rw [dg_conv0 hs hs' (.inr (dg0 g)), PA_0]
      have c1 : ¬ (n : Int) = 0 := by omega
      simp -implicitDefEqProofs only [go_sem, simprocAttr, -Int.reducePow, Tryz.f48, DD, x_app, x_ga0, x_gas, x_gan, Int.cast_ofNat_Int, eq_self, Int.zero_lt_one, Bool.not_false, Bool.not_true, beq_self_eq_true, PA, c1, Int.natCast_zero]
    · obtain ⟨N, hN⟩ : ∃ N, n + m = N + 1 := ⟨n + m - 1, by omega⟩
      have hsN : Sp N (conv f g) := by
        obtain ⟨n', rfl⟩ : ∃ n', n = n' + 1 := ⟨n - 1, by omega⟩
        obtain ⟨m', rfl⟩ : ∃ m', m = m' + 1 := ⟨m - 1, by omega⟩
        exact (Sp.conv hs hs').mono (by omega)
      rw [dg_ind hsp hsN]
      have c1 : ¬ (n : Int) = 0 := by omega
      have c1' : ¬ (m : Int) = 0 := by omega
      have cN : IntKind.i64.wrap ((n : Int) + (m : Int)) = ((N : Nat) : Int) + 1 := by rw [wrap_id (by omega)]; omega
      have cN' : IntKind.i64.wrap ((N : Int) + 1 - 1) = ((N : Nat) : Int) := by rw [wrap_id (by omega)]; omega
      have hL := pcl_len n f
      have hL' := pcl_len m g
      simp -implicitDefEqProofs only [go_sem, simprocAttr, -Int.reducePow, Tryz.f48, DD, x_app, x_ga0, x_gas, x_gan, Int.cast_ofNat_Int, eq_self, Int.zero_lt_one, Bool.not_false, Bool.not_true, beq_self_eq_true, PA, c1, c1', cN, cN']
      refine ⟨by omega, ?_⟩
      refine loop_of aW0_mono (fun k σ => ∃ sl cells i, σ = ⟨sl, [⟨cells, true, true⟩]⟩ ∧ k = n - i ∧ i ≤ n ∧ look sl 0 = .sl n (pcl n f) ∧ look sl 1 = .sl m (pcl m g) ∧ look sl 5 = .own 6 0 0 N ∧ look sl 6 = I64 (i : Nat) ∧ MR cells N (macc f g i 0)) ?_ (n := n)
        ⟨_, _, 0, rfl, rfl, Nat.zero_le _, by simp [x_look], by simp [x_look], by simp [x_look], by simp [x_look], (mr_zero N).congr (fun s => (macc_00 f g s).symm)⟩
      rintro k _ ⟨sl, cells, i, rfl, rfl, hi, k0, k1, k5, k6, hm⟩
      by_cases hid : i = n
      · subst hid
        rw [macc_end hs] at hm
        simp -implicitDefEqProofs only [go_sem, simprocAttr, -Int.reducePow, DD, x_app, x_ga0, x_gas, x_gan, Int.cast_ofNat_Int, eq_self, Int.zero_lt_one, Bool.not_false, Bool.not_true, beq_self_eq_true, k0, k1, k5, k6, Int.lt_irrefl]
        refine callK_ar annulusref11_Trim.call (rtrim_P hP hsN (by omega) (by omega)) (.cons (.row (cs := cells) (.inr ⟨0, true, rfl, rfl, by simp, hm.1⟩) hm.snp (isD_pcl _ _)) .nil) rfl ?_
        intro H' _
        simp -implicitDefEqProofs only [go_sem, simprocAttr, -Int.reducePow, DD, x_app, x_ga0, x_gas, x_gan, Int.cast_ofNat_Int, eq_self, Int.zero_lt_one, Bool.not_false, Bool.not_true, beq_self_eq_true, k0, k1, k5, k6]
        exact ⟨trivial, isD_PA _ _, rfl⟩
      · have c2 : (i : Int) < (n : Int) := by omega
        have ci : IntKind.i64.wrap ((i : Int) + 1) = ((i + 1 : Nat) : Int) := by rw [wrap_id (by omega)]; omega
        have c3 : (0 : Int) ≤ (i : Int) := by omega
        have c4 : i * 6 < n * 6 := by omega
        have c5 : i * 6 + 6 ≤ n * 6 := by omega
        have hc := pcl_el f (show i < n by omega)
        simp -implicitDefEqProofs only [go_sem, simprocAttr, -Int.reducePow, DD, x_app, x_ga0, x_gas, x_gan, Int.cast_ofNat_Int, eq_self, Int.zero_lt_one, Bool.not_false, Bool.not_true, beq_self_eq_true, k0, k1, k5, k6, ci, c2, c3, c4, c5, hc, hL, hL']
        refine loop_of aW0_mono (fun q σ => ∃ sl cells k, σ = ⟨sl, [⟨cells, true, true⟩]⟩ ∧ q = m - k ∧ k ≤ m ∧ look sl 0 = .sl n (pcl n f) ∧ look sl 1 = .sl m (pcl m g) ∧ look sl 5 = .own 6 0 0 N ∧ look sl 6 = I64 (i : Nat) ∧ look sl 7 = I64 (k : Nat) ∧ MR cells N (macc f g i k)) ?_ (n := m)
          ⟨_, cells, 0, rfl, rfl, Nat.zero_le _, by simp [x_look, k0], by simp [x_look, k1], by simp [x_look, k5], by simp [x_look, k6], by simp [x_look], hm⟩
        clear k0 k1 k5 k6 hm
        rintro q _ ⟨sl, cells, k, rfl, rfl, hk, k0, k1, k5, k6, k7, hm⟩
        by_cases hkd : k = m
        · subst hkd
          simp -implicitDefEqProofs only [go_sem, simprocAttr, -Int.reducePow, DD, x_app, x_ga0, x_gas, x_gan, Int.cast_ofNat_Int, eq_self, Int.zero_lt_one, Bool.not_false, Bool.not_true, beq_self_eq_true, k0, k1, k5, k6, k7, ci, Int.lt_irrefl]
          exact ⟨n - (i + 1), by omega, _, cells, i + 1, rfl, rfl, by omega, by simp [x_look, k0], by simp [x_look, k1], by simp [x_look, k5], by simp [x_look], by rw [← macc_row hs']; exact hm⟩
        · have d1 : (k : Int) < (m : Int) := by omega
          have ck : IntKind.i64.wrap ((k : Int) + 1) = ((k + 1 : Nat) : Int) := by rw [wrap_id (by omega)]; omega
          have d2 : (0 : Int) ≤ (k : Int) := by omega
          have d4 : k * 6 < m * 6 := by omega
          have d5 : k * 6 + 6 ≤ m * 6 := by omega
          have hc' := pcl_el g (show k < m by omega)
          have d6 : IntKind.i64.wrap ((i : Int) + (k : Int)) = ((i + k : Nat) : Int) := by rw [wrap_id (by omega)]; omega
          have d7 : (0 : Int) ≤ ((i + k : Nat) : Int) := by omega
          have d8 : ((i + k : Nat) : Int) < (N : Int) := by omega
          have d9 : (i + k) * 6 + 6 ≤ cells.length := by have := hm.1; omega
          have q1 := rmul8 (h i) (h' k) (by omega)
          have q2 := radd8 (hM i k (i + k)) ((h i).mul (h' k)) (by omega) (by omega)
          have hb := hm.2 (i + k) (by omega)
          simp -implicitDefEqProofs only [go_sem, simprocAttr, -Int.reducePow, DD, x_app, x_ga0, x_gas, x_gan, Int.cast_ofNat_Int, eq_self, Int.zero_lt_one, Bool.not_false, Bool.not_true, beq_self_eq_true, k0, k1, k5, k6, k7, ci, ck, c2, c3, c4, c5, hc, d1, d2, d4, d5, d6, d7, d8, d9, hc', hL, hL']
          refine callK_pl annulusref8_Mul.call (q1) (pl2 (pld_CI _) (pld_CI _)) ?_
          simp -implicitDefEqProofs only [go_sem, simprocAttr, -Int.reducePow, DD, x_app, x_ga0, x_gas, x_gan, Int.cast_ofNat_Int, eq_self, Int.zero_lt_one, Bool.not_false, Bool.not_true, beq_self_eq_true, k0, k1, k5, k6, k7, ci, ck, c2, c3, c4, c5, hc, d1, d2, d4, d5, d6, d7, d8, d9, hc', hL, hL']
          refine callK_pr annulusref8_Add.call q2 (.cons hb.plr (.cons (pld_CI _).r .nil)) ?_
          simp -implicitDefEqProofs only [go_sem, simprocAttr, -Int.reducePow, DD, x_app, x_ga0, x_gas, x_gan, Int.cast_ofNat_Int, eq_self, Int.zero_lt_one, Bool.not_false, Bool.not_true, beq_self_eq_true, k0, k1, k5, k6, k7, ci, ck, c2, c3, c4, c5, hc, d1, d2, d4, d5, d6, d7, d8, d9, hc', hL, hL']
          have hm2 := (hm.set (s0 := i + k) (by omega) (macc f g i k (i + k) + f i * g k)).congr (G := macc f g i (k + 1)) (fun s => by
            rw [macc_S f g i k s]
            by_cases e : s = i + k
            · rw [if_pos e, if_pos e, e]
            · rw [if_neg e, if_neg e])
          exact ⟨m - (k + 1), by omega, _, _, k + 1, rfl, rfl, by omega, by simp [x_look, k0], by simp [x_look, k1], by simp [x_look, k5], by simp [x_look, k6], by simp [x_look], hm2⟩
theorem PB.dp {f : Po} {B : Nat} (h : PB f B) (i : Nat) : PB (dp i f) B := fun k => h (k + i)
theorem Blk.len {l : List AV} {z : Cx} (h : Blk l z) : l.length = 6 := by rcases h with rfl | ⟨_, rfl⟩ <;> rfl
theorem Blk.take {l : List AV} {z : Cx} (h : Blk l z) : l.take 6 = l := List.take_of_length_le (Nat.le_of_eq h.len)
theorem pos_of {r : Nat} (h : r ≠ 0) : ∃ q, r = q + 1 := ⟨r - 1, by omega⟩
theorem x_leafOwn {sz k o n : Nat} : leafA (.own sz k o n) = true := rfl
attribute [go_sem] x_frz x_frk x_leafOwn
theorem x_tmod2 (i : Nat) : (i : Int).tmod 2 = ((i % 2 : Nat) : Int) := by rw [Int.tmod_eq_emod_of_nonneg (by omega)]; omega
/-- One appended to an own row. -/
theorem app_one {P : Program} {g : Operand → AV} {H : Heap} {s x : Operand} {t t' e e' : TypeId} {rt re rt' : TK} {K : AV → Heap → Prop} {cs news : List AV} {n m : Nat}
    (h1 : tk P t = some rt) (h2 : rt.sd = .sl e) (h3 : tk P e = some re) (h4 : tk P t' = some rt') (h5 : rt'.sd = .sl e') (hz : re.zero.length = re.size) (hpos : 0 < re.size)
    {k : Nat} (hA : g s = .own re.size k 0 n) (hH : H.getD k ⟨[], false, false⟩ = ⟨cs, true, true⟩) (hcl : cs.length = n * re.size) (hx : g x = .sl m news) (hl : news.length = m * re.size) (hleaf : news.all leafA = true) (hb : (n + m) * re.bytes ≤ 2 ^ 47) (hb2 : n + m ≤ 2 ^ 62)
    (hK : ∀ H', H'.getD H.length ⟨[], false, false⟩ = ⟨cs ++ news, true, true⟩ → H'.length = H.length + 1 → K (.own re.size H.length 0 (n + m)) H') : outK (appF P g H s x t t') K := by
  have hN : newsF P g H re x t' = some (news.length = m * re.size, m, news) := by
    unfold newsF
    rw [h4]; dsimp only; rw [h5]; dsimp only; rw [hx]
  unfold appF
  simp only [h1, h2, h3, hN]
  rw [hA]
  simp only [outK, hd, hH, List.drop_zero]
  rw [← hcl, List.take_length]
  refine ⟨⟨hl, trivial, hpos, trivial, by omega, hleaf, hz, hb, hb2⟩, ?_⟩
  refine hK _ ?_ (by simp)
  rw [List.getD_eq_getElem?_getD, List.getElem?_append_right (by simp)]; simp
theorem isD_PA2 (n m : Nat) (f g : Po) : IsD (.tup [PA n f, PA m g]) := isD_tup (fun c hc => by simp only [List.mem_cons, List.not_mem_nil, or_false] at hc; rcases hc with rfl | rfl <;> exact isD_PA _ _)
theorem leaf_pcl (n : Nat) (f : Po) : (pcl n f).all leafA = true := by
  induction n with
  | zero => rw [pcl0]; rfl
  | succ n ih => rw [pclS, List.all_append, ih]; rfl
theorem pcl_set {N i : Nat} {F : Po} (hi : i < N) (v : Cx) : spl (pcl N F) (i * 6) (CIc v) = pcl N (fun s => if s = i then v else F s) := by
  have h := (show MR (pcl N F) N F from ⟨pcl_len N F, fun s hs => .inl (pcl_el F hs)⟩).set hi v
  apply List.ext_getElem?
  intro j
  by_cases hj : j < N * 6
  · have h1 : ((spl (pcl N F) (i * 6) (CIc v)).drop (j / 6 * 6)).take 6 = ((pcl N (fun s => if s = i then v else F s)).drop (j / 6 * 6)).take 6 := by
      rw [pcl_el _ (show j / 6 < N by omega), blk_spl (pcl_len N F) rfl hi]
      by_cases e : j / 6 = i
      · rw [if_pos e, if_pos e]
      · rw [if_neg e, if_neg e, pcl_el F (by omega)]
    have h2 := congrArg (fun l => l[j % 6]?) h1
    simp only [List.getElem?_take, List.getElem?_drop] at h2
    rw [if_pos (by omega), if_pos (by omega), show j / 6 * 6 + j % 6 = j by omega] at h2
    simpa using h2
  · rw [List.getElem?_eq_none (by rw [h.1]; omega), List.getElem?_eq_none (by rw [pcl_len]; omega)]
/-- half of the places -/
theorem Sp.pE {n : Nat} {f : Po} (h : Sp n f) : Sp n (pE f) := fun k hk => h _ (by omega)
theorem Sp.pO {n : Nat} {f : Po} (h : Sp n f) : Sp n (pO f) := fun k hk => h _ (by omega)
theorem Sp.pE' {n : Nat} {f : Po} (h : Sp n f) : Sp ((n + 1) / 2) (Go.Ab.pE f) := fun k hk => h _ (by omega)
theorem Sp.pO' {n : Nat} {f : Po} (h : Sp n f) : Sp (n / 2) (Go.Ab.pO f) := fun k hk => h _ (by omega)
theorem rsl_frz {sz : Nat} {a : AV} {H : Heap} {cs : List AV} {n : Nat} (h : ASl sz a H cs n) : (a = .v (.slice none 0 0) ∧ n = 0 ∧ cs = []) ∨ ∃ k, a = .own sz k 0 n ∧ (fzAll H).getD k ⟨[], false, false⟩ = ⟨cs, true, false⟩ ∧ cs.length = n * sz := by
  rcases h with h1 | ⟨k, h1, h2, h3, h4⟩
  · exact .inl h1
  · refine .inr ⟨k, h1, ?_, h4⟩
    have := hd_fzAll H k
    unfold hd at this
    rw [this, h2]
/-- A call in a region that draws its order, with a frozen row. -/
theorem callK_fz {C : Ctx} {d : Bool} {f : FuncId} {a : AV} {n sz : Nat} {cs ds : List AV} {H : Heap} {r : AV} {K : AV → Heap → Prop} (hc : callable C.P f = true) (h : Sat C false f [.sl n ds] r)
    (ha : (a = .v (.slice none 0 0) ∧ n = 0 ∧ cs = []) ∨ ∃ k, a = .own sz k 0 n ∧ H.getD k ⟨[], false, false⟩ = ⟨cs, true, false⟩ ∧ cs.length = n * sz) (e : cs.map snap0 = ds) (hds : ∀ c ∈ ds, IsD c) (hd1 : d = true) (hK : K r H) : callK C d f [a] H K := by
  subst hd1
  refine callK_of false (H' := H) hc h rfl ?_ ?_ (fun b hb => by rw [List.mem_singleton] at hb; rw [hb]; exact isD_sl hds) hK
  · rcases ha with ⟨rfl, rfl, rfl⟩ | ⟨k, rfl, h2, h4⟩
    · subst e; rfl
    · show [AV.sl n (((H.getD k ⟨[], false, false⟩).cells.drop 0 |>.take (n * sz)).map snap0)] = _
      rw [h2, List.drop_zero, ← h4, List.take_length, e]
  · intro b hb
    rw [List.mem_singleton] at hb
    rw [hb]
    rcases ha with ⟨rfl, rfl, rfl⟩ | ⟨k, rfl, h2, h4⟩
    · trivial
    · show (H.getD k ⟨[], false, false⟩).rd = true ∧ (false = true ∨ (H.getD k ⟨[], false, false⟩).wr = false) ∧ 0 + n * sz ≤ (H.getD k ⟨[], false, false⟩).cells.length
      rw [h2]; exact ⟨rfl, .inr rfl, by show 0 + n * sz ≤ cs.length; omega⟩
end Go.Ab
