/- Contracts of this seat's functions (of each call: what it answers), walked over the abstract machine, and the laws of numbers that they want. Conditions: those that each theorem states. -/
import Derived.Test.YtdkdpebfnddfpaaDoorS2
/-! PelletTops: one great coefficient tells yes at its place; two alike tell none for both. -/
set_option linter.unusedVariables false
set_option maxRecDepth 20000
set_option linter.unusedSimpArgs false
set_option linter.unusedSectionVars false
namespace Go.Ab
open Go.Proofs
open Cx (zero one)
attribute [-go_sem] appF newsF
variable {a b : AV} {z w : Cx} {B C n m d : Nat} {cs ds : List AV} {f g : Po}

/-! plain: whole numbers -/
def isum (m : Nat → Int) (k : Int) : Nat → Int
  | 0 => 0
  | i + 1 => if (i : Int) = k then isum m k i else isum m k i + m i
theorem isumS (m : Nat → Int) (k : Int) (i : Nat) : isum m k (i + 1) = if (i : Int) = k then isum m k i else isum m k i + m i := rfl
theorem isum_nn {m : Nat → Int} (h : ∀ i, 0 ≤ m i) (k : Int) : ∀ n, 0 ≤ isum m k n
  | 0 => Int.le_refl _
  | n + 1 => by
    have := isum_nn h k n
    have := h n
    rw [isumS]
    split <;> omega
theorem isum_mono {m : Nat → Int} (h : ∀ i, 0 ≤ m i) (k : Int) {d : Nat} : ∀ {n}, d ≤ n → isum m k d ≤ isum m k n
  | 0, hd => by rw [show d = 0 by omega]; exact Int.le_refl _
  | n + 1, hd => by
    by_cases e : d = n + 1
    · rw [e]; exact Int.le_refl _
    · have := isum_mono h k (d := d) (n := n) (by omega)
      have := h n
      rw [isumS]
      split <;> omega
theorem isum_one {m : Nat → Int} (h : ∀ i, 0 ≤ m i) {k : Int} {j : Nat} (hj : ¬ (j : Int) = k) : ∀ {n}, j < n → m j ≤ isum m k n
  | 0, hd => absurd hd (Nat.not_lt_zero _)
  | n + 1, hd => by
    rw [isumS]
    by_cases e : j = n
    · subst e
      rw [if_neg hj]
      have := isum_nn h k j
      omega
    · have := isum_one h hj (n := n) (by omega)
      have := h n
      split <;> omega
theorem isum_skip {m m' : Nat → Int} (h : ∀ i, 0 ≤ m i) (k : Nat) (he : ∀ i, i ≠ k → m' i ≤ m i) : ∀ n, isum m' k n ≤ isum m (-1) n
  | 0 => Int.le_refl _
  | n + 1 => by
    have ih := isum_skip h k he n
    have := h n
    unfold isum
    rw [if_neg (show ¬ (n : Int) = -1 by omega)]
    by_cases e : (n : Int) = (k : Int)
    · rw [if_pos e]; omega
    · have := he n (by omega)
      rw [if_neg e]; omega
theorem osum_int {m : Nat → Int} {k : Int} {P : Nat} {up : Bool} (h : ∀ i, far (f i) P up = dv (m i) 0) : ∀ n, osum f k P up n = dv (isum m k n) 0
  | 0 => rfl
  | n + 1 => by
    unfold osum isum
    rw [osum_int h n, h n]
    split
    · rfl
    · rw [dv_add]
theorem far_int {v w r : Int} (hr : 0 ≤ r) (h : v * v + w * w = r * r) {P : Nat} (hP : 1 ≤ P) (hb : bl r.natAbs ≤ P) (up : Bool) : far ⟨dv v 0, dv w 0⟩ P up = dv r 0 := by
  by_cases e : r = 0
  · have e2 : nrm ⟨dv v 0, dv w 0⟩ = 0 := by
      show dv v 0 * dv v 0 + dv w 0 * dv w 0 = 0
      rw [dv_mul, dv_mul, dv_add, h, e]; rfl
    unfold far
    rw [e2, e]
    exact if_pos (by decide)
  · exact far_sq (by omega) h hP hb up
theorem osum_all' {k : Nat} (P : Nat) (up : Bool) : ∀ d, (d ≤ k → osum f k P up d = osum f (-1) P up d) ∧ (k < d → osum f (-1) P up d = osum f k P up d + far (f k) P up)
  | 0 => ⟨fun _ => rfl, fun h => absurd h (Nat.not_lt_zero _)⟩
  | i + 1 => by
    obtain ⟨h1, h2⟩ := osum_all' (k := k) P up i
    have hm : ¬ (i : Int) = -1 := by omega
    constructor
    · intro h
      have hk : ¬ (i : Int) = (k : Int) := by omega
      unfold osum
      rw [if_neg hk, if_neg hm, h1 (by omega)]
    · intro h
      unfold osum
      rw [if_neg hm]
      by_cases hk : (i : Int) = (k : Int)
      · have e : i = k := by omega
        subst e
        rw [if_pos rfl, h1 (Nat.le_refl _)]
      · rw [if_neg hk, h2 (by omega)]
        grind
theorem aYes_iff' {k P : Nat} (h : k < d) : aYes f d k P ↔ tYes f d k P := by
  unfold aYes tYes
  rw [(osum_all' P true d).2 h, show osum f k P true d + far (f k) P true - far (f k) P true = osum f k P true d by grind]
theorem sgn_pos {z : Int} : 0 < z.sign ↔ 0 < z := by
  rcases Int.lt_trichotomy z 0 with g | g | g
  · rw [Int.sign_eq_neg_one_of_neg g]; omega
  · rw [g]; exact ⟨fun h => h, fun h => h⟩
  · rw [Int.sign_eq_one_of_pos g]; omega
theorem tYes_int {m : Nat → Int} {k P : Nat} (h : ∀ up i, far (f i) P up = dv (m i) 0) : tYes f d k P ↔ isum m k d < m k := by
  unfold tYes
  rw [osum_int (h true), h, dv_sub, dsg_dv, sgn_pos]; omega
theorem tNo_int {m : Nat → Int} {k P : Nat} (h : ∀ up i, far (f i) P up = dv (m i) 0) : tNo f d k P ↔ m k ≤ isum m k d := by
  unfold tNo
  rw [osum_int (h false), h, dv_sub, dsg_dv]
  have := sgn_pos (z := m k - isum m k d)
  omega
/-- the row with a coefficient set -/
theorem pcl_put {i : Nat} {F : Po} (v : Cx) : ∀ {N}, i < N → spl (pcl N F) (i * 6) (CIc v) = pcl N (fun s => if s = i then v else F s)
  | 0, h => absurd h (Nat.not_lt_zero _)
  | N + 1, h => by
    have h6 : (CIc v).length = 6 := rfl
    by_cases e : i = N
    · subst e
      rw [pclS, pclS, if_pos rfl]
      have e1 : pcl i (fun s => if s = i then v else F s) = pcl i F := pcl_congr (fun k hk => if_neg (by omega))
      unfold spl
      rw [e1, List.take_append_of_le_length (by rw [pcl_len]; exact Nat.le_refl _), List.take_of_length_le (by rw [pcl_len]; exact Nat.le_refl _), List.drop_eq_nil_of_le (by rw [List.length_append, pcl_len]; exact Nat.le_refl _), List.append_nil]
    · have ih := pcl_put (i := i) (F := F) v (N := N) (by omega)
      rw [pclS, pclS, if_neg (by omega), ← ih]
      unfold spl
      rw [List.take_append_of_le_length (by rw [pcl_len]; omega), List.drop_append_of_le_length (by rw [pcl_len, h6]; omega)]
      simp only [List.append_assoc]
theorem dg_gt {N k : Nat} (h : Sp N f) (hk : f k ≠ zero) : k < dg N f := Nat.not_le.1 (fun g => hk (dg_sp h k g))
/-- contracts whose answers are plain hold for rows that may be written as well -/
theorem Sat.up_v {C : Ctx} {f : FuncId} {args : List AV} {x : Value} (h : Sat C false f args (.v x)) : Sat C true f args (.v x) := by
  intro w S xs hg hSg hl hr
  refine (h w S xs hg hSg hl hr).mono ?_
  rintro e w' ⟨y, rfl, q, hb⟩
  refine ⟨y, rfl, ?_, hb⟩
  cases q with
  | v => exact .v _
theorem Sat.up_t {C : Ctx} {f : FuncId} {args : List AV} {x y : Value} (h : Sat C false f args (.tup [.v x, .v y])) : Sat C true f args (.tup [.v x, .v y]) := by
  intro w S xs hg hSg hl hr
  refine (h w S xs hg hSg hl hr).mono ?_
  rintro e w' ⟨z, rfl, q, hb⟩
  refine ⟨z, rfl, ?_, hb⟩
  cases q with
  | tup _ us hl hr =>
    refine .tup _ us hl (fun i hi => ?_)
    have := hr i hi
    match i, hi with
    | 0, _ => cases this with | v => exact .v _
    | 1, _ => cases this with | v => exact .v _
theorem own_row {H : Heap} {kx n : Nat} {wr : Bool} {F : Po} (hg : H.getD kx ⟨[], false, false⟩ = ⟨pcl n F, true, wr⟩) : snap H (.own 6 kx 0 n) = .sl n (pcl n F) ∧ ownOK H true (.own 6 kx 0 n) := by
  constructor
  · show AV.sl n ((((H.getD kx ⟨[], false, false⟩).cells.drop 0).take (n * 6)).map snap0) = _
    rw [hg, List.drop_zero, show n * 6 = (pcl n F).length from (pcl_len n F).symm, List.take_length, snap0_pcl]
  · refine ⟨?_, .inl rfl, ?_⟩
    · show (H.getD kx ⟨[], false, false⟩).rd = true
      rw [hg]
    · show 0 + n * 6 ≤ (H.getD kx ⟨[], false, false⟩).cells.length
      rw [hg, Nat.zero_add, ← pcl_len n F]
      exact Nat.le_refl _
theorem callK_w1 {C : Ctx} {d : Bool} {f : FuncId} {H : Heap} {r : AV} {K : AV → Heap → Prop} {kx n : Nat} {wr : Bool} {F : Po} {x : Int} (hc : callable C.P f = true) (h : Sat C true f [.sl n (pcl n F), I64 x] r) (hg : H.getD kx ⟨[], false, false⟩ = ⟨pcl n F, true, wr⟩) (hK : K r H) : callK C d f [.own 6 kx 0 n, I64 x] H K := by
  obtain ⟨h1, h2⟩ := own_row hg
  refine callK_of true hc h (show fzH d true H _ = H by cases d <;> rfl) (by rw [List.map_cons, List.map_cons, h1]; rfl) (fun a ha => ?_) (fun a ha => ?_) hK
  · rcases List.mem_cons.1 ha with rfl | ha
    · exact h2
    · rw [List.mem_singleton.1 ha]; trivial
  · rcases List.mem_cons.1 ha with rfl | ha
    · exact isD_sl (isD_pcl _ _)
    · rw [List.mem_singleton.1 ha]; exact .v _
theorem callK_w2 {C : Ctx} {d : Bool} {f : FuncId} {H : Heap} {r : AV} {K : AV → Heap → Prop} {kx n : Nat} {wr : Bool} {F : Po} {x y : Int} (hc : callable C.P f = true) (h : Sat C true f [.sl n (pcl n F), I64 x, I64 y] r) (hg : H.getD kx ⟨[], false, false⟩ = ⟨pcl n F, true, wr⟩) (hK : K r H) : callK C d f [.own 6 kx 0 n, I64 x, I64 y] H K := by
  obtain ⟨h1, h2⟩ := own_row hg
  refine callK_of true hc h (show fzH d true H _ = H by cases d <;> rfl) (by rw [List.map_cons, List.map_cons, List.map_cons, h1]; rfl) (fun a ha => ?_) (fun a ha => ?_) hK
  · rcases List.mem_cons.1 ha with rfl | ha
    · exact h2
    · rcases List.mem_cons.1 ha with rfl | ha
      · trivial
      · rw [List.mem_singleton.1 ha]; trivial
  · rcases List.mem_cons.1 ha with rfl | ha
    · exact isD_sl (isD_pcl _ _)
    · rcases List.mem_cons.1 ha with rfl | ha
      · exact .v _
      · rw [List.mem_singleton.1 ha]; exact .v _
/-! the row of int8 that comes in -/
def icl (v : Nat → Int) : Nat → List AV
  | 0 => []
  | n + 1 => icl v n ++ [.v (.int .i8 (v n))]
theorem icl_len (v : Nat → Int) : ∀ n, (icl v n).length = n
  | 0 => rfl
  | n + 1 => by show (icl v n ++ _).length = _; rw [List.length_append, icl_len v n]; rfl
theorem icl_get (v : Nat → Int) {i : Nat} : ∀ {n}, i < n → (icl v n).getD i .bad = .v (.int .i8 (v i))
  | 0, h => absurd h (Nat.not_lt_zero _)
  | n + 1, h => by
    show (icl v n ++ [AV.v (.int .i8 (v n))]).getD i .bad = _
    rw [List.getD_eq_getElem?_getD]
    by_cases e : i = n
    · subst e
      rw [List.getElem?_append_right (by rw [icl_len]; exact Nat.le_refl _), icl_len, Nat.sub_self]; rfl
    · have := icl_get v (i := i) (n := n) (by omega)
      rw [List.getD_eq_getElem?_getD] at this
      rw [List.getElem?_append_left (by rw [icl_len]; omega), this]
/-- the coefficients' absolute values -/
def vab (v : Nat → Int) (i : Nat) : Int := max (v i) (0 - v i)
theorem vab_nn (v : Nat → Int) (i : Nat) : 0 ≤ vab v i := by unfold vab; omega
theorem isum_top {m : Nat → Int} {M : Int} (h : ∀ i, 0 ≤ m i ∧ m i ≤ M) (k : Int) : ∀ n : Nat, isum m k n ≤ M * n
  | 0 => by simp [isum]
  | n + 1 => by
    have ih := isum_top h k n
    have := h n
    rw [isumS]
    have e : M * ((n + 1 : Nat) : Int) = M * n + M := by push_cast; rw [Int.mul_add, Int.mul_one]
    rw [e]
    split <;> omega
/-- coefficients with whole parts -/
def zpo (x y : Nat → Int) (n : Nat) : Po := fun i => if i < n then ⟨dv (x i) 0, dv (y i) 0⟩ else zero
def zab (x y : Nat → Int) (n : Nat) (i : Nat) : Int := if i < n then max (x i) (0 - x i) + max (y i) (0 - y i) else 0
theorem zab_nn (x y : Nat → Int) (n i : Nat) : 0 ≤ zab x y n i := by unfold zab; split <;> omega
theorem zpo_pb {x y : Nat → Int} {n : Nat} (hx : ∀ i, (x i).natAbs ≤ 3075) (hy : ∀ i, (y i).natAbs ≤ 3075) : PB (zpo x y n) 296 := fun i => by
  unfold zpo
  split
  · exact ⟨DB.raw (L := 12) (E := 0) (by have := hx i; omega) (by decide) (by decide), DB.raw (L := 12) (E := 0) (by have := hy i; omega) (by decide) (by decide)⟩
  · exact CB.zero _
theorem zpo_sp (x y : Nat → Int) (n : Nat) : Sp n (zpo x y n) := fun k hk => if_neg (by omega)
theorem zpo_far {x y : Nat → Int} {n : Nat} (hx : ∀ i, (x i).natAbs ≤ 3075) (hy : ∀ i, (y i).natAbs ≤ 3075) (h0 : ∀ i, x i = 0 ∨ y i = 0) {P : Nat} (hP : 12 ≤ P) (up : Bool) (i : Nat) : far (zpo x y n i) P up = dv (zab x y n i) 0 := by
  unfold zpo zab
  by_cases h : i < n
  · rw [if_pos h, if_pos h]
    have h1 := hx i
    have h2 := hy i
    refine far_int (by omega) ?_ (by omega) (Nat.le_trans (bl_le_of (n := 12) (by rcases h0 i with e | e <;> (rw [e]; omega))) hP) up
    rcases h0 i with e | e
    · rw [e]
      rcases Int.le_total 0 (y i) with g | g
      · rw [show max (0 : Int) (0 - 0) + max (y i) (0 - y i) = y i by omega]; omega
      · rw [show max (0 : Int) (0 - 0) + max (y i) (0 - y i) = -y i by omega, Int.neg_mul_neg]; omega
    · rw [e]
      rcases Int.le_total 0 (x i) with g | g
      · rw [show max (x i) (0 - x i) + max (0 : Int) (0 - 0) = x i by omega]; omega
      · rw [show max (x i) (0 - x i) + max (0 : Int) (0 - 0) = -x i by omega, Int.neg_mul_neg]; omega
  · rw [if_neg h, if_neg h]
    exact far_int (v := 0) (w := 0) (r := 0) (by decide) (by decide) (by omega) (by rw [show (0 : Int).natAbs = 0 from rfl, bl_zero]; omega) up
theorem zpo_ne {x y : Nat → Int} {n i : Nat} (hi : i < n) (h : x i ≠ 0 ∨ y i ≠ 0) : zpo x y n i ≠ zero := by
  unfold zpo
  rw [if_pos hi]
  intro e
  rcases h with h | h
  · exact h (dv_eq_zero.1 (congrArg Cx.re e))
  · exact h (dv_eq_zero.1 (congrArg Cx.im e))
/-- what the tests tell of such a row -/
theorem zpo_test {x y : Nat → Int} {n : Nat} (hn : n ≤ 12) (hx : ∀ i, (x i).natAbs ≤ 3075) (hy : ∀ i, (y i).natAbs ≤ 3075) (h0 : ∀ i, x i = 0 ∨ y i = 0) (k : Nat) (hk : k < dg n (zpo x y n)) {P : Nat} (hP : 12 ≤ P) (hP2 : P ≤ 400) :
    (isum (zab x y n) k (dg n (zpo x y n)) < zab x y n k → Sat CT false 33 [.sl n (pcl n (zpo x y n)), I64 (k : Nat), I64 (P : Nat)] (I64 1)) ∧
    (zab x y n k ≤ isum (zab x y n) k (dg n (zpo x y n)) → Sat CT false 33 [.sl n (pcl n (zpo x y n)), I64 (k : Nat), I64 (P : Nat)] (I64 0)) := by
  have rp := RP_P (zpo_pb (n := n) hx hy) (zpo_sp x y n) (by omega)
  obtain ⟨t1, t2, _⟩ := test_in rp (isD_pcl _ _) (by omega) k hk (P : Nat) (by rw [held_n P (by omega) (by omega)]; exact hP2)
  rw [held_n P (by omega) (by omega)] at t1 t2
  have hf := fun up i => zpo_far (n := n) hx hy h0 hP up i
  rw [tYes_int hf] at t1 t2
  rw [tNo_int hf] at t2
  exact ⟨t1, fun h => t2 (by omega) h⟩
theorem zpo_any {x y : Nat → Int} {n : Nat} (hn : n ≤ 12) (hx : ∀ i, (x i).natAbs ≤ 3075) (hy : ∀ i, (y i).natAbs ≤ 3075) (h0 : ∀ i, x i = 0 ∨ y i = 0) {P : Nat} (hP : 12 ≤ P) (hP2 : P ≤ 400) (j : Nat) (hj : j < dg n (zpo x y n))
    (hno : ∀ i, i < j → zab x y n i ≤ isum (zab x y n) i (dg n (zpo x y n))) (hyes : isum (zab x y n) j (dg n (zpo x y n)) < zab x y n j) : Sat CT false 35 [.sl n (pcl n (zpo x y n)), I64 (P : Nat)] (.tup [I64 (j : Nat), Bo true]) := by
  have rp := RP_P (zpo_pb (n := n) hx hy) (zpo_sp x y n) (by omega)
  obtain ⟨a1, _⟩ := any_s rp (isD_pcl _ _) (by omega) (P : Nat) (by rw [held_n P (by omega) (by omega)]; exact hP2)
  rw [held_n P (by omega) (by omega)] at a1
  have hf := fun up i => zpo_far (n := n) hx hy h0 hP up i
  refine a1 j hj (fun i hi => ?_) ((aYes_iff' hj).2 ((tYes_int hf).2 hyes))
  rw [aYes_iff' (by omega), tYes_int hf]
  have := hno i hi
  omega
set_option maxHeartbeats 1000000 in
theorem tops_sat (v : Nat → Int) (hv : ∀ i, -128 ≤ v i ∧ v i ≤ 127) (hn2 : 2 ≤ n) (hn12 : n ≤ 12) (k : Nat) (hk : k < 256) (b : Nat) (hb : b < 256) : Sat CT false 9 [.sl n (icl v n), .v (.int .u8 (k : Nat)), .v (.int .u8 (b : Nat))] (Bo true) := by
  refine sat_of annuluslaw14_PelletTops.ok (by simp) ?_
  have DD := annuluslaw14_PelletTops.dr
  simp only [drP, drPx, drPt, drR, drS, drT, bodyOf, Tryd.f9, Nat.reduceEqDiff, reduceIte, true_and, and_true] at DD
  have kn := known14_s
  have hl := icl_len v n
  have c1 : ¬ (n : Int) < 2 := by omega
  have c2 : ¬ 12 < (n : Int) := by omega
  have c3 : (n : Int) ≠ 0 := by omega
  obtain ⟨at', hat, hat2⟩ : ∃ at', at' = k % n ∧ at' < n := ⟨_, rfl, Nat.mod_lt _ (by omega)⟩
  have m1 : (k : Int).tmod (n : Int) = (at' : Int) := by rw [Int.tmod_eq_emod_of_nonneg (by omega), hat]; rfl
  have w1 : IntKind.i64.wrap (k : Int) = (k : Int) := wrap_id (by omega)
  have w2 : IntKind.i64.wrap (at' : Int) = (at' : Int) := wrap_id (by omega)
  have w3 : ∀ i, IntKind.i64.wrap (v i) = v i := fun i => wrap_id (by have := hv i; omega)
  have w4 : ∀ i, IntKind.i64.wrap (0 - v i) = 0 - v i := fun i => wrap_id (by have := hv i; omega)
  have hS : ∀ i, i ≤ n → 0 ≤ isum (vab v) (-1) i ∧ isum (vab v) (-1) i ≤ 1536 := fun i hi => by
    have := isum_nn (vab_nn v) (-1) i
    have := isum_top (m := vab v) (M := 128) (fun i => ⟨vab_nn v i, by have := hv i; unfold vab; omega⟩) (-1) i
    omega
  simp -implicitDefEqProofs only [go_sem, Nat.reduceAdd, Nat.reduceEqDiff, Nat.reduceLT, reduceIte, reduceCtorEq, Int.reduceLE, Int.reduceLT, Int.reduceEq, Int.reduceAdd, Int.reduceMul, Int.reduceSub, Nat.reduceMul, Nat.reduceSub, Nat.reducePow, Nat.reduceLeDiff, Int.reduceToNat, Tryd.f9, DD, c1, c2, gt_iff_lt]
  refine callK_q annuluslaw14_known.call (kn) rfl rfl ?_
  simp -implicitDefEqProofs only [go_sem, Nat.reduceAdd, Nat.reduceEqDiff, Nat.reduceLT, reduceIte, reduceCtorEq, Int.reduceLE, Int.reduceLT, Int.reduceEq, Int.reduceAdd, Int.reduceMul, Int.reduceSub, Nat.reduceMul, Nat.reduceSub, Nat.reducePow, Nat.reduceLeDiff, Int.reduceToNat, DD, c1, c2, c3, m1, w1, w2, gt_iff_lt]
  refine loop_of aW0_mono (fun q σ => ∃ sl H i, σ = ⟨sl, H⟩ ∧ q = n - i ∧ i ≤ n ∧ look sl 0 = .sl n (icl v n) ∧ look sl 2 = .v (.int .u8 (b : Nat)) ∧ look sl 8 = I64 (isum (vab v) (-1) i) ∧ look sl 9 = I64 (at' : Nat) ∧ look sl 10 = I64 (i : Nat) ∧ ASl 6 (look sl 7) H (pcl i (fun i => cst (v i))) i) ?_ (n := n)
    ⟨_, _, 0, rfl, rfl, Nat.zero_le _, by simp [x_look], by simp [x_look], by simp [x_look, isum], by simp [x_look], by simp [x_look], by simp [x_look, pcl0, ASl.nil]⟩
  rintro q _ ⟨sl, H, i, rfl, rfl, hi, k0, k2, k8, k9, k10, hA⟩
  by_cases hid : i = n
  · subst hid
    have hS' := hS i (Nat.le_refl _)
    rcases hA with ⟨_, e0, _⟩ | ⟨kx, k7, hg, hkx, _⟩
    · omega
    generalize hSe : isum (vab v) (-1) i = S at *
    obtain ⟨W, hW⟩ : ∃ W, W = 2 * S + 3 := ⟨_, rfl⟩
    have u1 : IntKind.i64.wrap (2 * S) = 2 * S := wrap_id (by omega)
    have u2 : IntKind.i64.wrap (2 * S + 3) = W := by rw [wrap_id (by omega), hW]
    have u3 : IntKind.i64.wrap (-2 * S) = -2 * S := wrap_id (by omega)
    have u4 : IntKind.i64.wrap (-2 * S - 3) = -W := by rw [wrap_id (by omega), hW]; omega
    have m2 : ((b : Int).tmod 60) = ((b % 60 : Nat) : Int) := Int.tmod_eq_emod_of_nonneg (by omega)
    obtain ⟨β, hβ, hβ2⟩ : ∃ β, β = b % 60 ∧ β ≤ 59 := ⟨_, rfl, by omega⟩
    rw [← hβ] at m2
    have u5 : IntKind.i64.wrap (β : Int) = (β : Int) := wrap_id (by omega)
    obtain ⟨P, hP⟩ : ∃ P, P = β + 24 := ⟨_, rfl⟩
    have u6 : IntKind.i64.wrap ((β : Int) + 24) = (P : Int) := by rw [wrap_id (by omega), hP]; omega
    have hP1 : 12 ≤ P := by omega
    have hP2 : P ≤ 400 := by omega
    obtain ⟨ot, hot, hot2⟩ : ∃ ot, ot = (at' + 1) % i ∧ ot < i := ⟨_, rfl, Nat.mod_lt _ (by omega)⟩
    have hoa : ot ≠ at' := by
      rw [hot]
      by_cases e : at' + 1 = i
      · rw [e, Nat.mod_self]; omega
      · rw [Nat.mod_eq_of_lt (by omega)]; omega
    have u7 : IntKind.i64.wrap ((at' : Int) + 1) = ((at' + 1 : Nat) : Int) := by rw [wrap_id (by omega)]; omega
    have m3 : ((at' + 1 : Nat) : Int).tmod (i : Int) = (ot : Int) := by rw [Int.tmod_eq_emod_of_nonneg (by omega), hot]; rfl
    have u8 : IntKind.i64.wrap (ot : Int) = (ot : Int) := wrap_id (by omega)
    have hWb : 3 ≤ W ∧ W ≤ 3075 := by omega
    have x1 := rof8_sat 0 W (by decide) (by decide) (by omega) (by omega)
    have x2 := rof8_sat (-W) 0 (by omega) (by omega) (by decide) (by decide)
    have x3 := rof4_sat W (by omega) (by omega)
    -- the rows
    have q1 : spl (pcl i (fun i => cst (v i))) (at' * 6) (CIc ⟨dv 0 0, dv W 0⟩) = pcl i (zpo (fun s => if s = at' then 0 else v s) (fun s => if s = at' then W else 0) i) := by
      rw [pcl_put _ hat2]
      refine pcl_congr (fun s hs => ?_)
      unfold zpo
      rw [if_pos hs]
      by_cases e : s = at'
      · simp only [e, if_true]
      · simp only [e, if_false]; rfl
    have q2 : spl (pcl i (zpo (fun s => if s = at' then 0 else v s) (fun s => if s = at' then W else 0) i)) (ot * 6) (CIc ⟨dv (-W) 0, dv 0 0⟩) = pcl i (zpo (fun s => if s = ot then -W else if s = at' then 0 else v s) (fun s => if s = ot then 0 else if s = at' then W else 0) i) := by
      rw [pcl_put _ hot2]
      refine pcl_congr (fun s hs => ?_)
      unfold zpo
      rw [if_pos hs]
      by_cases e : s = ot
      · simp only [e, if_true, hot2]
      · simp only [e, if_false, hs, if_true]
    obtain ⟨X1, hX1⟩ : ∃ X : Nat → Int, X = fun s => if s = at' then 0 else v s := ⟨_, rfl⟩
    obtain ⟨Y1, hY1⟩ : ∃ X : Nat → Int, X = fun s => if s = at' then W else 0 := ⟨_, rfl⟩
    obtain ⟨X2, hX2⟩ : ∃ X : Nat → Int, X = fun s => if s = ot then -W else if s = at' then 0 else v s := ⟨_, rfl⟩
    obtain ⟨Y2, hY2⟩ : ∃ X : Nat → Int, X = fun s => if s = ot then 0 else if s = at' then W else 0 := ⟨_, rfl⟩
    rw [← hX1, ← hY1] at q1 q2
    rw [← hX2, ← hY2] at q2
    have bX1 : ∀ s, (X1 s).natAbs ≤ 3075 := fun s => by have := hv s; rw [hX1]; show (if s = at' then (0 : Int) else v s).natAbs ≤ _; split <;> omega
    have bY1 : ∀ s, (Y1 s).natAbs ≤ 3075 := fun s => by rw [hY1]; show (if s = at' then W else 0).natAbs ≤ _; split <;> omega
    have z1 : ∀ s, X1 s = 0 ∨ Y1 s = 0 := fun s => by
      rw [hX1, hY1]; show (if s = at' then (0 : Int) else v s) = 0 ∨ (if s = at' then W else 0) = 0
      by_cases e : s = at'
      · exact .inl (if_pos e)
      · exact .inr (if_neg e)
    have bX2 : ∀ s, (X2 s).natAbs ≤ 3075 := fun s => by have := hv s; rw [hX2]; show (if s = ot then -W else if s = at' then (0 : Int) else v s).natAbs ≤ _; (repeat' split) <;> omega
    have bY2 : ∀ s, (Y2 s).natAbs ≤ 3075 := fun s => by rw [hY2]; show (if s = ot then (0 : Int) else if s = at' then W else 0).natAbs ≤ _; (repeat' split) <;> omega
    have z2 : ∀ s, X2 s = 0 ∨ Y2 s = 0 := fun s => by
      rw [hX2, hY2]; show (if s = ot then -W else if s = at' then (0 : Int) else v s) = 0 ∨ (if s = ot then (0 : Int) else if s = at' then W else 0) = 0
      by_cases e : s = ot
      · exact .inr (if_pos e)
      · by_cases e2 : s = at'
        · exact .inl (by rw [if_neg e, if_pos e2])
        · exact .inr (by rw [if_neg e, if_neg e2])
    have a1 : X1 at' = 0 ∧ Y1 at' = W := by rw [hX1, hY1]; exact ⟨if_pos rfl, if_pos rfl⟩
    have a2 : X2 at' = 0 ∧ Y2 at' = W := by rw [hX2, hY2]; exact ⟨by show (if at' = ot then -W else if at' = at' then (0 : Int) else v at') = 0; rw [if_neg (Ne.symm hoa), if_pos rfl], by show (if at' = ot then (0 : Int) else if at' = at' then W else 0) = W; rw [if_neg (Ne.symm hoa), if_pos rfl]⟩
    have a3 : X2 ot = -W ∧ Y2 ot = 0 := by rw [hX2, hY2]; exact ⟨if_pos rfl, if_pos rfl⟩
    have g1 : at' < dg i (zpo X1 Y1 i) := dg_gt (zpo_sp _ _ _) (zpo_ne hat2 (.inr (by rw [a1.2]; omega)))
    have g2 : at' < dg i (zpo X2 Y2 i) := dg_gt (zpo_sp _ _ _) (zpo_ne hat2 (.inr (by rw [a2.2]; omega)))
    have g3 : ot < dg i (zpo X2 Y2 i) := dg_gt (zpo_sp _ _ _) (zpo_ne hot2 (.inl (by rw [a3.1]; omega)))
    have e1 : zab X1 Y1 i at' = W := by unfold zab; rw [if_pos hat2, a1.1, a1.2]; omega
    have e2 : zab X2 Y2 i at' = W := by unfold zab; rw [if_pos hat2, a2.1, a2.2]; omega
    have e3 : zab X2 Y2 i ot = W := by unfold zab; rw [if_pos hot2, a3.1, a3.2]; omega
    have n1 : ∀ s, s ≠ at' → zab X1 Y1 i s ≤ vab v s := fun s hs => by
      have h1 : X1 s = v s := by rw [hX1]; exact if_neg hs
      have h2 : Y1 s = 0 := by rw [hY1]; exact if_neg hs
      unfold zab vab
      rw [h1, h2]
      split <;> omega
    have hyes : isum (zab X1 Y1 i) at' (dg i (zpo X1 Y1 i)) < zab X1 Y1 i at' := by
      have h1 := isum_mono (zab_nn X1 Y1 i) at' (dg_le i (zpo X1 Y1 i))
      have h2 := isum_skip (vab_nn v) at' n1 i
      rw [hSe] at h2
      omega
    have hno : ∀ s, s < at' → zab X1 Y1 i s ≤ isum (zab X1 Y1 i) s (dg i (zpo X1 Y1 i)) := fun s hs => by
      have h1 := isum_one (zab_nn X1 Y1 i) (k := s) (j := at') (by omega) g1
      have h2 := n1 s (by omega)
      have h3 := isum_one (vab_nn v) (k := -1) (j := s) (n := i) (by omega) (by omega)
      rw [hSe] at h3
      omega
    have A := zpo_any (n := i) hn12 bX1 bY1 z1 hP1 hP2 at' g1 hno hyes
    have T1 := (zpo_test (n := i) hn12 bX1 bY1 z1 at' g1 hP1 hP2).1 hyes
    have T2 := (zpo_test (n := i) hn12 bX2 bY2 z2 at' g2 hP1 hP2).2 (by
      have := isum_one (zab_nn X2 Y2 i) (k := at') (j := ot) (by omega) g3
      omega)
    have T3 := (zpo_test (n := i) hn12 bX2 bY2 z2 ot g3 hP1 hP2).2 (by
      have := isum_one (zab_nn X2 Y2 i) (k := ot) (j := at') (by omega) g2
      omega)
    have FF := far_s (RC_C (zpo_pb (n := i) bX2 bY2 ot)) (by decide) (P : Nat) 0
    rw [held_n P (by omega) (by omega), zpo_far bX2 bY2 z2 hP1, e3] at FF
    have bW : DB (dv W 0) 20 := DB.raw (L := 12) (E := 0) (by omega) (by decide) (by decide)
    have E := requal4d bW bW (by decide) (by decide)
    rw [decide_eq_true rfl] at E
    have A := Sat.up_t A
    have T1 := Sat.up_v T1
    have T2 := Sat.up_v T2
    have T3 := Sat.up_v T3
    clear hno hyes n1 e1 e2 e3 g1 g2 g3 a1 a2 a3 z1 z2 bX1 bX2 bY1 bY2 hX1 hX2 hY1 hY2
    generalize zpo X1 Y1 i = F1 at *
    generalize zpo X2 Y2 i = F2 at *
    have v1 : ¬ (i : Int) < (i : Int) := Int.lt_irrefl _
    have v0 : ¬ (i : Int) = 0 := by omega
    have v2 : (0 : Int) ≤ (at' : Int) := by omega
    have v3 : (at' : Int) < (i : Int) := by omega
    have v4 : (0 : Int) ≤ (ot : Int) := by omega
    have v5 : (ot : Int) < (i : Int) := by omega
    have v6 : at' * 6 + 6 ≤ i * 6 := by omega
    have v7 : ot * 6 + 6 ≤ i * 6 := by omega
    have v8 : at' * 6 < i * 6 := by omega
    have v9 : ot * 6 < i * 6 := by omega
    have l0 := pcl_len i (fun i => cst (v i))
    have l1 := pcl_len i F1
    have l2 := pcl_len i F2
    have sE := pcl_el F2 hot2
    have q1 : spl (pcl i (fun i => cst (v i))) (at' * 6) [Bo (decide (dnum (dv 0 0) < 0)), AV.sl (lim (dnum (dv 0 0)).natAbs).length (u32s (lim (dnum (dv 0 0)).natAbs)), I64 (dexp (dv 0 0)), Bo (decide (dnum (dv W 0) < 0)), AV.sl (lim (dnum (dv W 0)).natAbs).length (u32s (lim (dnum (dv W 0)).natAbs)), I64 (dexp (dv W 0))] = pcl i F1 := q1
    have q2 : spl (pcl i F1) (ot * 6) [Bo (decide (dnum (dv (-W) 0) < 0)), AV.sl (lim (dnum (dv (-W) 0)).natAbs).length (u32s (lim (dnum (dv (-W) 0)).natAbs)), I64 (dexp (dv (-W) 0)), Bo (decide (dnum (dv 0 0) < 0)), AV.sl (lim (dnum (dv 0 0)).natAbs).length (u32s (lim (dnum (dv 0 0)).natAbs)), I64 (dexp (dv 0 0))] = pcl i F2 := q2
    have gs : ∀ x, (H.set kx x).getD kx ⟨[], false, false⟩ = x := fun x => by rw [getD_set hkx, if_pos rfl]
    have gs2 : ∀ x y, ((H.set kx x).set kx y).getD kx ⟨[], false, false⟩ = y := fun x y => by rw [getD_set (by rw [List.length_set]; exact hkx), if_pos rfl]
    simp -implicitDefEqProofs only [go_sem, Nat.reduceAdd, Nat.reduceEqDiff, Nat.reduceLT, reduceIte, reduceCtorEq, Int.reduceLE, Int.reduceLT, Int.reduceEq, Int.reduceAdd, Int.reduceMul, Int.reduceSub, Nat.reduceMul, Nat.reduceSub, Nat.reducePow, Nat.reduceLeDiff, Int.reduceToNat, DD, k0, k2, k8, k9, k10, k7, v0, v1, v2, v3, v4, v5, v6, v7, v8, v9, u1, u2, u3, u4, u5, u6, u7, u8, m2, m3, hl, hg, l0, l1, l2, gs, q1, q2, sE, eq_self, ne_eq, not_true_eq_false]
    refine callK_pl annulusref8_Of.call (x1) (pl2 pld_int pld_int) ?_
    simp -implicitDefEqProofs only [go_sem, Nat.reduceAdd, Nat.reduceEqDiff, Nat.reduceLT, reduceIte, reduceCtorEq, Int.reduceLE, Int.reduceLT, Int.reduceEq, Int.reduceAdd, Int.reduceMul, Int.reduceSub, Nat.reduceMul, Nat.reduceSub, Nat.reducePow, Nat.reduceLeDiff, Int.reduceToNat, DD, k0, k2, k8, k9, k10, k7, v0, v1, v2, v3, v4, v5, v6, v7, v8, v9, u1, u2, u3, u4, u5, u6, u7, u8, m2, m3, hl, hg, l0, l1, l2, gs, q1, q2, sE, eq_self, ne_eq, not_true_eq_false]
    refine callK_w1 pellet_Any.call A (gs _) ?_
    simp -implicitDefEqProofs only [go_sem, Nat.reduceAdd, Nat.reduceEqDiff, Nat.reduceLT, reduceIte, reduceCtorEq, Int.reduceLE, Int.reduceLT, Int.reduceEq, Int.reduceAdd, Int.reduceMul, Int.reduceSub, Nat.reduceMul, Nat.reduceSub, Nat.reducePow, Nat.reduceLeDiff, Int.reduceToNat, DD, k0, k2, k8, k9, k10, k7, v0, v1, v2, v3, v4, v5, v6, v7, v8, v9, u1, u2, u3, u4, u5, u6, u7, u8, m2, m3, hl, hg, l0, l1, l2, gs, q1, q2, sE, eq_self, ne_eq, not_true_eq_false]
    refine callK_w2 pellet_Test.call T1 (gs _) ?_
    simp -implicitDefEqProofs only [go_sem, Nat.reduceAdd, Nat.reduceEqDiff, Nat.reduceLT, reduceIte, reduceCtorEq, Int.reduceLE, Int.reduceLT, Int.reduceEq, Int.reduceAdd, Int.reduceMul, Int.reduceSub, Nat.reduceMul, Nat.reduceSub, Nat.reducePow, Nat.reduceLeDiff, Int.reduceToNat, DD, k0, k2, k8, k9, k10, k7, v0, v1, v2, v3, v4, v5, v6, v7, v8, v9, u1, u2, u3, u4, u5, u6, u7, u8, m2, m3, hl, hg, l0, l1, l2, gs, q1, q2, sE, eq_self, ne_eq, not_true_eq_false]
    refine callK_pl annulusref8_Of.call (x2) (pl2 pld_int pld_int) ?_
    simp -implicitDefEqProofs only [go_sem, Nat.reduceAdd, Nat.reduceEqDiff, Nat.reduceLT, reduceIte, reduceCtorEq, Int.reduceLE, Int.reduceLT, Int.reduceEq, Int.reduceAdd, Int.reduceMul, Int.reduceSub, Nat.reduceMul, Nat.reduceSub, Nat.reducePow, Nat.reduceLeDiff, Int.reduceToNat, DD, k0, k2, k8, k9, k10, k7, v0, v1, v2, v3, v4, v5, v6, v7, v8, v9, u1, u2, u3, u4, u5, u6, u7, u8, m2, m3, hl, hg, l0, l1, l2, gs, q1, q2, sE, eq_self, ne_eq, not_true_eq_false]
    refine callK_w2 pellet_Test.call T2 (gs2 _ _) ?_
    simp -implicitDefEqProofs only [go_sem, Nat.reduceAdd, Nat.reduceEqDiff, Nat.reduceLT, reduceIte, reduceCtorEq, Int.reduceLE, Int.reduceLT, Int.reduceEq, Int.reduceAdd, Int.reduceMul, Int.reduceSub, Nat.reduceMul, Nat.reduceSub, Nat.reducePow, Nat.reduceLeDiff, Int.reduceToNat, DD, k0, k2, k8, k9, k10, k7, v0, v1, v2, v3, v4, v5, v6, v7, v8, v9, u1, u2, u3, u4, u5, u6, u7, u8, m2, m3, hl, hg, l0, l1, l2, gs, q1, q2, sE, eq_self, ne_eq, not_true_eq_false]
    refine callK_w2 pellet_Test.call T3 (gs2 _ _) ?_
    simp -implicitDefEqProofs only [go_sem, Nat.reduceAdd, Nat.reduceEqDiff, Nat.reduceLT, reduceIte, reduceCtorEq, Int.reduceLE, Int.reduceLT, Int.reduceEq, Int.reduceAdd, Int.reduceMul, Int.reduceSub, Nat.reduceMul, Nat.reduceSub, Nat.reducePow, Nat.reduceLeDiff, Int.reduceToNat, DD, k0, k2, k8, k9, k10, k7, v0, v1, v2, v3, v4, v5, v6, v7, v8, v9, u1, u2, u3, u4, u5, u6, u7, u8, m2, m3, hl, hg, l0, l1, l2, gs, q1, q2, sE, eq_self, ne_eq, not_true_eq_false, gs2]
    refine callK_pl pellet_Far.call (FF) (pl3 (pld_CI _) pld_int pld_int) ?_
    simp -implicitDefEqProofs only [go_sem, Nat.reduceAdd, Nat.reduceEqDiff, Nat.reduceLT, reduceIte, reduceCtorEq, Int.reduceLE, Int.reduceLT, Int.reduceEq, Int.reduceAdd, Int.reduceMul, Int.reduceSub, Nat.reduceMul, Nat.reduceSub, Nat.reducePow, Nat.reduceLeDiff, Int.reduceToNat, DD, k0, k2, k8, k9, k10, k7, v0, v1, v2, v3, v4, v5, v6, v7, v8, v9, u1, u2, u3, u4, u5, u6, u7, u8, m2, m3, hl, hg, l0, l1, l2, gs, q1, q2, sE, eq_self, ne_eq, not_true_eq_false, gs2]
    refine callK_q annulusref4_Of.call (x3) rfl rfl ?_
    simp -implicitDefEqProofs only [go_sem, Nat.reduceAdd, Nat.reduceEqDiff, Nat.reduceLT, reduceIte, reduceCtorEq, Int.reduceLE, Int.reduceLT, Int.reduceEq, Int.reduceAdd, Int.reduceMul, Int.reduceSub, Nat.reduceMul, Nat.reduceSub, Nat.reducePow, Nat.reduceLeDiff, Int.reduceToNat, DD, k0, k2, k8, k9, k10, k7, v0, v1, v2, v3, v4, v5, v6, v7, v8, v9, u1, u2, u3, u4, u5, u6, u7, u8, m2, m3, hl, hg, l0, l1, l2, gs, q1, q2, sE, eq_self, ne_eq, not_true_eq_false]
    refine callK_q annulusref4_Equal.call (E) rfl rfl ?_
    simp -implicitDefEqProofs only [go_sem, Nat.reduceAdd, Nat.reduceEqDiff, Nat.reduceLT, reduceIte, reduceCtorEq, Int.reduceLE, Int.reduceLT, Int.reduceEq, Int.reduceAdd, Int.reduceMul, Int.reduceSub, Nat.reduceMul, Nat.reduceSub, Nat.reducePow, Nat.reduceLeDiff, Int.reduceToNat, DD, k0, k2, k8, k9, k10, k7, v0, v1, v2, v3, v4, v5, v6, v7, v8, v9, u1, u2, u3, u4, u5, u6, u7, u8, m2, m3, hl, hg, l0, l1, l2, gs, q1, q2, sE, eq_self, ne_eq, not_true_eq_false]
  · have d1 : (i : Int) < (n : Int) := by omega
    have ci : IntKind.i64.wrap ((i : Int) + 1) = ((i + 1 : Nat) : Int) := by rw [wrap_id (by omega)]; omega
    have d2 : (0 : Int) ≤ (i : Int) := by omega
    have d4 : i < n := by omega
    have d5 : i + 1 ≤ n := by omega
    have hc := icl_get v (i := i) (n := n) (by omega)
    have o1 := rof8_sat (v i) 0 (by have := hv i; omega) (by have := hv i; omega) (by decide) (by decide)
    have e1 : isum (vab v) (-1) (i + 1) = isum (vab v) (-1) i + max (v i) (0 - v i) := if_neg (by omega)
    have w5 : IntKind.i64.wrap (isum (vab v) (-1) i + max (v i) (0 - v i)) = isum (vab v) (-1) (i + 1) := by
      rw [← e1]
      exact wrap_id (by have := hS (i + 1) (by omega); omega)
    rw [cst_dv] at o1
    simp -implicitDefEqProofs only [go_sem, Nat.reduceAdd, Nat.reduceEqDiff, Nat.reduceLT, reduceIte, reduceCtorEq, Int.reduceLE, Int.reduceLT, Int.reduceEq, Int.reduceAdd, Int.reduceMul, Int.reduceSub, Nat.reduceMul, Nat.reduceSub, Nat.reducePow, Nat.reduceLeDiff, Int.reduceToNat, DD, k0, k2, k8, k9, k10, d1, d2, d4, d5, ci, hl, hc, w3, w4, w5]
    refine callK_pl annulusref8_Of.call (o1) (pl2 pld_int pld_int) ?_
    simp -implicitDefEqProofs only [go_sem, Nat.reduceAdd, Nat.reduceEqDiff, Nat.reduceLT, reduceIte, reduceCtorEq, Int.reduceLE, Int.reduceLT, Int.reduceEq, Int.reduceAdd, Int.reduceMul, Int.reduceSub, Nat.reduceMul, Nat.reduceSub, Nat.reducePow, Nat.reduceLeDiff, Int.reduceToNat, DD, k0, k2, k8, k9, k10, d1, d2, d4, d5, ci, hl, hc, w3, w4, w5]
    refine app_step (P := Tryd.prog) tk50 rfl tk56 tk50 rfl rfl (by decide) (n := i) (m := 1) (hA.ext _) (.inl ⟨rfl, x_hget⟩) rfl (by decide) rfl (Nat.le_trans (Nat.mul_le_mul_right _ (show i + 1 ≤ 1000001 by omega)) (by decide)) (by omega) ?_
    intro H' hg hl' hk'
    simp -implicitDefEqProofs only [go_sem, Nat.reduceAdd, Nat.reduceEqDiff, Nat.reduceLT, reduceIte, reduceCtorEq, Int.reduceLE, Int.reduceLT, Int.reduceEq, Int.reduceAdd, Int.reduceMul, Int.reduceSub, Nat.reduceMul, Nat.reduceSub, Nat.reducePow, Nat.reduceLeDiff, Int.reduceToNat, DD, k0, k2, k8, k9, k10, d1, d2, d4, d5, ci, hl, hc, w3, w4, w5]
    exact ⟨n - (i + 1), by omega, _, _, i + 1, rfl, rfl, by omega, by simp [x_look, k0], by simp [x_look, k2], by simp [x_look], by simp [x_look, k9], by simp [x_look], by simp only [x_look, reduceIte, Nat.reduceEqDiff]; exact ASl.lastP (g := fun i => cst (v i)) hg hl'⟩
theorem tops_out (v : Nat → Int) (k : Nat) (b : Nat) (h : (n : Int) < 2 ∨ ¬ (n : Int) < 2 ∧ 12 < (n : Int)) : Sat CT false 9 [.sl n (icl v n), .v (.int .u8 (k : Nat)), .v (.int .u8 (b : Nat))] (Bo true) := by
  refine sat_of annuluslaw14_PelletTops.ok (by simp) ?_
  have DD := annuluslaw14_PelletTops.dr
  simp only [drP, drPx, drPt, drR, drS, drT, bodyOf, Tryd.f9, Nat.reduceEqDiff, reduceIte, true_and, and_true] at DD
  have kn := known14_s
  rcases h with h2 | ⟨h2, h3⟩
  · simp -implicitDefEqProofs only [go_sem, Nat.reduceAdd, Nat.reduceEqDiff, Nat.reduceLT, reduceIte, reduceCtorEq, Int.reduceLE, Int.reduceLT, Int.reduceEq, Int.reduceAdd, Int.reduceMul, Int.reduceSub, Nat.reduceMul, Nat.reduceSub, Nat.reducePow, Nat.reduceLeDiff, Int.reduceToNat, Tryd.f9, DD, h2, gt_iff_lt]
    refine callK_q annuluslaw14_known.call (kn) rfl rfl ?_
    simp -implicitDefEqProofs only [go_sem, Nat.reduceAdd, Nat.reduceEqDiff, Nat.reduceLT, reduceIte, reduceCtorEq, Int.reduceLE, Int.reduceLT, Int.reduceEq, Int.reduceAdd, Int.reduceMul, Int.reduceSub, Nat.reduceMul, Nat.reduceSub, Nat.reducePow, Nat.reduceLeDiff, Int.reduceToNat, DD, h2, gt_iff_lt]
  · simp -implicitDefEqProofs only [go_sem, Nat.reduceAdd, Nat.reduceEqDiff, Nat.reduceLT, reduceIte, reduceCtorEq, Int.reduceLE, Int.reduceLT, Int.reduceEq, Int.reduceAdd, Int.reduceMul, Int.reduceSub, Nat.reduceMul, Nat.reduceSub, Nat.reducePow, Nat.reduceLeDiff, Int.reduceToNat, Tryd.f9, DD, h2, h3, gt_iff_lt]
    refine callK_q annuluslaw14_known.call (kn) rfl rfl ?_
    simp -implicitDefEqProofs only [go_sem, Nat.reduceAdd, Nat.reduceEqDiff, Nat.reduceLT, reduceIte, reduceCtorEq, Int.reduceLE, Int.reduceLT, Int.reduceEq, Int.reduceAdd, Int.reduceMul, Int.reduceSub, Nat.reduceMul, Nat.reduceSub, Nat.reducePow, Nat.reduceLeDiff, Int.reduceToNat, DD, h2, h3, gt_iff_lt]
theorem pelletTops_sat (v : Nat → Int) (hv : ∀ i, -128 ≤ v i ∧ v i ≤ 127) (k : Nat) (hk : k < 256) (b : Nat) (hb : b < 256) : Sat CT false 9 [.sl n (icl v n), .v (.int .u8 (k : Nat)), .v (.int .u8 (b : Nat))] (Bo true) := by
  by_cases h : 2 ≤ n ∧ n ≤ 12
  · exact tops_sat v hv h.1 h.2 k hk b hb
  · exact tops_out v k b (by omega)
end Go.Ab
