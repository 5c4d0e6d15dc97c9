/- Contracts of this seat's functions (of each call: what it answers), walked over the abstract machine, and the laws of numbers that they want. Conditions: those that each theorem states. -/
import Derived.Test.YthkpbnbbhlpkjaaGreatDoorDS
import Derived.Test.YthkpbnbbhlpkjaaGreatDoorP7
import Derived.Test.YthkpbnbbhlpkjaaGreatDoorW6
/-! contracts of layers 4 to 6: the topmost bit, roundings, quotients, roots -/
set_option linter.unusedVariables false
set_option maxRecDepth 20000
set_option linter.unusedSimpArgs false
set_option linter.unusedSectionVars false
namespace Go.Ab
open Go.Proofs

theorem Lt2.mono {x a b : Nat} (h : Lt2 x a) (hab : a ≤ b) : Lt2 x b := Nat.lt_of_lt_of_le h (Nat.pow_le_pow_right (by decide) hab)
theorem Lt2.low {x y a : Nat} (h : x ≤ y) (g : Lt2 y a) : Lt2 x a := Nat.lt_of_le_of_lt h g
theorem Lt2.succ {x y a : Nat} (h : x ≤ y + 1) (g : Lt2 y a) : Lt2 x (a + 1) := by
  unfold Lt2 at *
  rw [Nat.pow_succ]
  have := Nat.two_pow_pos a
  omega
theorem Lt2.bl {x a : Nat} (h : Lt2 x a) : bl x ≤ a := bl_le_of h
theorem DB.rawL {m e : Int} {L E B : Nat} (hm : Lt2 m.natAbs L) (he : e.natAbs ≤ E) (hB : L + E ≤ B) : DB (dv m e) B := DB.raw hm he hB
theorem nv_Lt2 {l : List Nat} {k : Nat} (hl : Lm l) (h : l.length ≤ k) : Lt2 (nv l) (32 * k) := by
  have := nv_lt_of hl h
  rw [show (4294967296 : Nat) = 2 ^ 32 from rfl, ← Nat.pow_mul] at this
  exact this
/-- a call whose arguments are calm -/
theorem callK_q {C : Ctx} {d : Bool} {H H' : Heap} {K : AV → Heap → Prop} {f : FuncId} {args args' : List AV} {r : AV} (hc : callable C.P f = true) (h : Sat C false f args' r) (hH : fzH d false H args = H') (ha : args.map (snap H') = args') (hK : K r H')
    (ho : ∀ a ∈ args, ownOK H' false a := by simp [ownOK, own1, hd, fzH, fzArgs, fzCells, fz, IA, WI, DI, DA, CI, U32]) (hi : ∀ a ∈ args', IsD a := by simp [U32, isD_u32, isD_v, isD_nil, isD_agg, IA, WI, DI, DA, CI]) : callK C d f args H K :=
  callK_of false hc h hH ha ho hi hK
attribute [go_sem] x_app x_ga0 x_gas x_gan Int.cast_ofNat_Int eq_self Int.zero_lt_one Bool.not_false Bool.not_true beq_self_eq_true WI IA DI DA CI
/-- the document's quotient -/
def dquo (x y : Dyadic) (P : Nat) (up : Bool) : Dyadic :=
  if x = 0 ∨ y = 0 then 0 else
  let A := (dnum x).natAbs
  let C := (dnum y).natAbs
  let N := P + 3 + bl C - bl A
  let m := sticky (A * 2 ^ N) C
  dv (RF (sg (decide (dnum x < 0) != decide (dnum y < 0)) m) (2 ^ (bl m - P)) up) (dexp x - dexp y - N - 1 + (bl m - P : Nat))
/-- as many bits as the root wants -/
def rbitsN (A P : Nat) (ex : Int) : Nat := if (ex - (2 * P + 6 - bl A : Nat)) % 2 = 0 then 2 * P + 6 - bl A else 2 * P + 6 - bl A + 1
/-- the document's root -/
def droot (x : Dyadic) (P : Nat) (up : Bool) : Dyadic :=
  if dnum x ≤ 0 then 0 else
  let A := (dnum x).natAbs
  let n := rbitsN A P (dexp x)
  let m := rsticky (A * 2 ^ n)
  dv (RF m (2 ^ (bl m - P)) up) ((dexp x - n) / 2 - 1 + (bl m - P : Nat))
theorem rbitsN_ok {A P : Nat} {ex : Int} : 2 * P + 6 ≤ bl A + rbitsN A P ex ∧ ex - rbitsN A P ex = 2 * ((ex - rbitsN A P ex) / 2) ∧ rbitsN A P ex ≤ 2 * P + 7 := by
  unfold rbitsN
  split <;> omega

theorem dneg_num (x : Dyadic) : dnum (-x) = -dnum x ∧ dexp (-x) = dexp x := by
  by_cases h : x = 0
  · subst h; exact ⟨rfl, rfl⟩
  · have ho := dnum_odd_of h
    have e : -x = dv (-dnum x) (dexp x) := by rw [← dv_neg, dv_of]
    have ho' : (-dnum x) % 2 = 1 := by omega
    rw [e]
    exact ⟨dnum_odd ho' _, dexp_odd ho' _⟩
theorem RF_fq (a d : Int) (hd : 0 < d) (m : Int) : fq a d + (if m = 1 ∧ decide (fr a d = 0) = false then 1 else 0) = RF a d.toNat (decide (m = 1)) := by
  have e : fq a d = a / d := if_pos hd
  have e2 : fr a d = a % d := by unfold fr; rw [e]; have := Int.mul_ediv_add_emod a d; omega
  have e3 : ((d.toNat : Nat) : Int) = d := by omega
  unfold RF
  rw [e, e2, e3]
  simp only [decide_eq_true_eq, decide_eq_false_iff_not, ne_eq]
theorem sg_mul (s : Bool) (A k : Nat) : sg s A * 2 ^ k = sg s (A * 2 ^ k) := by
  unfold sg
  cases s
  · simp
  · simp [Int.neg_mul]
theorem dquo_eq {x y X Y : Dyadic} (hx : x ≠ 0) (hy : y ≠ 0) (hXY : (dnum y < 0 ∧ X = -x ∧ Y = -y) ∨ (¬ dnum y < 0 ∧ X = x ∧ Y = y)) {P p1 p2 u w : Nat} {T : Int} (hP : 1 ≤ P)
    (h12 : bl (dnum X).natAbs + p1 = bl (dnum Y).natAbs + p2) (hT : T = (p2 : Int) - p1 - (if (dnum X).natAbs * 2 ^ p1 < (dnum Y).natAbs * 2 ^ p2 then 1 else 0))
    (huw : u = 0 ∨ w = 0) (hup : (u : Int) - w = P - 1 - T) (up : Bool) :
    dv (RF (dnum X * 2 ^ u) (dnum Y * 2 ^ w).toNat up) (dexp X - dexp Y + T - P + 1) = dquo x y P up := by
  have nx : dnum x ≠ 0 := fun e => hx (dnum_zero.1 e)
  have ny : dnum y ≠ 0 := fun e => hy (dnum_zero.1 e)
  have ex : dexp X = dexp x ∧ dexp Y = dexp y ∧ (dnum X).natAbs = (dnum x).natAbs ∧ (dnum Y).natAbs = (dnum y).natAbs := by
    rcases hXY with ⟨_, rfl, rfl⟩ | ⟨_, rfl, rfl⟩
    · obtain ⟨a1, a2⟩ := dneg_num x
      obtain ⟨b1, b2⟩ := dneg_num y
      rw [a1, a2, b1, b2]; exact ⟨rfl, rfl, by omega, by omega⟩
    · exact ⟨rfl, rfl, rfl, rfl⟩
  obtain ⟨e1, e2, e3, e4⟩ := ex
  have hs : dnum X = sg (decide (dnum x < 0) != decide (dnum y < 0)) (dnum x).natAbs := by
    unfold sg
    rcases hXY with ⟨q, rfl, rfl⟩ | ⟨q, rfl, rfl⟩
    · obtain ⟨a1, _⟩ := dneg_num x
      rw [a1]
      by_cases g : dnum x < 0
      · simp [g, q]; omega
      · simp [g, q]; omega
    · by_cases g : dnum X < 0
      · simp [g, q]; omega
      · simp [g, q]; omega
  have hY : dnum Y = ((dnum y).natAbs : Int) := by
    rcases hXY with ⟨q, rfl, rfl⟩ | ⟨q, rfl, rfl⟩
    · obtain ⟨a1, _⟩ := dneg_num y
      rw [a1]; omega
    · omega
  rw [e3, e4] at h12 hT
  have hA : (dnum x).natAbs ≠ 0 := by omega
  have hC : (dnum y).natAbs ≠ 0 := by omega
  unfold dquo
  rw [if_neg (fun q => q.elim hx hy)]
  simp only
  obtain ⟨l1, l2, l3⟩ := quot_law (N := P + 3 + bl (dnum y).natAbs - bl (dnum x).natAbs) hA hC hP h12 hT huw hup (by omega) (decide (dnum x < 0) != decide (dnum y < 0)) up
  rw [hs, hY, sg_mul, e1, e2, l3]
  have t : (((dnum y).natAbs : Int) * 2 ^ w).toNat = (dnum y).natAbs * 2 ^ w := by
    have : (((dnum y).natAbs : Int) * 2 ^ w) = (((dnum y).natAbs * 2 ^ w : Nat) : Int) := by push_cast; rfl
    rw [this, Int.toNat_natCast]
  rw [t]
  congr 1
  omega
theorem droot_eq {x : Dyadic} (hx : 0 < dnum x) {P : Nat} {t sh : Int} (hP : 1 ≤ P) (ht : t = dtop x / 2) (hsh : sh = dexp x - 2 * (t - P + 1)) (up : Bool) :
    dv ((isq (mvN (dnum x).natAbs sh) : Int) + (if up = true ∧ ¬ (mvX (dnum x).natAbs sh ∧ isq (mvN (dnum x).natAbs sh) * isq (mvN (dnum x).natAbs sh) = mvN (dnum x).natAbs sh) then 1 else 0)) (t - P + 1) = droot x P up := by
  have hx0 : ¬ x = 0 := fun e => by rw [e] at hx; exact absurd hx (by decide)
  have hA : (dnum x).natAbs ≠ 0 := by omega
  have ht' : t = ((bl (dnum x).natAbs : Int) - 1 + dexp x) / 2 := by rw [ht]; unfold dtop; rw [if_neg hx0]
  obtain ⟨r1, r2, _⟩ := rbitsN_ok (A := (dnum x).natAbs) (P := P) (ex := dexp x)
  obtain ⟨l1, l2, l3⟩ := root_law hA hP r1 r2 ht' hsh up
  have hn : ¬ dnum x ≤ 0 := by omega
  unfold droot
  rw [if_neg hn]
  simp only
  rw [l3]
  congr 1
  omega

section
variable {a b : AV} {x y : Dyadic} {B C : Nat}
theorem bl_B (h : DB x B) : bl (dnum x).natAbs ≤ 2 * B := bl_le_of h.num.1
theorem dnorm_r (ha : RD a x B) (hB : B ≤ 20000) : Sat CT false 141 [a] (DI x) := by
  refine sat_of dyad_Norm.ok (by simp) ?_
  have DD := dyad_Norm.dr
  simp only [drP, drPx, drPt, drR, drS, drT, bodyOf, Tryz.f141, Nat.reduceEqDiff, reduceIte, true_and, and_true] at DD
  have q := dof_r ha hB
  obtain ⟨n, l, e, rfl, _⟩ := ha
  simp -implicitDefEqProofs only [go_sem, simprocAttr, -Int.reducePow, Tryz.f141, DD]
  refine callK_q dyad_of.call (q) rfl rfl ?_
  simp -implicitDefEqProofs only [go_sem, simprocAttr, -Int.reducePow, DD]
theorem dtop_r (ha : RD a x B) (hB : B ≤ 20000) : Sat CT false 142 [a] (I64 (dtop x)) := by
  refine sat_of dyad_Top.ok (by simp) ?_
  have DD := dyad_Top.dr
  simp only [drP, drPx, drPt, drR, drS, drT, bodyOf, Tryz.f142, Nat.reduceEqDiff, reduceIte, true_and, and_true] at DD
  have q1 := dof_r ha hB
  have s1 := dsign_r (RD_D ha.db) hB
  have hb := bl_B ha.db
  have hl := ha.db.lim
  have he := ha.db.num.2
  have q2 := bits_sat (lim (dnum x).natAbs) (Lm_lim _) (by omega)
  rw [nv_lim] at q2
  obtain ⟨n, l, e, rfl, _⟩ := ha
  by_cases hx : x = 0
  · have c1 := sg_zero hx
    have c2 : dtop x = 0 := if_pos hx
    simp -implicitDefEqProofs only [go_sem, simprocAttr, -Int.reducePow, Tryz.f142, DD, c1, c2]
    refine callK_q dyad_of.call (q1) rfl rfl ?_
    simp -implicitDefEqProofs only [go_sem, simprocAttr, -Int.reducePow, DD, c1, c2]
    refine callK_q dyad_Sign.call (s1) rfl rfl ?_
    simp -implicitDefEqProofs only [go_sem, simprocAttr, -Int.reducePow, DD, c1, c2]
  · have c1 := sg_ne hx
    have c2 : dtop x = dexp x + (bl (dnum x).natAbs : Nat) - 1 := by unfold dtop; rw [if_neg hx]; omega
    have c3 : IntKind.i64.wrap (dexp x + (bl (dnum x).natAbs : Nat)) = dexp x + (bl (dnum x).natAbs : Nat) := wrap_id (by omega)
    have c4 : IntKind.i64.wrap (dexp x + (bl (dnum x).natAbs : Nat) - 1) = dexp x + (bl (dnum x).natAbs : Nat) - 1 := wrap_id (by omega)
    simp -implicitDefEqProofs only [go_sem, simprocAttr, -Int.reducePow, Tryz.f142, DD, c1, c2, c3, c4]
    refine callK_q dyad_of.call (q1) rfl rfl ?_
    simp -implicitDefEqProofs only [go_sem, simprocAttr, -Int.reducePow, DD, c1, c2, c3, c4]
    refine callK_q dyad_Sign.call (s1) rfl rfl ?_
    simp -implicitDefEqProofs only [go_sem, simprocAttr, -Int.reducePow, DD, c1, c2, c3, c4]
    refine callK_q nat_Bits.call (q2) rfl rfl ?_
    simp -implicitDefEqProofs only [go_sem, simprocAttr, -Int.reducePow, DD, c1, c2, c3, c4]
theorem rtop4 (hx : DB x B) (hB : B ≤ 20000) : Sat CT false 139 [DI x] (I64 (dtop x)) := by
  refine sat_of annulusref4_Top.ok (by simp) ?_
  have DD := annulusref4_Top.dr
  simp only [drP, drPx, drPt, drR, drS, drT, bodyOf, Tryz.f139, Nat.reduceEqDiff, reduceIte, true_and, and_true] at DD
  have s1 := rsign4_r (RD_D hx) hB
  have hb := bl_B hx
  have hl := hx.lim
  have he := hx.num.2
  have q2 := rbits_sat (lim (dnum x).natAbs) (Lm_lim _) (by omega)
  rw [nv_lim] at q2
  by_cases hx : x = 0
  · have c1 := sg_zero hx
    have c2 : dtop x = 0 := if_pos hx
    simp -implicitDefEqProofs only [go_sem, simprocAttr, -Int.reducePow, Tryz.f139, DD, c1, c2]
    refine callK_q annulusref4_Sign.call (s1) rfl rfl ?_
    simp -implicitDefEqProofs only [go_sem, simprocAttr, -Int.reducePow, DD, c1, c2]
  · have c1 := sg_ne hx
    have c2 : dtop x = (bl (dnum x).natAbs : Nat) - 1 + dexp x := by unfold dtop; rw [if_neg hx]
    have c3 : IntKind.i64.wrap (((bl (dnum x).natAbs : Nat) : Int) - 1) = ((bl (dnum x).natAbs : Nat) : Int) - 1 := wrap_id (by omega)
    have c4 : IntKind.i64.wrap (((bl (dnum x).natAbs : Nat) : Int) - 1 + dexp x) = ((bl (dnum x).natAbs : Nat) : Int) - 1 + dexp x := wrap_id (by omega)
    simp -implicitDefEqProofs only [go_sem, simprocAttr, -Int.reducePow, Tryz.f139, DD, c1, c2, c3, c4]
    refine callK_q annulusref4_Sign.call (s1) rfl rfl ?_
    simp -implicitDefEqProofs only [go_sem, simprocAttr, -Int.reducePow, DD, c1, c2, c3, c4]
    refine callK_q annulusref1_Bits.call (q2) rfl rfl ?_
    simp -implicitDefEqProofs only [go_sem, simprocAttr, -Int.reducePow, DD, c1, c2, c3, c4]
/-- the bits that may be asked for -/
def heldP (p : Int) : Nat := (min (max p 1) 4000).toNat
theorem heldP_v (p : Int) : min (max p 1) 4000 = (heldP p : Int) ∧ max 1 (min p 4000) = (heldP p : Int) ∧ 1 ≤ heldP p ∧ heldP p ≤ 4000 := by unfold heldP; omega
theorem held5_sat (p : Int) : Sat CT false 143 [I64 p] (I64 (heldP p : Nat)) := by
  refine sat_of round_Held.ok (by simp) ?_
  have DD := round_Held.dr
  simp only [drP, drPx, drPt, drR, drS, drT, bodyOf, Tryz.f143, Nat.reduceEqDiff, reduceIte, true_and, and_true] at DD
  have c := (heldP_v p).1
  simp -implicitDefEqProofs only [go_sem, simprocAttr, -Int.reducePow, Tryz.f143, DD, c]
theorem side_sat (m : Int) : Sat CT false 154 [I64 m] (I64 (if m = 1 then 1 else 0)) := by
  refine sat_of annulusref4_side.ok (by simp) ?_
  have DD := annulusref4_side.dr
  simp only [drP, drPx, drPt, drR, drS, drT, bodyOf, Tryz.f154, Nat.reduceEqDiff, reduceIte, true_and, and_true] at DD
  by_cases h : m = 1
  · rw [if_pos h]
    simp -implicitDefEqProofs only [go_sem, simprocAttr, -Int.reducePow, Tryz.f154, DD, h]
  · rw [if_neg h]
    simp -implicitDefEqProofs only [go_sem, simprocAttr, -Int.reducePow, Tryz.f154, DD, h]
theorem wup_int (n : Bool) (l : List Nat) (c : Int) (k : Nat) (hc : max c 0 = (k : Int)) (hl : Lm l) (hla : l.length < 1099511) (hk : k ≤ 100000) : Sat CT false 127 [IA n l, I64 c] (WI (iv n l * 2 ^ k)) := by
  refine sat_of whole_Up.ok (by simp) ?_
  have DD := whole_Up.dr
  simp only [drP, drPx, drPt, drR, drS, drT, bodyOf, Tryz.f127, Nat.reduceEqDiff, reduceIte, true_and, and_true] at DD
  rw [← iv_shl]
  have g := lim_shl_len (L := 1099511) hl (by omega) k
  simp -implicitDefEqProofs only [go_sem, simprocAttr, -Int.reducePow, Tryz.f127, DD]
  refine callK_q nat_Up.call (up_int l c k hc hl (by omega) hk) rfl rfl ?_
  simp -implicitDefEqProofs only [go_sem, simprocAttr, -Int.reducePow, DD]
  refine callK_q whole_with.call (with_sat n _ (Lm_lim _) (by omega)) rfl rfl ?_
  simp -implicitDefEqProofs only [go_sem, simprocAttr, -Int.reducePow, DD]
/-- what an own number of the code's is worth, rounded upwards where that is asked -/
theorem raw_W (q e : Int) (hq : Lt2 q.natAbs 100000) (hl : Lz q < 1099511000) (he : e.natAbs ≤ 1000000000) : Sat CT false 125 [WI q, I64 e] (DI (dv q e)) := by
  have := raw_sat (decide (q < 0)) (lim q.natAbs) e (Lm_lim _) hl (by rw [nv_lim]; exact hq) he
  rw [iv_W] at this
  exact this
theorem told_sat (q e m : Int) (ex : Bool) (hq : Lt2 q.natAbs 99999) (hl : Lz q < 1099510000) (he : e.natAbs ≤ 1000000000) : Sat CT false 148 [WI q, Bo ex, I64 e, I64 m] (DI (dv (q + if m = 1 ∧ ex = false then 1 else 0) e)) := by
  refine sat_of quot_told.ok (by simp) ?_
  have DD := quot_told.dr
  simp only [drP, drPx, drPt, drR, drS, drT, bodyOf, Tryz.f148, Nat.reduceEqDiff, reduceIte, true_and, and_true] at DD
  have o1 := wof_sat 1 (by omega) (by omega)
  have hq1 : Lt2 (q + 1).natAbs 100000 := Lt2.succ (by omega) hq
  have b1 := add_r (RI_W (z := q) (L := 1099510000) (by show Lz q ≤ _; omega)) (RI_W (z := 1) (L := 1) (lim_length_le (by decide))) (by omega) (by omega)
  have hl1 : Lz (q + 1) < 1099511000 := by have := Lz_add (x := q) (y := 1) (L := 1099510000) (by omega) (show Lz 1 ≤ 1099510000 from Nat.le_trans (lim_length_le (k := 1) (by decide)) (by decide)); omega
  have r1 := raw_W q e (hq.mono (by decide)) (by omega) he
  have r2 := raw_W (q + 1) e hq1 hl1 he
  by_cases hm : m = 1
  · subst hm
    cases ex
    · simp only [and_self, if_true]
      simp -implicitDefEqProofs only [go_sem, simprocAttr, -Int.reducePow, Tryz.f148, DD]
      refine scope_of 1 ?_
      simp -implicitDefEqProofs only [go_sem, simprocAttr, -Int.reducePow, DD, scopeA, findLabel]
      refine callK_q whole_Of.call (o1) rfl rfl ?_
      simp -implicitDefEqProofs only [go_sem, simprocAttr, -Int.reducePow, DD, scopeA, findLabel]
      refine callK_q whole_Add.call (b1) rfl rfl ?_
      simp -implicitDefEqProofs only [go_sem, simprocAttr, -Int.reducePow, DD, scopeA, findLabel]
      refine callK_q dyad_Raw.call (r2) rfl rfl ?_
      simp -implicitDefEqProofs only [go_sem, simprocAttr, -Int.reducePow, DD, scopeA, findLabel]
    · have e0 : ¬ ((1 : Int) = 1 ∧ true = false) := by simp
      rw [if_neg e0, Int.add_zero]
      simp -implicitDefEqProofs only [go_sem, simprocAttr, -Int.reducePow, Tryz.f148, DD]
      refine scope0 aW0_mono ?_
      simp -implicitDefEqProofs only [go_sem, simprocAttr, -Int.reducePow, DD]
      refine callK_q dyad_Raw.call (r1) rfl rfl ?_
      simp -implicitDefEqProofs only [go_sem, simprocAttr, -Int.reducePow, DD]
  · rw [if_neg (fun x => hm x.1), Int.add_zero]
    simp -implicitDefEqProofs only [go_sem, simprocAttr, -Int.reducePow, Tryz.f148, DD, hm]
    refine scope0 aW0_mono ?_
    simp -implicitDefEqProofs only [go_sem, simprocAttr, -Int.reducePow, DD, hm]
    refine callK_q dyad_Raw.call (r1) rfl rfl ?_
    simp -implicitDefEqProofs only [go_sem, simprocAttr, -Int.reducePow, DD, hm]
end
end Go.Ab
