/- Contracts of this seat's functions (of each call: what it answers), walked over the abstract machine, and the laws of numbers that they want. Conditions: those that each theorem states. -/
import Derived.Test.YtikhbokeaikcpaaDoorD11
set_option linter.unusedVariables false
set_option maxRecDepth 20000
set_option linter.unusedSimpArgs false
set_option linter.unusedSectionVars false
namespace Go.Ab
open Go.Proofs
open Cx (zero one)
attribute [-go_sem] appF newsF
variable {a b : AV} {z w : Cx} {B C n m : Nat} {cs ds : List AV} {f g : Po}
/-- plain, and read as d -/
structure PlR (a d : AV) : Prop where
  isd : IsD d
  snp : ∀ H, snap H a = d
  own : ∀ H, ownOK H false a
  fzn : ∀ H l, fzArgs H (a :: l) = fzArgs H l
theorem PlD.r {a : AV} (h : PlD a) : PlR a a := ⟨h.isd, h.snp, h.own, h.fzn⟩
inductive PRs : List AV → List AV → Prop
  | nil : PRs [] []
  | cons {a d : AV} {l m : List AV} (h : PlR a d) (t : PRs l m) : PRs (a :: l) (d :: m)
def zc6 : List AV := [Bo false, .v (.slice none 0 0), I64 0, Bo false, .v (.slice none 0 0), I64 0]
/-- six cells that read as a point -/
def Blk (l : List AV) (z : Cx) : Prop := l = CIc z ∨ (z = zero ∧ l = zc6)
theorem CIc_0 : CIc zero = [Bo false, .sl 0 [], I64 0, Bo false, .sl 0 [], I64 0] := AV.agg.inj CI_0
theorem Blk.snp {l : List AV} {z : Cx} (h : Blk l z) : l.map snap0 = CIc z := by
  rcases h with rfl | ⟨rfl, rfl⟩
  · rfl
  · rw [CIc_0]; rfl
/-- a row of cells that reads as coefficients -/
def MR (cells : List AV) (N : Nat) (F : Po) : Prop := cells.length = N * 6 ∧ ∀ s, s < N → Blk ((cells.drop (s * 6)).take 6) (F s)
theorem spl_get {cells vc : List AV} {off : Nat} (h : off + vc.length ≤ cells.length) (j : Nat) : (spl cells off vc)[j]? = if off ≤ j ∧ j < off + vc.length then vc[j - off]? else cells[j]? := by
  unfold spl
  rcases Nat.lt_or_ge j off with h1 | h1
  · rw [if_neg (by omega), List.getElem?_append_left (by simp; omega), List.getElem?_append_left (by simp; omega), List.getElem?_take, if_pos h1]
  · rcases Nat.lt_or_ge j (off + vc.length) with h2 | h2
    · rw [if_pos ⟨h1, h2⟩, List.getElem?_append_left (by simp; omega), List.getElem?_append_right (by simp; omega)]
      congr 1; simp; omega
    · rw [if_neg (by omega), List.getElem?_append_right (by simp; omega), List.getElem?_drop]
      congr 1; simp; omega
theorem spl_len {cells vc : List AV} {off : Nat} (h : off + vc.length ≤ cells.length) : (spl cells off vc).length = cells.length := by
  unfold spl; simp; omega
theorem blk_spl {cells vc : List AV} {N s0 s : Nat} (hl : cells.length = N * 6) (hv : vc.length = 6) (h0 : s0 < N) : ((spl cells (s0 * 6) vc).drop (s * 6)).take 6 = if s = s0 then vc else (cells.drop (s * 6)).take 6 := by
  have hle : s0 * 6 + vc.length ≤ cells.length := by omega
  by_cases h : s = s0
  · subst h
    rw [if_pos rfl]
    apply List.ext_getElem?
    intro j
    rw [List.getElem?_take, List.getElem?_drop, spl_get hle]
    by_cases hj : j < 6
    · rw [if_pos hj, if_pos (by omega)]; congr 1; omega
    · rw [if_neg hj, List.getElem?_eq_none (by omega)]
  · rw [if_neg h]
    apply List.ext_getElem?
    intro j
    rw [List.getElem?_take, List.getElem?_take, List.getElem?_drop, List.getElem?_drop, spl_get hle]
    by_cases hj : j < 6
    · rw [if_pos hj, if_pos hj, if_neg (by omega)]
    · rw [if_neg hj, if_neg hj]
theorem MR.set {cells : List AV} {N s0 : Nat} {F : Po} (h : MR cells N F) (h0 : s0 < N) (v : Cx) : MR (spl cells (s0 * 6) (CIc v)) N (fun s => if s = s0 then v else F s) := by
  refine ⟨by rw [spl_len (by have := h.1; show s0 * 6 + 6 ≤ _; omega)]; exact h.1, fun s hs => ?_⟩
  rw [blk_spl h.1 rfl h0]
  show Blk _ (if s = s0 then v else F s)
  by_cases e : s = s0
  · rw [if_pos e, if_pos e]; exact .inl rfl
  · rw [if_neg e, if_neg e]; exact h.2 s hs
theorem MR.congr {cells : List AV} {N : Nat} {F G : Po} (h : MR cells N F) (e : ∀ s, F s = G s) : MR cells N G := ⟨h.1, fun s hs => by rw [← e s]; exact h.2 s hs⟩
theorem MR.snp {cells : List AV} {N : Nat} {F : Po} (h : MR cells N F) : cells.map snap0 = pcl N F := by
  have key : ∀ i, i ≤ N → (cells.take (i * 6)).map snap0 = pcl i F := by
    intro i
    induction i with
    | zero => intro _; rw [pcl0, Nat.zero_mul]; rfl
    | succ i ih =>
      intro hi
      rw [pclS, ← ih (by omega), ← (h.2 i (by omega)).snp, ← List.map_append, Nat.succ_mul, List.take_add]
  have := key N (Nat.le_refl N)
  rwa [← h.1, List.take_length] at this
end Go.Ab
