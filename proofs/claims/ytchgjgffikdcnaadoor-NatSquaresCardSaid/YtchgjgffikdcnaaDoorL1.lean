/- Contracts of this seat's functions (of each call: what it answers), walked over the abstract machine, and the laws of numbers that they want. Conditions: those that each theorem states. -/
import Derived.Test.YtchgjgffikdcnaaDoorFacts
import Derived.Test.YtchgjgffikdcnaaDoorRows
import Derived.ProofKit
import Derived.LaidMore
import Derived.OpenShut
import Derived.ShutString
import Derived.ChangeOld
import Derived.Stop.Joined
set_option linter.unusedVariables false
set_option linter.unusedSimpArgs false
/-! How the row's premises and arguments read to the abstract machine. -/
namespace Go.Ab
open Go.Proofs Go.Proofs.YtchgjgffikdcnaaDoor Go.ChangeShapes Go.WideShapes Go.ChangeAt Go.WideMaps Go.WideElems Go.RowKit

def laid1 : List (String × DataW Unit) := [("math/bits.deBruijn32tab", Rows.laid_math_bits_deBruijn32tab)]
theorem gTab : Tryd.prog.globalNamed "math/bits.deBruijn32tab" = some 0 := by kernel_rfl
theorem tTab : (Tryd.prog.globals[0]?).map (·.type) = some 50 := by kernel_rfl
theorem uTab : Tryd.prog.underlying 50 = some (.array 32 5) := by kernel_rfl
theorem uTab8 : Tryd.prog.underlying 5 = some (.int .u8) := by kernel_rfl
theorem cTab8 : Tryd.prog.cellsOf 5 = 1 := by kernel_rfl
def deTab : List Int := [0, 1, 28, 2, 29, 14, 24, 3, 30, 22, 20, 15, 25, 17, 4, 8, 31, 27, 13, 23, 21, 19, 16, 7, 26, 12, 18, 6, 11, 5, 10, 9]
theorem deTab_datum : (Rows.laid_math_bits_deBruijn32tab : DataW Unit) = .agg (deTab.map fun n => .lit (.int .u8 n)) := rfl
theorem deTab_value : tab32 = deTab.map fun n => Value.int .u8 n := rfl

theorem door_met (os : Os) (args : Array Value) : laidMetH Tryd.prog laid1 ((World.doorLaid Tryd.prog 14 os).forCall (fun _ _ => 0) ⟨#[], args, []⟩).memory :=
  laidMetH_of_parts3 (fuel := 8) (laidMet_of_run' 8 (by kernel_rfl) (by kernel_rfl)) (by kernel_rfl) (by kernel_rfl)

/-- WHAT THE CONDITION GIVES: the table's cells. -/
theorem glob_of {W : World} (h : laidMetH Tryd.prog laid1 W) : GlobOK CT.G W := by
  rw [MakeChecks.laidMetH_plain _ _ _ (by kernel_rfl)] at h
  obtain ⟨ps, ⟨g0, t0, cs0, f0, p0, q0, hg0, ht0, hv0, hd0, _, _⟩, _, _⟩ := h
  obtain rfl := Option.some.inj (gTab.symm.trans hg0)
  obtain rfl := Option.some.inj (tTab.symm.trans ht0)
  obtain ⟨xs, m1, rfl, hx1, hlen, hn3, hel⟩ := DataW.trod_array uTab hd0
  rw [deTab_datum] at hx1
  simp only [Prod.mk.injEq, DataW.agg.injEq] at hx1
  have hcell : ∀ i, i < 32 → W.cell? ⟨0, i, none⟩ = some (.int .u8 (deTab.getD i 0)) := by
    intro i hi
    have h0 := hel i hi
    rw [cTab8, Nat.mul_one, List.getElem?_eq_getElem (by omega)] at h0
    obtain ⟨k, e1, e2, _⟩ := DataW.trod_int uTab8 h0
    have hk : (xs.map (·.1))[i]? = some (.lit (.int .u8 k)) := by
      rw [List.getElem?_map, List.getElem?_eq_getElem (by omega), e2]; rfl
    rw [← hx1.1, List.getElem?_map] at hk
    have hl : deTab.length = 32 := rfl
    rw [List.getElem?_eq_getElem (by omega)] at hk
    simp only [Option.map_some, Option.some.injEq, DataW.lit.injEq, Lit.int.injEq, true_and] at hk
    rw [World.var?_cell hg0 hv0 i]
    have e3 : cs0.toList[i]? = some (.int .u8 k) := by
      have := congrArg (fun l : List Value => l[0]?) e1
      simpa [List.getElem?_take, List.getElem?_drop] using this
    rw [← Array.getElem?_toList, e3, ← hk]
    simp [List.getD_eq_getElem?_getD, hl, hi]
  intro g cs hg
  have hG : g = 0 ∧ cs = tab32 := by
    have : (if g = 0 then some tab32 else none) = some cs := hg
    by_cases e : g = 0
    · rw [if_pos e] at this; exact ⟨e, (Option.some.inj this).symm⟩
    · rw [if_neg e] at this; cases this
  obtain ⟨rfl, rfl⟩ := hG
  have hl : tab32.length = 32 := rfl
  refine ⟨cell_lt (hcell 0 (by omega)), fun i hi => ?_⟩
  rw [hl] at hi
  rw [hcell i hi, deTab_value]
  have hl2 : deTab.length = 32 := rfl
  simp [List.getD_eq_getElem?_getD, hl2, hi]

/-- A slice of uint32 that came in. -/
theorem read_u32 {H : Type} {enc : TypeId × Value → H} {W : World} {spare : Nat → Bool} {held : Bool} {fuel : Nat} {a0 : Option Addr} {len cap : Nat} {x : DataW H × List MemPlace}
    (hf : DataW.trod enc Tryd.prog W 0 spare held fuel 22 [.slice a0 len cap] = some x) : ∃ l : List Nat, Lm l ∧ DRep (fun _ => True) W (U32 l) (.slice a0 len cap) := by
  rcases open_ints Tryd.underlying22 Tryd.underlying32 (by kernel_rfl) hf with ⟨hcs, _⟩ | ⟨ad, l, c, zs, hcs, _, hl, hm, hz, _, hcell, hwz⟩
  · simp at hcs
    obtain ⟨rfl, rfl, rfl⟩ := hcs
    exact ⟨[], (fun x hx => by cases hx), ARep.sl 0 [] none 0 (fun _ => undef) (Nat.le_refl _) (fun i hi => by simp at hi) (fun i hi => by simp at hi)⟩
  · simp at hcs
    obtain ⟨rfl, rfl, rfl⟩ := hcs
    have hzl : len ≤ zs.length := by rw [hz]; split <;> omega
    have hwf : ∀ n ∈ zs, 0 ≤ n ∧ n < 4294967296 := by
      intro n hn
      have := hwz n hn
      simp only [Lit.wf, Bool.and_eq_true, decide_eq_true_eq, IntKind.min, IntKind.max, IntKind.signed, IntKind.bits] at this
      simp at this
      omega
    have hspot : 0 < zs.length → ad.spot = none := by
      intro h
      have := hcell 0 h
      unfold Addr.add at this
      rw [if_pos rfl] at this
      unfold World.cell? at this
      split at this
      · split at this
        · cases this
        · rename_i q; simpa using q
      · cases this
    have hlen : ((zs.take len).map Int.toNat).length = len := by simp; omega
    refine ⟨(zs.take len).map Int.toNat, ?_, ?_⟩
    · intro y hy
      rw [List.mem_map] at hy
      obtain ⟨n, hn, rfl⟩ := hy
      have := hwf n (List.mem_of_mem_take hn)
      omega
    · unfold U32
      rw [hlen]
      refine .sl len _ (some ad) cap (fun i => .int .u32 (zs.getD i 0)) hl (fun i hi => ?_) (fun i hi => ?_)
      · rw [length_u32s, hlen] at hi
        refine ⟨ad, rfl, hspot (by omega), trivial, ?_⟩
        have h1 := hcell i (by omega)
        rw [← h1]
        have hs := hspot (by omega)
        unfold Addr.add
        by_cases e : i = 0
        · subst e
          rw [if_pos rfl, Nat.add_zero]
          cases ad; simp at hs; subst hs; rfl
        · rw [if_neg e]
      · rw [length_u32s, hlen] at hi
        rw [getD_u32s (by omega)]
        have e1 : ((((zs.take len).map Int.toNat).getD i 0 : Nat) : Int) = zs.getD i 0 := by
          have hi2 : i < zs.length := by omega
          have := hwf zs[i] (List.getElem_mem hi2)
          simp [List.getD_eq_getElem?_getD, hi2, List.getElem?_take, hi]
          omega
        rw [e1]
        exact .v _
theorem nat_u8 {n : Int} (h : (Lit.int .u8 n).wf = true) : ∃ m : Nat, n = (m : Int) ∧ m < 256 := by
  simp only [Lit.wf, Bool.and_eq_true, decide_eq_true_eq, IntKind.min, IntKind.max, IntKind.signed, IntKind.bits] at h
  simp at h
  exact ⟨n.toNat, by omega, by omega⟩
theorem reps_nil {S : Nat → Prop} {w : World} : ∀ i, i < ([] : List AV).length → DRep S w (([] : List AV).getD i .bad) (([] : List Value).getD i undef) := fun i h => by simp at h
theorem reps_cons {S : Nat → Prop} {w : World} {a : AV} {x : Value} {l : List AV} {xs : List Value} (h : DRep S w a x) (t : ∀ i, i < l.length → DRep S w (l.getD i .bad) (xs.getD i undef)) :
    ∀ i, i < (a :: l).length → DRep S w ((a :: l).getD i .bad) ((x :: xs).getD i undef) := fun i hi => by
  cases i with
  | zero => exact h
  | succ i => exact t i (by simpa using hi)
end Go.Ab
