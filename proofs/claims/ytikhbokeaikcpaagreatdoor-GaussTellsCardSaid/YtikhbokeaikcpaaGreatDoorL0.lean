/- Contracts of this seat's functions (of each call: what it answers), walked over the abstract machine, and the laws of numbers that they want. Conditions: those that each theorem states. -/
import Derived.Test.YtikhbokeaikcpaaGreatDoorFacts
import Derived.Test.YtikhbokeaikcpaaGreatDoorRows
import Derived.ProofKit
import Derived.LaidMore
import Derived.OpenShut
import Derived.ShutString
import Derived.ChangeOld
import Derived.Stop.Joined
set_option linter.unusedVariables false
set_option maxRecDepth 20000
set_option linter.unusedSimpArgs false
/-! How the row's premises and arguments read to the abstract machine. -/
namespace Go.Ab
open Go.Proofs Go.Proofs.YtikhbokeaikcpaaGreatDoor Go.ChangeShapes Go.WideShapes Go.ChangeAt Go.WideMaps Go.WideElems Go.RowKit

/-- A slice of uint32 that came in. -/
theorem read_u32 {H : Type} {enc : TypeId × Value → H} {W : World} {spare : Nat → Bool} {held : Bool} {fuel : Nat} {a0 : Option Addr} {len cap : Nat} {x : DataW H × List MemPlace}
    (hf : DataW.trod enc Tryz.prog W 0 spare held fuel 22 [.slice a0 len cap] = some x) : ∃ l : List Nat, Lm l ∧ DRep (fun _ => True) W (U32 l) (.slice a0 len cap) := by
  rcases open_ints Tryz.underlying22 Tryz.underlying100 (by kernel_rfl) hf with ⟨hcs, _⟩ | ⟨ad, l, c, zs, hcs, _, hl, hm, hz, _, hcell, hwz⟩
  · simp at hcs
    obtain ⟨rfl, rfl, rfl⟩ := hcs
    exact ⟨[], (fun x hx => by cases hx), ARep.sl 0 [] none 0 (fun _ => undef) (Nat.le_refl _) (fun i hi => by simp at hi) (fun i hi => by simp at hi)⟩
  · simp at hcs
    obtain ⟨rfl, rfl, rfl⟩ := hcs
    have hzl : len ≤ zs.length := by rw [hz]; split <;> omega
    have hwf : ∀ n ∈ zs, 0 ≤ n ∧ n < 4294967296 := by
      intro n hn
      have := hwz n hn
      simp only [Lit.wf, Bool.and_eq_true, decide_eq_true_eq, IntKind.min, IntKind.max, IntKind.signed, IntKind.bits] at this
      simp at this
      omega
    have hspot : 0 < zs.length → ad.spot = none := by
      intro h
      have := hcell 0 h
      unfold Addr.add at this
      rw [if_pos rfl] at this
      unfold World.cell? at this
      split at this
      · split at this
        · cases this
        · rename_i q; simpa using q
      · cases this
    have hlen : ((zs.take len).map Int.toNat).length = len := by simp; omega
    refine ⟨(zs.take len).map Int.toNat, ?_, ?_⟩
    · intro y hy
      rw [List.mem_map] at hy
      obtain ⟨n, hn, rfl⟩ := hy
      have := hwf n (List.mem_of_mem_take hn)
      omega
    · unfold U32
      rw [hlen]
      refine .sl len _ (some ad) cap (fun i => .int .u32 (zs.getD i 0)) hl (fun i hi => ?_) (fun i hi => ?_)
      · rw [length_u32s, hlen] at hi
        refine ⟨ad, rfl, hspot (by omega), trivial, ?_⟩
        have h1 := hcell i (by omega)
        rw [← h1]
        have hs := hspot (by omega)
        unfold Addr.add
        by_cases e : i = 0
        · subst e
          rw [if_pos rfl, Nat.add_zero]
          cases ad; simp at hs; subst hs; rfl
        · rw [if_neg e]
      · rw [length_u32s, hlen] at hi
        rw [getD_u32s (by omega)]
        have e1 : ((((zs.take len).map Int.toNat).getD i 0 : Nat) : Int) = zs.getD i 0 := by
          have hi2 : i < zs.length := by omega
          have := hwf zs[i] (List.getElem_mem hi2)
          simp [List.getD_eq_getElem?_getD, hi2, List.getElem?_take, hi]
          omega
        rw [e1]
        exact .v _
theorem reps_nil {S : Nat → Prop} {w : World} : ∀ i, i < ([] : List AV).length → DRep S w (([] : List AV).getD i .bad) (([] : List Value).getD i undef) := fun i h => by simp at h
theorem reps_cons {S : Nat → Prop} {w : World} {a : AV} {x : Value} {l : List AV} {xs : List Value} (h : DRep S w a x) (t : ∀ i, i < l.length → DRep S w (l.getD i .bad) (xs.getD i undef)) :
    ∀ i, i < (a :: l).length → DRep S w ((a :: l).getD i .bad) ((x :: xs).getD i undef) := fun i hi => by
  cases i with
  | zero => exact h
  | succ i => exact t i (by simpa using hi)
theorem i64_of {n : Int} (h : (Lit.int .i64 n).wf = true) : -9223372036854775808 ≤ n ∧ n ≤ 9223372036854775807 := by
  simp only [Lit.wf, Bool.and_eq_true, decide_eq_true_eq, IntKind.min, IntKind.max, IntKind.signed, IntKind.bits] at h
  simp at h
  omega
end Go.Ab
