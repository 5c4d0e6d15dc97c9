/- 'annuluslaw15.CountFar' answers true at every input, and each argument reads afterwards as it read before: its tied card. Conditions: the row's own (the listed table of math/bits reads as the program's text lays it: tied). -/
import Derived.Test.YtcnhnabmkfagbaaGreatDoorCC
import Derived.Test.YtcnhnabmkfagbaaGreatDoorL1x
import Derived.Test.YtcnhnabmkfagbaaGreatDoorUR
import Derived.Test.YtcnhnabmkfagbaaGreatDoorCards
import Derived.Test.YtcnhnabmkfagbaaGreatDoorTie
import Derived.SevenTiedAt
import Derived.ProofKit
import Derived.LaidMore
import Derived.OpenShut
import Derived.ShutString
import Derived.ChangeOld
import Derived.Below
import Derived.Stop.Joined
set_option linter.unusedVariables false
set_option maxRecDepth 20000
namespace Go.Proofs.YtcnhnabmkfagbaaGreatDoor.countFar
open Go.ChangeShapes Go.WideShapes Go.ChangeAt Go.RowKit
open Go.ChangeMaps (open_string shut_string)

theorem own : ownKnob Tryz.prog.godebug = none := by kernel_rfl
theorem laidOut : laidOutB Tryz.prog = true := by kernel_rfl

set_option maxRecDepth 100000 in
theorem lifted (os : Os) (started : os.Started) (H : Type) (enc : TypeId × Value → H) :
    ReturnsInHanded {} Tryz.checked os 5 .any (fun w args => (Rows.countFarSpec.pre enc Tryz.prog Tryz.f5 [] false w args ∧ laidMetH Tryz.prog Go.Ab.laid1 w) ∧ sizedMet enc Tryz.prog Tryz.f5 (OpenSpec.ofChange Rows.countFarSpec) false w args)
      (Rows.countFarSpec.post enc Tryz.prog Tryz.f5 false true false false) := by
  refine returnsInHanded_of_change_and (C := Tryz.checked) (X := fun w _ => laidMetH Tryz.prog Go.Ab.laid1 w) (fun _ _ _ hh h => h.of_heap hh) own started (by kernel_rfl) Tryz.func5
    (ChangeSpec.witness_shaped (enc := enc) (C := Tryz.checked) (os := os) (X := fun w _ => laidMetH Tryz.prog Go.Ab.laid1 w) false (World.doorLaid Tryz.prog 14 os) #[.slice none 0 0, .int .i8 0, .int .i8 0] 8 rfl (World.shaped_of_RefB (by kernel_rfl) (by kernel_rfl)) (by kernel_rfl) (by kernel_rfl) (by kernel_rfl) (Go.Ab.door_met os _)) ?_
  intro W base args ds gs before hval0 hW hcnd _ hL _
  have hval : ∀ (j : Nat) t v, Tryz.f5.params[j]? = some t → args[j]? = some v → Value.okWide Tryz.prog W .any base t v := hval0
  have hW' := hW
  obtain ⟨p, q, hA0, hV, rfl, hfz, hnd⟩ := hW
  have hA : DataW.TrodAll enc Tryz.prog W 0 (fun _ => true) true Tryz.f5.params.toList args.toList ds p := hA0
  rw [Tryz.params5] at hA hval
  obtain ⟨v0, vs0, d0, ds0, p0, q0, hargs, rfl, rfl, h0, r0⟩ := trodAll_cons hA
  obtain ⟨v1, vs1, d1, ds1, p1, q1, rfl, rfl, rfl, h1, r1⟩ := trodAll_cons r0
  obtain ⟨v2, vs2, d2, ds2, p2, q2, rfl, rfl, rfl, h2, r2⟩ := trodAll_cons r1
  obtain ⟨rfl, rfl, rfl⟩ := trodAll_nil r2
  obtain rfl : args = #[v0, v1, v2] := by cases args; simp_all
  obtain ⟨rfl, rfl⟩ := trodVars_none hV
  have k0 := h0
  have lt0 : ∀ x ∈ p0, x.block < W.heap.size := by obtain ⟨m, hm⟩ := k0; exact DataW.trod_lt m _ _ _ hm
  obtain ⟨n0, F0, hF0, rp0⟩ := Go.Ab.read_u8s (hval 0 47 v0 rfl rfl) h0
  obtain ⟨a1, rfl, rfl, rfl, w1⟩ := open_int Tryz.underlying48 (hval 1 48 v1 rfl rfl) h1
  have u1 := Go.Ab.i8_of w1
  obtain ⟨a2, rfl, rfl, rfl, w2⟩ := open_int Tryz.underlying48 (hval 2 48 v2 rfl rfl) h2
  have u2 := Go.Ab.i8_of w2
  clear hA0 hval0
  have hs := (Go.Ab.countFar_sat F0 hF0 a1 u1 a2 u2) W (fun _ => True) [v0, .int .i8 a1, .int .i8 a2] (Go.Ab.glob_of hL) (fun _ _ => trivial) rfl (Go.Ab.reps_cons rp0 (Go.Ab.reps_cons (.v _) (Go.Ab.reps_cons (.v _) Go.Ab.reps_nil)))
  refine hs.mono fun e W' ⟨x, he, hx, bel⟩ => ?_
  cases hx
  subst he
  exact ⟨_, rfl, _, _, _, [], _, [], hW', trodAll_mk1 (shut_bool Tryz.underlying4 _), (trodAll_cons_mk (Below.trod laidOut (by kernel_rfl) (of_decide_eq_true (by kernel_rfl)) k0 bel lt0) (trodAll_cons_mk (shut_int Tryz.underlying48 w1) (trodAll_cons_mk (shut_int Tryz.underlying48 w2) trodAll_mk0))), rfl, bel.frame _, fun h => by cases h⟩

theorem over : Rows.countFarRow.holds Tryz.pinned (OpenSpec.ofChange Rows.countFarSpec) :=
  OpenClaim.holds_of_wide 5 Tryz.f5 rfl rfl rfl rfl rfl rfl rfl ⟨rfl, rfl, rfl, rfl, rfl⟩ rfl rfl rfl rfl rfl (by kernel_rfl) Tryz.func5 (by kernel_rfl)
    (of_decide_eq_true (by kernel_rfl)) (by unfold Func.isWrapper; first | (rw [if_pos (by decide +kernel)]; kernel_rfl) | (rw [if_neg (by decide +kernel)]; exact ⟨rfl, rfl⟩))
    (fun os started H enc _ => lifted os started H enc)
end Go.Proofs.YtcnhnabmkfagbaaGreatDoor.countFar
namespace Go.Proofs.YtcnhnabmkfagbaaGreatDoor
open Go
/-- THE STATEMENT -/
theorem countFar_card : Rows.CountFarCardSaid :=
  Claim7.holds_tied_plain_at .later [] [.data] true (true, "9049654d7cd2433d7e0afc8f8f1a3b9dd7a53dafd6ad84f42c16e13fb8fb518a") false
    countFar.over (fun _ h => by cases h) (by kernel_rfl) (fun _ h => by cases h) countFar_row_tie rfl ⟨rfl, rfl⟩ (by kernel_rfl) rfl
    (fun f fn hf hfn => by
      obtain rfl : f = 5 := Option.some.inj ((show Tryz.prog.funcNamed "annulus/annuluslaw15.CountFar" = some 5 by kernel_rfl).symm.trans hf) |>.symm
      obtain rfl : fn = Tryz.f5 := (Option.some.inj (Tryz.func5.symm.trans hfn)).symm
      exact ⟨by kernel_rfl, fun j t ht => by
        rw [Tryz.params5] at ht
        have hm : t ∈ [47, 48, 48] := by simpa using Array.mem_of_getElem? ht
        have hall : ([47, 48, 48].all fun u => !Tryz.prog.wantsStandIn u) = true := by kernel_rfl
        exact (show Tryz.prog.wantsStandIn t = false by simpa using List.all_eq_true.1 hall t hm)⟩)
    (by kernel_rfl)
#print axioms countFar_card
end Go.Proofs.YtcnhnabmkfagbaaGreatDoor
