/- 'annuluslaw8.GaussWholes' answers true at every input, and each argument reads afterwards as it read before: its tied card. Conditions: the row's own (the listed table of math/bits reads as the program's text lays it: tied). -/
import Derived.Test.YtikhbokeaikcpaaDoorFP8
import Derived.Test.YtikhbokeaikcpaaDoorL1x
import Derived.Test.YtikhbokeaikcpaaDoorCards
import Derived.Test.YtikhbokeaikcpaaDoorTie
import Derived.SevenTiedAt
import Derived.ProofKit
import Derived.LaidMore
import Derived.OpenShut
import Derived.ShutString
import Derived.ChangeOld
import Derived.Below
import Derived.Stop.Joined
set_option linter.unusedVariables false
set_option maxRecDepth 20000
namespace Go.Proofs.YtikhbokeaikcpaaDoor.gaussWholes
open Go.ChangeShapes Go.WideShapes Go.ChangeAt Go.RowKit
open Go.ChangeMaps (open_string shut_string)

theorem own : ownKnob Tryd.prog.godebug = none := by kernel_rfl
theorem laidOut : laidOutB Tryd.prog = true := by kernel_rfl

set_option maxRecDepth 100000 in
theorem lifted (os : Os) (started : os.Started) (H : Type) (enc : TypeId × Value → H) :
    ReturnsInHanded {} Tryd.checked os 4 .any (fun w args => (Rows.gaussWholesSpec.pre enc Tryd.prog Tryd.f4 [] false w args ∧ laidMetH Tryd.prog Go.Ab.laid1 w) ∧ sizedMet enc Tryd.prog Tryd.f4 (OpenSpec.ofChange Rows.gaussWholesSpec) false w args)
      (Rows.gaussWholesSpec.post enc Tryd.prog Tryd.f4 false true false false) := by
  refine returnsInHanded_of_change_and (C := Tryd.checked) (X := fun w _ => laidMetH Tryd.prog Go.Ab.laid1 w) (fun _ _ _ hh h => h.of_heap hh) own started (by kernel_rfl) Tryd.func4
    (ChangeSpec.witness_shaped (enc := enc) (C := Tryd.checked) (os := os) (X := fun w _ => laidMetH Tryd.prog Go.Ab.laid1 w) false (World.doorLaid Tryd.prog 14 os) #[.int .i32 0, .int .i32 0, .int .i16 0] 8 rfl (World.shaped_of_RefB (by kernel_rfl) (by kernel_rfl)) (by kernel_rfl) (by kernel_rfl) (by kernel_rfl) (Go.Ab.door_met os _)) ?_
  intro W base args ds gs before hval0 hW hcnd _ hL _
  have hval : ∀ (j : Nat) t v, Tryd.f4.params[j]? = some t → args[j]? = some v → Value.okWide Tryd.prog W .any base t v := hval0
  have hW' := hW
  obtain ⟨p, q, hA0, hV, rfl, hfz, hnd⟩ := hW
  have hA : DataW.TrodAll enc Tryd.prog W 0 (fun _ => true) true Tryd.f4.params.toList args.toList ds p := hA0
  rw [Tryd.params4] at hA hval
  obtain ⟨v0, vs0, d0, ds0, p0, q0, hargs, rfl, rfl, h0, r0⟩ := trodAll_cons hA
  obtain ⟨v1, vs1, d1, ds1, p1, q1, rfl, rfl, rfl, h1, r1⟩ := trodAll_cons r0
  obtain ⟨v2, vs2, d2, ds2, p2, q2, rfl, rfl, rfl, h2, r2⟩ := trodAll_cons r1
  obtain ⟨rfl, rfl, rfl⟩ := trodAll_nil r2
  obtain rfl : args = #[v0, v1, v2] := by cases args; simp_all
  obtain ⟨rfl, rfl⟩ := trodVars_none hV
  obtain ⟨a0, rfl, rfl, rfl, w0⟩ := open_int Tryd.underlying21 (hval 0 21 v0 rfl rfl) h0
  have u0 := Go.Ab.i32_of w0
  obtain ⟨a1, rfl, rfl, rfl, w1⟩ := open_int Tryd.underlying21 (hval 1 21 v1 rfl rfl) h1
  have u1 := Go.Ab.i32_of w1
  obtain ⟨a2, rfl, rfl, rfl, w2⟩ := open_int Tryd.underlying44 (hval 2 44 v2 rfl rfl) h2
  have u2 := Go.Ab.i16_of w2
  clear hA0 hval0
  have hs := (Go.Ab.gaussWholes_sat a0 u0 a1 u1 a2 u2) W (fun _ => True) [.int .i32 a0, .int .i32 a1, .int .i16 a2] (Go.Ab.glob_of hL) (fun _ _ => trivial) rfl (Go.Ab.reps_cons (.v _) (Go.Ab.reps_cons (.v _) (Go.Ab.reps_cons (.v _) Go.Ab.reps_nil)))
  refine hs.mono fun e W' ⟨x, he, hx, bel⟩ => ?_
  cases hx
  subst he
  exact ⟨_, rfl, _, _, _, [], _, [], hW', trodAll_mk1 (shut_bool Tryd.underlying4 _), (trodAll_cons_mk (shut_int Tryd.underlying21 w0) (trodAll_cons_mk (shut_int Tryd.underlying21 w1) (trodAll_cons_mk (shut_int Tryd.underlying44 w2) trodAll_mk0))), rfl, bel.frame _, fun h => by cases h⟩

theorem over : Rows.gaussWholesRow.holds Tryd.pinned (OpenSpec.ofChange Rows.gaussWholesSpec) :=
  OpenClaim.holds_of_wide 4 Tryd.f4 rfl rfl rfl rfl rfl rfl rfl ⟨rfl, rfl, rfl, rfl, rfl⟩ rfl rfl rfl rfl rfl (by kernel_rfl) Tryd.func4 (by kernel_rfl)
    (of_decide_eq_true (by kernel_rfl)) (by unfold Func.isWrapper; first | (rw [if_pos (by decide +kernel)]; kernel_rfl) | (rw [if_neg (by decide +kernel)]; exact ⟨rfl, rfl⟩))
    (fun os started H enc _ => lifted os started H enc)
end Go.Proofs.YtikhbokeaikcpaaDoor.gaussWholes
namespace Go.Proofs.YtikhbokeaikcpaaDoor
open Go
/-- THE STATEMENT -/
theorem gaussWholes_card : Rows.GaussWholesCardSaid :=
  Claim7.holds_tied_plain_at .later [] [.data] true (true, "ca113de922bda24cc8cc0a2ddcd46276dc81a814a2fd42fefa6ccd7ba3797c49") false
    gaussWholes.over (fun _ h => by cases h) (by kernel_rfl) (fun _ h => by cases h) gaussWholes_row_tie rfl ⟨rfl, rfl⟩ (by kernel_rfl) rfl
    (fun f fn hf hfn => by
      obtain rfl : f = 4 := Option.some.inj ((show Tryd.prog.funcNamed "annulus/annuluslaw8.GaussWholes" = some 4 by kernel_rfl).symm.trans hf) |>.symm
      obtain rfl : fn = Tryd.f4 := (Option.some.inj (Tryd.func4.symm.trans hfn)).symm
      exact ⟨by kernel_rfl, fun j t ht => by
        rw [Tryd.params4] at ht
        have hm : t ∈ [21, 21, 44] := by simpa using Array.mem_of_getElem? ht
        have hall : ([21, 21, 44].all fun u => !Tryd.prog.wantsStandIn u) = true := by kernel_rfl
        exact (show Tryd.prog.wantsStandIn t = false by simpa using List.all_eq_true.1 hall t hm)⟩)
    (by kernel_rfl)
#print axioms gaussWholes_card
end Go.Proofs.YtikhbokeaikcpaaDoor
