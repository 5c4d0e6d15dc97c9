/- Contracts of this seat's functions (of each call: what it answers), walked over the abstract machine, and the laws of numbers that they want. Conditions: those that each theorem states. -/
import Derived.Test.YtikhbokeaikcpaaGreatDoorA3
/-! contracts whose walk may freeze the call's own rows between two pieces of code -/
set_option linter.unusedVariables false
set_option maxRecDepth 20000
set_option linter.unusedSimpArgs false
set_option linter.unusedSectionVars false
namespace Go.Ab
open Go.RowKit (Below)

def aX (C : Ctx) (N : Nat) (jump : Code → APost → AState → Prop) : Code → APost → AState → Prop
  | .seq x y, Q, σ => aW C N jump (.seq x y) Q σ ∨ aW C N jump x (thenA (fun σ' => aX C N jump y Q σ' ∨ aX C N jump y Q ⟨σ'.slots, fzAll σ'.H⟩) Q) σ
  | c, Q, σ => aW C N jump c Q σ

section
variable {C : Ctx} {B : Nat} {X : Nat → Prop} {w0 : World} {Z : Mu → Heap → World → Prop} {N : Nat} {jump : Code → APost → AState → Prop} {Q : APost} {σ : AState}
theorem aX_w {c : Code} (h : aW C N jump c Q σ) : aX C N jump c Q σ := by
  cases c with
  | seq x y => exact .inl h
  | _ => exact h
/-- the rest, hidden -/
def HY (C : Ctx) (N : Nat) (jump : Code → APost → AState → Prop) (y : Code) (Q : APost) : AState → Prop := aX C N jump y Q
theorem x_HY {y : Code} : HY C N jump y Q σ = aX C N jump y Q σ := rfl
theorem thenA_imp {K K' : AState → Prop} (h : ∀ σ, K σ → K' σ) : ∀ e σ, thenA K Q e σ → thenA K' Q e σ := fun e σ q => by
  cases e with
  | normal => exact h σ q
  | _ => exact q
theorem aX_seq {x y : Code} (hj : JumpMono jump) (h : aW C N jump x (thenA (HY C N jump y Q) Q) σ) : aX C N jump (.seq x y) Q σ :=
  .inr (aW_mono hj x _ _ σ (thenA_imp (fun σ q => .inl q)) h)
theorem aX_fz {x y : Code} (hj : JumpMono jump) (E : AState → Prop) (h1 : aW C N jump x (thenA E Q) σ) (h2 : ∀ σ, E σ → aX C N jump y Q ⟨σ.slots, fzAll σ.H⟩) : aX C N jump (.seq x y) Q σ :=
  .inr (aW_mono hj x _ _ σ (thenA_imp (fun σ q => .inr (h2 σ q))) h1)
theorem aX_cut {x y : Code} (hj : JumpMono jump) (E : AState → Prop) (h1 : aW C N jump x (thenA E Q) σ) (h2 : ∀ σ, E σ → aX C N jump y Q σ) : aX C N jump (.seq x y) Q σ :=
  .inr (aW_mono hj x _ _ σ (thenA_imp (fun σ q => .inl (h2 σ q))) h1)

theorem aX_wp (hmix : C.P.follows .mixedOrders = true) (hj : JumpOK C B X w0 Z N jump) : JumpOK C B X w0 Z N (aX C N jump) := by
  intro c
  induction c with
  | seq x y ihx ihy =>
    intro Q Qc σ mu a w hd h hst
    rcases h with h | h
    · exact aW_wp hmix hj _ Q Qc σ mu a w hd h hst
    refine wp_seq (aW_wp hmix hj x _ _ σ mu a w (fun e σ' mu' a' w' q s => ?_) h hst)
    cases e with
    | normal =>
      rcases q with q | q
      · exact ihy Q Qc σ' mu' a' w' hd q s
      · exact ihy Q Qc _ mu' a' w' hd q s.freeze
    | exit id => exact hd (.exit id) σ' mu' a' w' q s
    | goto l => exact hd (.goto l) σ' mu' a' w' q s
    | ret => exact hd .ret σ' mu' a' w' q s
  | _ => intro Q Qc σ mu a w hd h hst; exact aW_wp hmix hj _ Q Qc σ mu a w hd h hst

def aX1 (C : Ctx) (N : Nat) : Code → APost → AState → Prop := aX C N (aW C N noJump)
theorem aX1_wp (hmix : C.P.follows .mixedOrders = true) : JumpOK C B X w0 Z N (aX1 C N) :=
  aX_wp hmix (aW_wp hmix (fun _ _ _ _ _ _ _ _ h _ => h.elim))
end

section
variable {C : Ctx}
theorem call_bodyX {f : FuncId} {N : Nat} {body : Code} {rs : List ResultVar} (hf : FnOK C.P f N body rs) {B : Nat} {X : Nat → Prop} {Z : Mu → Heap → World → Prop} {w0 w : World} {mu : Mu} {H : Heap} {args : List AV} {xs : List Value} {K : AV → Heap → Prop}
    (hN : args.length ≤ N) (h : aX1 C N body (Ret C.P rs K) ⟨initSlots 0 args, H⟩) (hs : SimH C B X w0 mu H w) (hz : Z mu H w) (hzk : ∀ mu H w mu' H' w', Z mu H w → After C B X w0 mu H w mu' H' w' → Z mu' H' w') (hn : ∀ k, H.length ≤ k → mu k = none) (hl : xs.length = args.length)
    (hr : ∀ i, i < args.length → ARep mu (Sset X mu H) w (args.getD i .bad) (xs.getD i undef)) :
    Calls C.P f xs.toArray w fun e w' => ∃ x σ mu', e = .returned x ∧ K (retF C.P σ rs).av σ.H ∧ ARep mu' (Sset X mu' σ.H) w' (retF C.P σ rs).av x ∧ (∃ a, St C B X w0 Z N mu' σ a w') := by
  obtain ⟨hmix, fn, h1, h2, h3, h4⟩ := hf
  refine calls_of_wp h1 h2 ?_
  have hst : St C B X w0 Z N mu ⟨initSlots 0 args, H⟩ { tmps := xs.toArray ++ Array.replicate (fn.ntmps - xs.toArray.size) undef, defers := [] } w :=
    ⟨hs, hn, fun t => init_slots hl hr t, rfl, by simp; omega, hz, hzk⟩
  have fin : ∀ σ mu' a w', (retF C.P σ rs).pre → K (retF C.P σ rs).av σ.H → St C B X w0 Z N mu' σ a w' →
      a.defers = [] ∧ ∃ v, (results fn a.tmps).run C.P w' = .ok v w' ∧ (∃ x σ mu', Ending.returned v = .returned x ∧ K (retF C.P σ rs).av σ.H ∧ ARep mu' (Sset X mu' σ.H) w' (retF C.P σ rs).av x ∧ (∃ a, St C B X w0 Z N mu' σ a w')) := by
    intro σ mu' a w' hp hk hst'
    rw [← h4] at hp
    obtain ⟨x, e1, e2⟩ := retF_run hst' hp
    rw [h4] at e2
    exact ⟨hst'.defers, x, e1, x, σ, mu', rfl, hk, e2, a, hst'⟩
  refine aX1_wp hmix body _ _ _ mu _ w (fun e σ mu' a w' q s => ?_) h hst
  cases e with
  | normal => exact fin σ mu' a w' q.1 q.2 s
  | ret => exact fin σ mu' a w' q.1 q.2 s
  | exit id => exact q.elim
  | goto l => exact q.elim

/-- A CONTRACT OUT OF THE CODE, with frozen rows. -/
theorem sat_ofX {f : FuncId} {N : Nat} {body : Code} {rs : List ResultVar} (hf : FnOK C.P f N body rs) {args : List AV} {r : AV} (hN : args.length ≤ N)
    (h : aX1 C N body (Ret C.P rs fun a H => ownOK H true a ∧ IsD r ∧ snap H a = r) ⟨initSlots 0 args, []⟩) : Sat C false f args r := by
  intro w S xs hg hSg hl hr
  have hs : SimH C w.heap.size (fun b => b < w.heap.size → S b) w mu0 [] w :=
    ⟨Nat.le_refl _, .refl _ _, hg, fun k ad o q => (by cases q), fun k ad o q => (by cases q), fun b hb hlt => (by omega), fun g q _ => hSg g q, fun k ad o q => (by cases q), fun k k' ad ad' o o' q => (by cases q)⟩
  refine (call_bodyX (Z := fun _ _ _ => True) hf hN h hs trivial (fun _ _ _ _ _ _ _ _ => trivial) (fun _ _ => rfl) hl (fun i hi => (hr i hi).mono (fun _ _ q => q) (fun b q hlt => ⟨fun _ => q, fun k ad o q => (by cases q)⟩) (.refl _ _))).mono ?_
  rintro e w' ⟨x, σ, mu', rfl, ⟨q1, q2, q3⟩, hx, a, hst⟩
  refine ⟨x, rfl, ?_, hst.sim.below⟩
  obtain ⟨f1, f2⟩ := hst.sim.stillAll
  have := snap_rep (List.prefix_refl _) f1 (ind := false) (hx.mono (fun _ _ q => q) (fun b q _ => f2 b q) (.refl _ _)) (ownOK_fzAll q1)
  rw [snap_fzAll, q3] at this
  refine (this.data q2).mono (fun _ _ q => q) (fun b q hlt => ?_) (.refl _ _)
  rcases q with q | q
  · cases q
  · rcases Nat.lt_or_ge b w.heap.size with h | h
    · exact .inl ⟨rfl, q.1 h⟩
    · exact .inr h
end
end Go.Ab
