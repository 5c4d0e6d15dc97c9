/- Contracts of this seat's functions (of each call: what it answers), walked over the abstract machine, and the laws of numbers that they want. Conditions: those that each theorem states. -/
import Derived.Test.YtcnhnabmkfagbaaGreatDoorDS
set_option linter.unusedVariables false
set_option maxRecDepth 20000
set_option linter.unusedSimpArgs false
set_option linter.unusedSectionVars false
namespace Go.Ab
open Go.Proofs
open Go.RowKit (Below)
/-! a row that a call hands back may be written, whatever objects stand already -/
section
variable {C : Ctx} {B : Nat} {X : Nat → Prop} {w0 : World} {mu : Mu} {w : World} {H : Heap}
theorem blk_lt (hs : SimH C B X w0 mu H w) {k : Nat} {ad : Addr} {o : AObj} (hk : mu k = some ad) (ho : H[k]? = some o) (hr : o.rd = true) : ad.block < w.heap.size := by
  obtain ⟨_, cs, e, h2, _⟩ := hs.obj k ad o hk ho hr
  exact (Array.getElem?_eq_some_iff.mp h2).1
theorem hsat_frame {f : FuncId} {args args' : List AV} {sz n : Nat} {cs : List AV} (h : HSat C f args' [] (fun a H1 => ASl sz a H1 cs n)) (hd : ∀ c ∈ cs, IsD c)
    (ho : ∀ a ∈ args, ownOK (fzArgs H args) false a) (ha : args.map (snap (fzArgs H args)) = args') (hi : ∀ a ∈ args', IsD a) :
    HSat C f args H (fun a H2 => (a = .v (.slice none 0 0) ∧ cs = [] ∧ n = 0 ∧ H2 = fzArgs H args) ∨ (a = .own sz H.length 0 n ∧ H2 = fzArgs H args ++ [⟨cs, true, true⟩] ∧ cs.length = n * sz)) := by
  refine ⟨h.1, fun B X w0 w mu xs hs hn hl hr => ?_⟩
  have hl2 : Less C B X w0 mu H w (fzArgs H args) := Less.fzH (d := false) (ind := false) args hs
  have hlen : (fzArgs H args).length = H.length := hl2.len
  generalize hH1 : fzArgs H args = H1 at *
  have hS := hl2.sim
  have sim0 : SimH C w.heap.size (fun b => Sset X mu H1 b ∨ w.heap.size ≤ b) w (fun _ => none) [] w :=
    ⟨Nat.le_refl _, Below.refl _ w, hS.glob, fun k ad o q => (by cases q), fun k ad o q => (by cases q), fun b q => .inr q,
      fun g hg => .inl ⟨hS.hG g hg, fun k ad o hk ho hw heq => hg (by rw [← heq]; exact (hS.lo k ad o hk ho hw).2.2)⟩, fun k ad o q => (by cases q), fun k k2 ad ad2 o o2 q => (by cases q)⟩
  have hla : args'.length = args.length := by rw [← ha]; simp
  refine (h.2 w.heap.size _ w w (fun _ => none) xs sim0 (fun _ _ => rfl) (by rw [hla]; exact hl) (fun i hi' => ?_)).mono ?_
  · have hi2 : i < args.length := by omega
    have e1 : args'.getD i .bad = snap H1 (args.getD i .bad) := by
      rw [← ha, List.getD_eq_getElem?_getD, List.getD_eq_getElem?_getD, List.getElem?_map, List.getElem?_eq_getElem hi2]; rfl
    have hm : args.getD i .bad ∈ args := by rw [List.getD_eq_getElem?_getD, List.getElem?_eq_getElem hi2]; exact List.getElem_mem hi2
    have hm' : args'.getD i .bad ∈ args' := by rw [List.getD_eq_getElem?_getD, List.getElem?_eq_getElem hi']; exact List.getElem_mem hi'
    have r1 := (hr i hi2).mono (S' := Sset X mu H1) (fun _ _ q => q) (fun b q _ => hl2.keep b q) (.refl _ _)
    have r2 := snap_rep (List.prefix_refl _) hS r1 (ho _ hm)
    rw [← e1] at r2
    refine (r2.data (mu' := fun _ => none) (hi _ hm')).mono (fun _ _ q => q) (fun b q hlt => ?_) (.refl _ _)
    rcases q with q | q
    · cases q
    · refine ⟨.inl q, fun k ad o hk => by cases hk⟩
  · rintro e w' ⟨x, r, H', mu', rfl, hA, haf, hrx, hn'⟩
    have hb : Below w.heap.size w w' := haf.sim.below
    have hS' := hS.ext hb
    have hBw : B ≤ w.heap.size := Nat.le_trans hS.hB hS.below.size
    rcases hA with ⟨rfl, rfl, rfl⟩ | ⟨k, rfl, hg, hk, hc⟩
    · refine ⟨x, _, H1, mu, rfl, .inl ⟨rfl, rfl, rfl, rfl⟩, ⟨hS', fun _ _ q => q, .of_below hb, fun b q _ => hl2.keep b q⟩, ?_, fun k hk => hn k (by omega)⟩
      cases hrx; exact .v _
    · have hk' : H'[k]? = some ⟨cs, true, true⟩ := by
        rw [List.getD_eq_getElem?_getD, List.getElem?_eq_getElem hk] at hg
        rw [List.getElem?_eq_getElem hk]
        exact congrArg some hg
      cases hrx with
      | own _ _ _ _ ad ad' c hm hnc hbk hsp hof hcap =>
      obtain ⟨l1, _, l3⟩ := haf.sim.lo k ad _ hm hk' rfl
      obtain ⟨s1, arr, e, s2, vs, s3, s4⟩ := haf.sim.obj k ad _ hm hk' rfl
      have hput : (mu.put H.length ad) H.length = some ad := by unfold Mu.put; rw [if_pos rfl]
      have hext := Mu.put_ext (ad := ad) (hn H.length (Nat.le_refl _))
      have old : ∀ j aj oj, (mu.put H.length ad) j = some aj → (H1 ++ [(⟨cs, true, true⟩ : AObj)])[j]? = some oj → (j = H.length ∧ aj = ad ∧ oj = ⟨cs, true, true⟩) ∨ (mu j = some aj ∧ H1[j]? = some oj) := by
        intro j aj oj h1 h2
        by_cases ej : j = H.length
        · subst ej
          rw [hput] at h1
          rw [← hlen] at h2
          simp at h2
          exact .inl ⟨rfl, (Option.some.inj h1).symm, h2.symm⟩
        · unfold Mu.put at h1
          rw [if_neg ej] at h1
          refine .inr ⟨h1, ?_⟩
          by_cases e2 : j < H1.length
          · rwa [List.getElem?_append_left e2] at h2
          · rw [List.getElem?_eq_none (by simp; omega)] at h2; cases h2
      have hSn : ∀ b, Sset X mu H1 b → b < w.heap.size → Sset X (mu.put H.length ad) (H1 ++ [⟨cs, true, true⟩]) b := fun b q hlt => ⟨q.1, fun j aj oj h1 h2 hw => by
        rcases old j aj oj h1 h2 with ⟨rfl, rfl, rfl⟩ | ⟨g1, g2⟩
        · omega
        · exact q.2 j aj oj g1 g2 hw⟩
      have hSd : ∀ b, Sset (fun b => Sset X mu H1 b ∨ w.heap.size ≤ b) mu' H' b → Sset X (mu.put H.length ad) (H1 ++ [⟨cs, true, true⟩]) b := fun b q => by
        refine ⟨?_, fun j aj oj h1 h2 hw => ?_⟩
        · rcases q.1 with q1 | q1
          · exact q1.1
          · exact hS.hX b (by omega)
        · rcases old j aj oj h1 h2 with ⟨rfl, rfl, rfl⟩ | ⟨g1, g2⟩
          · exact q.2 k aj _ hm hk' rfl
          · rcases q.1 with q1 | q1
            · exact q1.2 j aj oj g1 g2 hw
            · have := blk_lt hS g1 g2 (hS.lo j aj oj g1 g2 hw).2.1
              omega
      refine ⟨_, .own sz H.length 0 n, H1 ++ [⟨cs, true, true⟩], mu.put H.length ad, rfl, .inr ⟨rfl, rfl, hc⟩, ⟨⟨hS'.hB, hS'.below, hS'.glob, ?_, ?_, hS'.hX, hS'.hG, ?_, ?_⟩, hext, .of_below hb, fun b q hlt => hSn b (hl2.keep b q) hlt⟩, .own _ _ _ _ ad ad' c hput hnc hbk hsp hof hcap, fun j hj => ?_⟩
      · intro j aj oj h1 h2 hr'
        rcases old j aj oj h1 h2 with ⟨rfl, rfl, rfl⟩ | ⟨g1, g2⟩
        · refine ⟨s1, arr, e, s2, vs, s3, fun i hi' => ((s4 i hi').data (mu' := mu.put H.length aj) (hd _ ?_)).mono (fun _ _ q => q) (fun b q _ => hSd b q) (.refl _ _)⟩
          show cs.getD i .bad ∈ cs
          rw [List.getD_eq_getElem?_getD, List.getElem?_eq_getElem hi']; exact List.getElem_mem hi'
        · obtain ⟨t1, arr', e', t2, us, t3, t4⟩ := hS.obj j aj oj g1 g2 hr'
          have hlt := blk_lt hS g1 g2 hr'
          refine ⟨t1, arr', e', ?_, us, t3, fun i hi' => (t4 i hi').mono hext (fun b q hb' => hSn b q hb') (.of_below hb)⟩
          rw [hb.block _ hlt]; exact t2
      · intro j aj oj h1 h2 hw
        rcases old j aj oj h1 h2 with ⟨rfl, rfl, rfl⟩ | ⟨g1, g2⟩
        · exact ⟨by omega, rfl, l3⟩
        · exact hS.lo j aj oj g1 g2 hw
      · intro j aj oj h1 h2 hr'
        rcases old j aj oj h1 h2 with ⟨rfl, rfl, rfl⟩ | ⟨g1, g2⟩
        · omega
        · exact hS.lob j aj oj g1 g2 hr'
      · intro j j' aj aj' oj oj' h1 h1' h2 h2' hw hr' hbb
        rcases old j aj oj h1 h2 with ⟨rfl, rfl, rfl⟩ | ⟨g1, g2⟩ <;> rcases old j' aj' oj' h1' h2' with ⟨rfl, rfl, rfl⟩ | ⟨g1', g2'⟩
        · rfl
        · have := blk_lt hS g1' g2' hr'
          omega
        · have := blk_lt hS g1 g2 (hS.lo j aj oj g1 g2 hw).2.1
          omega
        · exact hS.inj j j' aj aj' oj oj' g1 g1' g2 g2' hw hr' hbb
      · unfold Mu.put
        have hj2 : H.length + 1 ≤ j := by simp at hj; omega
        rw [if_neg (by omega)]
        exact hn j (by omega)
/-- the same in a walk -/
theorem callK_fr {f : FuncId} {args args' : List AV} {H' : Heap} {sz n : Nat} {cs : List AV} {K : AV → Heap → Prop} (h : HSat C f args' [] (fun a H1 => ASl sz a H1 cs n)) (hd : ∀ c ∈ cs, IsD c)
    (hA : ARs H args args') (hK0 : cs = [] → n = 0 → Keeps H H' → fzArgs H args = H' → K (.v (.slice none 0 0)) H') (hK1 : cs.length = n * sz → Keeps H H' → fzArgs H args = H' → K (.own sz H.length 0 n) (H' ++ [⟨cs, true, true⟩])) (hH : fzArgs H args = H') : callK C false f args H K := by
  obtain ⟨q1, q2, q3, q4, q5⟩ := args_ok hA
  refine callK_own (hsat_frame h hd q4 q3 q5) (fun r H2 hr => ?_)
  rw [hH] at hr q1
  rcases hr with ⟨rfl, e1, e2, rfl⟩ | ⟨rfl, rfl, e1⟩
  · exact hK0 e1 e2 q1 hH
  · exact hK1 e1 q1 hH
end
end Go.Ab
