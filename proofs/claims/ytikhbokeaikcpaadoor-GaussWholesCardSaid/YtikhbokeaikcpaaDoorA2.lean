/- An abstract machine for Go functions that compute with lists, and its soundness over the model: its second half. -/
import Derived.Test.YtikhbokeaikcpaaDoorA1
import Derived.Laws.Cover3
set_option linter.unusedVariables false
set_option maxRecDepth 20000
set_option linter.unusedSimpArgs false
set_option linter.unusedSectionVars false
namespace Go.Ab
open Go.RowKit (Below)

def callable (P : Program) (f : FuncId) : Bool :=
  match P.funcs[f]? with
  | some fn => !(fn.name == "runtime.NumGoroutine") && fn.body.isSome
  | none => false

def evalA (G : Glob) (slots : List (Nat × AV)) : Operand → AV
  | .tmp t => look slots t
  | .const v => .v v
  | .global g => match G g with
    | some cs => .dp (cs.map .v) 0
    | none => .bad
  | .func f => .v (.func (.func f) #[] #[])

def AState.put (σ : AState) (dst : Option Nat) (a : AV) (H : Heap) : AState :=
  match dst with
  | some d => ⟨(d, a) :: σ.slots, H⟩
  | none => ⟨σ.slots, H⟩

/-- nil is a slice without elements -/
def snap0 : AV → AV
  | .v (.slice none 0 0) => .sl 0 []
  | a => a
def snap1 (H : Heap) : AV → AV
  | .v (.slice none 0 0) => .sl 0 []
  | .own sz k off n => .sl n ((((hd H k).cells.drop off).take (n * sz)).map snap0)
  | a => a
/-- A value as data. -/
def snap (H : Heap) : AV → AV
  | .v (.slice none 0 0) => .sl 0 []
  | .own sz k off n => .sl n ((((hd H k).cells.drop off).take (n * sz)).map snap0)
  | .agg cs => .agg (cs.map (snap1 H))
  | .tup cs => .tup (cs.map (snap1 H))
  | .v (.agg xs) => .agg (xs.toList.map fun x => snap1 H (.v x))
  | a => a
def own1 (H : Heap) (ind : Bool) : AV → Prop
  | .own sz k off n => (hd H k).rd = true ∧ (ind = true ∨ (hd H k).wr = false) ∧ off + n * sz ≤ (hd H k).cells.length
  | _ => True
/-- May it be handed over? -/
def ownOK (H : Heap) (ind : Bool) : AV → Prop
  | .own sz k off n => (hd H k).rd = true ∧ (ind = true ∨ (hd H k).wr = false) ∧ off + n * sz ≤ (hd H k).cells.length
  | .agg cs => ∀ c ∈ cs, own1 H ind c
  | .tup cs => ∀ c ∈ cs, own1 H ind c
  | _ => True

/-- A contract over the call's own objects: for a function that writes what it is handed, or hands back what may be written. -/
def HSat (C : Ctx) (f : FuncId) (args : List AV) (H : Heap) (Post : AV → Heap → Prop) : Prop :=
  callable C.P f = true ∧ ∀ (B : Nat) (X : Nat → Prop) (w0 w : World) (mu : Mu) (xs : List Value), SimH C B X w0 mu H w → (∀ k, H.length ≤ k → mu k = none) → xs.length = args.length →
    (∀ i, i < args.length → ARep mu (Sset X mu H) w (args.getD i .bad) (xs.getD i undef)) →
    Calls C.P f xs.toArray w fun e w' => ∃ x r H' mu', e = .returned x ∧ Post r H' ∧ After C B X w0 mu H w mu' H' w' ∧ ARep mu' (Sset X mu' H') w' r x ∧ (∀ k, H'.length ≤ k → mu' k = none)

abbrev CallOK (C : Ctx) (ind : Bool) (f : FuncId) (H : Heap) (args : List AV) (r : AV) : Prop :=
  callable C.P f = true ∧ (∀ a ∈ args, ownOK H ind a ∧ IsD (snap H a)) ∧ Sat C ind f (args.map (snap H)) r

/-- What is handed over as data is written no more. -/
def fz (H : Heap) (k : Nat) : Heap := H.set k ⟨(hd H k).cells, (hd H k).rd, false⟩
def fzCells (H : Heap) : List AV → Heap
  | [] => H
  | .own _ k _ _ :: r => fzCells (fz H k) r
  | _ :: r => fzCells H r
def fzArgs (H : Heap) : List AV → Heap
  | [] => H
  | .own _ k _ _ :: r => fzArgs (fz H k) r
  | .agg cs :: r => fzArgs (fzCells H cs) r
  | _ :: r => fzArgs H r
def fzH (d ind : Bool) (H : Heap) (args : List AV) : Heap := match d, ind with | false, false => fzArgs H args | _, _ => H

def isBS : Op → Bool
  | .buildSlice .. => true
  | _ => false
/-- A row that is laid out in a region that draws its order is written no more. -/
def opD (d : Bool) (op : Op) (H H' : Heap) : Heap := match isBS op, d with
  | true, true => fz H' H.length
  | _, _ => H'
theorem opD_not {d : Bool} {op : Op} {H H' : Heap} (h : isBS op = false) : opD d op H H' = H' := by
  unfold opD; rw [h]
theorem fz_new (H : Heap) (c : AObj) : fz (H ++ [c]) H.length = H ++ [⟨c.cells, c.rd, false⟩] := by
  unfold fz hd
  rw [List.set_append_right _ _ (Nat.le_refl _), Nat.sub_self, List.getD_eq_getElem?_getD, List.getElem?_append_right (Nat.le_refl _), Nat.sub_self]
  rfl
theorem opD_new (d : Bool) (op : Op) (H : Heap) (cs : List AV) : ∃ wr, opD d op H (H ++ [⟨cs, true, true⟩]) = H ++ [⟨cs, true, wr⟩] := by
  unfold opD
  split
  · exact ⟨false, fz_new H _⟩
  · exact ⟨true, rfl⟩
theorem opD_heap (d : Bool) (op : Op) {H H' : Heap} (h : H' = H ∨ ∃ c, H' = H ++ [c]) : opD d op H H' = H ∨ ∃ c, opD d op H H' = H ++ [c] := by
  unfold opD
  split
  · rcases h with rfl | ⟨c, rfl⟩
    · left; unfold fz; exact List.set_eq_of_length_le (Nat.le_refl _)
    · exact .inr ⟨_, fz_new H c⟩
  · exact h
/-- One operation. d: its region draws its order. -/
def opW (C : Ctx) (d : Bool) (g : Operand → AV) (H : Heap) (o : Oper) (K : AV → Heap → Prop) : Prop :=
  match o.op with
  | .call ⟨.value (.func f), args, _⟩ => (∃ ind r, CallOK C ind f (fzH d ind H (args.toList.map g)) (args.toList.map g) r ∧ K r (fzH d ind H (args.toList.map g))) ∨ (d = false ∧ ∃ Post, HSat C f (args.toList.map g) H Post ∧ ∀ r H', Post r H' → K r H') ∨ ∃ r, extF C.P f (args.toList.map g) = some r ∧ K (.v r) H
  | .call ⟨.builtin .append, args, ts⟩ => match args.toList, ts.toList with
    | [s, x], [t, t'] => (appF C.P g H s x t t').pre ∧ K (appF C.P g H s x t t').av (appF C.P g H s x t t').H
    | _, _ => False
  | .binOp .eql t x (.const (.slice none 0 0)) _ => d = false ∧ (match tk C.P t with | some r => (match r.sd with | .sl _ => True | _ => False) | none => False) ∧ (match g x with
    | .sl _ cs => ∀ b : Bool, (b = true → cs = []) → K (.v (.bool b)) H
    | .own _ _ _ n => K (.v (.bool false)) H
    | .v (.slice none _ _) => K (.v (.bool true)) H
    | _ => False)
  | op => (opF C.P g H op).pre ∧ K (opF C.P g H op).av (opD d op H (opF C.P g H op).H)

/-- A guard's slot. -/
def gslot (all : Array Oper) (j : Nat) (slots : List (Nat × AV)) : AV :=
  match (all[j]?).bind (·.dst) with
  | some t => look slots t
  | none => .bad

def dstOK (N : Nat) : Option Nat → Prop
  | some d => d < N
  | none => True

def opsW (C : Ctx) (N : Nat) (d : Bool) (all : Array Oper) : List Oper → (AState → Prop) → AState → Prop
  | [], K, σ => K σ
  | o :: r, K, σ => dstOK N o.dst ∧ match o.guard with
    | none => opW C d (evalA C.G σ.slots) σ.H o (fun a H => opsW C N d all r K (σ.put o.dst a H))
    | some (j, want) => match gslot all j σ.slots with
      | .v x => (x = .bool want → opW C d (evalA C.G σ.slots) σ.H o (fun a H => opsW C N d all r K (σ.put o.dst a H))) ∧ (x ≠ .bool want → opsW C N d all r K (σ.put o.dst (.v undef) σ.H))
      | _ => False

def isCalm : Op → Bool
  | .store .. => false
  | .call ⟨.builtin .append, _, _⟩ => false
  | .move _ | .assign _ | .pick .. | .alloc _ | .box .. | .build .. | .buildSlice .. | .load .. | .nilCheck _ | .binOp .. | .unOp .. | .convert .. | .makeSlice .. | .slice .. | .fieldAddr .. | .field .. | .indexAddr .. | .extract .. | .call _ => true
  | _ => false

def afterOn (o : Oper) (j : Nat) : Bool := o.after.any fun e => Region.binds .any e && e.on == j

/-- How many operations at the begin are calm. -/
def calmLen : List Oper → Nat
  | [] => 0
  | o :: r => if isCalm o.op then calmLen r + 1 else 0

/-- Looks at slots alone. -/
def isPure : Op → Bool
  | .move _ | .assign _ | .extract .. => true
  | _ => false
/-- May the one come up behind the other, which stands behind it in the text? -/
def lzOk (ops : Array Oper) (oj o : Oper) : Bool :=
  isPure oj.op && oj.guard.isNone && (match oj.dst with | some t => !(o.looksAt ops).contains t && o.dst != some t | none => false) && (match o.dst with | some t => !(oj.looksAt ops).contains t | none => true)
/-- What must have come up ahead of it. -/
def aftersOf (ops : Array Oper) (k : Nat) : List Nat := match ops[k]? with
  | some o => (o.after.toList.filter fun e => Region.binds .any e).map (·.on)
  | none => []
def cloOf (ops : Array Oper) : Nat → List Nat → List Nat
  | 0, s => s
  | k + 1, s => cloOf ops k (if s.contains k then s ++ aftersOf ops k else s)
def afterT (ops : Array Oper) (i j : Nat) : Bool := (cloOf ops i (aftersOf ops i)).contains j
def isLazy (ops : Array Oper) (p : Nat) (j : Nat) : Bool := (List.range ops.size).any fun i => decide (p ≤ i) && !afterT ops i j

def drawOk (ops : Array Oper) : Bool :=
  let l := ops.toList
  let p := calmLen l
  (l.zipIdx.all fun (o, i) => o.after.all fun e => !Region.binds .any e || e.on < i) &&
  ((l.take p).zipIdx.all fun (o, i) => (l.take p).zipIdx.all fun (o', j) => i == j || (o.dst.isSome && o.dst != o'.dst &&
    (match o'.dst with
      | some t => !(o.looksAt ops).contains t || (decide (j < i) && afterOn o j) || (decide (i < j) && afterOn o' i)
      | none => false))) &&
  (l.zipIdx.all fun (o, i) => decide (i < p) || (List.range i).all fun j => afterT ops i j || (decide (j < p) && lzOk ops (ops.getD j default) o)) &&
  ((List.range p).all fun j => !isLazy ops p j || (List.range p).all fun j' => !isLazy ops p j' || match (ops.getD j' default).dst with
    | some t => !((ops.getD j default).looksAt ops).contains t
    | none => true)

/-- All the orders in which a region without calls may come up. -/
def noCallOp (op : Op) : Bool := match op with
  | .call ⟨.value _, _, _⟩ => false
  | .call ⟨.builtin .append, _, _⟩ => false
  | .binOp .eql _ _ (.const (.slice none 0 0)) _ => false
  | _ => true
def noCall (ops : Array Oper) : Bool := ops.toList.all fun o => noCallOp o.op
def lins (ops : Array Oper) : Nat → Array Bool → List (List Nat)
  | 0, _ => [[]]
  | n + 1, listed => match Region.ready .any ops listed with
    | [] => [[]]
    | rs => rs.flatMap fun r => (lins ops n (listed.setIfInBounds r true)).map (r :: ·)
def linsA (ops : Array Oper) : List (List Nat) := lins ops ops.size (Array.replicate ops.size false)

/-- Looks at no object and makes none. -/
def fixOp : Op → Bool
  | .move _ | .assign _ | .pick .. | .nilCheck _ | .unOp .. | .convert .. | .fieldAddr .. | .indexAddr .. | .field .. | .extract .. => true
  | .binOp .eql _ _ (.const (.slice none 0 0)) _ => false
  | .binOp .. => true
  | .call ⟨.builtin .len, _, _⟩ => true
  | _ => false
def eagOp (o : Oper) : Bool := fixOp o.op && o.guard.isNone && o.dst.isSome
def eag (ops : Array Oper) (r : Nat) : Bool := match ops[r]? with
  | some o => eagOp o
  | none => false
/-- The orders in which a region without calls may come up, what looks at no object as soon as it can. -/
def linsE (ops : Array Oper) : Nat → Array Bool → List (List Nat)
  | 0, _ => [[]]
  | n + 1, listed => match Region.ready .any ops listed with
    | [] => [[]]
    | rs => match rs.find? (eag ops) with
      | some r => (linsE ops n (listed.setIfInBounds r true)).map (r :: ·)
      | none => rs.flatMap fun r => (linsE ops n (listed.setIfInBounds r true)).map (r :: ·)
def linsEA (ops : Array Oper) : List (List Nat) := linsE ops ops.size (Array.replicate ops.size false)
def noCallE (op : Op) : Bool := match op with
  | .call ⟨.value _, _, _⟩ => false
  | .binOp .eql _ _ (.const (.slice none 0 0)) _ => false
  | _ => true
/-- Is that enough? -/
def eOk (ops : Array Oper) : Bool :=
  ops.toList.zipIdx.all fun (o, i) => noCallE o.op && (o.after.all fun e => !Region.binds .any e || e.on < i) &&
    ops.toList.zipIdx.all fun (o', j) => match o'.dst with
      | some t => (i == j || o.dst != some t) && (!(o.looksAt ops).contains t || afterOn o j)
      | none => true

/-- The orders of a region that calls, as a tree: first what comes next, then what may come in its place. -/
inductive OT where
  | nil
  | cons (r : Nat) (sub rest : OT)
def OT.same : OT → OT → Bool
  | .nil, .nil => true
  | .cons r a b, .cons r' a' b' => r == r' && a.same a' && b.same b'
  | _, _ => false
def treeE (ops : Array Oper) : Nat → Array Bool → OT
  | 0, _ => .nil
  | n + 1, listed => match Region.ready .any ops listed with
    | [] => .nil
    | rs => match rs.find? (eag ops) with
      | some r => .cons r (treeE ops n (listed.setIfInBounds r true)) .nil
      | none => rs.foldr (fun r t => .cons r (treeE ops n (listed.setIfInBounds r true)) t) .nil
def treeEA (ops : Array Oper) : OT := treeE ops ops.size (Array.replicate ops.size false)
/-- Is that enough? -/
def tOk (ops : Array Oper) : Bool :=
  ops.toList.zipIdx.all fun (o, i) => (o.after.all fun e => !Region.binds .any e || e.on < i) &&
    ops.toList.zipIdx.all fun (o', j) => match o'.dst with
      | some t => (i == j || o.dst != some t) && (!(o.looksAt ops).contains t || afterOn o j)
      | none => true
def runT (C : Ctx) (N : Nat) (ops : Array Oper) (K : AState → Prop) : OT → Bool → AState → Prop
  | .nil, false, σ => K σ
  | .nil, true, _ => True
  | .cons r sub rest, _, σ => opsW C N true ops [ops.getD r default] (runT C N ops K sub false) σ ∧ runT C N ops K rest true σ

inductive AE where
  | normal
  | exit (id : Nat)
  | goto (l : Nat)
  | ret

abbrev APost := AE → AState → Prop

def thenA (K : AState → Prop) (Q : APost) : APost
  | .normal, σ => K σ
  | e, σ => Q e σ
def inBlockA (id : Nat) (Q : APost) : APost
  | .exit id', σ => match Nat.beq id' id with | true => Q .normal σ | false => Q (.exit id') σ
  | e, σ => Q e σ

/-- All own objects are written no more. -/
def fzAll (H : Heap) : Heap := H.map fun o => ⟨o.cells, o.rd, false⟩
/-- These are written no more. -/
def fzL (H : Heap) : List Nat → Heap
  | [] => H
  | k :: ks => fzL (fz H k) ks
/-- Behind a loop: as it is, or with all frozen, or with some. -/
def frzA : Option (Option (List Nat)) → APost → APost
  | none, Q => Q
  | some none, Q => fun e σ => Q e ⟨σ.slots, fzAll σ.H⟩
  | some (some ks), Q => fun e σ => Q e ⟨σ.slots, fzL σ.H ks⟩
def loopA (run : APost → AState → Prop) (Q : APost) : Nat → AState → Prop
  | 0, _ => False
  | n + 1, σ => run (thenA (loopA run Q n) Q) σ

/-- From the jumps of a scope on. -/
def scopeA (jump : Code → APost → AState → Prop) (c : Code) (Q : APost) : Nat → APost
  | 0, .goto _, _ => False
  | n + 1, .goto l, σ => match findLabel c l with
    | some rest => jump rest (scopeA jump c Q n) σ
    | none => False
  | _, e, σ => Q e σ

/-- What must hold ahead of a piece of code, that Q holds behind it. -/
def aW (C : Ctx) (N : Nat) (jump : Code → APost → AState → Prop) : Code → APost → AState → Prop
  | .skip, Q, σ => Q .normal σ
  | .label _, Q, σ => Q .normal σ
  | .region _ ops false, Q, σ => opsW C N false ops ops.toList (Q .normal) σ
  | .region _ ops true, Q, σ => match drawOk ops with
    | true => opsW C N true ops ops.toList (Q .normal) σ
    | false => match eOk ops with
      | true => ∀ l ∈ linsEA ops, opsW C N true ops (l.map fun i => ops.getD i default) (Q .normal) σ
      | false => tOk ops = true ∧ runT C N ops (Q .normal) (treeEA ops) false σ
  | .seq x y, Q, σ => aW C N jump x (thenA (aW C N jump y Q) Q) σ
  | .cond c x y, Q, σ => match evalA C.G σ.slots c with
    | .v (.bool b) => (b = true → aW C N jump x Q σ) ∧ (b = false → aW C N jump y Q σ)
    | _ => False
  | .block id c, Q, σ => aW C N jump c (inBlockA id Q) σ
  | .loop c, Q, σ => ∃ n b, loopA (aW C N jump c) (frzA b Q) n σ
  | .scope c, Q, σ => ∃ n, aW C N jump c (scopeA jump c Q n) σ
  | .exit id, Q, σ => Q (.exit id) σ
  | .goto l, Q, σ => Q (.goto l) σ
  | .ret, Q, σ => Q .ret σ
  | _, _, _ => False

def noJump : Code → APost → AState → Prop := fun _ _ _ => False
/-- With jumps back within a scope. -/
def aW1 (C : Ctx) (N : Nat) : Code → APost → AState → Prop := aW C N (aW C N noJump)

end Go.Ab

set_option linter.unusedVariables false
set_option linter.unusedSimpArgs false
set_option linter.unusedSectionVars false
namespace Go.Ab
open Go.RowKit (Below)

section
variable {C : Ctx} {B : Nat} {X : Nat → Prop} {w0 : World} {mu : Mu} {w : World} {g : Operand → AV} {H : Heap}

theorem After.refl (hs : SimH C B X w0 mu H w) : After C B X w0 mu H w mu H w := ⟨hs, fun _ _ q => q, .refl _ _, fun _ q _ => q⟩

theorem calm_after {r : Result Next} {o : Out} (hs : SimH C B X w0 mu H w) (hn : ∀ k, H.length ≤ k → mu k = none) (h : CalmOut mu (Sset X mu H) w H r o) :
    ∃ x w' mu', r = .ok (.value x) w' ∧ After C B X w0 mu H w mu' o.H w' ∧ ARep mu' (Sset X mu' o.H) w' o.av x ∧ (∀ k, o.H.length ≤ k → mu' k = none) := by
  cases h with
  | quiet x hr ha hH => exact ⟨x, w, mu, hr, by rw [hH]; exact .refl hs, by rw [hH]; exact ha, by rw [hH]; exact hn⟩
  | new cs arr e x hr hH hl hc hx =>
    have hnk := hn H.length (Nat.le_refl _)
    obtain ⟨g1, g2, g3⟩ := hs.grow hnk ⟨cs, true, true⟩
    obtain ⟨n1, n2⟩ := g1.new (wr := true) (k := H.length) (arr := arr) (e := e) hnk (by simp) hl (crep_mono (fun _ _ q => q) (fun b q _ => g2 b q) (.refl _ _) hc)
    refine ⟨x, _, mu.put H.length ⟨w.heap.size, 0, none⟩, hr, by rw [hH]; exact ⟨n1, Mu.put_ext hnk, .of_below (below_alloc _ _), fun b q hl => n2 b (g2 b q) hl⟩, ?_, ?_⟩
    · rw [hH]
      rcases hx with ⟨e1, e2⟩ | ⟨sz, n, e1, e2, e3⟩
      · rw [e1, e2]
        exact .ptr H.length 0 ⟨w.heap.size, 0, none⟩ (by simp [Mu.put])
      · rw [e1, e2]
        refine .own sz H.length 0 n ⟨w.heap.size, 0, none⟩ ⟨w.heap.size, 0, none⟩ n (by simp [Mu.put]) (Nat.le_refl _) rfl rfl (fun _ => rfl) ⟨arr, e, heap_alloc_new w _, fun _ => by simp only; omega⟩
    · intro k hk
      rw [hH] at hk
      simp only [List.length_append, List.length_singleton] at hk
      unfold Mu.put
      rw [if_neg (by omega)]; exact hn k (by omega)

/-- Nothing but what may be written has turned. -/
structure Less (C : Ctx) (B : Nat) (X : Nat → Prop) (w0 : World) (mu : Mu) (H : Heap) (w : World) (H' : Heap) : Prop where
  sim : SimH C B X w0 mu H' w
  keep : ∀ b, Sset X mu H b → Sset X mu H' b
  len : H'.length = H.length

theorem Less.refl (hs : SimH C B X w0 mu H w) : Less C B X w0 mu H w H := ⟨hs, fun _ q => q, rfl⟩
theorem Less.fz {H' : Heap} (h : Less C B X w0 mu H w H') (k : Nat) : Less C B X w0 mu H w (fz H' k) := by
  unfold Go.Ab.fz
  cases ho : H'[k]? with
  | none =>
    have : k ≥ H'.length := by simpa using ho
    rw [List.set_eq_of_length_le this]; exact h
  | some o =>
    have e : hd H' k = o := by unfold hd; rw [List.getD_eq_getElem?_getD, ho]; rfl
    rw [e]
    obtain ⟨q1, q2⟩ := h.sim.still (o' := ⟨o.cells, o.rd, false⟩) ho (fun q => ⟨rfl, q⟩) rfl
    exact ⟨q1, fun b q => q2 b (h.keep b q), by simp [h.len]⟩
theorem Less.cells : ∀ (cs : List AV) {H' : Heap}, Less C B X w0 mu H w H' → Less C B X w0 mu H w (fzCells H' cs) := by
  intro cs
  induction cs with
  | nil => intro H' h; exact h
  | cons a r ih => intro H' h; cases a <;> first | exact ih h | exact ih (h.fz _)
theorem Less.args : ∀ (cs : List AV) {H' : Heap}, Less C B X w0 mu H w H' → Less C B X w0 mu H w (fzArgs H' cs) := by
  intro cs
  induction cs with
  | nil => intro H' h; exact h
  | cons a r ih => intro H' h; cases a <;> first | exact ih h | exact ih (h.fz _) | exact ih (Less.cells _ h)
theorem Less.fzH {d ind : Bool} (cs : List AV) (hs : SimH C B X w0 mu H w) : Less C B X w0 mu H w (fzH d ind H cs) := by
  cases d <;> cases ind <;> first | exact Less.args cs (.refl hs) | exact .refl hs

theorem hd_fzAll (H : Heap) (k : Nat) : hd (fzAll H) k = ⟨(hd H k).cells, (hd H k).rd, false⟩ := by
  unfold hd fzAll
  rw [List.getD_eq_getElem?_getD, List.getD_eq_getElem?_getD, List.getElem?_map]
  cases H[k]? <;> rfl
theorem SimH.stillAll (hs : SimH C B X w0 mu H w) : SimH C B X w0 mu (fzAll H) w ∧ ∀ b, Sset X mu H b → Sset X mu (fzAll H) b := by
  have hg : ∀ (k : Nat) (o : AObj), (fzAll H)[k]? = some o → ∃ o' : AObj, H[k]? = some o' ∧ o = ⟨o'.cells, o'.rd, false⟩ := by
    intro k o h
    simp only [fzAll, List.getElem?_map, Option.map_eq_some_iff] at h
    obtain ⟨o', h1, h2⟩ := h
    exact ⟨o', h1, h2.symm⟩
  have hS : ∀ b, Sset X mu H b → Sset X mu (fzAll H) b := fun b q => ⟨q.1, fun k ad o hk ho hw => by
    obtain ⟨o', _, rfl⟩ := hg k o ho; cases hw⟩
  refine ⟨⟨hs.hB, hs.below, hs.glob, fun k ad o hk ho hr => ?_, fun k ad o hk ho hw => ?_, hs.hX, hs.hG, fun k ad o hk ho hr => ?_, fun k k' ad ad' o o' hk hk' ho ho' hw => ?_⟩, hS⟩
  · obtain ⟨o', h1, rfl⟩ := hg k o ho
    exact (hs.obj k ad o' hk h1 hr).evo (fun _ _ q => q) (fun b q _ => hS b q) (.refl _ _) rfl
  · obtain ⟨o', _, rfl⟩ := hg k o ho; cases hw
  · obtain ⟨o', h1, rfl⟩ := hg k o ho
    exact hs.lob k ad o' hk h1 hr
  · obtain ⟨o', _, rfl⟩ := hg k o ho; cases hw
theorem snap_fzAll (H : Heap) (a : AV) : snap (fzAll H) a = snap H a := by
  have h1 : ∀ a, snap1 (fzAll H) a = snap1 H a := fun a => by
    cases a with
    | own sz k off n => simp only [snap1, hd_fzAll]
    | v x => unfold snap1; split <;> first | rfl | (rename_i heq; cases heq)
    | _ => rfl
  have h2 : snap1 (fzAll H) = snap1 H := funext h1
  cases a with
  | own sz k off n => simp only [snap, hd_fzAll]
  | agg cs => simp only [snap, h2]
  | tup cs => simp only [snap, h2]
  | v x => cases x with
    | agg xs => simp only [snap, h2]
    | slice b n c => unfold snap; split <;> first | rfl | (rename_i heq; cases heq)
    | _ => rfl
  | _ => rfl
theorem ownOK_fzAll {a : AV} (h : ownOK H true a) : ownOK (fzAll H) false a := by
  have h1 : ∀ a, own1 H true a → own1 (fzAll H) false a := fun a h => by
    cases a with
    | own sz k off n =>
      simp only [own1, hd_fzAll] at h ⊢
      exact ⟨h.1, .inr trivial, h.2.2⟩
    | _ => trivial
  cases a with
  | own sz k off n =>
    simp only [ownOK, hd_fzAll] at h ⊢
    exact ⟨h.1, .inr trivial, h.2.2⟩
  | agg cs => exact fun c hc => h1 c (h c hc)
  | tup cs => exact fun c hc => h1 c (h c hc)
  | _ => trivial

theorem snap0_rep {S : Nat → Prop} {a : AV} {x : Value} (h : ARep mu S w a x) : ARep mu S w (snap0 a) x := by
  unfold snap0
  split
  · cases h; exact .sl 0 [] none 0 (fun _ => undef) (Nat.le_refl _) (fun i hi => by simp at hi) (fun i hi => by simp at hi)
  · exact h

theorem getD_map_snap (f : AV → AV) (cs : List AV) (i : Nat) (hi : i < cs.length) : (cs.map f).getD i .bad = f (cs.getD i .bad) := by
  simp [List.getD_eq_getElem?_getD, hi]

/-- An own slice read as data. -/
theorem own_rep {Hb : Heap} (hp : H <+: Hb) (hs : SimH C B X w0 mu Hb w) {ind : Bool} {sz k off n : Nat} {x : Value} (h : ARep mu (Sset X mu Hb) w (.own sz k off n) x)
    (hrd : (hd H k).rd = true) (hin : ind = true ∨ (hd H k).wr = false) (hle : off + n * sz ≤ (hd H k).cells.length) :
    ARep mu (fun b => ind = true ∨ Sset X mu Hb b) w (.sl n ((((hd H k).cells.drop off).take (n * sz)).map snap0)) x := by
  cases h with
  | own _ _ _ _ ad ad' c hk hn hb hsp ho hcap =>
    have hok := hd_spec hp (.inl hrd)
    obtain ⟨s1, cs, e, hh, xs, hx, hr⟩ := hs.obj k ad _ hk hok hrd
    have hS : ind = true ∨ Sset X mu Hb ad.block := by
      rcases hin with q | q
      · exact .inl q
      · right
        refine ⟨hs.hX _ (hs.lob k ad _ hk hok hrd), fun k2 ad2 o2 hk2 ho2 hw2 heq => ?_⟩
        have := hs.inj k2 k ad2 ad o2 _ hk2 hk ho2 hok hw2 hrd heq
        subst this
        rw [hok] at ho2
        cases ho2
        rw [q] at hw2; cases hw2
    refine .sl _ _ _ _ (fun j => xs (off + j)) hn (fun j hj => ?_) (fun j hj => ?_)
    · simp only [List.length_map, List.length_take, List.length_drop] at hj
      have hc0 : c ≠ 0 := by
        intro q
        have : n = 0 := by omega
        rw [this] at hj; simp at hj
      refine ⟨ad', rfl, hsp, by rw [hb]; exact hS, ?_⟩
      have := hx (off + j) (by omega)
      rw [hb, ho hc0, Nat.add_assoc]
      simp [World.cell?, hh, this]
    · simp only [List.length_map] at hj
      rw [getD_map_snap _ _ _ hj]
      simp only [List.length_take, List.length_drop] at hj
      rw [getD_take _ _ _ _ (by omega), getD_drop]
      exact snap0_rep ((hr (off + j) (by omega)).mono (fun _ _ q => q) (fun b q _ => .inr q) (.refl _ _))

theorem snap1_rep {Hb : Heap} (hp : H <+: Hb) (hs : SimH C B X w0 mu Hb w) {ind : Bool} {a : AV} {x : Value} (h : ARep mu (Sset X mu Hb) w a x) (ho : own1 H ind a) : ARep mu (fun b => ind = true ∨ Sset X mu Hb b) w (snap1 H a) x := by
  have hm : ARep mu (fun b => ind = true ∨ Sset X mu Hb b) w a x := h.mono (fun _ _ q => q) (fun b q _ => .inr q) (.refl _ _)
  cases a with
  | v y =>
    unfold snap1
    split
    · rename_i heq; cases heq
      cases h
      exact .sl 0 [] none 0 (fun _ => undef) (Nat.le_refl _) (fun i hi => by simp at hi) (fun i hi => by simp at hi)
    · rename_i heq; cases heq
    · exact hm
  | own sz k off n => exact own_rep hp hs h ho.1 ho.2.1 ho.2.2
  | _ => exact hm

theorem snap_rep {Hb : Heap} (hp : H <+: Hb) (hs : SimH C B X w0 mu Hb w) {ind : Bool} {a : AV} {x : Value} (h : ARep mu (Sset X mu Hb) w a x) (ho : ownOK H ind a) : ARep mu (fun b => ind = true ∨ Sset X mu Hb b) w (snap H a) x := by
  have hm : ARep mu (fun b => ind = true ∨ Sset X mu Hb b) w a x := h.mono (fun _ _ q => q) (fun b q _ => .inr q) (.refl _ _)
  cases a with
  | v y =>
    have := h.v_inv
    subst this
    cases x with
    | slice b n c =>
      unfold snap
      split
      · rename_i heq; cases heq
        exact .sl 0 [] none 0 (fun _ => undef) (Nat.le_refl _) (fun i hi => by simp at hi) (fun i hi => by simp at hi)
      all_goals (first | exact hm | (rename_i heq; cases heq))
    | agg xs =>
      show ARep mu _ w (.agg (xs.toList.map fun x => snap1 H (.v x))) _
      refine .agg _ _ (by simp) (fun i hi => ?_)
      simp only [List.length_map, Array.length_toList] at hi
      have e1 : (xs.toList.map fun x => snap1 H (.v x)).getD i .bad = snap1 H (.v (xs.getD i undef)) := by
        simp [List.getD_eq_getElem?_getD, hi, Array.getD]
      rw [e1]
      exact snap1_rep hp hs (.v _) trivial
    | _ => exact hm
  | own sz k off n => exact own_rep hp hs h ho.1 ho.2.1 ho.2.2
  | agg cs =>
    cases h with
    | agg _ xs hl hr =>
      refine .agg _ _ (by simpa using hl) (fun i hi => ?_)
      simp only [List.length_map] at hi
      rw [getD_map_snap _ _ _ hi]
      exact snap1_rep hp hs (hr i hi) (ho _ (by simp [List.getD_eq_getElem?_getD, hi]))
  | tup cs =>
    cases h with
    | tup _ xs hl hr =>
      refine .tup _ _ (by simpa using hl) (fun i hi => ?_)
      simp only [List.length_map] at hi
      rw [getD_map_snap _ _ _ hi]
      exact snap1_rep hp hs (hr i hi) (ho _ (by simp [List.getD_eq_getElem?_getD, hi]))
  | _ => exact hm

theorem run_callFunc {P : Program} {ρ : Operand → Value} {o : Oper} {f : FuncId} {args : Array Operand} {ts : Array TypeId} (ho : o.op = .call ⟨.value (.func f), args, ts⟩) (hf : ρ (.func f) = .func (.func f) #[] #[])
    (hc : callable P f = true) (w : World) : (execOp ρ o).run P w = .ok (.enter f (args.map ρ)) w := by
  unfold callable at hc
  cases hfn : P.funcs[f]? with
  | none => rw [hfn] at hc; cases hc
  | some fn =>
    rw [hfn] at hc
    simp only [Bool.and_eq_true, Bool.not_eq_true', Option.isSome_iff_ne_none] at hc
    have hb : fn.body.isNone = false := by cases h : fn.body <;> simp_all
    simp only [execOp, ho, resolve, Deferred.ofValue, hf, invoke, callFunc, Sem.run_bind, Result.andThen_ok, Sem.run_pure]
    have hnm : ¬ (fn.name = "runtime.NumGoroutine") := by simpa using hc.1
    simp [hfn, hnm, hc.2]

/-- A call by its contract. -/
theorem call_sat {Hb : Heap} (hp : H <+: Hb) (hs : SimH C B X w0 mu Hb w) {ρ : Operand → Value} {o : Oper} {f : FuncId} {args : Array Operand} {ts : Array TypeId} (ho : o.op = .call ⟨.value (.func f), args, ts⟩)
    (hf : ρ (.func f) = .func (.func f) #[] #[]) (hg : ∀ x ∈ args.toList, ARep mu (Sset X mu Hb) w (g x) (ρ x)) {ind : Bool} {r : AV} (hok : CallOK C ind f H (args.toList.map g) r) {K : Value → World → Prop} (hK : ∀ x w', Below w.heap.size w w' → ARep mu (Sset X mu Hb) w' r x → K x w') :
    (execOp ρ o).run C.P w = .ok (.enter f (args.map ρ)) w ∧ Calls C.P f (args.map ρ) w fun e w' => ∃ x, e = .returned x ∧ K x w' := by
  obtain ⟨h1, h2, h3⟩ := hok
  refine ⟨run_callFunc ho hf h1 w, ?_⟩
  have hxs : args.map ρ = (args.toList.map ρ).toArray := by rw [← Array.toList_map, Array.toArray_toList]
  rw [hxs]
  refine (h3 w (fun b => ind = true ∨ Sset X mu Hb b) (args.toList.map ρ) hs.glob (fun gl hgl => .inr ⟨hs.hG gl hgl, fun k ad o hk ho2 hw heq => hgl (by rw [← heq]; exact (hs.lo k ad o hk ho2 hw).2.2)⟩) (by simp) (fun i hi => ?_)).mono ?_
  · simp only [List.length_map] at hi
    have e1 : ((args.toList.map g).map (snap H)).getD i .bad = snap H (g args.toList[i]) := by
      have hi' : i < args.size := by simpa using hi
      simp [List.getD_eq_getElem?_getD, hi']
    have e2 : (args.toList.map ρ).getD i undef = ρ args.toList[i] := by
      have hi' : i < args.size := by simpa using hi
      simp [List.getD_eq_getElem?_getD, hi']
    rw [e1, e2]
    obtain ⟨o1, o2⟩ := h2 (g args.toList[i]) (List.mem_map_of_mem (List.getElem_mem hi))
    exact (snap_rep hp hs (hg _ (List.getElem_mem hi)) o1).data o2
  · rintro e w' ⟨x, rfl, hr, hb⟩
    refine ⟨x, rfl, hK x w' hb ?_⟩
    refine hr.mono (fun k a q => by cases q) (fun b q hlt => ?_) (.refl _ _)
    rcases q with ⟨q1, q2⟩ | q
    · rcases q2 with q2 | q2
      · rw [q1] at q2; cases q2
      · exact q2
    · refine ⟨hs.hX b (Nat.le_trans (Nat.le_trans hs.hB hs.below.size) q), fun k ad o hk ho2 hw heq => ?_⟩
      obtain ⟨_, hrd, _⟩ := hs.lo k ad o hk ho2 hw
      obtain ⟨_, cs, e, hh, _⟩ := hs.obj k ad o hk ho2 hrd
      have := (Array.getElem?_eq_some_iff.mp hh).1
      omega
end
end Go.Ab

set_option linter.unusedVariables false
set_option linter.unusedSimpArgs false
set_option linter.unusedSectionVars false
namespace Go.Ab
open Go.RowKit (Below)

section
variable {C : Ctx} {B : Nat} {X : Nat → Prop} {w0 : World} {Z : Mu → Heap → World → Prop} {mu : Mu} {w : World} {g : Operand → AV} {H : Heap}

theorem run_eqNil {P : Program} {ρ : Operand → Value} {o : Oper} {t t' e : TypeId} {x : Operand} {a : Option Addr} {n c : Nat} (ho : o.op = .binOp .eql t x (.const (.slice none 0 0)) t') (ht : P.underlying t = some (.slice e))
    (hx : ρ x = .slice a n c) (hc : ρ (.const (.slice none 0 0)) = .slice none 0 0) (w : World) : (execOp ρ o).run P w = .ok (.value (.bool a.isNone)) w := by
  simp only [execOp, ho]
  refine run_value ?_
  have := run_equal_slice_nil (P := P) w t e a n c ht
  simp [hx, hc, eqGuard, binOp, this]

theorem After.opD {mu' : Mu} {H' : Heap} {w' : World} (h : After C B X w0 mu H w mu' H' w') (d : Bool) (op : Op) :
    After C B X w0 mu H w mu' (opD d op H H') w' ∧ (∀ b, Sset X mu' H' b → Sset X mu' (Go.Ab.opD d op H H') b) ∧ (Go.Ab.opD d op H H').length = H'.length := by
  unfold Go.Ab.opD
  split
  · have q := (Less.refl h.sim).fz H.length
    exact ⟨⟨q.sim, h.ext, h.evo, fun b r hlt => q.keep b (h.keep b r hlt)⟩, q.keep, q.len⟩
  · exact ⟨h, fun _ q => q, rfl⟩
theorem opW_wp {a : Act} {o : Oper} {K : AV → Heap → Prop} {next : Act → World → Prop} {Q : Exit → Act → World → Prop} (hg : ∀ x, ARep mu (Sset X mu H) w (g x) (a.eval x)) (hs : SimH C B X w0 mu H w)
    (hn : ∀ k, H.length ≤ k → mu k = none) {d : Bool} (h : opW C d g H o K)
    (hnext : ∀ x w' mu' av H', K av H' → After C B X w0 mu H w mu' H' w' → ARep mu' (Sset X mu' H') w' av x → (∀ k, H'.length ≤ k → mu' k = none) → next (a.put o.dst x) w') : o.wp C.P a w next Q := by
  unfold opW at h
  unfold Oper.wp
  split at h
  · rename_i f args ts ho
    rcases h with ⟨ind, r, hok, hK⟩ | ⟨_, Post, hsat, hK⟩ | ⟨r, hx, hK⟩
    · have hl := Less.fzH (d := d) (ind := ind) (args.toList.map g) hs
      obtain ⟨h1, h2⟩ := call_sat (List.prefix_refl _) hl.sim (ρ := a.eval) ho rfl (fun x _ => (hg x).mono (fun _ _ q => q) (fun b q _ => hl.keep b q) (.refl _ _)) hok (K := fun x w' => next (a.put o.dst x) w') (fun x w' hb hr =>
        hnext x w' mu r _ hK ⟨hl.sim.ext hb, fun _ _ q => q, .of_below hb, fun b q _ => hl.keep b q⟩ hr (fun k hk => hn k (by rw [← hl.len]; exact hk)))
      rw [h1]
      exact h2.mono (fun e w' ⟨x, he, hx⟩ => by subst he; exact hx)
    · obtain ⟨c1, c2⟩ := hsat
      rw [run_callFunc ho rfl c1 w]
      have hxs : args.map a.eval = (args.toList.map a.eval).toArray := by rw [← Array.toList_map, Array.toArray_toList]
      show Calls _ _ (args.map a.eval) _ _
      rw [hxs]
      refine (c2 B X w0 w mu (args.toList.map a.eval) hs hn (by simp) (fun i hi => ?_)).mono ?_
      · have hi' : i < args.size := by simpa using hi
        have e1 : (args.toList.map g).getD i .bad = g args[i] := by simp [List.getD_eq_getElem?_getD, hi']
        have e2 : (args.toList.map a.eval).getD i undef = a.eval args[i] := by simp [List.getD_eq_getElem?_getD, hi']
        rw [e1, e2]; exact hg _
      · rintro e w' ⟨x, r, H', mu', rfl, hP, haf, hr, hn'⟩
        exact hnext x w' mu' r H' (hK r H' hP) haf hr hn'
    · rw [s_ext (ρ := a.eval) hg ho rfl hx]
      exact hnext r w mu _ H hK (.refl hs) (.v _) hn
  · rename_i args ts ho
    obtain ⟨args⟩ := args
    obtain ⟨ts⟩ := ts
    match args, ts, h with
    | [s, x], [t, t'], h =>
      obtain ⟨hpre, hK⟩ := h
      obtain ⟨w', mu', y, h1, h2, h3, h4⟩ := append_sound (o := o) hg hs hn ho hpre
      rw [h1]
      exact hnext y w' mu' _ _ hK h2 h3 h4
    | [], _, h => exact h.elim
    | [_], _, h => exact h.elim
    | _ :: _ :: _ :: _, _, h => exact h.elim
    | [_, _], [], h => exact h.elim
    | [_, _], [_], h => exact h.elim
    | [_, _], _ :: _ :: _ :: _, h => exact h.elim
  · rename_i t x t' ho
    obtain ⟨_, ht, h⟩ := h
    cases hr : tk C.P t with
    | none => rw [hr] at ht; exact ht.elim
    | some r =>
      rw [hr] at ht
      obtain ⟨_, _, _, _, hd', _, _, _, _, _, e5⟩ := tk_spec hr
      cases hsd : r.sd with
      | sl e =>
        have := sl_spec (e5 ▸ hsd); subst this
        have hx := hg x
        cases hgx : g x with
        | sl n cs =>
          rw [hgx] at h hx
          generalize hy : a.eval x = y at hx
          cases hx with
          | sl _ _ ad c xs hnc hx' hr' =>
            rw [run_eqNil ho hd' hy rfl w]
            refine hnext _ w mu _ H (h ad.isNone (fun q => ?_)) (.refl hs) (.v _) hn
            cases cs with
            | nil => rfl
            | cons c0 cs =>
              obtain ⟨ad2, e2, _⟩ := hx' 0 (by simp)
              rw [e2] at q; cases q
        | own sz k off n =>
          rw [hgx] at h hx
          generalize hy : a.eval x = y at hx
          cases hx with
          | own _ _ _ _ ad ad' c =>
            rw [run_eqNil ho hd' hy rfl w]
            exact hnext _ w mu _ H h (.refl hs) (.v _) hn
        | v y =>
          rw [hgx] at h hx
          have ex := hx.v_inv
          cases y with
          | slice b n c =>
            cases b with
            | none =>
              rw [run_eqNil ho hd' ex rfl w]
              exact hnext _ w mu _ H h (.refl hs) (.v _) hn
            | some b => exact h.elim
          | _ => exact h.elim
        | _ => rw [hgx] at h; exact h.elim
      | _ => simp only [hsd] at ht
  · obtain ⟨hpre, hK⟩ := h
    by_cases hst : ∃ t ad x, o.op = .store t ad x
    · obtain ⟨t, ad, x, ho⟩ := hst
      rw [ho] at hpre hK
      rw [opD_not rfl] at hK
      obtain ⟨w', h1, h2, h3, h4, h5⟩ := store_sound hg hs ho hpre
      rw [h1]
      refine hnext undef w' mu _ _ hK ⟨h2, fun _ _ q => q, h3, fun b q _ => h4 b q⟩ (by rw [h5]; exact .v _) (fun k hk => hn k ?_)
      have hlen : (opF C.P g H (.store t ad x)).H.length = H.length ∨ (opF C.P g H (.store t ad x)).H = H := by
        simp only [opF]
        split
        · left; simp
        · right; rfl
      rcases hlen with q | q
      · omega
      · rw [q] at hk; exact hk
    · obtain ⟨x, w', mu', h1, h2, h3, h4⟩ := calm_after hs hn (calm_sound (o := o) hg hs (List.prefix_refl H) (fun _ => rfl) (fun t ad x q => hst ⟨t, ad, x, q⟩) hpre)
      rw [h1]
      obtain ⟨k1, k2, k3⟩ := h2.opD d o.op
      exact hnext x w' mu' _ _ hK k1 (h3.mono (fun _ _ q => q) (fun b q _ => k2 b q) (.refl _ _)) (fun k hk => h4 k (by rw [k3] at hk; exact hk))

/-- A frame and a world that fit an abstract state. -/
structure St (C : Ctx) (B : Nat) (X : Nat → Prop) (w0 : World) (Z : Mu → Heap → World → Prop) (N : Nat) (mu : Mu) (σ : AState) (a : Act) (w : World) : Prop where
  sim : SimH C B X w0 mu σ.H w
  fresh : ∀ k, σ.H.length ≤ k → mu k = none
  slots : ∀ t, ARep mu (Sset X mu σ.H) w (look σ.slots t) (a.tmps.getD t undef)
  defers : a.defers = []
  size : a.tmps.size = N
  past : Z mu σ.H w
  zok : ∀ mu H w mu' H' w', Z mu H w → After C B X w0 mu H w mu' H' w' → Z mu' H' w'

theorem St.eval {N : Nat} {σ : AState} {a : Act} (h : St C B X w0 Z N mu σ a w) (x : Operand) : ARep mu (Sset X mu σ.H) w (evalA C.G σ.slots x) (a.eval x) := by
  cases x with
  | tmp t => exact h.slots t
  | const v => exact .v v
  | func f => exact .v _
  | global gl =>
    simp only [evalA]
    cases hG : C.G gl with
    | none => exact .bad _
    | some cs =>
      simp only
      obtain ⟨h1, h2⟩ := h.sim.glob gl cs hG
      have hS : Sset X mu σ.H gl := by
        refine ⟨h.sim.hG gl (by rw [hG]; simp), fun k ad o hk ho hw heq => ?_⟩
        obtain ⟨_, _, q⟩ := h.sim.lo k ad o hk ho hw
        rw [heq, hG] at q; cases q
      have := ARep.dp (mu := mu) (S := Sset X mu σ.H) (w := w) (cs.map .v) 0 ⟨gl, 0, none⟩ (fun i => cs.getD i undef)
        (fun i hi => ⟨hS, by simpa using h2 i (by simpa using hi)⟩) (fun i hi => by rw [getD_map_v _ _ (by simpa using hi)]; exact .v _)
      exact this

theorem getD_setIf (ts : Array Value) (d t : Nat) (x : Value) (hd : d < ts.size) : (ts.setIfInBounds d x).getD t undef = if d = t then x else ts.getD t undef := by
  simp only [Array.getD_eq_getD_getElem?, Array.getElem?_setIfInBounds]
  by_cases h : d = t
  · rw [if_pos h, if_pos h]; subst h; simp [hd]
  · rw [if_neg h, if_neg h]

theorem look_cons (d : Nat) (a : AV) (l : List (Nat × AV)) (t : Nat) : look ((d, a) :: l) t = if d = t then a else look l t := by
  simp only [look]
  by_cases h : d = t
  · rw [if_pos h, h]; simp
  · rw [if_neg h]
    have : Nat.beq d t = false := by cases hb : Nat.beq d t with | false => rfl | true => exact absurd (Nat.eq_of_beq_eq_true hb) h
    rw [this]

theorem St.put {N : Nat} {σ : AState} {a : Act} (h : St C B X w0 Z N mu σ a w) {dst : Option Nat} {av : AV} {x : Value} {H' : Heap} {mu' : Mu} {w' : World} (hd : dstOK N dst)
    (haf : After C B X w0 mu σ.H w mu' H' w') (hr : ARep mu' (Sset X mu' H') w' av x) (hn : ∀ k, H'.length ≤ k → mu' k = none) : St C B X w0 Z N mu' (σ.put dst av H') (a.put dst x) w' := by
  have hold : ∀ t, ARep mu' (Sset X mu' H') w' (look σ.slots t) (a.tmps.getD t undef) := fun t => (h.slots t).mono haf.ext haf.keep haf.evo
  cases dst with
  | none => exact ⟨haf.sim, hn, hold, h.defers, h.size, h.zok _ _ _ _ _ _ h.past haf, h.zok⟩
  | some d =>
    refine ⟨haf.sim, hn, fun t => ?_, h.defers, by simp [Act.put, h.size], h.zok _ _ _ _ _ _ h.past haf, h.zok⟩
    simp only [AState.put, Act.put, look_cons]
    rw [getD_setIf _ _ _ _ (by rw [h.size]; exact hd)]
    by_cases e : d = t
    · rw [if_pos e, if_pos e]; exact hr
    · rw [if_neg e, if_neg e]; exact hold t

theorem yielded_iff0 {all : Array Oper} {j : Nat} {tmps : Array Value} {t : Nat} {x : Value} {want : Bool} (hd : (all[j]?).bind (·.dst) = some t) (e : tmps.getD t undef = x) : yielded all tmps j = some want ↔ x = .bool want := by
  unfold yielded
  rw [hd, Option.bind_some]
  rw [Array.getD_eq_getD_getElem?] at e
  cases hq : tmps[t]? with
  | none =>
    rw [hq] at e
    simp only [Option.getD_none] at e
    subst e
    simp [undef]
  | some y =>
    rw [hq] at e
    simp only [Option.getD_some] at e
    subst e
    cases y <;> simp
theorem yielded_iff {N : Nat} {σ : AState} {a : Act} (h : St C B X w0 Z N mu σ a w) {all : Array Oper} {j : Nat} {x : Value} {want : Bool} (hgs : gslot all j σ.slots = .v x) : yielded all a.tmps j = some want ↔ x = .bool want := by
  unfold gslot at hgs
  cases hd : (all[j]?).bind (·.dst) with
  | none => rw [hd] at hgs; cases hgs
  | some t =>
    rw [hd] at hgs
    simp only at hgs
    have := h.slots t
    rw [hgs] at this
    exact yielded_iff0 hd this.v_inv

theorem opsW_wp {N : Nat} {all : Array Oper} {Q : Exit → Act → World → Prop} {K : AState → Prop} (hK : ∀ σ mu a w, K σ → St C B X w0 Z N mu σ a w → Q .normal a w) :
    ∀ (l : List Oper) (σ : AState) (mu : Mu) (a : Act) (w : World), opsW C N false all l K σ → St C B X w0 Z N mu σ a w → wpList C.P all Q l a w := by
  intro l
  induction l with
  | nil => intro σ mu a w h hst; exact hK σ mu a w h hst
  | cons o r ih =>
    intro σ mu a w h hst
    obtain ⟨hd, h⟩ := h
    have exec : opW C false (evalA C.G σ.slots) σ.H o (fun a H => opsW C N false all r K (σ.put o.dst a H)) → o.wp C.P a w (wpList C.P all Q r) Q := fun h =>
      opW_wp (fun x => hst.eval x) hst.sim hst.fresh h (fun x w' mu' av H' hk haf hr hn => ih _ mu' _ w' hk (hst.put hd haf hr hn))
    unfold wpList
    cases hgd : o.guard with
    | none =>
      rw [hgd] at h
      rw [if_pos (by simp [Region.wanted, hgd])]
      exact .inl (exec h)
    | some p =>
      obtain ⟨j, want⟩ := p
      rw [hgd] at h
      simp only at h
      generalize hgs : gslot all j σ.slots = ga at h
      match ga, h with
      | .v x, h =>
        have hy := yielded_iff hst hgs (want := want)
        by_cases hb : x = .bool want
        · rw [if_pos (by simp [Region.wanted, hgd, hy.mpr hb])]
          exact .inl (exec (h.1 hb))
        · rw [if_neg (by simpa [Region.wanted, hgd] using fun q => hb (hy.mp q))]
          exact ih _ mu _ w (h.2 hb) (hst.put hd (.refl hst.sim) (.v _) hst.fresh)
end
end Go.Ab

set_option linter.unusedVariables false
set_option linter.unusedSimpArgs false
set_option linter.unusedSectionVars false
namespace Go.Ab
open Go.RowKit (Below)

theorem opF_H (P : Program) (g : Operand → AV) (H : Heap) (op : Op) (hns : ∀ t a x, op ≠ .store t a x) : (opF P g H op).H = H ∨ ∃ c, (opF P g H op).H = H ++ [c] := by
  unfold opF
  repeat' (first | exact .inl rfl | exact .inr ⟨_, rfl⟩ | (exact absurd rfl (hns _ _ _)) | split | (left; unfold binF; split <;> rfl) | (left; unfold loadF; split <;> rfl))

theorem boundA_congr {g g' : Operand → AV} {d : Int} {o : Option Operand} (h : ∀ x ∈ o.toList, g x = g' x) : boundA g d o = boundA g' d o := by
  cases o with
  | none => rfl
  | some y => simp only [boundA, h y (by simp)]

theorem opF_congr (P : Program) {g g' : Operand → AV} (H : Heap) (op : Op) (h : ∀ x ∈ op.operands.toList, g x = g' x) : opF P g H op = opF P g' H op := by
  cases op with
  | build t ps =>
    have e : (ps.toList.map fun p => (p.1, g p.2)) = (ps.toList.map fun p => (p.1, g' p.2)) := List.map_congr_left fun p hp => by
      rw [h p.2 (by simp [Op.operands]; exact ⟨p.1, by simpa using hp⟩)]
    simp only [opF, e]
  | buildSlice t n ps =>
    have e : (ps.toList.map fun p => (p.1, g p.2)) = (ps.toList.map fun p => (p.1, g' p.2)) := List.map_congr_left fun p hp => by
      rw [h p.2 (by simp [Op.operands]; exact ⟨p.1, by simpa using hp⟩)]
    simp only [opF, e]
  | slice t x lo hi mx =>
    have h1 : g x = g' x := h x (by simp [Op.operands])
    have h2 : ∀ d, boundA g d lo = boundA g' d lo := fun d => boundA_congr fun y hy => h y (by simp [Op.operands]; simp at hy; simp [hy])
    have h3 : ∀ d, boundA g d hi = boundA g' d hi := fun d => boundA_congr fun y hy => h y (by simp [Op.operands]; simp at hy; simp [hy])
    cases mx with
    | none => simp only [opF, h1, h2, h3]
    | some m => rfl
  | call c =>
    obtain ⟨cal, args, ts⟩ := c
    obtain ⟨args⟩ := args
    obtain ⟨ts⟩ := ts
    have h1 : ∀ x ∈ args, g x = g' x := fun x hx => h x (by simp [Op.operands, Call.operands]; exact .inr hx)
    cases cal with
    | value f =>
      cases f <;> try rfl
      have e : args.map g = args.map g' := List.map_congr_left h1
      simp only [opF, e]
    | invoke r m => rfl
    | builtin b =>
      cases b <;> try rfl
      all_goals (
        match args, ts with
        | [], _ => rfl
        | [x], [] => simp only [opF, h1 x (by simp)]
        | [x], [t] => simp only [opF, h1 x (by simp)]
        | [x], _ :: _ :: _ => simp only [opF, h1 x (by simp)]
        | [x, y], _ => simp only [opF, h1 x (by simp), h1 y (by simp)]
        | _ :: _ :: _ :: _, _ => rfl)
  | _ => first | rfl | (simp only [Op.operands, List.mem_cons, List.not_mem_nil, or_false, forall_eq_or_imp, forall_eq] at h; simp only [opF, h])

section
variable {C : Ctx} {B : Nat} {X : Nat → Prop} {w0 : World} {N : Nat}

theorem opsW_append {d : Bool} {all : Array Oper} {K : AState → Prop} : ∀ (l1 l2 : List Oper) (σ : AState), opsW C N d all (l1 ++ l2) K σ → opsW C N d all l1 (opsW C N d all l2 K) σ := by
  intro l1
  induction l1 with
  | nil => intro l2 σ h; exact h
  | cons o r ih =>
    intro l2 σ h
    obtain ⟨hd, h⟩ := h
    have e : opsW C N d all (r ++ l2) K = opsW C N d all (r ++ l2) K := rfl
    refine ⟨hd, ?_⟩
    have mono : ∀ {K1 K2 : AV → Heap → Prop} (g : Operand → AV) (H : Heap), (∀ a H, K1 a H → K2 a H) → opW C d g H o K1 → opW C d g H o K2 := by
      intro K1 K2 g H hk hw
      unfold opW at hw ⊢
      split at hw
      · rename_i f args ts ho
        rcases hw with ⟨ind, r, h1, h2⟩ | ⟨h0, P, h1, h2⟩ | ⟨r, h1, h2⟩
        · exact .inl ⟨ind, r, h1, hk _ _ h2⟩
        · exact .inr (.inl ⟨h0, P, h1, fun r H' q => hk _ _ (h2 r H' q)⟩)
        · exact .inr (.inr ⟨r, h1, hk _ _ h2⟩)
      · rename_i args ts ho
        split at hw
        · exact ⟨hw.1, hk _ _ hw.2⟩
        · exact hw.elim
      · rename_i t x t' ho
        obtain ⟨h0, h1, h2⟩ := hw
        refine ⟨h0, h1, ?_⟩
        split at h2
        · exact fun b hb => hk _ _ (h2 b hb)
        · exact hk _ _ h2
        · exact hk _ _ h2
        · exact h2.elim
      · rename_i h1 h2 h3
        exact ⟨hw.1, hk _ _ hw.2⟩
    cases hgd : o.guard with
    | none =>
      rw [hgd] at h
      exact mono _ _ (fun a H q => ih l2 _ q) h
    | some p =>
      obtain ⟨j, want⟩ := p
      rw [hgd] at h
      simp only at h ⊢
      generalize gslot all j σ.slots = ga at h
      match ga, h with
      | .v x, h => exact ⟨fun q => mono _ _ (fun a H q => ih l2 _ q) (h.1 q), fun q => ih l2 _ (h.2 q)⟩
theorem appF_congr (P : Program) {g g' : Operand → AV} (H : Heap) {s x : Operand} {t t' : TypeId} (h1 : g s = g' s) (h2 : g x = g' x) : appF P g H s x t t' = appF P g' H s x t t' := by
  simp only [appF, newsF, h1, h2]
theorem opW_congr {C : Ctx} {d : Bool} {g g' : Operand → AV} {H : Heap} {o : Oper} {K : AV → Heap → Prop} (h : ∀ x ∈ o.op.operands.toList, g x = g' x) (hw : opW C d g H o K) : opW C d g' H o K := by
  unfold opW at hw ⊢
  split at hw
  · rename_i f args ts ho
    have e : args.toList.map g = args.toList.map g' := List.map_congr_left fun x hx => h x (by rw [ho]; simp [Op.operands, Call.operands]; exact .inr (by simpa using hx))
    rw [e] at hw
    exact hw
  · rename_i args ts ho
    split at hw
    · rename_i s x t t' ha ht
      have hs : ∀ y ∈ [s, x], g y = g' y := fun y hy => h y (by rw [ho]; simp only [Op.operands, Call.operands]; rw [← ha] at hy; simpa using hy)
      rw [appF_congr C.P H (hs s (by simp)) (hs x (by simp))] at hw
      exact hw
    · exact hw.elim
  · rename_i t x t' ho
    have e : g x = g' x := h x (by rw [ho]; simp [Op.operands])
    rw [e] at hw
    exact hw
  · rw [opF_congr C.P H _ h] at hw
    exact hw
end
end Go.Ab

set_option linter.unusedVariables false
set_option linter.unusedSimpArgs false
set_option linter.unusedSectionVars false
namespace Go.Ab
open Go.RowKit (Below)

/-- A calm operation's outcome. -/
def OpC (C : Ctx) (g : Operand → AV) (H : Heap) (o : Oper) (av : AV) (H' : Heap) : Prop :=
  (∃ f args ts ind, o.op = .call ⟨.value (.func f), args, ts⟩ ∧ CallOK C ind f H (args.toList.map g) av ∧ H' = H) ∨
  ((∀ t a x, o.op ≠ .store t a x) ∧ (opF C.P g H o.op).pre ∧ av = (opF C.P g H o.op).av ∧ H' = opD true o.op H (opF C.P g H o.op).H)

def Runs (ops : Array Oper) (o : Oper) (σ : AState) : Prop := o.guard = none ∨ ∃ j want, o.guard = some (j, want) ∧ gslot ops j σ.slots = .v (.bool want)
def Skips (ops : Array Oper) (o : Oper) (σ : AState) : Prop := ∃ j want x, o.guard = some (j, want) ∧ gslot ops j σ.slots = .v x ∧ x ≠ .bool want

def CStep (C : Ctx) (N : Nat) (ops : Array Oper) (o : Oper) (σ σ' : AState) : Prop :=
  dstOK N o.dst ∧ ((∃ av H', σ' = σ.put o.dst av H' ∧ Runs ops o σ ∧ OpC C (evalA C.G σ.slots) σ.H o av H') ∨ (Skips ops o σ ∧ σ' = σ.put o.dst (.v undef) σ.H))

section
variable {C : Ctx} {B : Nat} {X : Nat → Prop} {w0 : World} {N : Nat} {ops : Array Oper}

theorem opC_of {g : Operand → AV} {H : Heap} {o : Oper} {K : AV → Heap → Prop} (hc : isCalm o.op = true) (h : opW C true g H o K) : ∃ av H', OpC C g H o av H' ∧ K av H' := by
  unfold opW at h
  split at h
  · rename_i f args ts ho
    rcases h with ⟨ind, r, h1, h2⟩ | ⟨h0, _⟩ | ⟨r, h1, h2⟩
    · exact ⟨r, H, .inl ⟨f, args, ts, ind, ho, h1, rfl⟩, h2⟩
    · cases h0
    · refine ⟨.v r, H, .inr ⟨fun t a x q => (by rw [ho] at q; cases q), ?_, ?_, ?_⟩, h2⟩
      · rw [ho]; simp only [opF, h1]
      · rw [ho]; simp only [opF, h1]
      · rw [ho]; simp only [opF, h1]; exact (opD_not rfl).symm
  · rename_i args ts ho
    rw [ho] at hc; cases hc
  · obtain ⟨h0, _⟩ := h; cases h0
  · refine ⟨_, _, .inr ⟨fun t a x q => ?_, h.1, rfl, rfl⟩, h.2⟩
    rw [q] at hc; cases hc

theorem trace_of {K : AState → Prop} : ∀ (l : List Oper) (σ : AState), (∀ o ∈ l, isCalm o.op = true) → opsW C N true ops l K σ →
    ∃ st : Nat → AState, st 0 = σ ∧ (∀ i (h : i < l.length), CStep C N ops l[i] (st i) (st (i + 1))) ∧ K (st l.length) := by
  intro l
  induction l with
  | nil => intro σ _ h; exact ⟨fun _ => σ, rfl, fun i h => by simp at h, h⟩
  | cons o r ih =>
    intro σ hc h
    obtain ⟨hd, h⟩ := h
    have build : ∀ σ', CStep C N ops o σ σ' → opsW C N true ops r K σ' → ∃ st : Nat → AState, st 0 = σ ∧ (∀ i (h : i < (o :: r).length), CStep C N ops (o :: r)[i] (st i) (st (i + 1))) ∧ K (st (o :: r).length) := by
      intro σ' hs hr
      obtain ⟨st, h1, h2, h3⟩ := ih σ' (fun o ho => hc o (by simp [ho])) hr
      refine ⟨fun i => match i with | 0 => σ | i + 1 => st i, rfl, fun i hi => ?_, h3⟩
      cases i with
      | zero => simp only [List.getElem_cons_zero, h1]; exact hs
      | succ i => exact h2 i (by simpa using hi)
    have hco := hc o (by simp)
    cases hgd : o.guard with
    | none =>
      rw [hgd] at h
      obtain ⟨av, H', h1, h2⟩ := opC_of hco h
      exact build _ ⟨hd, .inl ⟨av, H', rfl, .inl hgd, h1⟩⟩ h2
    | some p =>
      obtain ⟨j, want⟩ := p
      rw [hgd] at h
      simp only at h
      generalize hgs : gslot ops j σ.slots = ga at h
      match ga, h with
      | .v x, h =>
        by_cases hb : x = .bool want
        · obtain ⟨av, H', h1, h2⟩ := opC_of hco (h.1 hb)
          exact build _ ⟨hd, .inl ⟨av, H', rfl, .inr ⟨j, want, hgd, by rw [hgs, hb]⟩, h1⟩⟩ h2
        · exact build _ ⟨hd, .inr ⟨⟨j, want, x, hgd, hgs, hb⟩, rfl⟩⟩ (h.2 hb)

theorem OpC.heap {g : Operand → AV} {H H' : Heap} {o : Oper} {av : AV} (h : OpC C g H o av H') : H' = H ∨ ∃ c, H' = H ++ [c] := by
  rcases h with ⟨_, _, _, _, _, _, h⟩ | ⟨h1, _, _, h⟩
  · exact .inl h
  · rw [h]; exact opD_heap _ _ (opF_H _ _ _ _ h1)

theorem CStep.heap {o : Oper} {σ σ' : AState} (h : CStep C N ops o σ σ') : σ'.H = σ.H ∨ ∃ c, σ'.H = σ.H ++ [c] := by
  have e : ∀ (av : AV) (H' : Heap), (σ.put o.dst av H').H = H' := fun av H' => by unfold AState.put; split <;> rfl
  rcases h.2 with ⟨av, H', rfl, _, h⟩ | ⟨_, rfl⟩
  · rw [e]; exact h.heap
  · rw [e]; exact .inl rfl

theorem CStep.other {o : Oper} {σ σ' : AState} (h : CStep C N ops o σ σ') {t : Nat} (ht : o.dst ≠ some t) : look σ'.slots t = look σ.slots t := by
  have e : ∀ (av : AV) (H' : Heap), look (σ.put o.dst av H').slots t = look σ.slots t := fun av H' => by
    unfold AState.put
    split
    · rename_i d hd; rw [look_cons, if_neg (fun q => ht (by rw [hd, q]))]
    · rfl
  rcases h.2 with ⟨av, H', rfl, _⟩ | ⟨_, rfl⟩ <;> exact e _ _

/-- What 'drawOk' says. -/
structure DrawOk (ops : Array Oper) (p : Nat) : Prop where
  len : p ≤ ops.size
  calm : ∀ i (h : i < ops.size), i < p → isCalm ops[i].op = true
  edges : ∀ i (h : i < ops.size), ∀ e ∈ ops[i].after, Region.binds .any e = true → e.on < i
  apart : ∀ i j (hi : i < ops.size) (hj : j < ops.size), i < p → j < p → i ≠ j → ops[i].dst.isSome = true ∧ ops[i].dst ≠ ops[j].dst ∧
    ∀ t, ops[j].dst = some t → t ∈ ops[i].looksAt ops → (j < i ∧ afterOn ops[i] j = true) ∨ (i < j ∧ afterOn ops[j] i = true)
  last : ∀ i (h : i < ops.size), p ≤ i → ∀ j (hj : j < ops.size), j < i → afterT ops i j = true ∨ (j < p ∧ lzOk ops ops[j] ops[i] = true)
  lazy : ∀ j j' (hj : j < ops.size) (hj' : j' < ops.size), j < p → j' < p → isLazy ops p j = true → isLazy ops p j' = true → ∀ t, ops[j'].dst = some t → t ∉ ops[j].looksAt ops

theorem calmLen_spec : ∀ (l : List Oper), calmLen l ≤ l.length ∧ ∀ i (h : i < l.length), i < calmLen l → isCalm l[i].op = true := by
  intro l
  induction l with
  | nil => exact ⟨Nat.le_refl _, fun i h => by simp at h⟩
  | cons o r ih =>
    unfold calmLen
    by_cases hc : isCalm o.op = true
    · rw [if_pos hc]
      refine ⟨by simp; exact ih.1, fun i h hi => ?_⟩
      cases i with
      | zero => exact hc
      | succ i => exact ih.2 i (by simpa using h) (by omega)
    · rw [if_neg hc]
      exact ⟨by simp, fun i h hi => by omega⟩

theorem all_zipIdx {α : Type} {l : List α} {f : α × Nat → Bool} (h : l.zipIdx.all f = true) (i : Nat) (hi : i < l.length) : f (l[i], i) = true := by
  have := List.all_eq_true.mp h (l[i], i) (by rw [List.mem_zipIdx_iff_getElem?]; simp [hi])
  exact this

theorem drawOk_spec (h : drawOk ops = true) : DrawOk ops (calmLen ops.toList) := by
  unfold drawOk at h
  simp only [Bool.and_eq_true] at h
  obtain ⟨⟨⟨h1, h2⟩, h3⟩, h4⟩ := h
  obtain ⟨c1, c2⟩ := calmLen_spec ops.toList
  refine ⟨by simpa using c1, fun i hi hp => by have q := c2 i (by simpa using hi) hp; rwa [Array.getElem_toList] at q, fun i hi e he hb => ?_, fun i j hi hj hip hjp hne => ?_, fun i hi hp j hjs hj => ?_, fun j j' hj hj' hjp hjp' hl hl' t ht => ?_⟩
  · have := all_zipIdx h1 i (by simpa using hi)
    simp only [Array.getElem_toList] at this
    have := (Array.all_eq_true_iff_forall_mem.mp this) e he
    simpa [hb] using this
  · have hl1 : i < (ops.toList.take (calmLen ops.toList)).length := by simp; omega
    have hl2 : j < (ops.toList.take (calmLen ops.toList)).length := by simp; omega
    have := all_zipIdx (all_zipIdx h2 i hl1) j hl2
    simp only [List.getElem_take, Array.getElem_toList, Bool.or_eq_true, beq_iff_eq, hne, false_or, Bool.and_eq_true, bne_iff_ne] at this
    obtain ⟨⟨q1, q2⟩, q3⟩ := this
    refine ⟨q1, q2, fun t ht hl => ?_⟩
    rw [ht] at q3
    simp only [Bool.or_eq_true, Bool.not_eq_true', Bool.and_eq_true, decide_eq_true_eq, List.contains_eq_mem, decide_eq_false_iff_not] at q3
    rcases q3 with (q | q) | q
    · exact absurd hl q
    · exact .inl q
    · exact .inr q
  · have := all_zipIdx h3 i (by simpa using hi)
    simp only [Array.getElem_toList, Bool.or_eq_true, decide_eq_true_eq] at this
    rcases this with q | q
    · omega
    · have := List.all_eq_true.mp q j (by simpa using hj)
      simp only [Bool.or_eq_true, Bool.and_eq_true, decide_eq_true_eq] at this
      rcases this with q | ⟨q1, q2⟩
      · exact .inl q
      · refine .inr ⟨q1, ?_⟩
        rwa [show ops.getD j default = ops[j] by simp [Array.getD, hjs]] at q2
  · have := List.all_eq_true.mp h4 j (by simpa using hjp)
    simp only [Bool.or_eq_true, Bool.not_eq_true', hl, reduceCtorEq, false_or] at this
    have := List.all_eq_true.mp this j' (by simpa using hjp')
    simp only [Bool.or_eq_true, Bool.not_eq_true', hl', reduceCtorEq, false_or] at this
    rw [show ops.getD j' default = ops[j'] by simp [Array.getD, hj'], show ops.getD j default = ops[j] by simp [Array.getD, hj], ht] at this
    simpa using this

theorem afterOn_spec {o : Oper} {j : Nat} (h : afterOn o j = true) : ∃ e ∈ o.after, Region.binds .any e = true ∧ e.on = j := by
  unfold afterOn at h
  rw [Array.any_eq_true'] at h
  obtain ⟨e, he, h⟩ := h
  simp only [Bool.and_eq_true, beq_iff_eq] at h
  exact ⟨e, he, h.1, h.2⟩

def cnt (listed : Array Bool) (n : Nat) : Nat := (List.range n).countP fun i => !listed.getD i true

theorem cnt_set {listed : Array Bool} {n i : Nat} (hi : i < n) (h : listed.getD i true = false) : cnt (listed.setIfInBounds i true) n < cnt listed n := by
  have key : ∀ l : List Nat, (l.countP fun j => !(listed.setIfInBounds i true).getD j true) ≤ (l.countP fun j => !listed.getD j true) ∧
      (i ∈ l → (l.countP fun j => !(listed.setIfInBounds i true).getD j true) < (l.countP fun j => !listed.getD j true)) := by
    intro l
    induction l with
    | nil => exact ⟨Nat.le_refl _, fun h => by simp at h⟩
    | cons a l ih =>
      simp only [List.countP_cons]
      by_cases e : a = i
      · subst e
        have e1 : (listed.setIfInBounds a true).getD a true = true := by
          have hlt : a < listed.size := by
            rcases Nat.lt_or_ge a listed.size with q | q
            · exact q
            · rw [Array.getD_eq_getD_getElem?, Array.getElem?_eq_none q] at h; simp at h
          simp [Array.getD, hlt]
        have ih1 := ih.1
        simp only [e1, h]
        simp only [Bool.not_true, Bool.false_eq_true, if_false, Bool.not_false, if_true]
        exact ⟨by omega, fun _ => by omega⟩
      · have e1 := getD_set_ne (listed := listed) true (Ne.symm e)
        rw [e1]
        refine ⟨Nat.add_le_add_right ih.1 _, fun hm => ?_⟩
        have := ih.2 (by simpa [Ne.symm e] using hm)
        omega
  exact (key _).2 (by simpa using hi)
end
end Go.Ab

set_option linter.unusedVariables false
set_option linter.unusedSimpArgs false
set_option linter.unusedSectionVars false
namespace Go.Ab
open Go.RowKit (Below)

section
variable {C : Ctx} {B : Nat} {X : Nat → Prop} {w0 : World} {Z : Mu → Heap → World → Prop} {N : Nat} {ops : Array Oper}

/-- A run in the text's order through the calm operations. -/
structure Trace (C : Ctx) (N : Nat) (ops : Array Oper) (p : Nat) (st : Nat → AState) : Prop where
  step : ∀ i (h : i < ops.size), i < p → CStep C N ops ops[i] (st i) (st (i + 1))

theorem Trace.chain {p : Nat} {st : Nat → AState} (h : Trace C N ops p st) (hp : p ≤ ops.size) : ∀ j i, i ≤ j → j ≤ p → (st i).H <+: (st j).H := by
  intro j
  induction j with
  | zero => intro i hi _; have : i = 0 := by omega
            subst this; exact List.prefix_refl _
  | succ j ih =>
    intro i hi hj
    by_cases e : i = j + 1
    · subst e; exact List.prefix_refl _
    · have h1 := ih i (by omega) (by omega)
      rcases (h.step j (by omega) (by omega)).heap with q | ⟨c, q⟩
      · rw [q]; exact h1
      · rw [q]; exact h1.trans (List.prefix_append _ _)

theorem Trace.look0 {p : Nat} {st : Nat → AState} (h : Trace C N ops p st) (hp : p ≤ ops.size) {t : Nat} : ∀ j, j ≤ p → (∀ i (hi : i < ops.size), i < j → ops[i].dst ≠ some t) → look (st j).slots t = look (st 0).slots t := by
  intro j
  induction j with
  | zero => intro _ _; rfl
  | succ j ih =>
    intro hj hne
    rw [(h.step j (by omega) (by omega)).other (hne j (by omega) (by omega))]
    exact ih (by omega) (fun i hi hij => hne i hi (by omega))

theorem Trace.look1 {p : Nat} {st : Nat → AState} (h : Trace C N ops p st) (hd : DrawOk ops p) {t i : Nat} (hi : i < ops.size) (hip : i < p) (ht : ops[i].dst = some t) :
    ∀ j, i < j → j ≤ p → look (st j).slots t = look (st (i + 1)).slots t := by
  intro j
  induction j with
  | zero => intro h _; omega
  | succ j ih =>
    intro hij hj
    by_cases e : i = j
    · rw [e]
    · have hjs : j < ops.size := by have := hd.len; omega
      rw [(h.step j hjs (by omega)).other (fun q => (hd.apart i j hi hjs hip (by omega) e).2.1 (by rw [ht, q]))]
      exact ih (by omega) (by omega)

/-- In the middle of the region: these have come up. -/
structure Mid (C : Ctx) (B : Nat) (X : Nat → Prop) (w0 : World) (Z : Mu → Heap → World → Prop) (N : Nat) (ops : Array Oper) (p : Nat) (st : Nat → AState) (listed : Array Bool) (a : Act) (w : World) (mu : Mu) : Prop where
  sim : SimH C B X w0 mu (st p).H w
  free : ∀ i (h : i < ops.size), i < p → listed.getD i true = false → ∀ k, (st i).H.length ≤ k → k < (st (i + 1)).H.length → mu k = none
  top : ∀ k, (st p).H.length ≤ k → mu k = none
  done : ∀ i (h : i < ops.size) t, i < p → listed.getD i true = true → ops[i].dst = some t → ARep mu (Sset X mu (st p).H) w (look (st (i + 1)).slots t) (a.tmps.getD t undef)
  old : ∀ t, (∀ i (h : i < ops.size), i < p → listed.getD i true = true → ops[i].dst ≠ some t) → ARep mu (Sset X mu (st p).H) w (look (st 0).slots t) (a.tmps.getD t undef)
  defers : a.defers = []
  size : a.tmps.size = N
  closed : ∀ i (h : i < ops.size), listed.getD i true = true → ∀ e ∈ ops[i].after, Region.binds .any e = true → listed.getD e.on true = true
  lsize : listed.size = ops.size
  above : ∀ i (h : i < ops.size), p ≤ i → listed.getD i true = false
  past : Z mu (st p).H w
  zok : ∀ mu H w mu' H' w', Z mu H w → After C B X w0 mu H w mu' H' w' → Z mu' H' w'

variable {p : Nat} {st : Nat → AState} {listed : Array Bool} {a : Act} {w : World} {mu : Mu}

theorem getD_true_false {listed : Array Bool} {j : Nat} (h : listed.getD j false = true) : listed.getD j true = true := by
  rcases Nat.lt_or_ge j listed.size with q | q
  · simp [Array.getD, q] at h ⊢; exact h
  · simp [Array.getD, Nat.not_lt.mpr q]

/-- What an operation that has not come up sees in a slot is what it sees in the text's order. -/
theorem Mid.sees0 (hm : Mid C B X w0 Z N ops p st listed a w mu) (ht : Trace C N ops p st) (hd : DrawOk ops p) {i : Nat} (hi : i < ops.size) (hip : i < p) (hun : listed.getD i true = false) {t : Nat} (hl : t ∈ ops[i].looksAt ops)
    (hall : ∀ q (hq : q < ops.size), q < p → ops[q].dst = some t → afterOn ops[i] q = true → listed.getD q true = true) :
    ARep mu (Sset X mu (st p).H) w (look (st i).slots t) (a.tmps.getD t undef) := by
  by_cases hex : ∃ j, ∃ hj : j < ops.size, j < p ∧ j ≠ i ∧ ops[j].dst = some t
  · obtain ⟨j, hj, hjp, hne, hdj⟩ := hex
    rcases (hd.apart i j hi hj hip hjp (Ne.symm hne)).2.2 t hdj hl with ⟨hlt, haf⟩ | ⟨hlt, haf⟩
    · rw [ht.look1 hd hj hjp hdj i hlt (by omega)]
      exact hm.done _ hj t hjp (hall j hj hjp hdj haf) hdj
    · -- it comes later, and waits for this one: it has not come up
      have hne2 : ∀ q (hq : q < ops.size), q < i → ops[q].dst ≠ some t := fun q hq hqi hqd =>
        (hd.apart q j hq hj (by omega) hjp (by omega)).2.1 (by rw [hqd, hdj])
      rw [ht.look0 hd.len i (by omega) hne2]
      refine hm.old t (fun q hq hqp hql hqd => ?_)
      by_cases e : q = j
      · subst e
        obtain ⟨e, he, hb, e2⟩ := afterOn_spec haf
        have := hm.closed q hq hql e he hb
        rw [e2, hun] at this; cases this
      · exact (hd.apart q j hq hj hqp hjp e).2.1 (by rw [hqd, hdj])
  · have hno : ∀ q (hq : q < ops.size), q < p → q ≠ i → ops[q].dst ≠ some t := fun q hq hqp hqi hqd => hex ⟨q, hq, hqp, hqi, hqd⟩
    rw [ht.look0 hd.len i (by omega) (fun q hq hqi => hno q hq (by omega) (by omega))]
    refine hm.old t (fun q hq hqp hql hqd => ?_)
    by_cases e : q = i
    · subst e; rw [hun] at hql; cases hql
    · exact hno q hq hqp e hqd

/-- What a ready operation sees in a slot is what it sees in the text's order. -/
theorem Mid.sees (hm : Mid C B X w0 Z N ops p st listed a w mu) (ht : Trace C N ops p st) (hd : DrawOk ops p) {i : Nat} (hi : i < ops.size) (hip : i < p) (hr : i ∈ Region.ready .any ops listed) {t : Nat} (hl : t ∈ ops[i].looksAt ops) :
    ARep mu (Sset X mu (st p).H) w (look (st i).slots t) (a.tmps.getD t undef) := by
  obtain ⟨hun, oi, hoi, hall⟩ := mem_ready.1 hr
  rw [Array.getElem?_eq_getElem hi] at hoi
  cases hoi
  refine hm.sees0 ht hd hi hip hun hl (fun q hq hqp hqd haf => ?_)
  obtain ⟨e, he, hb, rfl⟩ := afterOn_spec haf
  exact getD_true_false (hall e he hb)

theorem Mid.eval (hm : Mid C B X w0 Z N ops p st listed a w mu) (ht : Trace C N ops p st) (hd : DrawOk ops p) {i : Nat} (hi : i < ops.size) (hip : i < p) (hr : i ∈ Region.ready .any ops listed) {x : Operand} (hx : x ∈ ops[i].op.operands.toList) :
    ARep mu (Sset X mu (st p).H) w (evalA C.G (st i).slots x) (a.eval x) := by
  cases x with
  | tmp t =>
    refine hm.sees ht hd hi hip hr (t := t) ?_
    unfold Oper.looksAt
    refine List.mem_append_left _ ?_
    rw [List.mem_filterMap]
    exact ⟨.tmp t, hx, rfl⟩
  | const v => exact .v v
  | func f => exact .v _
  | global gl =>
    simp only [evalA]
    cases hG : C.G gl with
    | none => exact .bad _
    | some cs =>
      simp only
      obtain ⟨h1, h2⟩ := hm.sim.glob gl cs hG
      have hS : Sset X mu (st p).H gl := by
        refine ⟨hm.sim.hG gl (by rw [hG]; simp), fun k ad o hk ho hw heq => ?_⟩
        obtain ⟨_, _, q⟩ := hm.sim.lo k ad o hk ho hw
        rw [heq, hG] at q; cases q
      exact ARep.dp (mu := mu) (S := Sset X mu (st p).H) (w := w) (cs.map .v) 0 ⟨gl, 0, none⟩ (fun i => cs.getD i undef)
        (fun i hi => ⟨hS, by simpa using h2 i (by simpa using hi)⟩) (fun i hi => by rw [getD_map_v _ _ (by simpa using hi)]; exact .v _)

theorem Mid.yields (hm : Mid C B X w0 Z N ops p st listed a w mu) (ht : Trace C N ops p st) (hd : DrawOk ops p) {i : Nat} (hi : i < ops.size) (hip : i < p) (hr : i ∈ Region.ready .any ops listed) {j : Nat} {want : Bool} {x : Value}
    (hg : ops[i].guard = some (j, want)) (hs : gslot ops j (st i).slots = .v x) : yielded ops a.tmps j = some want ↔ x = .bool want := by
  unfold gslot at hs
  cases hdj : (ops[j]?).bind (·.dst) with
  | none => rw [hdj] at hs; cases hs
  | some t =>
    rw [hdj] at hs
    simp only at hs
    have := hm.sees ht hd hi hip hr (t := t) (by
      unfold Oper.looksAt
      refine List.mem_append_right _ ?_
      rw [hg]; simp [hdj])
    rw [hs] at this
    exact yielded_iff0 hdj this.v_inv

/-- One more has come up. -/
theorem Mid.next (hm : Mid C B X w0 Z N ops p st listed a w mu) (ht : Trace C N ops p st) (hd : DrawOk ops p) {i : Nat} (hi : i < ops.size) (hip : i < p) (hr : i ∈ Region.ready .any ops listed) {x : Value} {w' : World} {mu' : Mu}
    (hdst : dstOK N ops[i].dst) (hsim : SimH C B X w0 mu' (st p).H w') (hext : ∀ k ad, mu k = some ad → mu' k = some ad) (hevo : Evo (Sset X mu (st p).H) w w') (hkeep : ∀ b, Sset X mu (st p).H b → b < w.heap.size → Sset X mu' (st p).H b)
    (hmu : ∀ k, mu' k ≠ mu k → (st i).H.length ≤ k ∧ k < (st (i + 1)).H.length)
    (hx : ∀ t, ops[i].dst = some t → ARep mu' (Sset X mu' (st p).H) w' (look (st (i + 1)).slots t) x) :
    Mid C B X w0 Z N ops p st (listed.setIfInBounds i true) (a.put ops[i].dst x) w' mu' := by
  obtain ⟨hun, oi, hoi, hall⟩ := mem_ready.1 hr
  rw [Array.getElem?_eq_getElem hi] at hoi
  cases hoi
  have hpre := ht.chain hd.len
  have hset : ∀ j, (listed.setIfInBounds i true).getD j true = if j = i then true else listed.getD j true := by
    intro j
    by_cases e : j = i
    · subst e
      have hlt : j < listed.size := by rw [hm.lsize]; exact hi
      simp [Array.getD, hlt]
    · rw [if_neg e]; exact getD_set_ne true (Ne.symm e)
  have hput : ∀ t, ops[i].dst ≠ some t → (a.put ops[i].dst x).tmps.getD t undef = a.tmps.getD t undef := by
    intro t hne
    unfold Act.put
    split
    · rename_i d hdd
      simp only
      rw [getD_setIf _ _ _ _ (by rw [hm.size]; rw [hdd] at hdst; exact hdst), if_neg (fun q => hne (by rw [hdd, q]))]
    · rfl
  have hself : ∀ t, ops[i].dst = some t → (a.put ops[i].dst x).tmps.getD t undef = x := by
    intro t hdd
    rw [hdd] at hdst ⊢
    simp only [Act.put]
    rw [getD_setIf _ _ _ _ (by rw [hm.size]; exact hdst), if_pos rfl]
  refine ⟨hsim, ?_, ?_, ?_, ?_, ?_, ?_, ?_, by simpa using hm.lsize, ?_, hm.zok _ _ _ _ _ _ hm.past ⟨hsim, hext, hevo, hkeep⟩, hm.zok⟩
  · intro j hj hjp hjl k hk1 hk2
    rw [hset] at hjl
    have hne : j ≠ i := fun q => by rw [if_pos q] at hjl; cases hjl
    rw [if_neg hne] at hjl
    have h0 := hm.free j hj hjp hjl k hk1 hk2
    by_cases e : mu' k = mu k
    · rw [e]; exact h0
    · obtain ⟨q1, q2⟩ := hmu k e
      rcases Nat.lt_or_gt_of_ne hne with h | h
      · have := (hpre i (j + 1) (by omega) (by omega)).length_le; omega
      · have := (hpre j (i + 1) (by omega) (by omega)).length_le; omega
  · intro k hk
    by_cases e : mu' k = mu k
    · rw [e]; exact hm.top k hk
    · obtain ⟨q1, q2⟩ := hmu k e
      have := (hpre p (i + 1) (by omega) (Nat.le_refl _)).length_le; omega
  · intro j hj t hjp hjl hjd
    rw [hset] at hjl
    by_cases e : j = i
    · subst e; rw [hself t hjd]; exact hx t hjd
    · rw [if_neg e] at hjl
      have hne : ops[i].dst ≠ some t := fun q => (hd.apart i j hi hj hip hjp (Ne.symm e)).2.1 (by rw [q, hjd])
      rw [hput t hne]
      exact (hm.done j hj t hjp hjl hjd).mono hext hkeep hevo
  · intro t hno
    have hne : ops[i].dst ≠ some t := hno i hi hip (by rw [hset, if_pos rfl])
    rw [hput t hne]
    refine (hm.old t (fun j hj hjp hjl => hno j hj hjp ?_)).mono hext hkeep hevo
    rw [hset]; split
    · rfl
    · exact hjl
  · unfold Act.put; split
    · exact hm.defers
    · exact hm.defers
  · unfold Act.put; split
    · simpa using hm.size
    · exact hm.size
  · intro j hj hjl e he hb
    rw [hset] at hjl ⊢
    by_cases e1 : j = i
    · subst e1
      split
      · rfl
      · exact getD_true_false (hall e he hb)
    · rw [if_neg e1] at hjl
      split
      · rfl
      · exact hm.closed j hj hjl e he hb
  · intro j hj hpj
    rw [hset, if_neg (by omega)]; exact hm.above j hj hpj
end
end Go.Ab

set_option linter.unusedVariables false
set_option linter.unusedSimpArgs false
set_option linter.unusedSectionVars false
namespace Go.Ab
open Go.RowKit (Below)

section
variable {C : Ctx} {B : Nat} {X : Nat → Prop} {w0 : World} {Z : Mu → Heap → World → Prop} {N : Nat} {ops : Array Oper} {p : Nat} {st : Nat → AState} {listed : Array Bool} {a : Act} {w : World} {mu : Mu} {Q : Exit → Act → World → Prop}

theorem look_put_self (σ : AState) (av : AV) (H : Heap) (t : Nat) : look (σ.put (some t) av H).slots t = av := by
  simp only [AState.put, look_cons, if_true]
theorem put_H (σ : AState) (d : Option Nat) (av : AV) (H : Heap) : (σ.put d av H).H = H := by unfold AState.put; split <;> rfl

open Classical in
theorem Mid.opStep (hm : Mid C B X w0 Z N ops p st listed a w mu) (ht : Trace C N ops p st) (hd : DrawOk ops p) {i : Nat} (hi : i < ops.size) (hip : i < p) (hr : i ∈ Region.ready .any ops listed) :
    wpOp C.P ops Q i (fun a' w' => ∃ mu', Mid C B X w0 Z N ops p st (listed.setIfInBounds i true) a' w' mu') a w := by
  have hcs := ht.step i hi hip
  unfold wpOp
  simp only [Array.getElem?_eq_getElem hi]
  obtain ⟨hdst, hcs⟩ := hcs
  have hpre := ht.chain hd.len
  rcases hcs with ⟨av, H', hst, hruns, hop⟩ | ⟨⟨j, want, x0, hg, hgs, hb⟩, hst⟩
  · have hw : Region.wanted ops[i] (yielded ops a.tmps) = true := by
      rcases hruns with q | ⟨j, want, q1, q2⟩
      · simp [Region.wanted, q]
      · simp [Region.wanted, q1, (hm.yields ht hd hi hip hr q1 q2).mpr rfl]
    rw [if_pos hw]
    left
    have hnx : look (st (i + 1)).slots = look ((st i).put ops[i].dst av H').slots := by rw [hst]
    have hH : (st (i + 1)).H = H' := by rw [hst, put_H]
    have hHb : (st i).H <+: (st p).H := hpre p i (by omega) (Nat.le_refl _)
    have hHb' : (st (i + 1)).H <+: (st p).H := hpre p (i + 1) (by omega) (Nat.le_refl _)
    rcases hop with ⟨f, args, ts, ind, ho, hok, hHe⟩ | ⟨hns, hpr, hav, hHe⟩
    · have hgo : ∀ x ∈ args.toList, ARep mu (Sset X mu (st p).H) w (evalA C.G (st i).slots x) (a.eval x) := fun x hx =>
        hm.eval ht hd hi hip hr (by rw [ho]; simp [Op.operands, Call.operands]; exact .inr (by simpa using hx))
      obtain ⟨h1, h2⟩ := call_sat hHb hm.sim (ρ := a.eval) ho rfl hgo hok (K := fun x w' => ∃ mu', Mid C B X w0 Z N ops p st (listed.setIfInBounds i true) (a.put ops[i].dst x) w' mu') (fun x w' hb hrep => by
        refine ⟨mu, hm.next ht hd hi hip hr hdst (hm.sim.ext hb) (fun _ _ q => q) (.of_below hb) (fun _ q _ => q) (fun k q => absurd rfl q) (fun t hdt => ?_)⟩
        rw [hnx, hdt, look_put_self]; exact hrep)
      unfold Oper.wp
      rw [h1]
      exact h2.mono (fun e w' ⟨x, he, hx⟩ => by subst he; exact hx)
    · -- by the operands alone
      let g : Operand → AV := fun x => if x ∈ ops[i].op.operands.toList then evalA C.G (st i).slots x else .bad
      have hgc : opF C.P (evalA C.G (st i).slots) (st i).H ops[i].op = opF C.P g (st i).H ops[i].op := opF_congr _ _ _ (fun x hx => by simp only [g]; rw [if_pos hx])
      have hg : ∀ x, ARep mu (Sset X mu (st p).H) w (g x) (a.eval x) := by
        intro x
        simp only [g]
        by_cases hx : x ∈ ops[i].op.operands.toList
        · rw [if_pos hx]; exact hm.eval ht hd hi hip hr hx
        · rw [if_neg hx]; exact .bad _
      rw [hgc] at hpr hav hHe
      have hcalm := calm_sound (o := ops[i]) hg hm.sim hHb (fun _ => rfl) hns hpr
      unfold Oper.wp
      cases hcalm with
      | quiet x hrun hrep hHq =>
        rw [hrun]
        refine ⟨mu, hm.next ht hd hi hip hr hdst hm.sim (fun _ _ q => q) (.refl _ _) (fun _ q _ => q) (fun k q => absurd rfl q) (fun t hdt => ?_)⟩
        rw [hnx, hdt, look_put_self, hav]; exact hrep
      | new cs arr e x hrun hHn hl hc hx =>
        rw [hrun]
        obtain ⟨wr, hwr⟩ := opD_new true ops[i].op (st i).H cs
        have hHl : (st (i + 1)).H = (st i).H ++ [⟨cs, true, wr⟩] := by rw [hH, hHe, hHn, hwr]
        have hk : mu (st i).H.length = none := hm.free i hi hip (by obtain ⟨q, _⟩ := mem_ready.1 hr; exact q) _ (Nat.le_refl _) (by rw [hHl]; simp)
        have hobj : (st p).H[(st i).H.length]? = some ⟨cs, true, wr⟩ := by
          obtain ⟨tl, htl⟩ := hHb'
          rw [← htl, hHl]; simp
        obtain ⟨n1, n2⟩ := hm.sim.new (arr := arr) (e := e) hk hobj hl hc
        refine ⟨_, hm.next ht hd hi hip hr hdst n1 (Mu.put_ext hk) (.of_below (below_alloc _ _)) n2 (fun k q => ?_) (fun t hdt => ?_)⟩
        · unfold Mu.put at q
          by_cases e1 : k = (st i).H.length
          · rw [hHl, e1]; simp
          · rw [if_neg e1] at q; exact absurd rfl q
        · rw [hnx, hdt, look_put_self, hav]
          rcases hx with ⟨e1, e2⟩ | ⟨sz, n, e1, e2, e3⟩
          · rw [e1, e2]
            exact .ptr _ 0 ⟨w.heap.size, 0, none⟩ (by simp [Mu.put])
          · rw [e1, e2]
            exact .own sz _ 0 n ⟨w.heap.size, 0, none⟩ ⟨w.heap.size, 0, none⟩ n (by simp [Mu.put]) (Nat.le_refl _) rfl rfl (fun _ => rfl) ⟨arr, e, heap_alloc_new w _, fun _ => by simp only; omega⟩
  · have hw : ¬ (Region.wanted ops[i] (yielded ops a.tmps) = true) := by
      simpa [Region.wanted, hg] using fun q => hb ((hm.yields ht hd hi hip hr hg hgs).mp q)
    rw [if_neg hw]
    refine ⟨mu, hm.next ht hd hi hip hr hdst hm.sim (fun _ _ q => q) (.refl _ _) (fun _ q _ => q) (fun k q => absurd rfl q) (fun t hdt => ?_)⟩
    rw [hst, hdt, look_put_self]; exact .v _

theorem least_unlisted {n : Nat} (h : ∃ i, i < n ∧ listed.getD i true = false) : ∃ i, i < n ∧ listed.getD i true = false ∧ ∀ j, j < i → listed.getD j true = true := by
  obtain ⟨i, hi, hl⟩ := h
  induction i using Nat.strongRecOn with
  | _ i ih =>
    by_cases hex : ∃ j, j < i ∧ listed.getD j true = false
    · obtain ⟨j, hj, hjl⟩ := hex
      exact ih j hj (by omega) hjl
    · refine ⟨i, hi, hl, fun j hj => ?_⟩
      cases hjl : listed.getD j true with
      | true => rfl
      | false => exact absurd ⟨j, hj, hjl⟩ hex

theorem getD_false_of {j : Nat} (h : listed.getD j true = true) (hj : j < listed.size) : listed.getD j false = true := by
  simp [Array.getD, hj] at h ⊢; exact h

theorem ready_of_least (hd : DrawOk ops p) (hls : listed.size = ops.size) {i : Nat} (hi : i < ops.size) (hl : listed.getD i true = false) (hlow : ∀ j, j < i → listed.getD j true = true) : i ∈ Region.ready .any ops listed := by
  refine mem_ready.2 ⟨hl, ops[i], Array.getElem?_eq_getElem hi, fun e he hb => ?_⟩
  have hlt := hd.edges i hi e he hb
  exact getD_false_of (hlow _ hlt) (by rw [hls]; omega)

theorem global_rep {H : Heap} {slots : List (Nat × AV)} (hs : SimH C B X w0 mu H w) (gl : Nat) : ARep mu (Sset X mu H) w (evalA C.G slots (.global gl)) (a.eval (.global gl)) := by
  simp only [evalA]
  cases hG : C.G gl with
  | none => exact .bad _
  | some cs =>
    simp only
    obtain ⟨h1, h2⟩ := hs.glob gl cs hG
    have hS : Sset X mu H gl := by
      refine ⟨hs.hG gl (by rw [hG]; simp), fun k ad o hk ho hw heq => ?_⟩
      obtain ⟨_, _, q⟩ := hs.lo k ad o hk ho hw
      rw [heq, hG] at q; cases q
    exact ARep.dp (mu := mu) (S := Sset X mu H) (w := w) (cs.map .v) 0 ⟨gl, 0, none⟩ (fun i => cs.getD i undef)
      (fun i hi => ⟨hS, by simpa using h2 i (by simpa using hi)⟩) (fun i hi => by rw [getD_map_v _ _ (by simpa using hi)]; exact .v _)

theorem pure_opF {P : Program} {g : Operand → AV} {H H' : Heap} {op : Op} (h : isPure op = true) (hp : (opF P g H op).pre) : (opF P g H' op).pre ∧ (opF P g H' op).av = (opF P g H op).av ∧ (opF P g H' op).H = H' := by
  cases op with
  | move x => exact ⟨trivial, rfl, rfl⟩
  | assign x => exact ⟨trivial, rfl, rfl⟩
  | extract x ix =>
    simp only [opF] at hp ⊢
    cases hx : g x with
    | tup vs => simp only [hx] at hp ⊢; exact ⟨hp, trivial, trivial⟩
    | _ => simp only [hx] at hp; exact hp.elim
  | _ => cases h

theorem lzOk_spec {oj o : Oper} (h : lzOk ops oj o = true) : isPure oj.op = true ∧ oj.guard = none ∧ (∃ t, oj.dst = some t ∧ t ∉ o.looksAt ops ∧ o.dst ≠ some t) ∧ ∀ t, o.dst = some t → t ∉ oj.looksAt ops := by
  unfold lzOk at h
  simp only [Bool.and_eq_true] at h
  obtain ⟨⟨⟨h1, h2⟩, h3⟩, h4⟩ := h
  refine ⟨h1, by simpa using h2, ?_, fun t ht => ?_⟩
  · cases hd : oj.dst with
    | none => rw [hd] at h3; cases h3
    | some t =>
      rw [hd] at h3
      simp only [Bool.and_eq_true, Bool.not_eq_true', List.contains_eq_mem, decide_eq_false_iff_not, bne_iff_ne] at h3
      exact ⟨t, rfl, h3.1, h3.2⟩
  · rw [ht] at h4
    simpa using h4

/-- Behind the first that writes: only what looks at slots alone may still be out. -/
structure Tl (C : Ctx) (B : Nat) (X : Nat → Prop) (w0 : World) (Z : Mu → Heap → World → Prop) (N : Nat) (ops : Array Oper) (p : Nat) (st : Nat → AState) (i : Nat) (listed : Array Bool) (σ : AState) (a : Act) (w : World) (mu : Mu) : Prop where
  sim : SimH C B X w0 mu σ.H w
  fresh : ∀ k, σ.H.length ≤ k → mu k = none
  slots : ∀ t, (∀ j (h : j < ops.size), j < p → listed.getD j true = false → ops[j].dst ≠ some t) → ARep mu (Sset X mu σ.H) w (look σ.slots t) (a.tmps.getD t undef)
  pend : ∀ j (h : j < ops.size), j < p → listed.getD j true = false → isLazy ops p j = true ∧ isPure ops[j].op = true ∧ ops[j].guard = none ∧
    (∀ t ∈ ops[j].looksAt ops, ARep mu (Sset X mu σ.H) w (look (st j).slots t) (a.tmps.getD t undef)) ∧ ∃ t, ops[j].dst = some t ∧ look σ.slots t = look (st (j + 1)).slots t
  defers : a.defers = []
  size : a.tmps.size = N
  lsize : listed.size = ops.size
  closed : ∀ i (h : i < ops.size), listed.getD i true = true → ∀ e ∈ ops[i].after, Region.binds .any e = true → listed.getD e.on true = true
  ip : p ≤ i
  isz : i ≤ ops.size
  yes : ∀ j, p ≤ j → j < i → listed.getD j true = true
  no : ∀ j, j < ops.size → i ≤ j → listed.getD j true = false
  past : Z mu σ.H w
  zok : ∀ mu H w mu' H' w', Z mu H w → After C B X w0 mu H w mu' H' w' → Z mu' H' w'

theorem put_other {a : Act} {d : Option Nat} {x : Value} {t : Nat} (h : d ≠ some t) : (a.put d x).tmps.getD t undef = a.tmps.getD t undef := by
  unfold Act.put
  split
  · rename_i d
    simp only
    have e : d ≠ t := fun q => h (by rw [q])
    rw [Array.getD_eq_getD_getElem?, Array.getD_eq_getD_getElem?, Array.getElem?_setIfInBounds_ne e]
  · rfl
theorem put_self {a : Act} {t : Nat} {x : Value} (h : t < a.tmps.size) : (a.put (some t) x).tmps.getD t undef = x := by
  simp only [Act.put]
  rw [Array.getD_eq_getD_getElem?, Array.getElem?_setIfInBounds_self, if_pos h]; rfl
theorem listed_set {i : Nat} (hi : i < listed.size) (j : Nat) : (listed.setIfInBounds i true).getD j true = if j = i then true else listed.getD j true := by
  by_cases e : j = i
  · subst e; simp [Array.getD, hi]
  · rw [if_neg e]; exact getD_set_ne true (Ne.symm e)
theorem put_defers {a : Act} {d : Option Nat} {x : Value} (h : a.defers = []) : (a.put d x).defers = [] := by
  unfold Act.put; split <;> exact h
theorem put_size {a : Act} {d : Option Nat} {x : Value} (h : a.tmps.size = N) : (a.put d x).tmps.size = N := by
  unfold Act.put
  split
  · simpa using h
  · exact h
theorem clo_listed (hcl : ∀ i (h : i < ops.size), listed.getD i true = true → ∀ e ∈ ops[i].after, Region.binds .any e = true → listed.getD e.on true = true) :
    ∀ (k : Nat) (s : List Nat), (∀ x ∈ s, listed.getD x true = true) → ∀ x ∈ cloOf ops k s, listed.getD x true = true := by
  intro k
  induction k with
  | zero => intro s hs x hx; exact hs x hx
  | succ k ih =>
    intro s hs x hx
    simp only [cloOf] at hx
    refine ih _ (fun y hy => ?_) x hx
    by_cases hk : s.contains k = true
    · rw [if_pos hk] at hy
      rcases List.mem_append.mp hy with q | q
      · exact hs y q
      · unfold aftersOf at q
        split at q
        · rename_i o ho
          simp only [List.mem_map, List.mem_filter] at q
          obtain ⟨e, ⟨he, hb⟩, rfl⟩ := q
          obtain ⟨hks, rfl⟩ := Array.getElem?_eq_some_iff.mp ho
          exact hcl k hks (hs k (by simpa using hk)) e (by simpa using he) hb
        · cases q
    · rw [if_neg hk] at hy; exact hs y hy
theorem ready_after {r j : Nat} (hrs : r < ops.size) (hcl : ∀ i (h : i < ops.size), listed.getD i true = true → ∀ e ∈ ops[i].after, Region.binds .any e = true → listed.getD e.on true = true) (hr : r ∈ Region.ready .any ops listed) (h : afterT ops r j = true) : listed.getD j true = true := by
  obtain ⟨hun, oi, hoi, hall⟩ := mem_ready.1 hr
  rw [Array.getElem?_eq_getElem hrs] at hoi
  cases hoi
  unfold afterT at h
  refine clo_listed hcl r _ (fun x hx => ?_) j (by simpa using h)
  unfold aftersOf at hx
  rw [Array.getElem?_eq_getElem hrs] at hx
  simp only [List.mem_map, List.mem_filter] at hx
  obtain ⟨e, ⟨he, hb⟩, rfl⟩ := hx
  exact getD_true_false (hall e (by simpa using he) hb)
theorem closed_set {r : Nat} (hls : listed.size = ops.size) (hrs : r < ops.size) (hr : r ∈ Region.ready .any ops listed) (hcl : ∀ i (h : i < ops.size), listed.getD i true = true → ∀ e ∈ ops[i].after, Region.binds .any e = true → listed.getD e.on true = true) :
    ∀ i (h : i < ops.size), (listed.setIfInBounds r true).getD i true = true → ∀ e ∈ ops[i].after, Region.binds .any e = true → (listed.setIfInBounds r true).getD e.on true = true := by
  intro i hi hl e he hb
  have hset := listed_set (listed := listed) (i := r) (by rw [hls]; exact hrs)
  rw [hset] at hl ⊢
  split
  · rfl
  · by_cases q : i = r
    · subst q
      obtain ⟨_, oi, hoi, hall⟩ := mem_ready.1 hr
      rw [Array.getElem?_eq_getElem hrs] at hoi
      cases hoi
      exact getD_true_false (hall e he hb)
    · rw [if_neg q] at hl
      exact hcl i hi hl e he hb

section
variable {i : Nat} {σ : AState}
open Classical in
/-- One that was out comes up. -/
theorem Tl.pure (h : Tl C B X w0 Z N ops p st i listed σ a w mu) (ht : Trace C N ops p st) (hd : DrawOk ops p) {j : Nat} (hj : j < ops.size) (hjp : j < p) (hr : j ∈ Region.ready .any ops listed) (hun : listed.getD j true = false) :
    wpOp C.P ops Q j (fun a' w' => Tl C B X w0 Z N ops p st i (listed.setIfInBounds j true) σ a' w' mu) a w := by
  obtain ⟨hlz, hpu, hgn, hlk, t, hdt, hlt⟩ := h.pend j hj hjp hun
  have hset := listed_set (listed := listed) (i := j) (by rw [h.lsize]; exact hj)
  unfold wpOp
  simp only [Array.getElem?_eq_getElem hj]
  rw [if_pos (by simp [Region.wanted, hgn])]
  left
  obtain ⟨hdst, hcs⟩ := ht.step j hj hjp
  have hcs2 : (opF C.P (evalA C.G (st j).slots) (st j).H ops[j].op).pre ∧ look (st (j + 1)).slots t = (opF C.P (evalA C.G (st j).slots) (st j).H ops[j].op).av := by
    rcases hcs with ⟨av, H', hst, _, hop⟩ | ⟨⟨j0, want, x0, hg, _⟩, _⟩
    · rcases hop with ⟨f, args, ts, ind, ho, _⟩ | ⟨_, hp, hav, _⟩
      · rw [ho] at hpu; cases hpu
      · rw [hst, hdt, look_put_self, hav]; exact ⟨hp, rfl⟩
    · rw [hgn] at hg; cases hg
  obtain ⟨hp, hav⟩ := hcs2
  let g : Operand → AV := fun x => if x ∈ ops[j].op.operands.toList then evalA C.G (st j).slots x else .bad
  have hgc : opF C.P (evalA C.G (st j).slots) (st j).H ops[j].op = opF C.P g (st j).H ops[j].op := opF_congr _ _ _ (fun x hx => by simp only [g]; rw [if_pos hx])
  have hg : ∀ x, ARep mu (Sset X mu σ.H) w (g x) (a.eval x) := by
    intro x
    simp only [g]
    by_cases hx : x ∈ ops[j].op.operands.toList
    · rw [if_pos hx]
      cases x with
      | tmp s =>
        refine hlk s ?_
        unfold Oper.looksAt
        refine List.mem_append_left _ ?_
        rw [List.mem_filterMap]
        exact ⟨.tmp s, hx, rfl⟩
      | const v => exact .v v
      | func f => exact .v _
      | global gl => exact global_rep h.sim gl
    · rw [if_neg hx]; exact .bad _
  rw [hgc] at hp hav
  obtain ⟨p1, p2, p3⟩ := pure_opF (H' := σ.H) hpu hp
  have hcalm := calm_sound (o := ops[j]) hg h.sim (List.prefix_refl _) (fun _ => rfl) (fun s b x q => by rw [q] at hpu; cases hpu) p1
  have hres : ∃ x, (execOp a.eval ops[j]).run C.P w = .ok (.value x) w ∧ ARep mu (Sset X mu σ.H) w (look σ.slots t) x := by
    cases hcalm with
    | quiet x hr ha hH => exact ⟨x, hr, by rw [hlt, hav, ← p2]; exact ha⟩
    | new cs arr e x hr hH hl hc hx =>
      rw [p3] at hH
      have := congrArg List.length hH
      simp at this
  obtain ⟨x, hrun, hrep⟩ := hres
  unfold Oper.wp
  rw [hrun]
  refine ⟨h.sim, h.fresh, fun s hs => ?_, fun q hq hqp hql => ?_, put_defers h.defers, put_size h.size, by simpa using h.lsize, closed_set h.lsize hj hr h.closed, h.ip, h.isz, fun q hq1 hq2 => ?_, fun q hq1 hq2 => ?_, h.past, h.zok⟩
  · by_cases e : s = t
    · subst e
      rw [hdt, put_self (by rw [h.size]; rw [hdt] at hdst; exact hdst)]
      exact hrep
    · rw [put_other (by rw [hdt]; simpa using Ne.symm e)]
      refine h.slots s (fun q hq hqp hql hqd => ?_)
      by_cases e2 : q = j
      · subst e2; rw [hdt] at hqd; exact e (Option.some.inj hqd).symm
      · exact hs q hq hqp (by rw [hset, if_neg e2]; exact hql) hqd
  · rw [hset] at hql
    have hne : q ≠ j := fun e => by rw [if_pos e] at hql; cases hql
    rw [if_neg hne] at hql
    obtain ⟨q1, q2, q3, q4, q5⟩ := h.pend q hq hqp hql
    refine ⟨q1, q2, q3, fun s hs => ?_, q5⟩
    rw [put_other (fun e => hd.lazy q j hq hj hqp hjp q1 hlz s e hs)]
    exact q4 s hs
  · rw [hset]; split
    · rfl
    · exact h.yes q hq1 hq2
  · have hne : q ≠ j := by have := h.ip; omega
    rw [hset, if_neg hne]; exact h.no q hq1 hq2

open Classical in
/-- The next one of those that write. -/
theorem Tl.next {K : AState → Prop} (h : Tl C B X w0 Z N ops p st i listed σ a w mu) (hd : DrawOk ops p) (hi : i < ops.size) (hr : i ∈ Region.ready .any ops listed) (hrest : opsW C N true ops (ops.toList.drop i) K σ) :
    wpOp C.P ops Q i (fun a' w' => ∃ mu' σ', Tl C B X w0 Z N ops p st (i + 1) (listed.setIfInBounds i true) σ' a' w' mu' ∧ opsW C N true ops (ops.toList.drop (i + 1)) K σ') a w := by
  have hset := listed_set (listed := listed) (i := i) (by rw [h.lsize]; exact hi)
  have hpi := h.ip
  have hout : ∀ j (hj : j < ops.size), j < p → listed.getD j true = false → lzOk ops ops[j] ops[i] = true := fun j hj hjp hun => by
    rcases hd.last i hi h.ip j hj (by omega) with q | q
    · rw [ready_after hi h.closed hr q] at hun; cases hun
    · exact q.2
  have hlook : ∀ t ∈ ops[i].looksAt ops, ARep mu (Sset X mu σ.H) w (look σ.slots t) (a.tmps.getD t undef) := fun t hl =>
    h.slots t (fun j hj hjp hun hdj => by
      obtain ⟨_, _, ⟨t', e1, e2, _⟩, _⟩ := lzOk_spec (hout j hj hjp hun)
      rw [hdj] at e1
      cases e1
      exact e2 hl)
  have hdrop : ops.toList.drop i = ops[i] :: ops.toList.drop (i + 1) := by
    rw [List.drop_eq_getElem_cons (by simpa using hi)]; simp
  rw [hdrop] at hrest
  obtain ⟨hdd, hw⟩ := hrest
  have go : ∀ (x : Value) (av : AV) (H' : Heap) (mu' : Mu) (w' : World), opsW C N true ops (ops.toList.drop (i + 1)) K (σ.put ops[i].dst av H') → After C B X w0 mu σ.H w mu' H' w' → ARep mu' (Sset X mu' H') w' av x → (∀ k, H'.length ≤ k → mu' k = none) →
      ∃ mu' σ', Tl C B X w0 Z N ops p st (i + 1) (listed.setIfInBounds i true) σ' (a.put ops[i].dst x) w' mu' ∧ opsW C N true ops (ops.toList.drop (i + 1)) K σ' := by
    intro x av H' mu' w' hk haf hrep hn
    have hs1 : ∀ s, ops[i].dst ≠ some s → look (σ.put ops[i].dst av H').slots s = look σ.slots s := fun s hne => by
      unfold AState.put
      split
      · rename_i d hdq; rw [look_cons, if_neg (fun q => hne (by rw [hdq, q]))]
      · rfl
    refine ⟨mu', _, ⟨?_, ?_, fun s hs => ?_, fun q hq hqp hql => ?_, put_defers h.defers, put_size h.size, by simpa using h.lsize, closed_set h.lsize hi hr h.closed, by omega, by omega, fun q hq1 hq2 => ?_, fun q hq1 hq2 => ?_, ?_, h.zok⟩, hk⟩
    · rw [put_H]; exact haf.sim
    · rw [put_H]; exact hn
    · rw [put_H]
      by_cases e : ops[i].dst = some s
      · rw [e, look_put_self, put_self (by rw [h.size]; rw [e] at hdd; exact hdd)]
        exact hrep
      · rw [hs1 s e, put_other e]
        refine (h.slots s (fun q hq hqp hql => hs q hq hqp ?_)).mono haf.ext haf.keep haf.evo
        rw [hset, if_neg (by omega)]; exact hql
    · rw [hset, if_neg (by omega)] at hql
      obtain ⟨q1, q2, q3, q4, t, q5, q6⟩ := h.pend q hq hqp hql
      obtain ⟨_, _, ⟨t', e1, _, e3⟩, e4⟩ := lzOk_spec (hout q hq hqp hql)
      rw [q5] at e1
      cases e1
      refine ⟨q1, q2, q3, fun s hs => ?_, t, q5, by rw [hs1 t e3]; exact q6⟩
      rw [put_H, put_other (fun e => e4 s e hs)]
      exact (q4 s hs).mono haf.ext haf.keep haf.evo
    · rw [hset]; split
      · rfl
      · exact h.yes q hq1 (by omega)
    · rw [hset, if_neg (by omega)]; exact h.no q hq1 (by omega)
    · rw [put_H]; exact h.zok _ _ _ _ _ _ h.past haf
  unfold wpOp
  simp only [Array.getElem?_eq_getElem hi]
  have exec : opW C true (evalA C.G σ.slots) σ.H ops[i] (fun a H => opsW C N true ops (ops.toList.drop (i + 1)) K (σ.put ops[i].dst a H)) → ops[i].wp C.P a w (fun a' w' => ∃ mu' σ', Tl C B X w0 Z N ops p st (i + 1) (listed.setIfInBounds i true) σ' a' w' mu' ∧ opsW C N true ops (ops.toList.drop (i + 1)) K σ') Q := fun hw => by
    let g : Operand → AV := fun x => if x ∈ ops[i].op.operands.toList then evalA C.G σ.slots x else .bad
    have hg : ∀ x, ARep mu (Sset X mu σ.H) w (g x) (a.eval x) := by
      intro x
      simp only [g]
      by_cases hx : x ∈ ops[i].op.operands.toList
      · rw [if_pos hx]
        cases x with
        | tmp s =>
          refine hlook s ?_
          unfold Oper.looksAt
          refine List.mem_append_left _ ?_
          rw [List.mem_filterMap]
          exact ⟨.tmp s, hx, rfl⟩
        | const v => exact .v v
        | func f => exact .v _
        | global gl => exact global_rep h.sim gl
      · rw [if_neg hx]; exact .bad _
    exact opW_wp hg h.sim h.fresh (opW_congr (fun x hx => by simp only [g]; rw [if_pos hx]) hw) (fun x w' mu' av H' hk haf hr hn => go x av H' mu' w' hk haf hr hn)
  cases hgd : ops[i].guard with
  | none =>
    rw [hgd] at hw
    rw [if_pos (by simp [Region.wanted, hgd])]
    exact .inl (exec hw)
  | some q =>
    obtain ⟨j, want⟩ := q
    rw [hgd] at hw
    simp only at hw
    generalize hgs : gslot ops j σ.slots = ga at hw
    match ga, hw with
    | .v x, hw =>
      have hy : yielded ops a.tmps j = some want ↔ x = .bool want := by
        unfold gslot at hgs
        cases hdj : (ops[j]?).bind (·.dst) with
        | none => rw [hdj] at hgs; cases hgs
        | some t =>
          rw [hdj] at hgs
          simp only at hgs
          have := hlook t (by
            unfold Oper.looksAt
            refine List.mem_append_right _ ?_
            rw [hgd]; simp [hdj])
          rw [hgs] at this
          exact yielded_iff0 hdj this.v_inv
      by_cases hb : x = .bool want
      · rw [if_pos (by simp [Region.wanted, hgd, hy.mpr hb])]
        exact .inl (exec (hw.1 hb))
      · rw [if_neg (by simpa [Region.wanted, hgd] using fun q => hb (hy.mp q))]
        exact go undef (.v undef) σ.H mu w (hw.2 hb) (.refl h.sim) (.v _) h.fresh

theorem tl_wp {K : AState → Prop} (ht : Trace C N ops p st) (hd : DrawOk ops p) (hK : ∀ σ mu a w, K σ → St C B X w0 Z N mu σ a w → Q .normal a w) :
    ∀ (fuel i : Nat) (listed : Array Bool) (σ : AState) (mu : Mu) (a : Act) (w : World), cnt listed ops.size ≤ fuel → Tl C B X w0 Z N ops p st i listed σ a w mu → opsW C N true ops (ops.toList.drop i) K σ → wpAny C.P .any ops Q fuel listed a w := by
  have fin : ∀ (i : Nat) (listed : Array Bool) (σ : AState) (mu : Mu) (a : Act) (w : World), Tl C B X w0 Z N ops p st i listed σ a w mu → opsW C N true ops (ops.toList.drop i) K σ → (∀ j, j < ops.size → listed.getD j true = true) → Q .normal a w := by
    intro i listed σ mu a w h hrest hall
    have hie : i = ops.size := by
      rcases Nat.lt_or_ge i ops.size with q | q
      · have := h.no i q (Nat.le_refl _)
        rw [hall i q] at this; cases this
      · have := h.isz; omega
    subst hie
    rw [show ops.toList.drop ops.size = [] by simp] at hrest
    exact hK σ mu a w hrest ⟨h.sim, h.fresh, fun t => h.slots t (fun j hj _ hun => by rw [hall j hj] at hun; cases hun), h.defers, h.size, h.past, h.zok⟩
  have some_ready : ∀ (listed : Array Bool), listed.size = ops.size → (∃ j, j < ops.size ∧ listed.getD j true = false) → Region.ready .any ops listed ≠ [] := by
    intro listed hls hex hr
    obtain ⟨j, hj, hl, hlow⟩ := least_unlisted hex
    have := ready_of_least hd hls hj hl hlow
    rw [hr] at this; cases this
  have done : ∀ (listed : Array Bool), listed.size = ops.size → Region.ready .any ops listed = [] → ∀ j, j < ops.size → listed.getD j true = true := by
    intro listed hls hr j hj
    cases hl : listed.getD j true with
    | true => rfl
    | false => exact absurd hr (some_ready listed hls ⟨j, hj, hl⟩)
  intro fuel
  induction fuel with
  | zero =>
    intro i listed σ mu a w hc h hrest
    have hall : ∀ j, j < ops.size → listed.getD j true = true := fun j hj => by
      cases hl : listed.getD j true with
      | true => rfl
      | false => have := cnt_set hj hl; omega
    refine ⟨?_, fin i listed σ mu a w h hrest hall⟩
    cases hr : Region.ready .any ops listed with
    | nil => rfl
    | cons r rs =>
      obtain ⟨hun, o, ho, _⟩ := mem_ready.1 (show r ∈ Region.ready .any ops listed by rw [hr]; simp)
      rw [hall r (Array.getElem?_eq_some_iff.mp ho).1] at hun; cases hun
  | succ fuel ih =>
    intro i listed σ mu a w hc h hrest
    refine ⟨fun hr => fin i listed σ mu a w h hrest (done listed h.lsize hr), fun r hr => ?_⟩
    obtain ⟨hun, o, ho, _⟩ := mem_ready.1 hr
    have hrs := (Array.getElem?_eq_some_iff.mp ho).1
    have hcs := cnt_set (n := ops.size) hrs hun
    by_cases hrp : r < p
    · exact wpOp_mono (fun a' w' h' => ih i _ σ mu a' w' (by omega) h' hrest) (h.pure ht hd hrs hrp hr hun)
    · have hri : r = i := by
        have hge : i ≤ r := by
          rcases Nat.lt_or_ge r i with q | q
          · rw [h.yes r (by omega) q] at hun; cases hun
          · exact q
        by_cases e : r = i
        · exact e
        · exfalso
          have his : i < ops.size := by omega
          rcases hd.last r hrs (by omega) i his (by omega) with q | q
          · have := ready_after hrs h.closed hr q
            rw [h.no i his (Nat.le_refl _)] at this; cases this
          · have := h.ip; omega
      subst hri
      exact wpOp_mono (fun a' w' ⟨mu', σ', h', hr'⟩ => ih (r + 1) _ σ' mu' a' w' (by omega) h' hr') (h.next hd hrs hr hrest)
end

theorem lazy_spec (hd : DrawOk ops p) {j : Nat} (hj : j < ops.size) (hjp : j < p) (h : isLazy ops p j = true) : isPure ops[j].op = true ∧ ops[j].guard = none ∧ ∃ t, ops[j].dst = some t := by
  unfold isLazy at h
  rw [List.any_eq_true] at h
  obtain ⟨i, hi, hn⟩ := h
  simp only [List.mem_range, Bool.and_eq_true, decide_eq_true_eq, Bool.not_eq_true'] at hi hn
  rcases hd.last i hi hn.1 j hj (by omega) with q | q
  · rw [q] at hn; cases hn.2
  · obtain ⟨h1, h2, ⟨t, h3, _⟩, _⟩ := lzOk_spec q.2
    exact ⟨h1, h2, t, h3⟩

/-- All but what may come later has come up. -/
theorem Mid.toTl (hm : Mid C B X w0 Z N ops p st listed a w mu) (ht : Trace C N ops p st) (hd : DrawOk ops p) (hall : ∀ j, j < p → listed.getD j true = false → isLazy ops p j = true) : Tl C B X w0 Z N ops p st p listed (st p) a w mu := by
  have hlen := hd.len
  refine ⟨hm.sim, hm.top, fun t ht2 => ?_, fun j hj hjp hun => ?_, hm.defers, hm.size, hm.lsize, hm.closed, Nat.le_refl _, hlen, fun j q1 q2 => by omega, fun j q1 q2 => hm.above j q1 q2, hm.past, hm.zok⟩
  · by_cases hex : ∃ i, ∃ hi : i < ops.size, i < p ∧ ops[i].dst = some t
    · obtain ⟨i, hi, hip, hdi⟩ := hex
      have hli : listed.getD i true = true := by
        cases hl : listed.getD i true with
        | true => rfl
        | false => exact absurd hdi (ht2 i hi hip hl)
      rw [ht.look1 hd hi hip hdi p hip (Nat.le_refl _)]
      exact hm.done i hi t hip hli hdi
    · have hno : ∀ i (hi : i < ops.size), i < p → ops[i].dst ≠ some t := fun i hi hip q => hex ⟨i, hi, hip, q⟩
      rw [ht.look0 hlen p (Nat.le_refl _) hno]
      exact hm.old t (fun i hi hip _ => hno i hi hip)
  · have hlz := hall j hjp hun
    obtain ⟨h1, h2, t, h3⟩ := lazy_spec hd hj hjp hlz
    refine ⟨hlz, h1, h2, fun s hs => ?_, t, h3, ht.look1 hd hj hjp h3 p hjp (Nat.le_refl _)⟩
    have h0 := hm.sees0 ht hd hj hjp hun hs (fun q hq hqp hqd haf => by
      cases hl : listed.getD q true with
      | true => rfl
      | false => exact absurd hs (hd.lazy j q hj hq hjp hqp hlz (hall q hqp hl) s hqd))
    exact h0

theorem mid_wp {K : AState → Prop} (ht : Trace C N ops p st) (hd : DrawOk ops p) (hK : ∀ σ mu a w, K σ → St C B X w0 Z N mu σ a w → Q .normal a w) (hrest : opsW C N true ops (ops.toList.drop p) K (st p)) :
    ∀ (fuel : Nat) (listed : Array Bool) (mu : Mu) (a : Act) (w : World), cnt listed ops.size ≤ fuel → Mid C B X w0 Z N ops p st listed a w mu → wpAny C.P .any ops Q fuel listed a w := by
  intro fuel
  induction fuel with
  | zero =>
    intro listed mu a w hc hm
    refine tl_wp ht hd hK 0 p listed (st p) mu a w hc (hm.toTl ht hd (fun i hi hl => ?_)) hrest
    have := cnt_set (n := ops.size) (by have := hd.len; omega) hl
    omega
  | succ fuel ih =>
    intro listed mu a w hc hm
    by_cases hex : ∃ i, i < p ∧ listed.getD i true = false ∧ isLazy ops p i = false
    · have hlen := hd.len
      obtain ⟨i, hi, hl, hnl⟩ := hex
      refine ⟨fun hr => ?_, fun r hr => ?_⟩
      · obtain ⟨j, hj, hjl, hlow⟩ := least_unlisted (listed := listed) (n := ops.size) ⟨i, by omega, hl⟩
        have := ready_of_least hd hm.lsize hj hjl hlow
        rw [hr] at this; cases this
      · obtain ⟨hun, o, ho, hall⟩ := mem_ready.1 hr
        have hrs := (Array.getElem?_eq_some_iff.mp ho).1
        have hrp : r < p := by
          rcases Nat.lt_or_ge r p with q | q
          · exact q
          · exfalso
            have hpr : r = p := by
              by_cases e : r = p
              · exact e
              · exfalso
                rcases hd.last r hrs (by omega) p (by omega) (by omega) with q2 | q2
                · have := ready_after hrs hm.closed hr q2
                  rw [hm.above p (by omega) (Nat.le_refl _)] at this; cases this
                · omega
            have hnot : afterT ops r i = false := by
              cases ha : afterT ops r i with
              | false => rfl
              | true =>
                have := ready_after hrs hm.closed hr ha
                rw [hl] at this; cases this
            have : isLazy ops p i = true := by
              unfold isLazy
              rw [List.any_eq_true]
              exact ⟨r, by simpa using hrs, by simp [hnot]; omega⟩
            rw [hnl] at this; cases this
        exact wpOp_mono (fun a' w' ⟨mu', hm'⟩ => ih _ mu' a' w' (by have := cnt_set (n := ops.size) hrs hun; omega) hm') (hm.opStep ht hd hrs hrp hr)
    · refine tl_wp ht hd hK (fuel + 1) p listed (st p) mu a w hc (hm.toTl ht hd (fun i hi hl => ?_)) hrest
      cases hlz : isLazy ops p i with
      | true => rfl
      | false => exact absurd ⟨i, hi, hl, hlz⟩ hex

/-- A region that draws its order. -/
theorem draw_wp {id : Nat} {K : AState → Prop} {σ : AState} (hmix : C.P.follows .mixedOrders = true) (hdo : drawOk ops = true) (hK : ∀ σ mu a w, K σ → St C B X w0 Z N mu σ a w → Q .normal a w)
    (h : opsW C N true ops ops.toList K σ) (hst : St C B X w0 Z N mu σ a w) : (Code.region id ops true).wp C.P Q a w := by
  have hd := drawOk_spec hdo
  refine wp_region_any hmix ?_
  rw [← List.take_append_drop (calmLen ops.toList) ops.toList] at h
  have h2 := opsW_append _ _ _ h
  obtain ⟨st, s1, s2, s3⟩ := trace_of _ σ (fun o ho => by
    obtain ⟨i, hi, rfl⟩ := List.mem_iff_getElem.mp ho
    simp only [List.length_take] at hi
    have := hd.calm i (by have := hd.len; simp at hi; omega) (by omega)
    simpa using this) h2
  have hlen : (ops.toList.take (calmLen ops.toList)).length = calmLen ops.toList := by have := hd.len; simp; omega
  rw [hlen] at s3
  have ht : Trace C N ops (calmLen ops.toList) st := ⟨fun i hi hip => by
    have := s2 i (by rw [hlen]; exact hip)
    simpa using this⟩
  have hpre := ht.chain hd.len
  have hgf : ∀ i, i < ops.size → (Array.replicate ops.size false).getD i true = false := fun i hi => by simp [Array.getD, hi]
  subst s1
  have hdr : Below w.heap.size w { w with drawn := w.drawn + 1 } := below_of_heap rfl rfl rfl rfl
  -- the objects of the whole region, none of the new ones laid yet
  have grow : ∀ (H2 : Heap) (hpr : (st 0).H <+: H2), SimH C B X w0 mu H2 { w with drawn := w.drawn + 1 } ∧ (∀ b, Sset X mu (st 0).H b → Sset X mu H2 b) := by
    rintro H2 ⟨tl, rfl⟩
    have hs := hst.sim.ext hdr
    have hfr := hst.fresh
    have key : ∀ k ad o', mu k = some ad → (((st 0).H ++ tl)[k]? = some o' ↔ (st 0).H[k]? = some o') := by
      intro k ad o' hm
      have hk : k < (st 0).H.length := by
        rcases Nat.lt_or_ge k (st 0).H.length with q | q
        · exact q
        · rw [hfr k q] at hm; cases hm
      rw [List.getElem?_append_left hk]
    have s1 : ∀ b, Sset X mu (st 0).H b → Sset X mu ((st 0).H ++ tl) b := fun b q => ⟨q.1, fun k ad o' hm ho hw => q.2 k ad o' hm ((key k ad o' hm).mp ho) hw⟩
    exact ⟨⟨hs.hB, hs.below, hs.glob, fun k ad o' hm ho hr => (hs.obj k ad o' hm ((key k ad o' hm).mp ho) hr).evo (fun _ _ q => q) (fun b q _ => s1 b q) (.refl _ _) rfl,
      fun k ad o' hm ho hw => hs.lo k ad o' hm ((key k ad o' hm).mp ho) hw, hs.hX, hs.hG,
      fun k ad o' hm ho hr => hs.lob k ad o' hm ((key k ad o' hm).mp ho) hr,
      fun k k' ad ad' o1 o2 hm hm' h1 h2 => hs.inj k k' ad ad' o1 o2 hm hm' ((key k ad o1 hm).mp h1) ((key k' ad' o2 hm').mp h2)⟩, s1⟩
  obtain ⟨g1, g2⟩ := grow _ (hpre _ 0 (Nat.zero_le _) (Nat.le_refl _))
  refine mid_wp ht hd hK s3 ops.size _ mu a _ ?_ ⟨g1, ?_, ?_, ?_, ?_, hst.defers, hst.size, ?_, by simp, fun i hi _ => hgf i hi, hst.zok _ _ _ _ _ _ hst.past ⟨g1, fun _ _ q => q, .of_below hdr, fun b q _ => g2 b q⟩, hst.zok⟩
  · unfold cnt
    exact Nat.le_trans List.countP_le_length (by simp)
  · intro i hi hip _ k hk1 _
    have := (hpre i 0 (Nat.zero_le _) (by omega)).length_le
    exact hst.fresh k (by omega)
  · intro k hk
    have := (hpre _ 0 (Nat.zero_le _) (Nat.le_refl _)).length_le
    exact hst.fresh k (by omega)
  · intro i hi t _ hl
    rw [hgf i hi] at hl; cases hl
  · intro t _
    exact (hst.slots t).mono (fun _ _ q => q) (fun b q _ => g2 b q) (.of_below hdr)
  · intro i hi hl
    rw [hgf i hi] at hl; cases hl

end
end Go.Ab

set_option linter.unusedVariables false
set_option linter.unusedSimpArgs false
set_option linter.unusedSectionVars false
namespace Go.Ab
open Go.RowKit (Below)

theorem fix_opF {P : Program} {g : Operand → AV} {op : Op} (h : fixOp op = true) (H : Heap) : opF P g H op = ⟨(opF P g [] op).pre, (opF P g [] op).av, H⟩ := by
  cases op with
  | move x => rfl
  | assign x => rfl
  | pick c a b => simp only [opF]; split <;> rfl
  | nilCheck x => simp only [opF]; split <;> rfl
  | unOp op t x => simp only [opF]; split <;> rfl
  | convert s t x => simp only [opF]; repeat' (first | rfl | split)
  | fieldAddr s x f => simp only [opF]; repeat' (first | rfl | split)
  | indexAddr t x ix => simp only [opF]; repeat' (first | rfl | split)
  | field s x f => simp only [opF, loadF]; repeat' (first | rfl | split)
  | extract x ix => simp only [opF]; split <;> rfl
  | binOp op t x y t' => simp only [opF, binF]; repeat' (first | rfl | split)
  | call c =>
    obtain ⟨cal, args, ts⟩ := c
    cases cal with
    | builtin b => cases b <;> first | (simp only [opF]; done) | (simp only [opF]; repeat' (first | rfl | split)) | cases h
    | _ => cases h
  | _ => cases h

/-- What 'eOk' says. -/
structure EOk (ops : Array Oper) : Prop where
  edges : ∀ i (h : i < ops.size), ∀ e ∈ ops[i].after, Region.binds .any e = true → e.on < i
  apart : ∀ i j (hi : i < ops.size) (hj : j < ops.size) t, ops[j].dst = some t → (i = j ∨ ops[i].dst ≠ some t) ∧ (t ∈ ops[i].looksAt ops → afterOn ops[i] j = true)

theorem eOk_noc {ops : Array Oper} (h : eOk ops = true) : ∀ i (hi : i < ops.size), noCallE ops[i].op = true := by
  unfold eOk at h
  have h0 := fun i (hi : i < ops.size) => all_zipIdx h i (by simpa using hi)
  simp only [Array.getElem_toList, Bool.and_eq_true] at h0
  exact fun i hi => (h0 i hi).1.1
theorem eOk_spec {ops : Array Oper} (h : eOk ops = true) : EOk ops := by
  unfold eOk at h
  have h0 := fun i (hi : i < ops.size) => all_zipIdx h i (by simpa using hi)
  simp only [Array.getElem_toList, Bool.and_eq_true] at h0
  refine ⟨fun i hi e he hb => ?_, fun i j hi hj t ht => ?_⟩
  · have := (Array.all_eq_true_iff_forall_mem.mp (h0 i hi).1.2) e he
    simpa [hb] using this
  · have := all_zipIdx (h0 i hi).2 j (by simpa using hj)
    simp only [Array.getElem_toList, ht, Bool.and_eq_true, Bool.or_eq_true, beq_iff_eq, bne_iff_ne, Bool.not_eq_true', List.contains_eq_mem, decide_eq_false_iff_not] at this
    refine ⟨this.1, fun hl => ?_⟩
    rcases this.2 with q | q
    · exact absurd hl q
    · exact q

theorem tOk_spec {ops : Array Oper} (h : tOk ops = true) : EOk ops := by
  unfold tOk at h
  have h0 := fun i (hi : i < ops.size) => all_zipIdx h i (by simpa using hi)
  simp only [Array.getElem_toList, Bool.and_eq_true] at h0
  refine ⟨fun i hi e he hb => ?_, fun i j hi hj t ht => ?_⟩
  · have := (Array.all_eq_true_iff_forall_mem.mp (h0 i hi).1) e he
    simpa [hb] using this
  · have := all_zipIdx (h0 i hi).2 j (by simpa using hj)
    simp only [Array.getElem_toList, ht, Bool.and_eq_true, Bool.or_eq_true, beq_iff_eq, bne_iff_ne, Bool.not_eq_true', List.contains_eq_mem, decide_eq_false_iff_not] at this
    refine ⟨this.1, fun hl => ?_⟩
    rcases this.2 with q | q
    · exact absurd hl q
    · exact q

theorem fix_opW {C : Ctx} {d : Bool} {g : Operand → AV} {H : Heap} {o : Oper} {K : AV → Heap → Prop} (hf : fixOp o.op = true) (h : opW C d g H o K) : (opF C.P g [] o.op).pre ∧ K (opF C.P g [] o.op).av H := by
  have e := fix_opF (P := C.P) (g := g) hf H
  unfold opW at h
  split at h
  · rename_i f args ts ho; rw [ho] at hf; cases hf
  · rename_i args ts ho; rw [ho] at hf; cases hf
  · rename_i t x t' ho; rw [ho] at hf; cases hf
  · rw [e] at h
    have hb : isBS o.op = false := by cases hop : o.op <;> first | rfl | (rw [hop] at hf; cases hf)
    rw [opD_not hb] at h
    exact h
theorem opW_allE {C : Ctx} {d : Bool} {g : Operand → AV} {H : Heap} {o : Oper} {α : Type} {L : List α} {K : α → AV → Heap → Prop} (hn : noCallE o.op = true) (hL : L ≠ []) (h : ∀ l ∈ L, opW C d g H o (K l)) : opW C d g H o (fun a H' => ∀ l ∈ L, K l a H') := by
  obtain ⟨l0, hl0⟩ := List.exists_mem_of_ne_nil L hL
  unfold opW at h ⊢
  split
  · rename_i f args ts ho
    rw [ho] at hn; cases hn
  · rename_i args ts ho
    simp only [ho] at h
    split
    · rename_i s x t t' e1 e2
      simp only [e1, e2] at h
      exact ⟨(h l0 hl0).1, fun l hl => (h l hl).2⟩
    · rename_i hne
      have := h l0 hl0
      split at this
      · rename_i s x t t' e1 e2; exact absurd e2 (hne s x t t' e1)
      · exact this
  · rename_i t x t' ho
    rw [ho] at hn; cases hn
  · rename_i h1 h2 h3
    have e : ∀ l ∈ L, (opF C.P g H o.op).pre ∧ K l (opF C.P g H o.op).av (opD d o.op H (opF C.P g H o.op).H) := fun l hl => by
      have := h l hl
      split at this
      · rename_i f args ts ho; exact absurd ho (h1 f args ts)
      · rename_i args ts ho; exact absurd ho (h2 args ts)
      · rename_i t x t' ho; exact absurd ho (h3 t x t')
      · exact this
    exact ⟨(e l0 hl0).1, fun l hl => (e l hl).2⟩

section
variable {C : Ctx} {B : Nat} {X : Nat → Prop} {w0 : World} {Z : Mu → Heap → World → Prop} {N : Nat} {ops : Array Oper} {A L : Array Bool} {σ : AState} {a : Act} {w : World} {mu : Mu} {Q : Exit → Act → World → Prop}

/-- A: what the abstract state is behind of; L: what has come up. -/
structure Eg (C : Ctx) (B : Nat) (X : Nat → Prop) (w0 : World) (Z : Mu → Heap → World → Prop) (N : Nat) (ops : Array Oper) (A L : Array Bool) (σ : AState) (a : Act) (w : World) (mu : Mu) : Prop where
  sim : SimH C B X w0 mu σ.H w
  fresh : ∀ k, σ.H.length ≤ k → mu k = none
  asz : A.size = ops.size
  lsz : L.size = ops.size
  sub : ∀ j, L.getD j true = true → A.getD j true = true
  acl : ∀ i (h : i < ops.size), A.getD i true = true → ∀ e ∈ ops[i].after, Region.binds .any e = true → A.getD e.on true = true
  pend : ∀ j (h : j < ops.size), A.getD j true = true → L.getD j true = false → eagOp ops[j] = true ∧ dstOK N ops[j].dst ∧ (opF C.P (evalA C.G σ.slots) [] ops[j].op).pre ∧
    ∀ t, ops[j].dst = some t → look σ.slots t = (opF C.P (evalA C.G σ.slots) [] ops[j].op).av
  slots : ∀ t, (∀ j (h : j < ops.size), A.getD j true = true → L.getD j true = false → ops[j].dst ≠ some t) → ARep mu (Sset X mu σ.H) w (look σ.slots t) (a.tmps.getD t undef)
  defers : a.defers = []
  size : a.tmps.size = N
  past : Z mu σ.H w
  zok : ∀ mu H w mu' H' w', Z mu H w → After C B X w0 mu H w mu' H' w' → Z mu' H' w'

theorem looks_tmp {o : Oper} {t : Nat} (h : .tmp t ∈ o.op.operands.toList) : t ∈ o.looksAt ops := by
  unfold Oper.looksAt
  refine List.mem_append_left _ ?_
  rw [List.mem_filterMap]
  exact ⟨.tmp t, h, rfl⟩
theorem ready_on {r j : Nat} (hr : r ∈ Region.ready .any ops L) (hrs : r < ops.size) (h : afterOn ops[r] j = true) : L.getD j true = true := by
  obtain ⟨hun, oi, hoi, hall⟩ := mem_ready.1 hr
  rw [Array.getElem?_eq_getElem hrs] at hoi
  cases hoi
  obtain ⟨e, he, hb, rfl⟩ := afterOn_spec h
  exact getD_true_false (hall e he hb)
/-- What one that is ready looks at is told. -/
theorem Eg.see (h : Eg C B X w0 Z N ops A L σ a w mu) (ho : EOk ops) {r : Nat} (hrs : r < ops.size) (hr : r ∈ Region.ready .any ops L) {t : Nat} (ht : t ∈ ops[r].looksAt ops) : ARep mu (Sset X mu σ.H) w (look σ.slots t) (a.tmps.getD t undef) := by
  refine h.slots t (fun j hj hA hL hd => ?_)
  have := ready_on hr hrs ((ho.apart r j hrs hj t hd).2 ht)
  rw [hL] at this; cases this
theorem Eg.eval (h : Eg C B X w0 Z N ops A L σ a w mu) (ho : EOk ops) {r : Nat} (hrs : r < ops.size) (hr : r ∈ Region.ready .any ops L) {x : Operand} (hx : x ∈ ops[r].op.operands.toList) : ARep mu (Sset X mu σ.H) w (evalA C.G σ.slots x) (a.eval x) := by
  cases x with
  | tmp t => exact h.see ho hrs hr (looks_tmp hx)
  | const v => exact .v v
  | func f => exact .v _
  | global gl => exact global_rep h.sim gl
open Classical in
/-- One that the abstract state has behind it comes up. -/
theorem Eg.catch (h : Eg C B X w0 Z N ops A L σ a w mu) (ho : EOk ops) {r : Nat} (hrs : r < ops.size) (hr : r ∈ Region.ready .any ops L) (hA : A.getD r true = true) (hun : L.getD r true = false) :
    wpOp C.P ops Q r (fun a' w' => Eg C B X w0 Z N ops A (L.setIfInBounds r true) σ a' w' mu) a w := by
  obtain ⟨heag, hdst, hp, hav⟩ := h.pend r hrs hA hun
  unfold eagOp at heag
  simp only [Bool.and_eq_true, Option.isNone_iff_eq_none, Option.isSome_iff_exists] at heag
  obtain ⟨⟨hfix, hgn⟩, t, hdt⟩ := heag
  have hset := listed_set (listed := L) (i := r) (by rw [h.lsz]; exact hrs)
  unfold wpOp
  simp only [Array.getElem?_eq_getElem hrs]
  rw [if_pos (by simp [Region.wanted, hgn])]
  left
  let g : Operand → AV := fun x => if x ∈ ops[r].op.operands.toList then evalA C.G σ.slots x else .bad
  have hgc : opF C.P (evalA C.G σ.slots) [] ops[r].op = opF C.P g [] ops[r].op := opF_congr _ _ _ (fun x hx => by simp only [g]; rw [if_pos hx])
  have hg : ∀ x, ARep mu (Sset X mu σ.H) w (g x) (a.eval x) := by
    intro x
    simp only [g]
    by_cases hx : x ∈ ops[r].op.operands.toList
    · rw [if_pos hx]; exact h.eval ho hrs hr hx
    · rw [if_neg hx]; exact .bad _
  have hav := hav t hdt
  rw [hgc] at hp hav
  have p3 := fix_opF (P := C.P) (g := g) hfix σ.H
  have hcalm := calm_sound (o := ops[r]) hg h.sim (List.prefix_refl _) (fun _ => rfl) (fun s b x q => by rw [q] at hfix; cases hfix) (by rw [p3]; exact hp)
  rw [p3] at hcalm
  have hres : ∃ x, (execOp a.eval ops[r]).run C.P w = .ok (.value x) w ∧ ARep mu (Sset X mu σ.H) w (look σ.slots t) x := by
    cases hcalm with
    | quiet x hr ha hH => exact ⟨x, hr, by rw [hav]; exact ha⟩
    | new cs arr e x hr hH hl hc hx =>
      have := congrArg List.length hH
      simp at this
  obtain ⟨x, hrun, hrep⟩ := hres
  unfold Oper.wp
  rw [hrun]
  refine ⟨h.sim, h.fresh, h.asz, by simpa using h.lsz, fun j hj => ?_, h.acl, fun j hj hjA hjL => ?_, fun s hs => ?_, put_defers h.defers, put_size h.size, h.past, h.zok⟩
  · rw [hset] at hj
    by_cases e : j = r
    · rw [e]; exact hA
    · rw [if_neg e] at hj; exact h.sub j hj
  · rw [hset] at hjL
    by_cases e : j = r
    · rw [if_pos e] at hjL; cases hjL
    · rw [if_neg e] at hjL; exact h.pend j hj hjA hjL
  · by_cases e : s = t
    · subst e
      rw [hdt, put_self (by rw [h.size]; rw [hdt] at hdst; exact hdst)]
      exact hrep
    · rw [put_other (fun q => e (by rw [hdt] at q; cases q; rfl))]
      refine h.slots s (fun j hj hjA hjL hjd => ?_)
      by_cases e2 : j = r
      · subst e2; rw [hdt] at hjd; cases hjd; exact e rfl
      · exact hs j hj hjA (by rw [hset, if_neg e2]; exact hjL) hjd

theorem evalA_put {av : AV} {H : Heap} {d : Option Nat} {x : Operand} (h : ∀ t, x = .tmp t → d ≠ some t) : evalA C.G (σ.put d av H).slots x = evalA C.G σ.slots x := by
  cases x with
  | tmp t =>
    show look (σ.put d av H).slots t = look σ.slots t
    unfold AState.put
    split
    · rename_i d'
      rw [look_cons, if_neg (fun q => h t rfl (by rw [q]))]
    · rfl
  | _ => rfl
theorem look_put_ne {av : AV} {H : Heap} {d : Option Nat} {t : Nat} (h : d ≠ some t) : look (σ.put d av H).slots t = look σ.slots t := by
  unfold AState.put
  split
  · rename_i d'
    rw [look_cons, if_neg (fun q => h (by rw [q]))]
  · rfl

/-- the abstract state alone goes ahead -/
theorem Eg.ahead (h : Eg C B X w0 Z N ops A L σ a w mu) (ho : EOk ops) {r : Nat} (hrs : r < ops.size) (hr : r ∈ Region.ready .any ops A) (heag : eagOp ops[r] = true) (hdst : dstOK N ops[r].dst)
    (hp : (opF C.P (evalA C.G σ.slots) [] ops[r].op).pre) : Eg C B X w0 Z N ops (A.setIfInBounds r true) L (σ.put ops[r].dst (opF C.P (evalA C.G σ.slots) [] ops[r].op).av σ.H) a w mu := by
  have hset := listed_set (listed := A) (i := r) (by rw [h.asz]; exact hrs)
  obtain ⟨hun, _⟩ := mem_ready.1 hr
  have hnot : ∀ j (hj : j < ops.size), A.getD j true = true → ∀ x ∈ ops[j].op.operands.toList, evalA C.G (σ.put ops[r].dst (opF C.P (evalA C.G σ.slots) [] ops[r].op).av σ.H).slots x = evalA C.G σ.slots x := by
    intro j hj hjA x hx
    refine evalA_put (fun t hxt hd => ?_)
    subst hxt
    obtain ⟨e, he, hb, e2⟩ := afterOn_spec ((ho.apart j r hj hrs t hd).2 (looks_tmp hx))
    have := h.acl j hj hjA e he hb
    rw [e2, hun] at this; cases this
  have hself : ∀ x ∈ ops[r].op.operands.toList, evalA C.G (σ.put ops[r].dst (opF C.P (evalA C.G σ.slots) [] ops[r].op).av σ.H).slots x = evalA C.G σ.slots x := by
    intro x hx
    refine evalA_put (fun t hxt hd => ?_)
    subst hxt
    obtain ⟨e, he, hb, e2⟩ := afterOn_spec ((ho.apart r r hrs hrs t hd).2 (looks_tmp hx))
    have := ho.edges r hrs e he hb
    omega
  refine ⟨by rw [put_H]; exact h.sim, by rw [put_H]; exact h.fresh, by simpa using h.asz, h.lsz, fun j hj => ?_, closed_set h.asz hrs hr h.acl, fun j hj hjA hjL => ?_, fun t ht => ?_, h.defers, h.size, by rw [put_H]; exact h.past, h.zok⟩
  · rw [hset]; split
    · rfl
    · exact h.sub j hj
  · rw [hset] at hjA
    by_cases e : j = r
    · subst e
      refine ⟨heag, hdst, by rw [opF_congr _ _ _ hself]; exact hp, fun t ht => ?_⟩
      rw [opF_congr _ _ _ hself, ht, look_put_self]
    · rw [if_neg e] at hjA
      obtain ⟨q1, q2, q3, q4⟩ := h.pend j hj hjA hjL
      refine ⟨q1, q2, by rw [opF_congr _ _ _ (hnot j hj hjA)]; exact q3, fun t ht => ?_⟩
      rw [opF_congr _ _ _ (hnot j hj hjA), look_put_ne (fun q => ?_)]
      · exact q4 t ht
      · rcases (ho.apart r j hrs hj t ht).1 with e2 | e2
        · exact e e2.symm
        · exact e2 q
  · rw [put_H]
    have hne : ops[r].dst ≠ some t := ht r hrs (by rw [hset, if_pos rfl]) (by
      cases hl : L.getD r true with
      | false => rfl
      | true => have := h.sub r hl; rw [hun] at this; cases this)
    rw [look_put_ne hne]
    refine h.slots t (fun j hj hjA hjL => ht j hj ?_ hjL)
    rw [hset]; split
    · rfl
    · exact hjA

theorem linsE_ne : ∀ (n : Nat) (listed : Array Bool), linsE ops n listed ≠ [] := by
  intro n
  induction n with
  | zero => intro listed h; cases h
  | succ n ih =>
    intro listed h
    unfold linsE at h
    split at h
    · cases h
    · rename_i rs hne
      split at h
      · rw [List.map_eq_nil_iff] at h; exact ih _ h
      · cases hr : Region.ready .any ops listed with
        | nil => exact hne hr
        | cons r rs =>
          rw [hr] at h
          simp only [List.flatMap_cons, List.append_eq_nil_iff, List.map_eq_nil_iff] at h
          exact ih _ h.1

theorem ready_mono (h : Eg C B X w0 Z N ops A L σ a w mu) {r : Nat} (hr : r ∈ Region.ready .any ops L) (hA : A.getD r true = false) : r ∈ Region.ready .any ops A := by
  obtain ⟨hun, o, ho, hall⟩ := mem_ready.1 hr
  refine mem_ready.2 ⟨hA, o, ho, fun e he hb => ?_⟩
  have := h.sub e.on (getD_true_false (hall e he hb))
  have hlt : e.on < A.size := by
    rcases Nat.lt_or_ge e.on L.size with q | q
    · rw [h.asz, ← h.lsz]; exact q
    · have := hall e he hb
      simp [Array.getD, Nat.not_lt.mpr q] at this
  exact getD_false_of this hlt

/-- A region without calls: in the orders of 'linsE'. -/
theorem linsE_wp {K : AState → Prop} (ho : EOk ops) (hnoc : ∀ i (h : i < ops.size), noCallE ops[i].op = true) (hK : ∀ σ mu a w, K σ → St C B X w0 Z N mu σ a w → Q .normal a w) :
    ∀ (fuel : Nat) (L : Array Bool) (more : Nat) (n : Nat) (A : Array Bool) (σ : AState) (mu : Mu) (a : Act) (w : World), cnt L ops.size ≤ fuel → cnt A ops.size ≤ more → cnt A ops.size ≤ n → (∀ l ∈ linsE ops n A, opsW C N true ops (l.map fun i => ops.getD i default) K σ) → Eg C B X w0 Z N ops A L σ a w mu → wpAny C.P .any ops Q fuel L a w := by
  intro fuel
  have fin : ∀ (L : Array Bool) (n : Nat) (A : Array Bool) (σ : AState) (mu : Mu) (a : Act) (w : World), (∀ l ∈ linsE ops n A, opsW C N true ops (l.map fun i => ops.getD i default) K σ) → Eg C B X w0 Z N ops A L σ a w mu → Region.ready .any ops L = [] → Q .normal a w := by
    intro L n A σ mu a w h hE hr
    have hall : ∀ j, j < ops.size → L.getD j true = true := by
      intro j hj
      cases hl : L.getD j true with
      | true => rfl
      | false =>
        exfalso
        obtain ⟨i, hi, hil, hlow⟩ := least_unlisted (listed := L) (n := ops.size) ⟨j, hj, hl⟩
        have : i ∈ Region.ready .any ops L := mem_ready.2 ⟨hil, ops[i], Array.getElem?_eq_getElem hi, fun e he hb => by
          have hlt := ho.edges i hi e he hb
          exact getD_false_of (hlow _ hlt) (by rw [hE.lsz]; omega)⟩
        rw [hr] at this; cases this
    have hA0 : Region.ready .any ops A = [] := by
      cases hr2 : Region.ready .any ops A with
      | nil => rfl
      | cons r rs =>
        obtain ⟨hun, o, ho2, _⟩ := mem_ready.1 (show r ∈ Region.ready .any ops A by rw [hr2]; simp)
        have := hE.sub r (hall r (Array.getElem?_eq_some_iff.mp ho2).1)
        rw [hun] at this; cases this
    have hk := h [] (by cases n with
      | zero => simp [linsE]
      | succ n => unfold linsE; rw [hA0]; simp)
    exact hK σ mu a w hk ⟨hE.sim, hE.fresh, fun t => hE.slots t (fun j hj _ hl => by rw [hall j hj] at hl; cases hl), hE.defers, hE.size, hE.past, hE.zok⟩
  induction fuel with
  | zero =>
    intro L more n A σ mu a w hc _ _ h hE
    have hr0 : Region.ready .any ops L = [] := by
      cases hr : Region.ready .any ops L with
      | nil => rfl
      | cons r rs =>
        obtain ⟨hun, o, ho2, _⟩ := mem_ready.1 (show r ∈ Region.ready .any ops L by rw [hr]; simp)
        have := cnt_set (n := ops.size) (Array.getElem?_eq_some_iff.mp ho2).1 hun
        omega
    exact ⟨hr0, fin L n A σ mu a w h hE hr0⟩
  | succ fuel ih =>
    intro L more n A σ mu a w hc hm hn h hE
    refine ⟨fun hr => fin L n A σ mu a w h hE hr, fun r hr => ?_⟩
    obtain ⟨hun, o, ho2, _⟩ := mem_ready.1 hr
    have hrs := (Array.getElem?_eq_some_iff.mp ho2).1
    have hcs := cnt_set (n := ops.size) hrs hun
    induction more generalizing n A σ with
    | zero =>
      have hA : A.getD r true = true := by
        cases hl : A.getD r true with
        | true => rfl
        | false => have := cnt_set (n := ops.size) hrs hl; omega
      exact wpOp_mono (fun a' w' h' => ih _ 0 n A σ mu a' w' (by omega) hm hn h h') (hE.catch ho hrs hr hA hun)
    | succ more ihm =>
      cases hA : A.getD r true with
      | true => exact wpOp_mono (fun a' w' h' => ih _ _ n A σ mu a' w' (by omega) hm hn h h') (hE.catch ho hrs hr hA hun)
      | false =>
        have hrA := ready_mono hE hr hA
        have hca := cnt_set (n := ops.size) hrs hA
        obtain ⟨n, rfl⟩ : ∃ n', n = n' + 1 := ⟨n - 1, by omega⟩
        unfold linsE at h
        split at h
        · rename_i hnil; rw [hnil] at hrA; cases hrA
        · rename_i rs hne
          split at h
          · -- the abstract state goes ahead
            rename_i r0 hf
            have hr0 : r0 ∈ Region.ready .any ops A := List.mem_of_find?_eq_some hf
            have he0 := List.find?_some hf
            obtain ⟨hun0, o0, ho0, _⟩ := mem_ready.1 hr0
            have hrs0 := (Array.getElem?_eq_some_iff.mp ho0).1
            have hca0 := cnt_set (n := ops.size) hrs0 hun0
            unfold eag at he0
            rw [Array.getElem?_eq_getElem hrs0] at he0
            simp only at he0
            have he1 := he0
            unfold eagOp at he1
            simp only [Bool.and_eq_true, Option.isNone_iff_eq_none] at he1
            have hmem : ∀ l ∈ linsE ops n (A.setIfInBounds r0 true), opsW C N true ops (ops[r0] :: l.map fun i => ops.getD i default) K σ := fun l hl => by
              have := h (r0 :: l) (List.mem_map_of_mem hl)
              simpa [Array.getD, hrs0] using this
            obtain ⟨l0, hl0⟩ := List.exists_mem_of_ne_nil _ (linsE_ne (ops := ops) n (A.setIfInBounds r0 true))
            have step : ∀ l ∈ linsE ops n (A.setIfInBounds r0 true), dstOK N ops[r0].dst ∧ (opF C.P (evalA C.G σ.slots) [] ops[r0].op).pre ∧ opsW C N true ops (l.map fun i => ops.getD i default) K (σ.put ops[r0].dst (opF C.P (evalA C.G σ.slots) [] ops[r0].op).av σ.H) := fun l hl => by
              obtain ⟨q1, q2⟩ := hmem l hl
              rw [he1.1.2] at q2
              obtain ⟨q3, q4⟩ := fix_opW he1.1.1 q2
              exact ⟨q1, q3, q4⟩
            obtain ⟨s1, s2, _⟩ := step l0 hl0
            exact ihm n (A.setIfInBounds r0 true) _ (by omega) (by omega) (fun l hl => (step l hl).2.2) (hE.ahead ho hrs0 hr0 he0 s1 s2)
          · -- both
            rename_i hf
            have hmem : ∀ l ∈ linsE ops n (A.setIfInBounds r true), opsW C N true ops (ops[r] :: l.map fun i => ops.getD i default) K σ := fun l hl => by
              have := h (r :: l) (by
                rw [List.mem_flatMap]
                exact ⟨r, hrA, List.mem_map_of_mem hl⟩)
              simpa [Array.getD, hrs] using this
            have hne := linsE_ne (ops := ops) n (A.setIfInBounds r true)
            obtain ⟨l0, hl0⟩ := List.exists_mem_of_ne_nil _ hne
            have hdd : dstOK N ops[r].dst := (hmem l0 hl0).1
            have hnr : noCallE ops[r].op = true := hnoc r hrs
            have hsA := listed_set (listed := A) (i := r) (by rw [hE.asz]; exact hrs)
            have hsL := listed_set (listed := L) (i := r) (by rw [hE.lsz]; exact hrs)
            have hnot : ∀ (av : AV) (H : Heap) j (hj : j < ops.size), A.getD j true = true → ∀ x ∈ ops[j].op.operands.toList, evalA C.G (σ.put ops[r].dst av H).slots x = evalA C.G σ.slots x := by
              intro av H j hj hjA x hx
              refine evalA_put (fun t hxt hd => ?_)
              subst hxt
              obtain ⟨e, he, hb, e2⟩ := afterOn_spec ((ho.apart j r hj hrs t hd).2 (looks_tmp hx))
              have := hE.acl j hj hjA e he hb
              rw [e2, hA] at this; cases this
            -- both have it behind them
            have both : ∀ (x : Value) (w' : World) (mu' : Mu) (av : AV) (H' : Heap), After C B X w0 mu σ.H w mu' H' w' → ARep mu' (Sset X mu' H') w' av x → (∀ k, H'.length ≤ k → mu' k = none) →
                Eg C B X w0 Z N ops (A.setIfInBounds r true) (L.setIfInBounds r true) (σ.put ops[r].dst av H') (a.put ops[r].dst x) w' mu' := by
              intro x w' mu' av H' haf hrep hfr
              refine ⟨by rw [put_H]; exact haf.sim, by rw [put_H]; exact hfr, by simpa using hE.asz, by simpa using hE.lsz, fun j hj => ?_, closed_set hE.asz hrs hrA hE.acl, fun j hj hjA hjL => ?_, fun t ht => ?_, put_defers hE.defers, put_size hE.size, by rw [put_H]; exact hE.zok _ _ _ _ _ _ hE.past haf, hE.zok⟩
              · rw [hsL] at hj; rw [hsA]
                by_cases e : j = r
                · rw [if_pos e]
                · rw [if_neg e] at hj ⊢; exact hE.sub j hj
              · rw [hsA] at hjA; rw [hsL] at hjL
                by_cases e : j = r
                · rw [if_pos e] at hjL; cases hjL
                · rw [if_neg e] at hjA hjL
                  obtain ⟨q1, q2, q3, q4⟩ := hE.pend j hj hjA hjL
                  refine ⟨q1, q2, by rw [opF_congr _ _ _ (hnot av H' j hj hjA)]; exact q3, fun t ht => ?_⟩
                  rw [opF_congr _ _ _ (hnot av H' j hj hjA), look_put_ne (fun q => ?_)]
                  · exact q4 t ht
                  · rcases (ho.apart r j hrs hj t ht).1 with e2 | e2
                    · exact e e2.symm
                    · exact e2 q
              · rw [put_H]
                by_cases e : ops[r].dst = some t
                · rw [e, look_put_self, put_self (by rw [hE.size]; rw [e] at hdd; exact hdd)]
                  exact hrep
                · rw [look_put_ne e, put_other e]
                  refine (hE.slots t (fun j hj hjA hjL => ht j hj ?_ ?_)).mono haf.ext haf.keep haf.evo
                  · rw [hsA]; split
                    · rfl
                    · exact hjA
                  · rw [hsL, if_neg (fun q => by subst q; rw [hA] at hjA; cases hjA)]; exact hjL
            have go : ∀ σ' mu' a' w', (∀ l ∈ linsE ops n (A.setIfInBounds r true), opsW C N true ops (l.map fun i => ops.getD i default) K σ') → Eg C B X w0 Z N ops (A.setIfInBounds r true) (L.setIfInBounds r true) σ' a' w' mu' → wpAny C.P .any ops Q fuel (L.setIfInBounds r true) a' w' := fun σ' mu' a' w' hk hE' =>
              ih _ (cnt (A.setIfInBounds r true) ops.size) n _ σ' mu' a' w' (by omega) (Nat.le_refl _) (by omega) hk hE'
            have exec : opW C true (evalA C.G σ.slots) σ.H ops[r] (fun a H => ∀ l ∈ linsE ops n (A.setIfInBounds r true), opsW C N true ops (l.map fun i => ops.getD i default) K (σ.put ops[r].dst a H)) → ops[r].wp C.P a w (wpAny C.P .any ops Q fuel (L.setIfInBounds r true)) Q := fun h => by
              have h' : opW C true (open Classical in fun x => if x ∈ ops[r].op.operands.toList then evalA C.G σ.slots x else .bad) σ.H ops[r] (fun a H => ∀ l ∈ linsE ops n (A.setIfInBounds r true), opsW C N true ops (l.map fun i => ops.getD i default) K (σ.put ops[r].dst a H)) :=
                opW_congr (fun x hx => (if_pos hx).symm) h
              refine opW_wp (fun x => ?_) hE.sim hE.fresh h' (fun x w' mu' av H' hk haf hrep hfr => go _ mu' _ w' hk (both x w' mu' av H' haf hrep hfr))
              split
              · rename_i hx; exact hE.eval ho hrs hr hx
              · exact .bad _
            unfold wpOp
            simp only [Array.getElem?_eq_getElem hrs]
            cases hgd : ops[r].guard with
            | none =>
              rw [if_pos (by simp [Region.wanted, hgd])]
              refine .inl (exec (opW_allE hnr hne fun l hl => ?_))
              have := (hmem l hl).2
              rw [hgd] at this
              exact this
            | some q =>
              obtain ⟨j, want⟩ := q
              have hg : ∀ l ∈ linsE ops n (A.setIfInBounds r true), ∃ x, gslot ops j σ.slots = .v x ∧ (x = .bool want → opW C true (evalA C.G σ.slots) σ.H ops[r] (fun a H => opsW C N true ops (l.map fun i => ops.getD i default) K (σ.put ops[r].dst a H))) ∧ (x ≠ .bool want → opsW C N true ops (l.map fun i => ops.getD i default) K (σ.put ops[r].dst (.v undef) σ.H)) := fun l hl => by
                have := (hmem l hl).2
                rw [hgd] at this
                simp only at this
                generalize gslot ops j σ.slots = ga at this
                match ga, this with
                | .v x, this => exact ⟨x, rfl, this⟩
              obtain ⟨x, hgs, _⟩ := hg l0 hl0
              have hy : yielded ops a.tmps j = some want ↔ x = .bool want := by
                unfold gslot at hgs
                cases hdj : (ops[j]?).bind (·.dst) with
                | none => rw [hdj] at hgs; cases hgs
                | some t =>
                  rw [hdj] at hgs
                  simp only at hgs
                  have := hE.see ho hrs hr (t := t) (by
                    unfold Oper.looksAt
                    refine List.mem_append_right _ ?_
                    rw [hgd]; simp [hdj])
                  rw [hgs] at this
                  exact yielded_iff0 hdj this.v_inv
              by_cases hb : x = .bool want
              · rw [if_pos (by simp [Region.wanted, hgd, hy.mpr hb])]
                refine .inl (exec (opW_allE hnr hne fun l hl => ?_))
                obtain ⟨x', e1, e2, _⟩ := hg l hl
                rw [hgs] at e1
                cases e1
                exact e2 hb
              · rw [if_neg (by simpa [Region.wanted, hgd] using fun q => hb (hy.mp q))]
                refine go _ mu _ w (fun l hl => ?_) (both _ w mu (.v undef) σ.H (.refl hE.sim) (.v _) hE.fresh)
                obtain ⟨x', e1, _, e2⟩ := hg l hl
                rw [hgs] at e1
                cases e1
                exact e2 hb

theorem linsE_region {id : Nat} {K : AState → Prop} {σ : AState} (hmix : C.P.follows .mixedOrders = true) (heo : eOk ops = true) (hK : ∀ σ mu a w, K σ → St C B X w0 Z N mu σ a w → Q .normal a w)
    (h : ∀ l ∈ linsEA ops, opsW C N true ops (l.map fun i => ops.getD i default) K σ) (hst : St C B X w0 Z N mu σ a w) : (Code.region id ops true).wp C.P Q a w := by
  refine wp_region_any hmix ?_
  have hdr : Below w.heap.size w { w with drawn := w.drawn + 1 } := below_of_heap rfl rfl rfl rfl
  have hs := hst.sim.ext hdr
  have hgf : ∀ i, i < ops.size → (Array.replicate ops.size false).getD i true = false := fun i hi => by simp [Array.getD, hi]
  have hc : cnt (Array.replicate ops.size false) ops.size ≤ ops.size := by unfold cnt; exact Nat.le_trans List.countP_le_length (by simp)
  refine linsE_wp (eOk_spec heo) (eOk_noc heo) hK ops.size _ ops.size ops.size (Array.replicate ops.size false) σ mu a _ hc hc hc h
    ⟨hs, hst.fresh, by simp, by simp, fun j hj => hj, fun i hi hl => (by rw [hgf i hi] at hl; cases hl), fun j hj hjA => (by rw [hgf j hj] at hjA; cases hjA), fun t _ => (hst.slots t).mono (fun _ _ q => q) (fun b q _ => q) (.of_below hdr), hst.defers, hst.size, hst.zok _ _ _ _ _ _ hst.past ⟨hs, fun _ _ q => q, .of_below hdr, fun b q _ => q⟩, hst.zok⟩

theorem runT_alt {ops : Array Oper} {K : AState → Prop} {f : Nat → OT} {σ : AState} : ∀ {rs : List Nat} {b : Bool}, (rs ≠ [] ∨ b = true) → runT C N ops K (rs.foldr (fun r t => .cons r (f r) t) .nil) b σ → ∀ r ∈ rs, opsW C N true ops [ops.getD r default] (runT C N ops K (f r) false) σ := by
  intro rs
  induction rs with
  | nil => intro b _ _ r hr; cases hr
  | cons r0 rs ih =>
    intro b _ h r hr
    rcases List.mem_cons.1 hr with rfl | hr
    · exact h.1
    · exact ih (.inr rfl) h.2 r hr
/-- A region that may call: by the tree of its orders. -/
theorem treeE_wp {K : AState → Prop} (ho : EOk ops) (hK : ∀ σ mu a w, K σ → St C B X w0 Z N mu σ a w → Q .normal a w) :
    ∀ (fuel : Nat) (L : Array Bool) (more : Nat) (n : Nat) (A : Array Bool) (σ : AState) (mu : Mu) (a : Act) (w : World), cnt L ops.size ≤ fuel → cnt A ops.size ≤ more → cnt A ops.size ≤ n → runT C N ops K (treeE ops n A) false σ → Eg C B X w0 Z N ops A L σ a w mu → wpAny C.P .any ops Q fuel L a w := by
  intro fuel
  have fin : ∀ (L : Array Bool) (n : Nat) (A : Array Bool) (σ : AState) (mu : Mu) (a : Act) (w : World), runT C N ops K (treeE ops n A) false σ → Eg C B X w0 Z N ops A L σ a w mu → Region.ready .any ops L = [] → Q .normal a w := by
    intro L n A σ mu a w h hE hr
    have hall : ∀ j, j < ops.size → L.getD j true = true := by
      intro j hj
      cases hl : L.getD j true with
      | true => rfl
      | false =>
        exfalso
        obtain ⟨i, hi, hil, hlow⟩ := least_unlisted (listed := L) (n := ops.size) ⟨j, hj, hl⟩
        have : i ∈ Region.ready .any ops L := mem_ready.2 ⟨hil, ops[i], Array.getElem?_eq_getElem hi, fun e he hb => by
          have hlt := ho.edges i hi e he hb
          exact getD_false_of (hlow _ hlt) (by rw [hE.lsz]; omega)⟩
        rw [hr] at this; cases this
    have hA0 : Region.ready .any ops A = [] := by
      cases hr2 : Region.ready .any ops A with
      | nil => rfl
      | cons r rs =>
        obtain ⟨hun, o, ho2, _⟩ := mem_ready.1 (show r ∈ Region.ready .any ops A by rw [hr2]; simp)
        have := hE.sub r (hall r (Array.getElem?_eq_some_iff.mp ho2).1)
        rw [hun] at this; cases this
    have hk : K σ := by
      cases n with
      | zero => exact h
      | succ n => unfold treeE at h; rw [hA0] at h; exact h
    exact hK σ mu a w hk ⟨hE.sim, hE.fresh, fun t => hE.slots t (fun j hj _ hl => by rw [hall j hj] at hl; cases hl), hE.defers, hE.size, hE.past, hE.zok⟩
  induction fuel with
  | zero =>
    intro L more n A σ mu a w hc _ _ h hE
    have hr0 : Region.ready .any ops L = [] := by
      cases hr : Region.ready .any ops L with
      | nil => rfl
      | cons r rs =>
        obtain ⟨hun, o, ho2, _⟩ := mem_ready.1 (show r ∈ Region.ready .any ops L by rw [hr]; simp)
        have := cnt_set (n := ops.size) (Array.getElem?_eq_some_iff.mp ho2).1 hun
        omega
    exact ⟨hr0, fin L n A σ mu a w h hE hr0⟩
  | succ fuel ih =>
    intro L more n A σ mu a w hc hm hn h hE
    refine ⟨fun hr => fin L n A σ mu a w h hE hr, fun r hr => ?_⟩
    obtain ⟨hun, o, ho2, _⟩ := mem_ready.1 hr
    have hrs := (Array.getElem?_eq_some_iff.mp ho2).1
    have hcs := cnt_set (n := ops.size) hrs hun
    induction more generalizing n A σ with
    | zero =>
      have hA : A.getD r true = true := by
        cases hl : A.getD r true with
        | true => rfl
        | false => have := cnt_set (n := ops.size) hrs hl; omega
      exact wpOp_mono (fun a' w' h' => ih _ 0 n A σ mu a' w' (by omega) hm hn h h') (hE.catch ho hrs hr hA hun)
    | succ more ihm =>
      cases hA : A.getD r true with
      | true => exact wpOp_mono (fun a' w' h' => ih _ _ n A σ mu a' w' (by omega) hm hn h h') (hE.catch ho hrs hr hA hun)
      | false =>
        have hrA := ready_mono hE hr hA
        have hca := cnt_set (n := ops.size) hrs hA
        obtain ⟨n, rfl⟩ : ∃ n', n = n' + 1 := ⟨n - 1, by omega⟩
        unfold treeE at h
        split at h
        · rename_i hnil; rw [hnil] at hrA; cases hrA
        · rename_i rs hne
          split at h
          · -- the abstract state goes ahead
            rename_i r0 hf
            have hr0 : r0 ∈ Region.ready .any ops A := List.mem_of_find?_eq_some hf
            have he0 := List.find?_some hf
            obtain ⟨hun0, o0, ho0, _⟩ := mem_ready.1 hr0
            have hrs0 := (Array.getElem?_eq_some_iff.mp ho0).1
            have hca0 := cnt_set (n := ops.size) hrs0 hun0
            unfold eag at he0
            rw [Array.getElem?_eq_getElem hrs0] at he0
            simp only at he0
            have he1 := he0
            unfold eagOp at he1
            simp only [Bool.and_eq_true, Option.isNone_iff_eq_none] at he1
            have q := h.1
            rw [show ops.getD r0 default = ops[r0] by simp [Array.getD, hrs0]] at q
            obtain ⟨q1, q2⟩ := q
            rw [he1.1.2] at q2
            obtain ⟨s2, s3⟩ := fix_opW he1.1.1 q2
            exact ihm n (A.setIfInBounds r0 true) _ (by omega) (by omega) s3 (hE.ahead ho hrs0 hr0 he0 q1 s2)
          · -- both
            rename_i hf
            have hmem : opsW C N true ops [ops[r]] (runT C N ops K (treeE ops n (A.setIfInBounds r true)) false) σ := by
              have := runT_alt (.inl (fun e => by rw [e] at hrA; cases hrA)) h r hrA
              rwa [show ops.getD r default = ops[r] by simp [Array.getD, hrs]] at this
            have hdd : dstOK N ops[r].dst := hmem.1
            have hsA := listed_set (listed := A) (i := r) (by rw [hE.asz]; exact hrs)
            have hsL := listed_set (listed := L) (i := r) (by rw [hE.lsz]; exact hrs)
            have hnot : ∀ (av : AV) (H : Heap) j (hj : j < ops.size), A.getD j true = true → ∀ x ∈ ops[j].op.operands.toList, evalA C.G (σ.put ops[r].dst av H).slots x = evalA C.G σ.slots x := by
              intro av H j hj hjA x hx
              refine evalA_put (fun t hxt hd => ?_)
              subst hxt
              obtain ⟨e, he, hb, e2⟩ := afterOn_spec ((ho.apart j r hj hrs t hd).2 (looks_tmp hx))
              have := hE.acl j hj hjA e he hb
              rw [e2, hA] at this; cases this
            -- both have it behind them
            have both : ∀ (x : Value) (w' : World) (mu' : Mu) (av : AV) (H' : Heap), After C B X w0 mu σ.H w mu' H' w' → ARep mu' (Sset X mu' H') w' av x → (∀ k, H'.length ≤ k → mu' k = none) →
                Eg C B X w0 Z N ops (A.setIfInBounds r true) (L.setIfInBounds r true) (σ.put ops[r].dst av H') (a.put ops[r].dst x) w' mu' := by
              intro x w' mu' av H' haf hrep hfr
              refine ⟨by rw [put_H]; exact haf.sim, by rw [put_H]; exact hfr, by simpa using hE.asz, by simpa using hE.lsz, fun j hj => ?_, closed_set hE.asz hrs hrA hE.acl, fun j hj hjA hjL => ?_, fun t ht => ?_, put_defers hE.defers, put_size hE.size, by rw [put_H]; exact hE.zok _ _ _ _ _ _ hE.past haf, hE.zok⟩
              · rw [hsL] at hj; rw [hsA]
                by_cases e : j = r
                · rw [if_pos e]
                · rw [if_neg e] at hj ⊢; exact hE.sub j hj
              · rw [hsA] at hjA; rw [hsL] at hjL
                by_cases e : j = r
                · rw [if_pos e] at hjL; cases hjL
                · rw [if_neg e] at hjA hjL
                  obtain ⟨q1, q2, q3, q4⟩ := hE.pend j hj hjA hjL
                  refine ⟨q1, q2, by rw [opF_congr _ _ _ (hnot av H' j hj hjA)]; exact q3, fun t ht => ?_⟩
                  rw [opF_congr _ _ _ (hnot av H' j hj hjA), look_put_ne (fun q => ?_)]
                  · exact q4 t ht
                  · rcases (ho.apart r j hrs hj t ht).1 with e2 | e2
                    · exact e e2.symm
                    · exact e2 q
              · rw [put_H]
                by_cases e : ops[r].dst = some t
                · rw [e, look_put_self, put_self (by rw [hE.size]; rw [e] at hdd; exact hdd)]
                  exact hrep
                · rw [look_put_ne e, put_other e]
                  refine (hE.slots t (fun j hj hjA hjL => ht j hj ?_ ?_)).mono haf.ext haf.keep haf.evo
                  · rw [hsA]; split
                    · rfl
                    · exact hjA
                  · rw [hsL, if_neg (fun q => by subst q; rw [hA] at hjA; cases hjA)]; exact hjL
            have go : ∀ σ' mu' a' w', runT C N ops K (treeE ops n (A.setIfInBounds r true)) false σ' → Eg C B X w0 Z N ops (A.setIfInBounds r true) (L.setIfInBounds r true) σ' a' w' mu' → wpAny C.P .any ops Q fuel (L.setIfInBounds r true) a' w' := fun σ' mu' a' w' hk hE' =>
              ih _ (cnt (A.setIfInBounds r true) ops.size) n _ σ' mu' a' w' (by omega) (Nat.le_refl _) (by omega) hk hE'
            have exec : opW C true (evalA C.G σ.slots) σ.H ops[r] (fun a H => runT C N ops K (treeE ops n (A.setIfInBounds r true)) false (σ.put ops[r].dst a H)) → ops[r].wp C.P a w (wpAny C.P .any ops Q fuel (L.setIfInBounds r true)) Q := fun h => by
              have h' : opW C true (open Classical in fun x => if x ∈ ops[r].op.operands.toList then evalA C.G σ.slots x else .bad) σ.H ops[r] (fun a H => runT C N ops K (treeE ops n (A.setIfInBounds r true)) false (σ.put ops[r].dst a H)) :=
                opW_congr (fun x hx => (if_pos hx).symm) h
              refine opW_wp (fun x => ?_) hE.sim hE.fresh h' (fun x w' mu' av H' hk haf hrep hfr => go _ mu' _ w' hk (both x w' mu' av H' haf hrep hfr))
              split
              · rename_i hx; exact hE.eval ho hrs hr hx
              · exact .bad _
            unfold wpOp
            simp only [Array.getElem?_eq_getElem hrs]
            cases hgd : ops[r].guard with
            | none =>
              rw [if_pos (by simp [Region.wanted, hgd])]
              have := hmem.2
              rw [hgd] at this
              exact .inl (exec this)
            | some q =>
              obtain ⟨j, want⟩ := q
              have hg : ∃ x, gslot ops j σ.slots = .v x ∧ (x = .bool want → opW C true (evalA C.G σ.slots) σ.H ops[r] (fun a H => runT C N ops K (treeE ops n (A.setIfInBounds r true)) false (σ.put ops[r].dst a H))) ∧ (x ≠ .bool want → runT C N ops K (treeE ops n (A.setIfInBounds r true)) false (σ.put ops[r].dst (.v undef) σ.H)) := by
                have := hmem.2
                rw [hgd] at this
                simp only at this
                generalize gslot ops j σ.slots = ga at this
                match ga, this with
                | .v x, this => exact ⟨x, rfl, this⟩
              obtain ⟨x, hgs, hx1, hx2⟩ := hg
              have hy : yielded ops a.tmps j = some want ↔ x = .bool want := by
                unfold gslot at hgs
                cases hdj : (ops[j]?).bind (·.dst) with
                | none => rw [hdj] at hgs; cases hgs
                | some t =>
                  rw [hdj] at hgs
                  simp only at hgs
                  have := hE.see ho hrs hr (t := t) (by
                    unfold Oper.looksAt
                    refine List.mem_append_right _ ?_
                    rw [hgd]; simp [hdj])
                  rw [hgs] at this
                  exact yielded_iff0 hdj this.v_inv
              by_cases hb : x = .bool want
              · rw [if_pos (by simp [Region.wanted, hgd, hy.mpr hb])]
                exact .inl (exec (hx1 hb))
              · rw [if_neg (by simpa [Region.wanted, hgd] using fun q => hb (hy.mp q))]
                exact go _ mu _ w (hx2 hb) (both _ w mu (.v undef) σ.H (.refl hE.sim) (.v _) hE.fresh)

theorem treeE_region {id : Nat} {K : AState → Prop} {σ : AState} (hmix : C.P.follows .mixedOrders = true) (hto : tOk ops = true) (hK : ∀ σ mu a w, K σ → St C B X w0 Z N mu σ a w → Q .normal a w)
    (h : runT C N ops K (treeEA ops) false σ) (hst : St C B X w0 Z N mu σ a w) : (Code.region id ops true).wp C.P Q a w := by
  refine wp_region_any hmix ?_
  have hdr : Below w.heap.size w { w with drawn := w.drawn + 1 } := below_of_heap rfl rfl rfl rfl
  have hs := hst.sim.ext hdr
  have hgf : ∀ i, i < ops.size → (Array.replicate ops.size false).getD i true = false := fun i hi => by simp [Array.getD, hi]
  have hc : cnt (Array.replicate ops.size false) ops.size ≤ ops.size := by unfold cnt; exact Nat.le_trans List.countP_le_length (by simp)
  refine treeE_wp (tOk_spec hto) hK ops.size _ ops.size ops.size (Array.replicate ops.size false) σ mu a _ hc hc hc h
    ⟨hs, hst.fresh, by simp, by simp, fun j hj => hj, fun i hi hl => (by rw [hgf i hi] at hl; cases hl), fun j hj hjA => (by rw [hgf j hj] at hjA; cases hjA), fun t _ => (hst.slots t).mono (fun _ _ q => q) (fun b q _ => q) (.of_below hdr), hst.defers, hst.size, hst.zok _ _ _ _ _ _ hst.past ⟨hs, fun _ _ q => q, .of_below hdr, fun b q _ => q⟩, hst.zok⟩
end
end Go.Ab

set_option linter.unusedVariables false
set_option linter.unusedSimpArgs false
set_option linter.unusedSectionVars false
namespace Go.Ab
open Go.RowKit (Below)

def AE.x : AE → Exit
  | .normal => .normal
  | .exit id => .exit id
  | .goto l => .goto l
  | .ret => .ret

theorem exists_least {p : Nat → Prop} (h : ∃ n, p n) : ∃ n, p n ∧ ∀ m, m < n → ¬ p m := by
  obtain ⟨n, hn⟩ := h
  induction n using Nat.strongRecOn with
  | _ n ih =>
    by_cases hex : ∃ m, m < n ∧ p m
    · obtain ⟨m, hm, hp⟩ := hex; exact ih m hm hp
    · exact ⟨n, hn, fun m hm hp => hex ⟨m, hm, hp⟩⟩

open Classical in
/-- A loop, by how many rounds are left. -/
theorem loop_wp {P : Program} {c : Code} {Q : Exit → Act → World → Prop} (R : Nat → Act → World → Prop) (h0 : ∀ a w, ¬ R 0 a w) (hs : ∀ n a w, R (n + 1) a w → c.wp P (Exit.then (R n) Q) a w) {n : Nat} {a : Act} {w : World} (h : R n a w) :
    (Code.loop c).wp P Q a w := by
  let μ : Act → World → Nat := fun a w => if h : ∃ n, R n a w then Classical.choose (exists_least h) else 0
  have hμ : ∀ a w, (∃ n, R n a w) → R (μ a w) a w ∧ ∀ m, R m a w → μ a w ≤ m := by
    intro a w h
    have e : μ a w = Classical.choose (exists_least h) := by simp only [μ]; rw [dif_pos h]
    obtain ⟨q1, q2⟩ := Classical.choose_spec (exists_least h)
    rw [e]
    exact ⟨q1, fun m hm => by
      rcases Nat.lt_or_ge m (Classical.choose (exists_least h)) with q | q
      · exact absurd hm (q2 m q)
      · exact q⟩
  refine wp_loop (fun a w => ∃ n, R n a w) μ ⟨n, h⟩ (fun a w hI => ?_)
  obtain ⟨q1, q2⟩ := hμ a w hI
  cases hm : μ a w with
  | zero => rw [hm] at q1; exact absurd q1 (h0 a w)
  | succ m =>
    rw [hm] at q1
    refine wp_mono (hs m a w q1) (fun e a' w' hq => ?_)
    cases e with
    | normal =>
      have hI' : ∃ n, R n a' w' := ⟨m, hq⟩
      exact ⟨hI', by have := (hμ a' w' hI').2 m hq; omega⟩
    | _ => exact hq

def Exit.jmp (J : Nat → Act → World → Prop) (Q : Exit → Act → World → Prop) : Exit → Act → World → Prop
  | .goto l, a, w => J l a w
  | e, a, w => Q e a w

/-- A scope, by how many jumps are left. -/
theorem scope_wp {P : Program} {c : Code} {Q : Exit → Act → World → Prop} (R : Nat → Nat → Act → World → Prop) (h0 : ∀ l a w, ¬ R 0 l a w)
    (hs : ∀ n l a w, R (n + 1) l a w → ∃ rest, findLabel c l = some rest ∧ rest.wp P (Exit.jmp (R n) Q) a w) (n : Nat) {a : Act} {w : World} (h : c.wp P (Exit.jmp (R n) Q) a w) : (Code.scope c).wp P Q a w := by
  intro b k cs
  have key : ∀ n (d : Code) a w, d.wp P (Exit.jmp (R n) Q) a w → ∃ e a' w', Q e a' w' ∧ Arrives P (lone (b.at a (.code d :: .inScope c :: k)) cs w) b k cs e a' w' := by
    intro n
    induction n with
    | zero =>
      intro d a w hd
      obtain ⟨e, a₁, w₁, hq, harr⟩ := hd b (.inScope c :: k) cs
      cases e with
      | normal => exact ⟨.normal, a₁, w₁, hq, Steps.trans harr (.one step_inScope)⟩
      | exit id => exact ⟨.exit id, a₁, w₁, hq, fun k' hk => harr k' (by simp [exitTo, hk])⟩
      | goto l' => exact absurd hq (h0 l' a₁ w₁)
      | ret => exact ⟨_, a₁, w₁, hq, harr⟩
      | panic ch => exact ⟨_, a₁, w₁, hq, harr⟩
      | outgrown => exact ⟨_, a₁, w₁, hq, harr⟩
    | succ n ih =>
      intro d a w hd
      obtain ⟨e, a₁, w₁, hq, harr⟩ := hd b (.inScope c :: k) cs
      cases e with
      | normal => exact ⟨.normal, a₁, w₁, hq, Steps.trans harr (.one step_inScope)⟩
      | exit id => exact ⟨.exit id, a₁, w₁, hq, fun k' hk => harr k' (by simp [exitTo, hk])⟩
      | goto l' =>
        obtain ⟨rest, hf, hr⟩ := hs n l' a₁ w₁ hq
        have hg : gotoIn l' (.inScope c :: k) = some (.code rest :: .inScope c :: k) := by simp [gotoIn, hf]
        obtain ⟨e₂, a₂, w₂, hq₂, harr₂⟩ := ih rest a₁ w₁ hr
        exact ⟨e₂, a₂, w₂, hq₂, .of_steps (harr _ hg) harr₂⟩
      | ret => exact ⟨_, a₁, w₁, hq, harr⟩
      | panic ch => exact ⟨_, a₁, w₁, hq, harr⟩
      | outgrown => exact ⟨_, a₁, w₁, hq, harr⟩
  obtain ⟨e, a', w', hq, harr⟩ := key n c a w h
  exact ⟨e, a', w', hq, .of_steps (.one step_scope) harr⟩

section
variable {C : Ctx} {B : Nat} {X : Nat → Prop} {w0 : World} {Z : Mu → Heap → World → Prop} {N : Nat}

theorem St.freeze {mu : Mu} {σ : AState} {a : Act} {w : World} (s : St C B X w0 Z N mu σ a w) : St C B X w0 Z N mu ⟨σ.slots, fzAll σ.H⟩ a w := by
  obtain ⟨f1, f2⟩ := s.sim.stillAll
  exact ⟨f1, fun k hk => s.fresh k (by simpa [fzAll] using hk), fun t => (s.slots t).mono (fun _ _ q => q) (fun b q _ => f2 b q) (.refl _ _), s.defers, s.size, s.zok _ _ _ _ _ _ s.past ⟨f1, fun _ _ q => q, .refl _ _, fun b q _ => f2 b q⟩, s.zok⟩
theorem St.freezeL {mu : Mu} {a : Act} {w : World} (ks : List Nat) : ∀ {σ : AState}, St C B X w0 Z N mu σ a w → St C B X w0 Z N mu ⟨σ.slots, fzL σ.H ks⟩ a w := by
  induction ks with
  | nil => intro σ s; exact s
  | cons k ks ih =>
    intro σ s
    have h := (Less.refl s.sim).fz k
    exact ih (σ := ⟨σ.slots, fz σ.H k⟩) ⟨h.sim, fun j hj => s.fresh j (by rw [h.len] at hj; exact hj), fun t => (s.slots t).mono (fun _ _ q => q) (fun b q _ => h.keep b q) (.refl _ _), s.defers, s.size, s.zok _ _ _ _ _ _ s.past ⟨h.sim, fun _ _ q => q, .refl _ _, fun b q _ => h.keep b q⟩, s.zok⟩
/-- What holds in the abstract holds of the frame and the world. -/
def Down (C : Ctx) (B : Nat) (X : Nat → Prop) (w0 : World) (Z : Mu → Heap → World → Prop) (N : Nat) (Q : APost) (Qc : Exit → Act → World → Prop) : Prop :=
  ∀ e σ mu a w, Q e σ → St C B X w0 Z N mu σ a w → Qc e.x a w

def JumpOK (C : Ctx) (B : Nat) (X : Nat → Prop) (w0 : World) (Z : Mu → Heap → World → Prop) (N : Nat) (jump : Code → APost → AState → Prop) : Prop :=
  ∀ (c : Code) (Q : APost) (Qc : Exit → Act → World → Prop) (σ : AState) (mu : Mu) (a : Act) (w : World), Down C B X w0 Z N Q Qc → jump c Q σ → St C B X w0 Z N mu σ a w → c.wp C.P Qc a w

theorem aW_wp (hmix : C.P.follows .mixedOrders = true) {jump : Code → APost → AState → Prop} (hj : JumpOK C B X w0 Z N jump) : JumpOK C B X w0 Z N (aW C N jump) := by
  intro c
  induction c with
  | skip => intro Q Qc σ mu a w hd h hst; exact wp_skip (hd .normal σ mu a w h hst)
  | label l => intro Q Qc σ mu a w hd h hst; exact wp_label (hd .normal σ mu a w h hst)
  | region id ops draw =>
    intro Q Qc σ mu a w hd h hst
    have hK : ∀ σ mu a w, Q .normal σ → St C B X w0 Z N mu σ a w → Qc .normal a w := fun σ mu a w q s => hd .normal σ mu a w q s
    cases draw with
    | false => exact wp_region_list (opsW_wp hK _ σ mu a w h hst)
    | true =>
      simp only [aW] at h
      cases hdo : drawOk ops with
      | true => rw [hdo] at h; exact draw_wp hmix hdo hK h hst
      | false =>
        rw [hdo] at h
        simp only at h
        cases heo : eOk ops with
        | true => rw [heo] at h; exact linsE_region hmix heo hK h hst
        | false => rw [heo] at h; exact treeE_region hmix h.1 hK h.2 hst
  | seq x y ihx ihy =>
    intro Q Qc σ mu a w hd h hst
    refine wp_seq (ihx _ _ σ mu a w (fun e σ' mu' a' w' q s => ?_) h hst)
    cases e with
    | normal => exact ihy Q Qc σ' mu' a' w' hd q s
    | exit id => exact hd (.exit id) σ' mu' a' w' q s
    | goto l => exact hd (.goto l) σ' mu' a' w' q s
    | ret => exact hd .ret σ' mu' a' w' q s
  | cond c x y ihx ihy =>
    intro Q Qc σ mu a w hd h hst
    have hc := hst.eval c
    simp only [aW] at h
    generalize hg : evalA C.G σ.slots c = g at h hc
    match g, h, hc with
    | .v (.bool b), h, hc =>
      exact wp_cond_split hc.v_inv (fun q => ihx Q Qc σ mu a w hd (h.1 q) hst) (fun q => ihy Q Qc σ mu a w hd (h.2 q) hst)
  | block id c ih =>
    intro Q Qc σ mu a w hd h hst
    refine wp_block (ih _ _ σ mu a w (fun e σ' mu' a' w' q s => ?_) h hst)
    cases e with
    | normal => exact hd .normal σ' mu' a' w' q s
    | exit id' =>
      show (if id' = id then Qc .normal a' w' else Qc (.exit id') a' w')
      simp only [inBlockA] at q
      by_cases e : id' = id
      · subst e
        rw [if_pos rfl]
        simp only [Nat.beq_refl] at q
        exact hd .normal σ' mu' a' w' q s
      · rw [if_neg e]
        have : Nat.beq id' id = false := by cases hb : Nat.beq id' id with | false => rfl | true => exact absurd (Nat.eq_of_beq_eq_true hb) e
        rw [this] at q
        exact hd (.exit id') σ' mu' a' w' q s
    | goto l => exact hd (.goto l) σ' mu' a' w' q s
    | ret => exact hd .ret σ' mu' a' w' q s
  | loop c ih =>
    intro Q Qc σ mu a w hd h hst
    obtain ⟨n, fb, h⟩ := h
    have hd : Down C B X w0 Z N (frzA fb Q) Qc := fun e σ mu a w q s => by
      cases fb with
      | none => exact hd e σ mu a w q s
      | some o => cases o with
        | none => exact hd e ⟨σ.slots, fzAll σ.H⟩ mu a w q s.freeze
        | some ks => exact hd e ⟨σ.slots, fzL σ.H ks⟩ mu a w q (s.freezeL ks)
    refine loop_wp (fun n a w => ∃ σ mu, loopA (aW C N jump c) (frzA fb Q) n σ ∧ St C B X w0 Z N mu σ a w) (fun a w q => ?_) (fun n a w q => ?_) (n := n) ⟨σ, mu, h, hst⟩
    · obtain ⟨σ, mu, h, _⟩ := q; exact h
    · obtain ⟨σ, mu, h, hst⟩ := q
      refine ih _ _ σ mu a w (fun e σ' mu' a' w' q s => ?_) h hst
      cases e with
      | normal => exact ⟨σ', mu', q, s⟩
      | exit id => exact hd (.exit id) σ' mu' a' w' q s
      | goto l => exact hd (.goto l) σ' mu' a' w' q s
      | ret => exact hd .ret σ' mu' a' w' q s
  | scope c ih =>
    intro Q Qc σ mu a w hd h hst
    obtain ⟨n, h⟩ := h
    have down : ∀ n, Down C B X w0 Z N (scopeA jump c Q n) (Exit.jmp (fun l a w => ∃ σ mu, scopeA jump c Q n (.goto l) σ ∧ St C B X w0 Z N mu σ a w) Qc) := by
      intro n e σ' mu' a' w' q s
      cases e with
      | normal => exact hd .normal σ' mu' a' w' (by cases n <;> exact q) s
      | exit id => exact hd (.exit id) σ' mu' a' w' (by cases n <;> exact q) s
      | goto l => exact ⟨σ', mu', q, s⟩
      | ret => exact hd .ret σ' mu' a' w' (by cases n <;> exact q) s
    refine scope_wp (fun n l a w => ∃ σ mu, scopeA jump c Q n (.goto l) σ ∧ St C B X w0 Z N mu σ a w) (fun l a w q => ?_) (fun n l a w q => ?_) n (ih _ _ σ mu a w (down n) h hst)
    · obtain ⟨σ, mu, h, _⟩ := q; exact h
    · obtain ⟨σ, mu, h, hst⟩ := q
      simp only [scopeA] at h
      cases hf : findLabel c l with
      | none => rw [hf] at h; exact h.elim
      | some rest =>
        rw [hf] at h
        exact ⟨rest, rfl, hj rest _ _ σ mu a w (down n) h hst⟩
  | exit id => intro Q Qc σ mu a w hd h hst; exact wp_exit (hd (.exit id) σ mu a w h hst)
  | goto l => intro Q Qc σ mu a w hd h hst; exact wp_goto (hd (.goto l) σ mu a w h hst)
  | ret => intro Q Qc σ mu a w hd h hst; exact wp_ret (hd .ret σ mu a w h hst)
  | rangeFunc f ps as bd ih1 ih2 => intro Q Qc σ mu a w hd h hst; exact h.elim
  | refuse why => intro Q Qc σ mu a w hd h hst; exact h.elim

theorem aW1_wp (hmix : C.P.follows .mixedOrders = true) : JumpOK C B X w0 Z N (aW1 C N) :=
  aW_wp hmix (aW_wp hmix (fun _ _ _ _ _ _ _ _ h _ => h.elim))

/-! ### results -/
def resF (P : Program) (σ : AState) : ResultVar → Out
  | .tmp t => ⟨True, look σ.slots t, σ.H⟩
  | .cell t ty => match tk P ty with
    | some r => match look σ.slots t with
      | .ptr k off => loadF σ.H r.agg r.size ((hd σ.H k).rd = true) (hd σ.H k).cells off
      | _ => .no σ.H
    | none => .no σ.H

/-- What a function hands back: what must be known, and the value. -/
def retF (P : Program) (σ : AState) (rs : List ResultVar) : Out :=
  match rs with
  | [r] => resF P σ r
  | rs => ⟨∀ r ∈ rs, (resF P σ r).pre, .tup (rs.map fun r => (resF P σ r).av), σ.H⟩

def resRun (tmps : Array Value) : ResultVar → Sem Value
  | .tmp t => pure (tmps.getD t undef)
  | .cell t ty => do loadVar ty (← asAddr (tmps.getD t undef))

theorem results_eq (fn : Func) (tmps : Array Value) : results fn tmps = (do let vs ← fn.results.mapM (resRun tmps); pure (if h : vs.size = 1 then vs[0] else .tuple vs)) := rfl

theorem resF_run {mu : Mu} {σ : AState} {a : Act} {w : World} (hst : St C B X w0 Z N mu σ a w) {r : ResultVar} (hp : (resF C.P σ r).pre) :
    ∃ x, (resRun a.tmps r).run C.P w = .ok x w ∧ ARep mu (Sset X mu σ.H) w (resF C.P σ r).av x := by
  cases r with
  | tmp t => exact ⟨_, rfl, hst.slots t⟩
  | cell t ty =>
    simp only [resF] at hp ⊢
    cases hr : tk C.P ty with
    | none => simp only [hr] at hp; exact hp.elim
    | some r =>
      simp only [hr] at hp ⊢
      have hx := hst.slots t
      cases hl : look σ.slots t with
      | ptr k off =>
        rw [hl] at hx
        simp only [hl] at hp ⊢
        have hrd : (hd σ.H k).rd = true := by unfold loadF at hp; split at hp <;> exact hp.1
        obtain ⟨ad, xs, e, hc, hrep⟩ := ptr_cells hst.sim (List.prefix_refl _) hx hrd
        obtain ⟨y, h1, h2⟩ := loadF_sound (H := σ.H) hr (Sset X mu σ.H) ad off _ xs _ hc hrep hp
        refine ⟨y, ?_, h2⟩
        simp only [resRun]
        rw [e]
        simpa [ asAddr, Instr.loadAt, Instr.sureAddr] using h1
      | _ => simp only [hl] at hp; exact hp.elim

theorem retF_run {mu : Mu} {σ : AState} {a : Act} {w : World} (hst : St C B X w0 Z N mu σ a w) {fn : Func} (hp : (retF C.P σ fn.results.toList).pre) :
    ∃ x, (results fn a.tmps).run C.P w = .ok x w ∧ ARep mu (Sset X mu σ.H) w (retF C.P σ fn.results.toList).av x := by
  have many : ∀ rs : List ResultVar, (∀ r ∈ rs, (resF C.P σ r).pre) →
      ∃ xs : List Value, (rs.mapM (resRun a.tmps)).run C.P w = .ok xs w ∧ xs.length = rs.length ∧
        ∀ i, i < rs.length → ARep mu (Sset X mu σ.H) w ((rs.map fun r => (resF C.P σ r).av).getD i .bad) (xs.getD i undef) := by
    intro rs
    induction rs with
    | nil => intro _; exact ⟨[], by simp, rfl, fun i hi => by simp at hi⟩
    | cons r rs ih =>
      intro h
      obtain ⟨x, h1, h2⟩ := resF_run hst (h r (by simp))
      obtain ⟨xs, h3, h4, h5⟩ := ih (fun q hq => h q (by simp [hq]))
      refine ⟨x :: xs, ?_, by simp [h4], fun i hi => ?_⟩
      · simp only [List.mapM_cons, Sem.run_bind, Sem.run_pure]
        rw [h1]; simp only [Result.andThen_ok]; rw [h3]; rfl
      · cases i with
        | zero => exact h2
        | succ i => exact h5 i (by simpa using hi)
  have hm : ∀ xs, (fn.results.toList.mapM (resRun a.tmps)).run C.P w = .ok xs w →
      (results fn a.tmps).run C.P w = .ok (if h : xs.toArray.size = 1 then xs.toArray[0] else .tuple xs.toArray) w := by
    intro xs h
    rw [results_eq, Array.mapM_eq_mapM_toList]
    simp only [Sem.run_bind, Sem.run_map]
    rw [h]
    rfl
  match hrs : fn.results.toList, hp with
  | [r], hp =>
    rw [hrs] at hm
    obtain ⟨xs, h1, h2, h3⟩ := many [r] (fun q hq => by simp at hq; subst hq; exact hp)
    match xs, h2 with
    | [x], _ =>
      refine ⟨x, by rw [hm _ h1]; rfl, h3 0 (by simp)⟩
  | [], hp =>
    obtain ⟨xs, h1, h2, h3⟩ := many [] (fun q hq => by simp at hq)
    match xs, h2 with
    | [], _ => rw [hrs] at hm; exact ⟨_, by rw [hm _ h1]; rfl, .tup _ _ rfl (fun i hi => by simp [retF] at hi)⟩
  | r1 :: r2 :: rs, hp =>
    obtain ⟨xs, h1, h2, h3⟩ := many (r1 :: r2 :: rs) hp
    match xs, h2 with
    | x1 :: x2 :: xs, h2 =>
      rw [hrs] at hm
      refine ⟨.tuple (x1 :: x2 :: xs).toArray, by rw [hm _ h1]; rw [dif_neg (by simp)], .tup _ _ (by simp at h2 ⊢; omega) (fun i hi => ?_)⟩
      have := h3 i (by simpa [retF] using hi)
      simpa [Array.getD_eq_getD_getElem?, List.getD_eq_getElem?_getD] using this
end
end Go.Ab

set_option linter.unusedVariables false
set_option linter.unusedSimpArgs false
set_option linter.unusedSectionVars false
namespace Go.Ab
open Go.RowKit (Below)

def initSlots : Nat → List AV → List (Nat × AV)
  | _, [] => []
  | i, a :: r => (i, a) :: initSlots (i + 1) r

theorem look_init : ∀ (l : List AV) (i t : Nat), look (initSlots i l) t = if i ≤ t then l.getD (t - i) .bad else .bad := by
  intro l
  induction l with
  | nil => intro i t; simp [initSlots, look]
  | cons a r ih =>
    intro i t
    simp only [initSlots, look_cons]
    by_cases h : i = t
    · subst h; simp
    · rw [if_neg h, ih]
      by_cases h2 : i + 1 ≤ t
      · rw [if_pos h2, if_pos (by omega)]
        have : t - i = (t - (i + 1)) + 1 := by omega
        rw [this]; simp
      · rw [if_neg h2, if_neg (by omega)]

/-- The function's facts that a contract needs. -/
structure FnOK (P : Program) (f : FuncId) (N : Nat) (body : Code) (rs : List ResultVar) : Prop where
  mix : P.follows .mixedOrders = true
  fn : ∃ fn, P.funcs[f]? = some fn ∧ fn.body = some body ∧ fn.ntmps = N ∧ fn.results.toList = rs

/-- How a call ends. -/
def Ret (P : Program) (rs : List ResultVar) (K : AV → Heap → Prop) : APost
  | .normal, σ => (retF P σ rs).pre ∧ K (retF P σ rs).av σ.H
  | .ret, σ => (retF P σ rs).pre ∧ K (retF P σ rs).av σ.H
  | _, _ => False

section
variable {C : Ctx}

theorem init_slots {mu : Mu} {S : Nat → Prop} {w : World} {args : List AV} {xs : List Value} {N : Nat} (hl : xs.length = args.length) (hr : ∀ i, i < args.length → ARep mu S w (args.getD i .bad) (xs.getD i undef)) (t : Nat) :
    ARep mu S w (look (initSlots 0 args) t) ((xs.toArray ++ Array.replicate (N - xs.toArray.size) undef).getD t undef) := by
  rw [look_init, if_pos (Nat.zero_le _), Nat.sub_zero]
  by_cases h : t < args.length
  · have := hr t h
    have e : (xs.toArray ++ Array.replicate (N - xs.toArray.size) undef).getD t undef = xs.getD t undef := by
      rw [Array.getD_eq_getD_getElem?, Array.getElem?_append_left (by simp; omega)]
      simp [List.getD_eq_getElem?_getD]
    rw [e]; exact this
  · have : args.getD t .bad = .bad := by simp [List.getD_eq_getElem?_getD, Nat.not_lt.mp h]
    rw [this]; exact .bad _

theorem call_body {f : FuncId} {N : Nat} {body : Code} {rs : List ResultVar} (hf : FnOK C.P f N body rs) {B : Nat} {X : Nat → Prop} {Z : Mu → Heap → World → Prop} {w0 w : World} {mu : Mu} {H : Heap} {args : List AV} {xs : List Value} {K : AV → Heap → Prop}
    (hN : args.length ≤ N) (h : aW1 C N body (Ret C.P rs K) ⟨initSlots 0 args, H⟩) (hs : SimH C B X w0 mu H w) (hz : Z mu H w) (hzk : ∀ mu H w mu' H' w', Z mu H w → After C B X w0 mu H w mu' H' w' → Z mu' H' w') (hn : ∀ k, H.length ≤ k → mu k = none) (hl : xs.length = args.length)
    (hr : ∀ i, i < args.length → ARep mu (Sset X mu H) w (args.getD i .bad) (xs.getD i undef)) :
    Calls C.P f xs.toArray w fun e w' => ∃ x σ mu', e = .returned x ∧ K (retF C.P σ rs).av σ.H ∧ ARep mu' (Sset X mu' σ.H) w' (retF C.P σ rs).av x ∧ (∃ a, St C B X w0 Z N mu' σ a w') := by
  obtain ⟨hmix, fn, h1, h2, h3, h4⟩ := hf
  refine calls_of_wp h1 h2 ?_
  have hst : St C B X w0 Z N mu ⟨initSlots 0 args, H⟩ { tmps := xs.toArray ++ Array.replicate (fn.ntmps - xs.toArray.size) undef, defers := [] } w :=
    ⟨hs, hn, fun t => init_slots hl hr t, rfl, by simp; omega, hz, hzk⟩
  have fin : ∀ σ mu' a w', (retF C.P σ rs).pre → K (retF C.P σ rs).av σ.H → St C B X w0 Z N mu' σ a w' →
      a.defers = [] ∧ ∃ v, (results fn a.tmps).run C.P w' = .ok v w' ∧ (∃ x σ mu', Ending.returned v = .returned x ∧ K (retF C.P σ rs).av σ.H ∧ ARep mu' (Sset X mu' σ.H) w' (retF C.P σ rs).av x ∧ (∃ a, St C B X w0 Z N mu' σ a w')) := by
    intro σ mu' a w' hp hk hst'
    rw [← h4] at hp
    obtain ⟨x, e1, e2⟩ := retF_run hst' hp
    rw [h4] at e2
    exact ⟨hst'.defers, x, e1, x, σ, mu', rfl, hk, e2, a, hst'⟩
  refine aW1_wp hmix body _ _ _ mu _ w (fun e σ mu' a w' q s => ?_) h hst
  cases e with
  | normal => exact fin σ mu' a w' q.1 q.2 s
  | ret => exact fin σ mu' a w' q.1 q.2 s
  | exit id => exact q.elim
  | goto l => exact q.elim

/-- A CONTRACT OUT OF THE CODE. -/
theorem sat_of {f : FuncId} {N : Nat} {body : Code} {rs : List ResultVar} (hf : FnOK C.P f N body rs) {args : List AV} {r : AV} (hN : args.length ≤ N)
    (h : aW1 C N body (Ret C.P rs fun a H => ownOK H true a ∧ IsD r ∧ snap H a = r) ⟨initSlots 0 args, []⟩) : Sat C false f args r := by
  intro w S xs hg hSg hl hr
  have hs : SimH C w.heap.size (fun b => b < w.heap.size → S b) w mu0 [] w :=
    ⟨Nat.le_refl _, .refl _ _, hg, fun k ad o q => (by cases q), fun k ad o q => (by cases q), fun b hb hlt => (by omega), fun g q _ => hSg g q, fun k ad o q => (by cases q), fun k k' ad ad' o o' q => (by cases q)⟩
  refine (call_body (Z := fun _ _ _ => True) hf hN h hs trivial (fun _ _ _ _ _ _ _ _ => trivial) (fun _ _ => rfl) hl (fun i hi => (hr i hi).mono (fun _ _ q => q) (fun b q hlt => ⟨fun _ => q, fun k ad o q => (by cases q)⟩) (.refl _ _))).mono ?_
  rintro e w' ⟨x, σ, mu', rfl, ⟨q1, q2, q3⟩, hx, a, hst⟩
  refine ⟨x, rfl, ?_, hst.sim.below⟩
  obtain ⟨f1, f2⟩ := hst.sim.stillAll
  have := snap_rep (List.prefix_refl _) f1 (ind := false) (hx.mono (fun _ _ q => q) (fun b q _ => f2 b q) (.refl _ _)) (ownOK_fzAll q1)
  rw [snap_fzAll, q3] at this
  refine (this.data q2).mono (fun _ _ q => q) (fun b q hlt => ?_) (.refl _ _)
  rcases q with q | q
  · cases q
  · rcases Nat.lt_or_ge b w.heap.size with h | h
    · exact .inl ⟨rfl, q.1 h⟩
    · exact .inr h

end
end Go.Ab

set_option linter.unusedVariables false
set_option linter.unusedSimpArgs false
set_option linter.unusedSectionVars false
namespace Go.Ab
/-! Rules for the walk: each rewrites one step. -/

def bodyOf (fn : Func) : Code := match fn.body with | some c => c | none => .skip

section
variable {C : Ctx} {N : Nat} {jump : Code → APost → AState → Prop} {Q : APost} {σ : AState} {d : Bool} {g : Operand → AV} {H : Heap} {K : AV → Heap → Prop} {KS : AState → Prop} {all : Array Oper}
  {dst : Option Nat} {ty : TypeId} {pos : String} {af : Array Edge} {gd : Option (Nat × Bool)} {r : List Oper}

theorem x_skip : aW C N jump .skip Q σ = Q .normal σ := rfl
theorem x_label {l : Nat} : aW C N jump (.label l) Q σ = Q .normal σ := rfl
theorem x_seq {x y : Code} : aW C N jump (.seq x y) Q σ = aW C N jump x (thenA (aW C N jump y Q) Q) σ := rfl
theorem x_block {id : Nat} {c : Code} : aW C N jump (.block id c) Q σ = aW C N jump c (inBlockA id Q) σ := rfl
theorem x_exit {id : Nat} : aW C N jump (.exit id) Q σ = Q (.exit id) σ := rfl
theorem x_goto {l : Nat} : aW C N jump (.goto l) Q σ = Q (.goto l) σ := rfl
theorem x_ret : aW C N jump .ret Q σ = Q .ret σ := rfl
theorem x_then1 {K : AState → Prop} : thenA K Q .normal σ = K σ := rfl
theorem x_then2 {K : AState → Prop} : thenA K Q .ret σ = Q .ret σ := rfl
theorem x_then3 {K : AState → Prop} {id : Nat} : thenA K Q (.exit id) σ = Q (.exit id) σ := rfl
theorem x_then4 {K : AState → Prop} {l : Nat} : thenA K Q (.goto l) σ = Q (.goto l) σ := rfl
theorem x_blk1 {id : Nat} : inBlockA id Q .normal σ = Q .normal σ := rfl
theorem x_blk2 {id : Nat} : inBlockA id Q .ret σ = Q .ret σ := rfl
theorem x_blk3 {id id' : Nat} : inBlockA id Q (.exit id') σ = if id' = id then Q .normal σ else Q (.exit id') σ := by
  simp only [inBlockA]
  by_cases e : id' = id
  · rw [if_pos e, e]; simp only [Nat.beq_refl]
  · rw [if_neg e]
    have : Nat.beq id' id = false := by cases hb : Nat.beq id' id with | false => rfl | true => exact absurd (Nat.eq_of_beq_eq_true hb) e
    rw [this]
theorem x_blk4 {id l : Nat} : inBlockA id Q (.goto l) σ = Q (.goto l) σ := rfl
theorem x_region {id : Nat} {l : List Oper} : aW C N jump (.region id ⟨l⟩ false) Q σ = opsW C N false ⟨l⟩ l (Q .normal) σ := by
  simp [aW]
theorem x_draw {id : Nat} {l : List Oper} (h : drawOk ⟨l⟩ = true) : aW C N jump (.region id ⟨l⟩ true) Q σ = opsW C N true ⟨l⟩ l (Q .normal) σ := by
  simp [aW, h]
theorem x_linsE {id : Nat} {l : List Oper} (h : drawOk ⟨l⟩ = false) (hn : eOk ⟨l⟩ = true) : aW C N jump (.region id ⟨l⟩ true) Q σ = ∀ o ∈ linsEA ⟨l⟩, opsW C N true ⟨l⟩ (o.map fun i => (⟨l⟩ : Array Oper).getD i default) (Q .normal) σ := by
  simp [aW, h, hn]
theorem x_tree {id : Nat} {l : List Oper} (h : drawOk ⟨l⟩ = false) (he : eOk ⟨l⟩ = false) (ht : tOk ⟨l⟩ = true) : aW C N jump (.region id ⟨l⟩ true) Q σ = runT C N ⟨l⟩ (Q .normal) (treeEA ⟨l⟩) false σ := by
  show (match drawOk ⟨l⟩ with | true => _ | false => match eOk ⟨l⟩ with | true => _ | false => tOk ⟨l⟩ = true ∧ _) = _
  rw [h]; simp only; rw [he]; simp only; rw [ht]; simp
theorem x_runN {l : List Oper} {K : AState → Prop} {σ : AState} : runT C N ⟨l⟩ K .nil false σ = K σ := rfl
theorem x_runT {l : List Oper} {K : AState → Prop} {σ : AState} : runT C N ⟨l⟩ K .nil true σ = True := rfl
theorem x_runC {l : List Oper} {K : AState → Prop} {σ : AState} {r : Nat} {s t : OT} {b : Bool} : runT C N ⟨l⟩ K (.cons r s t) b σ = (opsW C N true ⟨l⟩ [(⟨l⟩ : Array Oper).getD r default] (runT C N ⟨l⟩ K s false) σ ∧ runT C N ⟨l⟩ K t true σ) := rfl
theorem x_getA0 {α : Type} {x d : α} {l : List α} : (⟨x :: l⟩ : Array α).getD 0 d = x := rfl
theorem x_getAs {α : Type} {x d : α} {l : List α} {n : Nat} : (⟨x :: l⟩ : Array α).getD (n + 1) d = (⟨l⟩ : Array α).getD n d := by
  simp [Array.getD_eq_getD_getElem?]
/-- a piece of code that waits -/
def CX (C : Ctx) (N : Nat) (jump : Code → APost → AState → Prop) (c : Code) (Q : APost) (σ : AState) (_ : Unit) : Prop := aW C N jump c Q σ
theorem x_CX {c : Code} {u : Unit} : CX C N jump c Q σ u = aW C N jump c Q σ := rfl
/-- a test -/
def condK (a : AV) (x y : Unit → Prop) : Prop :=
  match a with
  | .v (.bool b) => (b = true → x ()) ∧ (b = false → y ())
  | _ => False
theorem x_cond {c : Operand} {x y : Code} : aW C N jump (.cond c x y) Q σ = condK (evalA C.G σ.slots c) (CX C N jump x Q σ) (CX C N jump y Q σ) := rfl
theorem x_cond_dec {p : Prop} [Decidable p] {x y : Unit → Prop} : condK (.v (.bool (decide p))) x y = ((p → x ()) ∧ (¬ p → y ())) := by simp [condK]
theorem x_cond_true {x y : Unit → Prop} : condK (.v (.bool true)) x y = x () := by simp [condK]
theorem x_cond_false {x y : Unit → Prop} : condK (.v (.bool false)) x y = y () := by simp [condK]

/-- the operations that wait -/
def RK (C : Ctx) (N : Nat) (d : Bool) (all : Array Oper) (r : List Oper) (KS : AState → Prop) (dst : Option Nat) (l : List (Nat × AV)) (a : AV) (H : Heap) : Prop := opsW C N d all r KS (AState.put ⟨l, H⟩ dst a H)
theorem x_RK {l : List (Nat × AV)} {a : AV} : RK C N d all r KS dst l a H = opsW C N d all r KS (AState.put ⟨l, H⟩ dst a H) := rfl
theorem put_eq (σ : AState) (a : AV) (H' : Heap) : σ.put dst a H' = AState.put ⟨σ.slots, H'⟩ dst a H' := by cases dst <;> rfl

theorem x_nil : opsW C N d all [] KS σ = KS σ := rfl
theorem x_plain {op : Op} : opsW C N d all (⟨dst, op, ty, pos, af, none⟩ :: r) KS σ = (dstOK N dst ∧ opW C d (evalA C.G σ.slots) σ.H ⟨dst, op, ty, pos, af, none⟩ (RK C N d all r KS dst σ.slots)) := by
  have : (fun a H => opsW C N d all r KS (σ.put dst a H)) = RK C N d all r KS dst σ.slots := by funext a H; rw [put_eq]; rfl
  simp only [opsW, this]
/-- a guarded operation that waits; what follows if it is passed by -/
def GX (C : Ctx) (N : Nat) (d : Bool) (all : Array Oper) (o : Oper) (r : List Oper) (KS : AState → Prop) (σ : AState) (_ : Unit) : Prop := opW C d (evalA C.G σ.slots) σ.H o (RK C N d all r KS o.dst σ.slots)
theorem x_GX {op : Op} {u : Unit} : GX C N d all ⟨dst, op, ty, pos, af, gd⟩ r KS σ u = opW C d (evalA C.G σ.slots) σ.H ⟨dst, op, ty, pos, af, gd⟩ (RK C N d all r KS dst σ.slots) := rfl
def GY (C : Ctx) (N : Nat) (d : Bool) (all : Array Oper) (r : List Oper) (KS : AState → Prop) (dst : Option Nat) (σ : AState) (_ : Unit) : Prop := opsW C N d all r KS (σ.put dst (.v undef) σ.H)
theorem x_GY {u : Unit} : GY C N d all r KS dst σ u = opsW C N d all r KS (σ.put dst (.v undef) σ.H) := rfl
def guardK (a : AV) (want : Bool) (x y : Unit → Prop) : Prop :=
  match a with
  | .v v => (v = .bool want → x ()) ∧ (v ≠ .bool want → y ())
  | _ => False
theorem x_guard {op : Op} {j : Nat} {want : Bool} : opsW C N d all (⟨dst, op, ty, pos, af, some (j, want)⟩ :: r) KS σ = (dstOK N dst ∧ guardK (gslot all j σ.slots) want
    (GX C N d all ⟨dst, op, ty, pos, af, some (j, want)⟩ r KS σ) (GY C N d all r KS dst σ)) := by
  have : (fun a H => opsW C N d all r KS (σ.put dst a H)) = RK C N d all r KS dst σ.slots := by funext a H; rw [put_eq]; rfl
  simp only [opsW, this]
  rfl
section
variable {x y : Unit → Prop}
theorem x_guard_tt : guardK (.v (.bool true)) true x y = x () := by simp [guardK]
theorem x_guard_ff : guardK (.v (.bool false)) false x y = x () := by simp [guardK]
theorem x_guard_tf : guardK (.v (.bool true)) false x y = y () := by simp [guardK]
theorem x_guard_ft : guardK (.v (.bool false)) true x y = y () := by simp [guardK]
theorem x_guard_un {w : Bool} : guardK (.v undef) w x y = y () := by simp [guardK, undef]
theorem x_guard_dt {p : Prop} [Decidable p] : guardK (.v (.bool (decide p))) true x y = ((p → x ()) ∧ (¬ p → y ())) := by simp [guardK]
theorem x_guard_df {p : Prop} [Decidable p] : guardK (.v (.bool (decide p))) false x y = ((¬ p → x ()) ∧ (p → y ())) := by simp [guardK]
end
theorem x_dst {t : Nat} : dstOK N (some t) = (t < N) := rfl
theorem x_dst0 : dstOK N none = True := rfl
theorem x_put {t : Nat} {a : AV} {l : List (Nat × AV)} {H' : Heap} : AState.put ⟨l, H⟩ (some t) a H' = ⟨(t, a) :: l, H'⟩ := rfl
theorem x_put0 {a : AV} {l : List (Nat × AV)} {H' : Heap} : AState.put ⟨l, H⟩ none a H' = ⟨l, H'⟩ := rfl
theorem x_tmp {G : Glob} {l : List (Nat × AV)} {t : Nat} : evalA G l (.tmp t) = look l t := rfl
theorem x_const {G : Glob} {l : List (Nat × AV)} {x : Value} : evalA G l (.const x) = .v x := rfl
theorem x_fnc {G : Glob} {l : List (Nat × AV)} {f : FuncId} : evalA G l (.func f) = .v (.func (.func f) #[] #[]) := rfl
theorem x_look {t t' : Nat} {a : AV} {l : List (Nat × AV)} : look ((t', a) :: l) t = if t' = t then a else look l t := look_cons _ _ _ _

/-! operations -/
def outK (o : Out) (K : AV → Heap → Prop) : Prop := o.pre ∧ K o.av o.H
theorem x_out {p : Prop} {a : AV} : outK ⟨p, a, H⟩ K = (p ∧ K a H) := rfl
theorem x_out1 {a : AV} : outK ⟨True, a, H⟩ K = K a H := by simp [outK]

theorem x_move {x : Operand} : opW C d g H ⟨dst, .move x, ty, pos, af, gd⟩ K = K (g x) H := by simp [opW, opF, opD, isBS]
theorem x_assign {x : Operand} : opW C d g H ⟨dst, .assign x, ty, pos, af, gd⟩ K = K (g x) H := by simp [opW, opF, opD, isBS]
def pickK (c a b : AV) (H : Heap) (K : AV → Heap → Prop) : Prop := match c with | .v (.bool t) => (t = true → K a H) ∧ (t = false → K b H) | _ => False
theorem x_pick {c a b : Operand} : opW C d g H ⟨dst, .pick c a b, ty, pos, af, gd⟩ K = pickK (g c) (g a) (g b) H K := by
  simp only [opW, opF, pickK]
  generalize g c = gc
  cases gc with
  | v x => cases x with
    | bool t => cases t <;> simp [opD, isBS]
    | _ => simp [Out.no]
  | _ => simp [Out.no]
theorem x_pick_tt {a b : AV} : pickK (.v (.bool true)) a b H K = K a H := by simp [pickK]
theorem x_pick_ff {a b : AV} : pickK (.v (.bool false)) a b H K = K b H := by simp [pickK]
theorem x_pick_d {p : Prop} [Decidable p] {a b : AV} : pickK (.v (.bool (decide p))) a b H K = ((p → K a H) ∧ (¬ p → K b H)) := by simp [pickK]
def allocO (r : Option TK) (H : Heap) : Out := match r with | some r => ⟨True, .ptr H.length 0, H ++ [⟨r.zero.map .v, true, true⟩]⟩ | none => .no H
theorem x_alloc {t : TypeId} : opW C d g H ⟨dst, .alloc t, ty, pos, af, gd⟩ K = outK (allocO (tk C.P t) H) K := rfl
def boxO (cs : Option (List AV)) (H : Heap) : Out := match cs with | some cs => ⟨True, .ptr H.length 0, H ++ [⟨cs, true, true⟩]⟩ | none => .no H
theorem x_box {t : TypeId} {x : Operand} : opW C d g H ⟨dst, .box t x, ty, pos, af, gd⟩ K = outK (boxO (cellsA (g x)) H) K := rfl
def buildO (P : Program) (r : Option TK) (parts : List (Nat × AV)) (H : Heap) : Out :=
  match r with
  | some r => match r.sd with
    | .st fs => match fillA (fun i => fs[i]?) (r.zero.map .v) parts with
      | some cs => ⟨True, .agg cs, H⟩
      | none => .no H
    | .arr _ e => match tk P e with
      | some re => match fillA (fun i => some (i * re.size, re.size)) (r.zero.map .v) parts with
        | some cs => ⟨True, .agg cs, H⟩
        | none => .no H
      | none => .no H
    | _ => .no H
  | none => .no H
theorem x_build {t : TypeId} {parts : List (Nat × Operand)} : opW C d g H ⟨dst, .build t ⟨parts⟩, ty, pos, af, gd⟩ K = outK (buildO C.P (tk C.P t) (parts.map fun p => (p.1, g p.2)) H) K := rfl
def buildSliceO (P : Program) (d : Bool) (r : Option TK) (len : Nat) (parts : List (Nat × AV)) (H : Heap) : Out :=
  match r with
  | some r => match r.sd with
    | .sl e => match tk P e with
      | some re => match fillA (fun i => some (i * re.size, re.size)) (zerosA re.zero len) parts with
        | some cs => ⟨len * re.size ≤ 2 ^ 24 ∧ re.zero.length = re.size, .own re.size H.length 0 len, H ++ [⟨cs, true, !d⟩]⟩
        | none => .no H
      | none => .no H
    | _ => .no H
  | none => .no H
theorem buildSlice_d {P : Program} {r : Option TK} {n : Nat} {parts : List (Nat × AV)} {t : TypeId} {ps : Array (Nat × Operand)} :
    ((buildSliceO P false r n parts H).pre ∧ K (buildSliceO P false r n parts H).av (opD d (.buildSlice t n ps) H (buildSliceO P false r n parts H).H)) = outK (buildSliceO P d r n parts H) K := by
  have hno : ((Out.no H).pre ∧ K (Out.no H).av (opD d (.buildSlice t n ps) H (Out.no H).H)) = outK (Out.no H) K := by
    show (False ∧ _) = (False ∧ _)
    rw [false_and, false_and]
  cases r with
  | none => exact hno
  | some r =>
    simp only [buildSliceO]
    split
    · split
      · split
        · rename_i re _ _ cs _
          have e : opD d (.buildSlice t n ps) H (H ++ [⟨cs, true, !false⟩]) = H ++ [⟨cs, true, !d⟩] := by
            cases d with
            | false => rfl
            | true => exact fz_new H _
          show (_ ∧ K _ (opD d (.buildSlice t n ps) H (H ++ [⟨cs, true, !false⟩]))) = (_ ∧ K _ (H ++ [⟨cs, true, !d⟩]))
          rw [e]
        · exact hno
      · exact hno
    · exact hno
theorem x_buildSlice {t : TypeId} {n : Nat} {parts : List (Nat × Operand)} : opW C d g H ⟨dst, .buildSlice t n ⟨parts⟩, ty, pos, af, gd⟩ K = outK (buildSliceO C.P d (tk C.P t) n (parts.map fun p => (p.1, g p.2)) H) K := buildSlice_d (t := t) (n := n) (ps := ⟨parts⟩)
def loadO (r : Option TK) (a : AV) (H : Heap) : Out :=
  match r with
  | some r => match a with
    | .ptr k off => loadF H r.agg r.size ((hd H k).rd = true) (hd H k).cells off
    | .dp cs off => loadF H r.agg r.size True cs off
    | _ => .no H
  | none => .no H
theorem x_load {t : TypeId} {x : Operand} : opW C d g H ⟨dst, .load t x, ty, pos, af, gd⟩ K = outK (loadO (tk C.P t) (g x) H) K := rfl
theorem x_loadF1 {n : Nat} {ok : Prop} {cs : List AV} {off : Nat} : loadF H true n ok cs off = ⟨ok ∧ off + n ≤ cs.length, .agg ((cs.drop off).take n), H⟩ := rfl
theorem x_loadF0 {n : Nat} {ok : Prop} {cs : List AV} {off : Nat} : loadF H false n ok cs off = ⟨ok ∧ off < cs.length, cs.getD off .bad, H⟩ := rfl
def storeO (r : Option TK) (a : AV) (vc : Option (List AV)) (H : Heap) : Out :=
  match r, a, vc with
  | some r, .ptr k off, some vc => ⟨(hd H k).wr = true ∧ vc.length = r.size ∧ 0 < r.size ∧ vc.all leafA = true ∧ off + vc.length ≤ (hd H k).cells.length, .v undef, H.set k ⟨spl (hd H k).cells off vc, true, true⟩⟩
  | _, _, _ => .no H
theorem x_store {t : TypeId} {x y : Operand} : opW C d g H ⟨dst, .store t x y, ty, pos, af, gd⟩ K = outK (storeO (tk C.P t) (g x) (cellsA (g y)) H) K := rfl
def nilO (a : AV) (H : Heap) : Out := match a with | .ptr k off => ⟨True, .ptr k off, H⟩ | .dp cs off => ⟨True, .dp cs off, H⟩ | _ => .no H
theorem x_nilCheck {x : Operand} : opW C d g H ⟨dst, .nilCheck x, ty, pos, af, gd⟩ K = outK (nilO (g x) H) K := rfl
def binO (P : Program) (op : BinOp) (t : TypeId) (a b : AV) (H : Heap) : Out :=
  match a, b with
  | .v (.int k a), .v (.int k' b) => if isShift op then binF H (ashift op k a b) else if k = k' then binF H (abin op k a b) else .no H
  | .v (.float k a), .v (.float k' b) => if k = k' then binF H (aflt op k a b) else .no H
  | .v (.complex k a b), .v (.complex k' c d) => if k = k' then binF H (acpl op k a b c d) else .no H
  | .v (.bool a), .v (.bool b) => match tk P t with
    | some r => match r.sd with
      | .bool => binF H (aboth op (a == b))
      | _ => .no H
    | none => .no H
  | _, _ => .no H
theorem x_binOp {op : BinOp} {t t' : TypeId} {x : Operand} {y : Nat} : opW C d g H ⟨dst, .binOp op t x (.tmp y) t', ty, pos, af, gd⟩ K = outK (binO C.P op t (g x) (g (.tmp y)) H) K := by
  cases op <;> rfl
theorem x_binOpI {op : BinOp} {t t' : TypeId} {x : Operand} {k : IntKind} {n : Int} : opW C d g H ⟨dst, .binOp op t x (.const (.int k n)) t', ty, pos, af, gd⟩ K = outK (binO C.P op t (g x) (g (.const (.int k n))) H) K := by
  cases op <;> rfl
theorem x_binOpB {op : BinOp} {t t' : TypeId} {x : Operand} {b : Bool} : opW C d g H ⟨dst, .binOp op t x (.const (.bool b)) t', ty, pos, af, gd⟩ K = outK (binO C.P op t (g x) (g (.const (.bool b))) H) K := by
  cases op <;> rfl
theorem x_binOpF {op : BinOp} {t t' : TypeId} {x : Operand} {k : FloatKind} {b : Nat} : opW C d g H ⟨dst, .binOp op t x (.const (.float k b)) t', ty, pos, af, gd⟩ K = outK (binO C.P op t (g x) (g (.const (.float k b))) H) K := by
  cases op <;> rfl
theorem x_binOpX {op : BinOp} {t t' : TypeId} {x : Operand} {k : FloatKind} {a b : Nat} : opW C d g H ⟨dst, .binOp op t x (.const (.complex k a b)) t', ty, pos, af, gd⟩ K = outK (binO C.P op t (g x) (g (.const (.complex k a b))) H) K := by
  cases op <;> rfl
def fltO (o : Option Nat) (k : FloatKind) (H : Heap) : Out := match o with | some r => ⟨True, .v (.float k r), H⟩ | none => .no H
theorem x_feql {P : Program} {t : TypeId} {k : FloatKind} {a b : Nat} : binO P .eql t (.v (.float k a)) (.v (.float k b)) H = ⟨True, .v (.bool (k.format.order a b == some .eq)), H⟩ := by simp [binO, binF, aflt]
theorem x_fneq {P : Program} {t : TypeId} {k : FloatKind} {a b : Nat} : binO P .neq t (.v (.float k a)) (.v (.float k b)) H = ⟨True, .v (.bool (k.format.order a b != some .eq)), H⟩ := by simp [binO, binF, aflt]
theorem x_flss {P : Program} {t : TypeId} {k : FloatKind} {a b : Nat} : binO P .lss t (.v (.float k a)) (.v (.float k b)) H = ⟨True, .v (.bool (k.format.order a b == some .lt)), H⟩ := by simp [binO, binF, aflt]
theorem x_fleq {P : Program} {t : TypeId} {k : FloatKind} {a b : Nat} : binO P .leq t (.v (.float k a)) (.v (.float k b)) H = ⟨True, .v (.bool (k.format.order a b == some .lt || k.format.order a b == some .eq)), H⟩ := by simp [binO, binF, aflt]
theorem x_fgtr {P : Program} {t : TypeId} {k : FloatKind} {a b : Nat} : binO P .gtr t (.v (.float k a)) (.v (.float k b)) H = ⟨True, .v (.bool (k.format.order a b == some .gt)), H⟩ := by simp [binO, binF, aflt]
theorem x_fgeq {P : Program} {t : TypeId} {k : FloatKind} {a b : Nat} : binO P .geq t (.v (.float k a)) (.v (.float k b)) H = ⟨True, .v (.bool (k.format.order a b == some .gt || k.format.order a b == some .eq)), H⟩ := by simp [binO, binF, aflt]
theorem x_fmul {P : Program} {t : TypeId} {k : FloatKind} {a b : Nat} : binO P .mul t (.v (.float k a)) (.v (.float k b)) H = fltO (floatBits .mul k a b) k H := by
  simp only [binO, if_true, aflt]
  cases floatBits .mul k a b <;> rfl
theorem x_fadd {P : Program} {t : TypeId} {k : FloatKind} {a b : Nat} : binO P .add t (.v (.float k a)) (.v (.float k b)) H = fltO (floatBits .add k a b) k H := by
  simp only [binO, if_true, aflt]
  cases floatBits .add k a b <;> rfl
theorem x_fsub {P : Program} {t : TypeId} {k : FloatKind} {a b : Nat} : binO P .sub t (.v (.float k a)) (.v (.float k b)) H = fltO (floatBits .sub k a b) k H := by
  simp only [binO, if_true, aflt]
  cases floatBits .sub k a b <;> rfl
theorem x_fquo {P : Program} {t : TypeId} {k : FloatKind} {a b : Nat} : binO P .quo t (.v (.float k a)) (.v (.float k b)) H = fltO (floatBits .quo k a b) k H := by
  simp only [binO, if_true, aflt]
  cases floatBits .quo k a b <;> rfl
theorem x_ceql {P : Program} {t : TypeId} {k : FloatKind} {a b c e : Nat} : binO P .eql t (.v (.complex k a b)) (.v (.complex k c e)) H = ⟨True, .v (.bool (k.format.order a c == some .eq && k.format.order b e == some .eq)), H⟩ := by simp [binO, binF, acpl]
def eqNilK (d : Bool) (r : Option TK) (a : AV) (H : Heap) (K : AV → Heap → Prop) : Prop :=
  d = false ∧ (match r with | some r => (match r.sd with | .sl _ => True | _ => False) | none => False) ∧ (match a with
    | .sl _ cs => ∀ b : Bool, (b = true → cs = []) → K (.v (.bool b)) H
    | .own _ _ _ n => K (.v (.bool false)) H
    | .v (.slice none _ _) => K (.v (.bool true)) H
    | _ => False)
theorem x_eqNil {t t' : TypeId} {x : Operand} : opW C d g H ⟨dst, .binOp .eql t x (.const (.slice none 0 0)) t', ty, pos, af, gd⟩ K = eqNilK d (tk C.P t) (g x) H K := rfl
theorem x_add {P : Program} {t : TypeId} {k : IntKind} {a b : Int} : binO P .add t (.v (.int k a)) (.v (.int k b)) H = ⟨True, .v (.int k (k.wrap (a + b))), H⟩ := by simp [binO, isShift, binF, abin]
theorem x_sub {P : Program} {t : TypeId} {k : IntKind} {a b : Int} : binO P .sub t (.v (.int k a)) (.v (.int k b)) H = ⟨True, .v (.int k (k.wrap (a - b))), H⟩ := by simp [binO, isShift, binF, abin]
theorem x_mul {P : Program} {t : TypeId} {k : IntKind} {a b : Int} : binO P .mul t (.v (.int k a)) (.v (.int k b)) H = ⟨True, .v (.int k (k.wrap (a * b))), H⟩ := by simp [binO, isShift, binF, abin]
theorem x_quo {P : Program} {t : TypeId} {k : IntKind} {a b : Int} : binO P .quo t (.v (.int k a)) (.v (.int k b)) H = ⟨b ≠ 0, .v (.int k (k.wrap (a.tdiv b))), H⟩ := by simp [binO, isShift, binF, abin]
theorem x_rem {P : Program} {t : TypeId} {k : IntKind} {a b : Int} : binO P .rem t (.v (.int k a)) (.v (.int k b)) H = ⟨b ≠ 0, .v (.int k (a.tmod b)), H⟩ := by simp [binO, isShift, binF, abin]
def bits (op : BinOp) (k : IntKind) (a b : Int) : Int :=
  match op with
  | .and => k.wrap (BitVec.ofInt k.bits a &&& BitVec.ofInt k.bits b).toNat
  | .or => k.wrap (BitVec.ofInt k.bits a ||| BitVec.ofInt k.bits b).toNat
  | .xor => k.wrap (BitVec.ofInt k.bits a ^^^ BitVec.ofInt k.bits b).toNat
  | .andNot => k.wrap (BitVec.ofInt k.bits a &&& ~~~(BitVec.ofInt k.bits b)).toNat
  | _ => 0
theorem x_and {P : Program} {t : TypeId} {k : IntKind} {a b : Int} : binO P .and t (.v (.int k a)) (.v (.int k b)) H = ⟨True, .v (.int k (bits .and k a b)), H⟩ := by simp [binO, isShift, binF, abin, bits]
theorem x_or {P : Program} {t : TypeId} {k : IntKind} {a b : Int} : binO P .or t (.v (.int k a)) (.v (.int k b)) H = ⟨True, .v (.int k (bits .or k a b)), H⟩ := by simp [binO, isShift, binF, abin, bits]
theorem x_xor {P : Program} {t : TypeId} {k : IntKind} {a b : Int} : binO P .xor t (.v (.int k a)) (.v (.int k b)) H = ⟨True, .v (.int k (bits .xor k a b)), H⟩ := by simp [binO, isShift, binF, abin, bits]
theorem x_andNot {P : Program} {t : TypeId} {k : IntKind} {a b : Int} : binO P .andNot t (.v (.int k a)) (.v (.int k b)) H = ⟨True, .v (.int k (bits .andNot k a b)), H⟩ := by simp [binO, isShift, binF, abin, bits]
theorem x_shl {P : Program} {t : TypeId} {k k' : IntKind} {a b : Int} : binO P .shl t (.v (.int k a)) (.v (.int k' b)) H = ⟨0 ≤ b, .v (.int k (k.wrap (a * 2 ^ (min b.toNat k.bits)))), H⟩ := by simp [binO, isShift, binF, ashift]
theorem x_shr {P : Program} {t : TypeId} {k k' : IntKind} {a b : Int} : binO P .shr t (.v (.int k a)) (.v (.int k' b)) H = ⟨0 ≤ b, .v (.int k (a.fdiv (2 ^ (min b.toNat k.bits)))), H⟩ := by simp [binO, isShift, binF, ashift]
theorem x_eql {P : Program} {t : TypeId} {k : IntKind} {a b : Int} : binO P .eql t (.v (.int k a)) (.v (.int k b)) H = ⟨True, .v (.bool (decide (a = b))), H⟩ := by
  have : (a == b) = decide (a = b) := by by_cases h : a = b <;> simp [h]
  simp [binO, isShift, binF, abin, this]
theorem x_neq {P : Program} {t : TypeId} {k : IntKind} {a b : Int} : binO P .neq t (.v (.int k a)) (.v (.int k b)) H = ⟨True, .v (.bool (decide (¬ a = b))), H⟩ := by
  have : (a != b) = decide (¬ a = b) := by by_cases h : a = b <;> simp [h]
  simp [binO, isShift, binF, abin, this]
theorem x_lss {P : Program} {t : TypeId} {k : IntKind} {a b : Int} : binO P .lss t (.v (.int k a)) (.v (.int k b)) H = ⟨True, .v (.bool (decide (a < b))), H⟩ := by simp [binO, isShift, binF, abin]
theorem x_leq {P : Program} {t : TypeId} {k : IntKind} {a b : Int} : binO P .leq t (.v (.int k a)) (.v (.int k b)) H = ⟨True, .v (.bool (decide (a ≤ b))), H⟩ := by simp [binO, isShift, binF, abin]
theorem x_gtr {P : Program} {t : TypeId} {k : IntKind} {a b : Int} : binO P .gtr t (.v (.int k a)) (.v (.int k b)) H = ⟨True, .v (.bool (decide (b < a))), H⟩ := by simp [binO, isShift, binF, abin]
theorem x_geq {P : Program} {t : TypeId} {k : IntKind} {a b : Int} : binO P .geq t (.v (.int k a)) (.v (.int k b)) H = ⟨True, .v (.bool (decide (b ≤ a))), H⟩ := by simp [binO, isShift, binF, abin]
theorem x_eqb {P : Program} {t : TypeId} {a b : Bool} : binO P .eql t (.v (.bool a)) (.v (.bool b)) H = (match tk P t with | some r => (match r.sd with | .bool => ⟨True, .v (.bool (a == b)), H⟩ | _ => .no H) | none => .no H) := rfl
theorem x_neb {P : Program} {t : TypeId} {a b : Bool} : binO P .neq t (.v (.bool a)) (.v (.bool b)) H = (match tk P t with | some r => (match r.sd with | .bool => ⟨True, .v (.bool (!(a == b))), H⟩ | _ => .no H) | none => .no H) := rfl
def unO (op : UnOp) (a : AV) (H : Heap) : Out :=
  match op, a with
  | .neg, .v (.int k n) => ⟨True, .v (.int k (k.wrap (0 - n))), H⟩
  | .not, .v (.bool b) => ⟨True, .v (.bool !b), H⟩
  | _, _ => .no H
theorem x_unOp {op : UnOp} {t : TypeId} {x : Operand} : opW C d g H ⟨dst, .unOp op t x, ty, pos, af, gd⟩ K = outK (unO op (g x) H) K := rfl
theorem x_not {p : Prop} [Decidable p] : unO .not (.v (.bool (decide p))) H = ⟨True, .v (.bool (decide (¬ p))), H⟩ := by simp [unO]
theorem x_notb {b : Bool} : unO .not (.v (.bool b)) H = ⟨True, .v (.bool (!b)), H⟩ := rfl
theorem x_neg {k : IntKind} {n : Int} : unO .neg (.v (.int k n)) H = ⟨True, .v (.int k (k.wrap (0 - n))), H⟩ := rfl
def convO (r r' : Option TK) (a : AV) (H : Heap) : Out :=
  match r, r', a with
  | some _, some r, .v (.int _ n) => match r.sd with
    | .int k => ⟨True, .v (.int k (k.wrap n)), H⟩
    | .flt k => ⟨True, .v (.float k (floatOfInt k n)), H⟩
    | _ => .no H
  | some _, some r, .v (.float s b) => match r.sd with
    | .int k => match floatToIntVal s b k with
      | some n => ⟨True, .v (.int k n), H⟩
      | none => .no H
    | _ => .no H
  | _, _, _ => .no H
theorem x_convert {s t : TypeId} {x : Operand} : opW C d g H ⟨dst, .convert s t x, ty, pos, af, gd⟩ K = outK (convO (tk C.P s) (tk C.P t) (g x) H) K := rfl
def makeO (P : Program) (r : Option TK) (a b : AV) (H : Heap) : Out :=
  match r with
  | some r => match r.sd with
    | .sl e => match tk P e, a, b with
      | some re, .v (.int _ n), .v (.int _ m) => ⟨n = m ∧ 0 ≤ n ∧ n < 2 ^ 62 ∧ re.bytes * n ≤ 2 ^ 48 ∧ re.zero.length = re.size, .own re.size H.length 0 n.toNat, H ++ [⟨zerosA re.zero n.toNat, true, true⟩]⟩
      | _, _, _ => .no H
    | _ => .no H
  | none => .no H
theorem x_make {t : TypeId} {l c : Operand} : opW C d g H ⟨dst, .makeSlice t l c, ty, pos, af, gd⟩ K = outK (makeO C.P (tk C.P t) (g l) (g c) H) K := rfl
def sliceO (P : Program) (r : Option TK) (a : AV) (l h : Int → Option Int) (H : Heap) : Out :=
  match r with
  | some r => match r.sd with
    | .sl e => match tk P e with
      | some re => match a with
        | .own sz k off n => match l 0, h n with
          | some l, some h => ⟨0 ≤ l ∧ l ≤ h ∧ h ≤ n ∧ sz = re.size, .own sz k (off + l.toNat * re.size) (h.toNat - l.toNat), H⟩
          | _, _ => .no H
        | .sl n cs => match l 0, h n with
          | some l, some h => ⟨0 ≤ l ∧ l ≤ h ∧ h ≤ n, .sl (h.toNat - l.toNat) ((cs.drop (l.toNat * re.size)).take ((h.toNat - l.toNat) * re.size)), H⟩
          | _, _ => .no H
        | _ => .no H
      | none => .no H
    | _ => .no H
  | none => .no H
theorem x_slice {t : TypeId} {x : Operand} {lo hi : Option Operand} : opW C d g H ⟨dst, .slice t x lo hi none, ty, pos, af, gd⟩ K = outK (sliceO C.P (tk C.P t) (g x) (fun d => boundA g d lo) (fun d => boundA g d hi) H) K := rfl
theorem x_bound0 {d : Int} : boundA g d none = some d := rfl
def boundV (a : AV) : Option Int := match a with | .v (.int _ n) => some n | _ => none
theorem x_bound1 {d : Int} {y : Operand} : boundA g d (some y) = boundV (g y) := rfl
def faddrO (r : Option TK) (a : AV) (f : Nat) (H : Heap) : Out :=
  match r with
  | some r => match r.sd with
    | .st fs => match fs[f]? with
      | some (o, sz) => match a with
        | .ptr k off => ⟨sz ≠ 0, .ptr k (off + o), H⟩
        | .dp cs off => ⟨sz ≠ 0, .dp cs (off + o), H⟩
        | _ => .no H
      | none => .no H
    | _ => .no H
  | none => .no H
theorem x_fieldAddr {s : TypeId} {x : Operand} {f : Nat} : opW C d g H ⟨dst, .fieldAddr s x f, ty, pos, af, gd⟩ K = outK (faddrO (tk C.P s) (g x) f H) K := rfl
def iaddrO (P : Program) (r : Option TK) (a i : AV) (H : Heap) : Out :=
  match r, i with
  | some r, .v (.int _ i) => match r.sd with
    | .sl e => match tk P e with
      | some re => match a with
        | .own sz k off n => ⟨0 ≤ i ∧ i < n ∧ sz ≠ 0, .ptr k (off + i.toNat * re.size), H⟩
        | .sl n cs => ⟨0 ≤ i ∧ i < n ∧ i.toNat * re.size < cs.length, .dp cs (i.toNat * re.size), H⟩
        | _ => .no H
      | none => .no H
    | .arr n e => match tk P e with
      | some re => match a with
        | .ptr k off => ⟨0 ≤ i ∧ i < n, .ptr k (off + i.toNat * re.size), H⟩
        | .dp cs off => ⟨0 ≤ i ∧ i < n, .dp cs (off + i.toNat * re.size), H⟩
        | _ => .no H
      | none => .no H
    | _ => .no H
  | _, _ => .no H
theorem x_indexAddr {t : TypeId} {x i : Operand} : opW C d g H ⟨dst, .indexAddr t x i, ty, pos, af, gd⟩ K = outK (iaddrO C.P (tk C.P t) (g x) (g i) H) K := rfl
def extractO (a : AV) (ix : Nat) (H : Heap) : Out := match a with | .tup vs => ⟨ix < vs.length, vs.getD ix .bad, H⟩ | _ => .no H
theorem x_extract {x : Operand} {ix : Nat} : opW C d g H ⟨dst, .extract x ix, ty, pos, af, gd⟩ K = outK (extractO (g x) ix H) K := rfl
def fieldO (P : Program) (q : Option (Nat × TypeId)) (a : AV) (H : Heap) : Out :=
  match q with
  | some p => match tk P p.2, a with
    | some r, .agg cs => loadF H r.agg r.size True cs p.1
    | _, _ => .no H
  | none => .no H
theorem x_field {s : TypeId} {x : Operand} {f : Nat} : opW C d g H ⟨dst, .field s x f, ty, pos, af, gd⟩ K = outK (fieldO C.P (fdOf C.P s f) (g x) H) K := rfl
def lenO (r : Option TK) (a : AV) (H : Heap) : Out :=
  match r with
  | some r => match r.sd, a with
    | .sl _, .own _ _ _ n => ⟨True, .v (.int .i64 n), H⟩
    | .sl _, .sl n _ => ⟨True, .v (.int .i64 n), H⟩
    | .sl _, .v (.slice _ n _) => ⟨True, .v (.int .i64 n), H⟩
    | .arr n _, _ => ⟨True, .v (.int .i64 n), H⟩
    | _, _ => .no H
  | none => .no H
theorem x_len {x : Operand} {t : TypeId} : opW C d g H ⟨dst, .call ⟨.builtin .len, ⟨[x]⟩, ⟨[t]⟩⟩, ty, pos, af, gd⟩ K = outK (lenO (tk C.P t) (g x) H) K := rfl
def cplxO (a b : AV) (H : Heap) : Out := match a, b with | .v (.float k a), .v (.float k' b) => ⟨k = k', .v (.complex k a b), H⟩ | _, _ => .no H
def realO (a : AV) (H : Heap) : Out := match a with | .v (.complex k a _) => ⟨True, .v (.float k a), H⟩ | _ => .no H
def imagO (a : AV) (H : Heap) : Out := match a with | .v (.complex k _ b) => ⟨True, .v (.float k b), H⟩ | _ => .no H
theorem x_cplx {x y : Operand} {ts : Array TypeId} : opW C d g H ⟨dst, .call ⟨.builtin .complex, ⟨[x, y]⟩, ts⟩, ty, pos, af, gd⟩ K = outK (cplxO (g x) (g y) H) K := rfl
theorem x_real {x : Operand} {ts : Array TypeId} : opW C d g H ⟨dst, .call ⟨.builtin .real, ⟨[x]⟩, ts⟩, ty, pos, af, gd⟩ K = outK (realO (g x) H) K := rfl
theorem x_imag {x : Operand} {ts : Array TypeId} : opW C d g H ⟨dst, .call ⟨.builtin .imag, ⟨[x]⟩, ts⟩, ty, pos, af, gd⟩ K = outK (imagO (g x) H) K := rfl
def maxO (a b : AV) (H : Heap) : Out := match a, b with | .v (.int k a), .v (.int _ b) => ⟨True, .v (.int k (if b > a then b else a)), H⟩ | _, _ => .no H
def minO (a b : AV) (H : Heap) : Out := match a, b with | .v (.int k a), .v (.int _ b) => ⟨True, .v (.int k (if b < a then b else a)), H⟩ | _, _ => .no H
theorem x_max {x y : Operand} {ts : Array TypeId} : opW C d g H ⟨dst, .call ⟨.builtin .max, ⟨[x, y]⟩, ts⟩, ty, pos, af, gd⟩ K = outK (maxO (g x) (g y) H) K := rfl
theorem x_min {x y : Operand} {ts : Array TypeId} : opW C d g H ⟨dst, .call ⟨.builtin .min, ⟨[x, y]⟩, ts⟩, ty, pos, af, gd⟩ K = outK (minO (g x) (g y) H) K := rfl
theorem x_maxO {k k' : IntKind} {a b : Int} : maxO (.v (.int k a)) (.v (.int k' b)) H = ⟨True, .v (.int k (max a b)), H⟩ := by
  simp only [maxO]; congr 3; split <;> omega
theorem x_minO {k k' : IntKind} {a b : Int} : minO (.v (.int k a)) (.v (.int k' b)) H = ⟨True, .v (.int k (min a b)), H⟩ := by
  simp only [minO]; congr 3; split <;> omega
theorem x_append {s x : Operand} {t t' : TypeId} : opW C d g H ⟨dst, .call ⟨.builtin .append, ⟨[s, x]⟩, ⟨[t, t']⟩⟩, ty, pos, af, gd⟩ K = outK (appF C.P g H s x t t') K := rfl
/-- A call, by a contract; or by one over the own objects. -/
def callK (C : Ctx) (d : Bool) (f : FuncId) (args : List AV) (H : Heap) (K : AV → Heap → Prop) : Prop :=
  (∃ ind r, CallOK C ind f (fzH d ind H args) args r ∧ K r (fzH d ind H args)) ∨ (d = false ∧ ∃ Post, HSat C f args H Post ∧ ∀ r H', Post r H' → K r H') ∨ ∃ r, extF C.P f args = some r ∧ K (.v r) H
theorem x_call {f : FuncId} {args : List Operand} {ts : Array TypeId} : opW C d g H ⟨dst, .call ⟨.value (.func f), ⟨args⟩, ts⟩, ty, pos, af, gd⟩ K = callK C d f (args.map g) H K := rfl
theorem callK_of {f : FuncId} {args args' : List AV} {r : AV} (ind : Bool) {H' : Heap} (hc : callable C.P f = true) (h : Sat C ind f args' r) (hH : fzH d ind H args = H') (ha : args.map (snap H') = args') (ho : ∀ a ∈ args, ownOK H' ind a) (hd : ∀ a ∈ args', IsD a) (hK : K r H') : callK C d f args H K := by
  subst hH
  subst ha
  exact .inl ⟨ind, r, ⟨hc, fun a q => ⟨ho a q, hd _ (List.mem_map_of_mem q)⟩, h⟩, hK⟩
theorem callK_ext {f : FuncId} {args : List AV} {r : Value} (h : extF C.P f args = some r) (hK : K (.v r) H) : callK C d f args H K := .inr (.inr ⟨r, h, hK⟩)
end

end Go.Ab

set_option linter.unusedVariables false
set_option linter.unusedSimpArgs false
set_option linter.unusedSectionVars false
namespace Go.Ab

/-! what holds behind may say less -/
section
variable {C : Ctx} {N : Nat}

theorem opW_mono {d : Bool} {g : Operand → AV} {H : Heap} {o : Oper} {K1 K2 : AV → Heap → Prop} (hk : ∀ a H, K1 a H → K2 a H) (hw : opW C d g H o K1) : opW C d g H o K2 := by
  unfold opW at hw ⊢
  split at hw
  · rename_i f args ts ho
    rcases hw with ⟨ind, r, h1, h2⟩ | ⟨h0, P, h1, h2⟩ | ⟨r, h1, h2⟩
    · exact .inl ⟨ind, r, h1, hk _ _ h2⟩
    · exact .inr (.inl ⟨h0, P, h1, fun r H' q => hk _ _ (h2 r H' q)⟩)
    · exact .inr (.inr ⟨r, h1, hk _ _ h2⟩)
  · rename_i args ts ho
    split at hw
    · exact ⟨hw.1, hk _ _ hw.2⟩
    · exact hw.elim
  · rename_i t x t' ho
    obtain ⟨h0, h1, h2⟩ := hw
    refine ⟨h0, h1, ?_⟩
    split at h2
    · exact fun b hb => hk _ _ (h2 b hb)
    · exact hk _ _ h2
    · exact hk _ _ h2
    · exact h2.elim
  · exact ⟨hw.1, hk _ _ hw.2⟩

theorem opsW_mono {d : Bool} {all : Array Oper} {K1 K2 : AState → Prop} (hk : ∀ σ, K1 σ → K2 σ) : ∀ (l : List Oper) (σ : AState), opsW C N d all l K1 σ → opsW C N d all l K2 σ := by
  intro l
  induction l with
  | nil => intro σ h; exact hk σ h
  | cons o r ih =>
    intro σ h
    obtain ⟨hd, h⟩ := h
    refine ⟨hd, ?_⟩
    cases hgd : o.guard with
    | none =>
      rw [hgd] at h
      exact opW_mono (fun a H q => ih _ q) h
    | some p =>
      obtain ⟨j, want⟩ := p
      rw [hgd] at h
      simp only at h ⊢
      generalize gslot all j σ.slots = ga at h
      match ga, h with
      | .v x, h => exact ⟨fun q => opW_mono (fun a H q => ih _ q) (h.1 q), fun q => ih _ (h.2 q)⟩

def JumpMono (jump : Code → APost → AState → Prop) : Prop := ∀ (c : Code) (Q Q' : APost) (σ : AState), (∀ e σ, Q e σ → Q' e σ) → jump c Q σ → jump c Q' σ

theorem thenA_mono {K K' : AState → Prop} {Q Q' : APost} (h1 : ∀ σ, K σ → K' σ) (h2 : ∀ e σ, Q e σ → Q' e σ) : ∀ e σ, thenA K Q e σ → thenA K' Q' e σ := by
  intro e σ h
  cases e with
  | normal => exact h1 _ h
  | _ => exact h2 _ _ h

theorem runT_mono {all : Array Oper} {K K' : AState → Prop} (h : ∀ σ, K σ → K' σ) : ∀ (t : OT) (b : Bool) (σ : AState), runT C N all K t b σ → runT C N all K' t b σ := by
  intro t
  induction t with
  | nil => intro b σ q; cases b with
    | false => exact h σ q
    | true => trivial
  | cons r x y ihx ihy => intro b σ q; exact ⟨opsW_mono (fun σ q => ihx false σ q) _ _ q.1, ihy true σ q.2⟩
theorem aW_mono {jump : Code → APost → AState → Prop} (hj : JumpMono jump) : JumpMono (aW C N jump) := by
  intro c
  induction c with
  | skip => intro Q Q' σ h hw; exact h _ _ hw
  | label l => intro Q Q' σ h hw; exact h _ _ hw
  | region id ops draw =>
    intro Q Q' σ h hw
    cases draw with
    | false => exact opsW_mono (fun σ q => h _ _ q) _ _ hw
    | true =>
      simp only [aW] at hw ⊢
      cases hdo : drawOk ops with
      | true => rw [hdo] at hw; exact opsW_mono (fun σ q => h _ _ q) _ _ hw
      | false =>
        rw [hdo] at hw
        simp only at hw ⊢
        cases heo : eOk ops with
        | true => rw [heo] at hw; exact fun l hl => opsW_mono (fun σ q => h _ _ q) _ _ (hw l hl)
        | false => rw [heo] at hw; exact ⟨hw.1, runT_mono (fun σ q => h _ _ q) _ _ _ hw.2⟩
  | seq x y ihx ihy => intro Q Q' σ h hw; exact ihx _ _ σ (thenA_mono (fun σ q => ihy _ _ σ h q) h) hw
  | cond c x y ihx ihy =>
    intro Q Q' σ h hw
    simp only [aW] at hw ⊢
    generalize evalA C.G σ.slots c = g at hw
    match g, hw with
    | .v (.bool b), hw => exact ⟨fun q => ihx _ _ σ h (hw.1 q), fun q => ihy _ _ σ h (hw.2 q)⟩
  | block id c ih =>
    intro Q Q' σ h hw
    refine ih _ _ σ (fun e σ q => ?_) hw
    cases e with
    | exit id' =>
      simp only [inBlockA] at q ⊢
      split at q
      · exact h _ _ q
      · exact h _ _ q
    | _ => exact h _ _ q
  | loop c ih =>
    intro Q Q' σ h hw
    obtain ⟨n, fb, hw⟩ := hw
    refine ⟨n, fb, ?_⟩
    have h : ∀ e σ, frzA fb Q e σ → frzA fb Q' e σ := fun e σ q => by
      cases fb with
      | none => exact h e σ q
      | some o => cases o <;> exact h e _ q
    induction n generalizing σ with
    | zero => exact hw.elim
    | succ n ihn => exact ih _ _ σ (thenA_mono (fun σ q => ihn σ q) h) hw
  | scope c ih =>
    intro Q Q' σ h hw
    obtain ⟨n, hw⟩ := hw
    refine ⟨n, ih _ _ σ (fun e σ q => ?_) hw⟩
    clear hw
    induction n generalizing e σ with
    | zero => cases e with
      | goto l => exact q.elim
      | _ => exact h _ _ q
    | succ n ihn => cases e with
      | goto l =>
        simp only [scopeA] at q ⊢
        split at q
        · exact hj _ _ _ _ (fun e σ q => ihn e σ q) q
        · exact q.elim
      | _ => exact h _ _ q
  | exit id => intro Q Q' σ h hw; exact h _ _ hw
  | goto l => intro Q Q' σ h hw; exact h _ _ hw
  | ret => intro Q Q' σ h hw; exact h _ _ hw
  | rangeFunc f ps as bd ih1 ih2 => intro Q Q' σ h hw; exact hw.elim
  | refuse why => intro Q Q' σ h hw; exact hw.elim

theorem noJump_mono : JumpMono noJump := fun _ _ _ _ _ h => h.elim
theorem aW0_mono : JumpMono (aW C N noJump) := aW_mono noJump_mono

theorem loopA_le {jump : Code → APost → AState → Prop} (hj : JumpMono jump) {c : Code} {Q : APost} : ∀ (n m : Nat) (σ : AState), n ≤ m → loopA (aW C N jump c) Q n σ → loopA (aW C N jump c) Q m σ := by
  intro n
  induction n with
  | zero => intro m σ _ h; exact h.elim
  | succ n ih =>
    intro m σ hm h
    cases m with
    | zero => omega
    | succ m => exact aW_mono hj _ _ _ σ (thenA_mono (fun σ q => ih m σ (by omega) q) (fun _ _ q => q)) h

/-- A LOOP: what holds at each round's head, and how many rounds are left at the most. -/
theorem loop_of {jump : Code → APost → AState → Prop} (hj : JumpMono jump) {c : Code} {Q : APost} (I : Nat → AState → Prop) (hI : ∀ n σ, I n σ → aW C N jump c (thenA (fun σ' => ∃ m, m < n ∧ I m σ') Q) σ) {n : Nat} {σ : AState} (h : I n σ) :
    aW C N jump (.loop c) Q σ := by
  have key : ∀ n σ, I n σ → loopA (aW C N jump c) Q (n + 1) σ := by
    intro n
    induction n using Nat.strongRecOn with
    | _ n ih =>
      intro σ h
      refine aW_mono hj _ _ _ σ (thenA_mono (fun σ' q => ?_) (fun _ _ q => q)) (hI n σ h)
      obtain ⟨m, hm, q⟩ := q
      exact loopA_le hj (m + 1) n σ' (by omega) (ih m hm σ' q)
  exact ⟨n + 1, none, key n σ h⟩
theorem x_frz {Q : APost} {e : AE} {σ : AState} : frzA (some none) Q e σ = Q e ⟨σ.slots, fzAll σ.H⟩ := rfl
theorem x_frk {Q : APost} {e : AE} {σ : AState} {ks : List Nat} : frzA (some (some ks)) Q e σ = Q e ⟨σ.slots, fzL σ.H ks⟩ := rfl

end

/-! rows of uint32 -/
def u32s (l : List Nat) : List AV := l.map fun (n : Nat) => .v (.int .u32 (n : Int))
def U32 (l : List Nat) : AV := .sl l.length (u32s l)
abbrev I64 (i : Int) : AV := .v (.int .i64 i)
abbrev W64 (i : Int) : AV := .v (.int .u64 i)
abbrev W32 (i : Int) : AV := .v (.int .u32 i)
abbrev Bo (b : Bool) : AV := .v (.bool b)

@[simp] theorem length_u32s (l : List Nat) : (u32s l).length = l.length := by simp [u32s]
theorem getD_u32s {l : List Nat} {i : Nat} (h : i < l.length) : (u32s l).getD i .bad = .v (.int .u32 (l.getD i 0 : Nat)) := by simp [u32s, List.getD_eq_getElem?_getD, h]
theorem take_u32s (l : List Nat) (n : Nat) : (u32s l).take n = u32s (l.take n) := by simp [u32s]
theorem drop_u32s (l : List Nat) (n : Nat) : (u32s l).drop n = u32s (l.drop n) := by simp [u32s]
theorem append_u32s (l m : List Nat) : u32s l ++ u32s m = u32s (l ++ m) := by simp [u32s]
theorem u32s_nil {l : List Nat} (h : u32s l = []) : l = [] := by simpa [u32s] using h
theorem snap0_u32s (l : List Nat) : (u32s l).map snap0 = u32s l := by simp [u32s, snap0]
theorem leaf_u32s (l : List Nat) : (u32s l).all leafA = true := by simp [u32s, leafA, leafV]
theorem zeros_u32s (n : Nat) : zerosA [.int .u32 0] n = u32s (List.replicate n 0) := by
  apply List.ext_getElem
  · simp [zerosA]
  · intro i h1 h2
    simp [zerosA, u32s, Nat.mod_one]
theorem spl_u32s {l : List Nat} {i : Nat} {x : Int} (hi : i < l.length) (h0 : 0 ≤ x) : spl (u32s l) i [.v (.int .u32 x)] = u32s (l.set i x.toNat) := by
  obtain ⟨n, rfl⟩ := Int.eq_ofNat_of_zero_le h0
  rw [List.set_eq_take_append_cons_drop, if_pos hi]
  simp [spl, u32s, List.map_take, List.map_drop]
theorem isD_sl {n : Nat} {cs : List AV} (h : ∀ c ∈ cs, IsD c) : IsD (.sl n cs) := .sl n cs fun i hi => h _ (by simp [List.getD_eq_getElem?_getD, hi])
theorem isD_agg {cs : List AV} (h : ∀ c ∈ cs, IsD c) : IsD (.agg cs) := .agg cs fun i hi => h _ (by simp [List.getD_eq_getElem?_getD, hi])
theorem isD_tup {cs : List AV} (h : ∀ c ∈ cs, IsD c) : IsD (.tup cs) := .tup cs fun i hi => h _ (by simp [List.getD_eq_getElem?_getD, hi])
theorem isD_u32 (n : Nat) (l : List Nat) : IsD (.sl n (u32s l)) := isD_sl fun c hc => by
  simp only [u32s, List.mem_map] at hc
  obtain ⟨x, _, rfl⟩ := hc
  exact .v _
theorem snap_sl {H : Heap} {n : Nat} {cs : List AV} : snap H (.sl n cs) = .sl n cs := rfl
theorem snap_own {H : Heap} {sz k off n : Nat} : snap H (.own sz k off n) = .sl n ((((hd H k).cells.drop off).take (n * sz)).map snap0) := rfl
theorem snap_int {H : Heap} {k : IntKind} {x : Int} : snap H (.v (.int k x)) = .v (.int k x) := rfl
theorem snap_bool {H : Heap} {b : Bool} : snap H (.v (.bool b)) = .v (.bool b) := rfl
theorem snap_nil {H : Heap} : snap H (.v (.slice none 0 0)) = .sl 0 [] := rfl
theorem snap_agg {H : Heap} {cs : List AV} : snap H (.agg cs) = .agg (cs.map (snap1 H)) := rfl
theorem snap_tup {H : Heap} {cs : List AV} : snap H (.tup cs) = .tup (cs.map (snap1 H)) := rfl
theorem snap1_sl {H : Heap} {n : Nat} {cs : List AV} : snap1 H (.sl n cs) = .sl n cs := rfl
theorem snap1_own {H : Heap} {sz k off n : Nat} : snap1 H (.own sz k off n) = .sl n ((((hd H k).cells.drop off).take (n * sz)).map snap0) := rfl
theorem snap1_int {H : Heap} {k : IntKind} {x : Int} : snap1 H (.v (.int k x)) = .v (.int k x) := rfl
theorem snap1_bool {H : Heap} {b : Bool} : snap1 H (.v (.bool b)) = .v (.bool b) := rfl
theorem snap1_nil {H : Heap} : snap1 H (.v (.slice none 0 0)) = .sl 0 [] := rfl

def tab32 : List Value := [.int .u8 0, .int .u8 1, .int .u8 28, .int .u8 2, .int .u8 29, .int .u8 14, .int .u8 24, .int .u8 3, .int .u8 30, .int .u8 22, .int .u8 20, .int .u8 15, .int .u8 25, .int .u8 17, .int .u8 4, .int .u8 8, .int .u8 31, .int .u8 27, .int .u8 13, .int .u8 23, .int .u8 21, .int .u8 19, .int .u8 16, .int .u8 7, .int .u8 26, .int .u8 12, .int .u8 18, .int .u8 6, .int .u8 11, .int .u8 5, .int .u8 10, .int .u8 9]

theorem x_m32 : min 32 64 = 32 := rfl

/-! numbers that fit are not wrapped -/
theorem wrap_i64 {x : Int} (h0 : -9223372036854775808 ≤ x) (h1 : x ≤ 9223372036854775807) : IntKind.i64.wrap x = x := by rw [IntKind.wrap_i64]; omega
theorem wrap_u64 {x : Int} (h0 : 0 ≤ x) (h1 : x < 18446744073709551616) : IntKind.u64.wrap x = x := by
  simp only [IntKind.wrap, IntKind.signed, IntKind.bits]; simp; omega
theorem wrap_u64' (x : Int) : IntKind.u64.wrap x = x % 18446744073709551616 := by simp [IntKind.wrap, IntKind.signed, IntKind.bits]
theorem wrap_u32 (x : Int) : IntKind.u32.wrap x = x % 4294967296 := by simp [IntKind.wrap, IntKind.signed, IntKind.bits]
/-! a scope that is left by one label -/
section
variable {C : Ctx} {N : Nat}
end
attribute [irreducible] drawOk linsA noCall eOk linsEA tOk treeEA aW
end Go.Ab
