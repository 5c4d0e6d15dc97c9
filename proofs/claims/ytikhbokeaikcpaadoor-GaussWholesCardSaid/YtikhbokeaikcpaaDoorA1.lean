/- An abstract machine for Go functions that compute with lists: values without addresses, a heap of the call's own objects. Its soundness over the model stands in the texts that follow. -/
import Derived.Orders
import Derived.Below
import Derived.ScopeJumps
import Derived.WalkKit
import Derived.OwnWalk
import Derived.Laws.MakeOwn
import Derived.Laws.FloatArith
import Derived.Laws.Externs
import Derived.Laws.IdiomCopy
import Derived.ArgAppend
import Derived.KernelRfl
import Derived.Laws.CopyRow
import Derived.Laws.CopyOwn
/- An abstract machine for Go functions that compute with lists: values without addresses, a heap of the call's own objects. Its soundness over the model stands in the texts that follow. -/
set_option linter.unusedVariables false
set_option maxRecDepth 20000
set_option linter.unusedSimpArgs false
namespace Go.Ab
open Go.RowKit (Below)

inductive AV where
  | bad
  | v (x : Value)
  | sl (n : Nat) (cs : List AV)
  | own (sz k off n : Nat)
  | ptr (k off : Nat)
  | dp (cs : List AV) (off : Nat)
  | agg (cs : List AV)
  | tup (vs : List AV)
instance : Inhabited AV := ⟨.bad⟩

structure AObj where
  cells : List AV
  rd : Bool
  wr : Bool
abbrev Heap := List AObj

structure AState where
  slots : List (Nat × AV)
  H : Heap

def look : List (Nat × AV) → Nat → AV
  | [], _ => .bad
  | (t', a) :: r, t => match Nat.beq t' t with | true => a | false => look r t

abbrev Mu := Nat → Option Addr

/-- What of the world a value hangs on: mu: where the own objects lie; S: the blocks that stay. -/
inductive ARep (mu : Mu) (S : Nat → Prop) (w : World) : AV → Value → Prop
  | bad (x : Value) : ARep mu S w .bad x
  | v (x : Value) : ARep mu S w (.v x) x
  | sl (n : Nat) (cs : List AV) (a : Option Addr) (c : Nat) (xs : Nat → Value) (hn : n ≤ c)
      (hx : ∀ i, i < cs.length → ∃ ad, a = some ad ∧ ad.spot = none ∧ S ad.block ∧ w.cell? ⟨ad.block, ad.off + i, none⟩ = some (xs i))
      (hr : ∀ i, i < cs.length → ARep mu S w (cs.getD i .bad) (xs i)) : ARep mu S w (.sl n cs) (.slice a n c)
  | own (sz k off n : Nat) (ad ad' : Addr) (c : Nat) (hk : mu k = some ad) (hn : n ≤ c) (hb : ad'.block = ad.block) (hs : ad'.spot = none)
      (ho : c ≠ 0 → ad'.off = ad.off + off)
      (hcap : ∃ (cs : Array Value) (e : TypeId), w.heap[ad.block]? = some (Obj.cells cs e (0, 0)) ∧ (c ≠ 0 → ad.off + off + c * sz ≤ cs.size)) : ARep mu S w (.own sz k off n) (.slice (some ad') n c)
  | ptr (k off : Nat) (ad : Addr) (hk : mu k = some ad) : ARep mu S w (.ptr k off) (.pointer (some ⟨ad.block, ad.off + off, none⟩))
  | dp (cs : List AV) (off : Nat) (ad : Addr) (xs : Nat → Value)
      (hx : ∀ i, i < cs.length → S ad.block ∧ w.cell? ⟨ad.block, ad.off + i, none⟩ = some (xs i))
      (hr : ∀ i, i < cs.length → ARep mu S w (cs.getD i .bad) (xs i)) : ARep mu S w (.dp cs off) (.pointer (some ⟨ad.block, ad.off + off, none⟩))
  | agg (cs : List AV) (xs : Array Value) (hl : cs.length = xs.size) (hr : ∀ i, i < cs.length → ARep mu S w (cs.getD i .bad) (xs.getD i undef)) : ARep mu S w (.agg cs) (.agg xs)
  | tup (cs : List AV) (xs : Array Value) (hl : cs.length = xs.size) (hr : ∀ i, i < cs.length → ARep mu S w (cs.getD i .bad) (xs.getD i undef)) : ARep mu S w (.tup cs) (.tuple xs)

/-- From w to w': what stands in blocks of S is as it was; every row of cells keeps its size. -/
structure Evo (S : Nat → Prop) (w w' : World) : Prop where
  size : w.heap.size ≤ w'.heap.size
  same : ∀ b, S b → b < w.heap.size → w'.heap[b]? = w.heap[b]?
  shape : ∀ (b : Nat) (cs : Array Value) (e : TypeId), w.heap[b]? = some (Obj.cells cs e (0, 0)) → ∃ cs' : Array Value, w'.heap[b]? = some (Obj.cells cs' e (0, 0)) ∧ cs'.size = cs.size

theorem Evo.refl (S : Nat → Prop) (w : World) : Evo S w w := ⟨Nat.le_refl _, fun _ _ _ => rfl, fun _ cs _ h => ⟨cs, h, rfl⟩⟩

theorem cell_lt {w : World} {a : Addr} {x : Value} (h : w.cell? a = some x) : a.block < w.heap.size := by
  unfold World.cell? at h
  cases hb : w.heap[a.block]? with
  | none => simp [hb] at h
  | some o => exact (Array.getElem?_eq_some_iff.mp hb).1

theorem cell_same {w w' : World} {a : Addr} (h : w'.heap[a.block]? = w.heap[a.block]?) : w'.cell? a = w.cell? a := by
  unfold World.cell?; rw [h]

theorem ARep.mono {mu mu' : Mu} {S S' : Nat → Prop} {w w' : World} (hm : ∀ k a, mu k = some a → mu' k = some a) (hS : ∀ b, S b → b < w.heap.size → S' b)
    (he : Evo S w w') {av : AV} {x : Value} (h : ARep mu S w av x) : ARep mu' S' w' av x := by
  induction h with
  | bad x => exact .bad x
  | v x => exact .v x
  | sl n cs a c xs hn hx hr ih =>
    refine .sl n cs a c xs hn (fun i hi => ?_) ih
    obtain ⟨ad, ha, hsp, hs, hc⟩ := hx i hi
    have hlt := cell_lt hc
    exact ⟨ad, ha, hsp, hS _ hs hlt, (cell_same (a := ⟨ad.block, ad.off + i, none⟩) (he.same _ hs hlt)).trans hc⟩
  | own sz k off n ad ad' c hk hn hb hs ho hcap =>
    obtain ⟨cs, e, hh, hle⟩ := hcap
    obtain ⟨cs', hh', hsz⟩ := he.shape _ _ _ hh
    exact .own sz k off n ad ad' c (hm _ _ hk) hn hb hs ho ⟨cs', e, hh', fun h => by rw [hsz]; exact hle h⟩
  | ptr k off ad hk => exact .ptr k off ad (hm _ _ hk)
  | dp cs off ad xs hx hr ih =>
    refine .dp cs off ad xs (fun i hi => ?_) ih
    obtain ⟨hs, hc⟩ := hx i hi
    have hlt := cell_lt hc
    exact ⟨hS _ hs hlt, (cell_same (a := ⟨ad.block, ad.off + i, none⟩) (he.same _ hs hlt)).trans hc⟩
  | agg cs xs hl hr ih => exact .agg cs xs hl ih
  | tup cs xs hl hr ih => exact .tup cs xs hl ih

/-- Values that need no object of the call's own. -/
inductive IsD : AV → Prop
  | v (x : Value) : IsD (.v x)
  | sl (n : Nat) (cs : List AV) (h : ∀ i, i < cs.length → IsD (cs.getD i .bad)) : IsD (.sl n cs)
  | agg (cs : List AV) (h : ∀ i, i < cs.length → IsD (cs.getD i .bad)) : IsD (.agg cs)
  | tup (cs : List AV) (h : ∀ i, i < cs.length → IsD (cs.getD i .bad)) : IsD (.tup cs)

theorem ARep.data {mu mu' : Mu} {S : Nat → Prop} {w : World} {av : AV} {x : Value} (hd : IsD av) (h : ARep mu S w av x) : ARep mu' S w av x := by
  induction hd generalizing x with
  | v y => cases h; exact .v _
  | sl n cs hh ih => cases h with | sl _ _ a c xs hn hx hr => exact .sl n cs a c xs hn hx (fun i hi => ih i hi (hr i hi))
  | agg cs hh ih => cases h with | agg _ xs hl hr => exact .agg cs xs hl (fun i hi => ih i hi (hr i hi))
  | tup cs hh ih => cases h with | tup _ xs hl hr => exact .tup cs xs hl (fun i hi => ih i hi (hr i hi))

def mu0 : Mu := fun _ => none
/-- A value that reads as data. -/
abbrev DRep (S : Nat → Prop) (w : World) (av : AV) (x : Value) : Prop := ARep mu0 S w av x

def Glob := Nat → Option (List Value)
def GlobOK (G : Glob) (w : World) : Prop := ∀ g cs, G g = some cs → g < w.heap.size ∧ ∀ i, i < cs.length → w.cell? ⟨g, i, none⟩ = some (cs.getD i undef)

theorem GlobOK.below {G : Glob} {w w' : World} (h : GlobOK G w) (hb : Below w.heap.size w w') : GlobOK G w' := by
  intro g cs hg
  obtain ⟨hlt, hc⟩ := h g cs hg
  exact ⟨Nat.lt_of_lt_of_le hlt hb.size, fun i hi => (cell_same (a := ⟨g, i, none⟩) (hb.block _ hlt)).trans (hc i hi)⟩

structure Ctx where
  P : Program
  G : Glob

/-- THE CONTRACT: called with values that read as 'args', in whatever world: f returns a value that reads as 'r'; memory that was there is as it was. ind: the answer lies in new memory alone. -/
def Sat (C : Ctx) (ind : Bool) (f : FuncId) (args : List AV) (r : AV) : Prop :=
  ∀ (w : World) (S : Nat → Prop) (xs : List Value), GlobOK C.G w → (∀ g, C.G g ≠ none → S g) → xs.length = args.length → (∀ i, i < args.length → DRep S w (args.getD i .bad) (xs.getD i undef)) →
    Calls C.P f xs.toArray w fun e w' => ∃ x, e = .returned x ∧ DRep (fun b => (ind = false ∧ S b) ∨ w.heap.size ≤ b) w' r x ∧ Below w.heap.size w w'

/-! ### types, in short -/
inductive SD where
  | sl (e : TypeId)
  | arr (n : Nat) (e : TypeId)
  | st (fs : List (Nat × Nat))
  | int (k : IntKind)
  | flt (k : FloatKind)
  | bool | str
  | ptr (e : TypeId)
  | other
structure TK where
  agg : Bool
  size : Nat
  bytes : Nat
  zero : List Value
  sd : SD

def TypeDesc.isAgg : TypeDesc → Bool
  | .struct _ | .array _ _ => true
  | _ => false
def TypeDesc.sd (P : Program) : TypeDesc → SD
  | .slice e => .sl e
  | .array n e => .arr n e
  | .struct fs => if fs.toList.all (fun f => (P.info? f.type).isSome) then .st (fs.toList.map fun f => (f.offset, P.cellsOf f.type)) else .other
  | .int k => .int k
  | .float k => .flt k
  | .bool => .bool
  | .string => .str
  | .pointer e => .ptr e
  | _ => .other

def tk (P : Program) (t : TypeId) : Option TK :=
  match P.info? t, P.underlying t with
  | some i, some d => match i.zero with
    | some z => some { agg := TypeDesc.isAgg d, size := i.size, bytes := i.bytes, zero := z.cells.toList, sd := TypeDesc.sd P d }
    | none => none
  | _, _ => none

/-- A struct's field: where it lies, of which type. -/
def fdOf (P : Program) (s : TypeId) (f : Nat) : Option (Nat × TypeId) :=
  match P.underlying s with
  | some (.struct fs) => (fs[f]?).map fun x => (x.offset, x.type)
  | _ => none

theorem tk_spec {P : Program} {t : TypeId} {r : TK} (h : tk P t = some r) : ∃ i d z, P.info? t = some i ∧ P.underlying t = some d ∧ i.zero = some z ∧
    r.agg = TypeDesc.isAgg d ∧ r.size = i.size ∧ r.bytes = i.bytes ∧ r.zero = z.cells.toList ∧ r.sd = TypeDesc.sd P d := by
  unfold tk at h
  split at h
  · rename_i i d hi hd
    split at h
    · rename_i z hz
      simp only [Option.some.injEq] at h
      subst h
      exact ⟨i, d, z, hi, hd, hz, rfl, rfl, rfl, rfl, rfl⟩
    · simp at h
  · simp at h

end Go.Ab

set_option linter.unusedVariables false
set_option linter.unusedSimpArgs false
namespace Go.Ab
open Go.RowKit (Below)

structure Out where
  pre : Prop
  av : AV
  H : Heap
def Out.no (H : Heap) : Out := ⟨False, .bad, H⟩

def leafV : Value → Bool
  | .agg _ | .tuple _ => false
  | _ => true
def leafA : AV → Bool
  | .v x => leafV x
  | .sl .. | .own .. | .ptr .. | .dp .. => true
  | _ => false

def cellsA : AV → Option (List AV)
  | .agg cs => some cs
  | .v (.agg xs) => some (xs.toList.map .v)
  | .v (.tuple _) => none
  | .v x => some [.v x]
  | .sl n cs => some [.sl n cs]
  | .own sz k off n => some [.own sz k off n]
  | .ptr k off => some [.ptr k off]
  | .dp cs off => some [.dp cs off]
  | _ => none

/-- vc in the place of the cells from off on. -/
def spl (cells : List AV) (off : Nat) (vc : List AV) : List AV := cells.take off ++ vc ++ cells.drop (off + vc.length)

def fillA (place : Nat → Option (Nat × Nat)) (cells : List AV) : List (Nat × AV) → Option (List AV)
  | [] => some cells
  | (i, a) :: rest => match place i, cellsA a with
    | some (off, size), some vc => if vc.length ≠ size ∨ off + vc.length > cells.length then none else fillA place (spl cells off vc) rest
    | _, _ => none

/-- n elements of this zero value. -/
def zerosA (zero : List Value) (n : Nat) : List AV := (List.range (n * zero.length)).map fun i => .v (zero.getD (i % zero.length) undef)

/-- Whole numbers: what an operator tells, and what it asks. -/
def abin (op : BinOp) (k : IntKind) (x y : Int) : Option (Prop × Value) :=
  match op with
  | .add => some (True, .int k (k.wrap (x + y)))
  | .sub => some (True, .int k (k.wrap (x - y)))
  | .mul => some (True, .int k (k.wrap (x * y)))
  | .quo => some (y ≠ 0, .int k (k.wrap (x.tdiv y)))
  | .rem => some (y ≠ 0, .int k (x.tmod y))
  | .and => some (True, .int k (k.wrap (BitVec.ofInt k.bits x &&& BitVec.ofInt k.bits y).toNat))
  | .or => some (True, .int k (k.wrap (BitVec.ofInt k.bits x ||| BitVec.ofInt k.bits y).toNat))
  | .xor => some (True, .int k (k.wrap (BitVec.ofInt k.bits x ^^^ BitVec.ofInt k.bits y).toNat))
  | .andNot => some (True, .int k (k.wrap (BitVec.ofInt k.bits x &&& ~~~(BitVec.ofInt k.bits y)).toNat))
  | .eql => some (True, .bool (x == y))
  | .neq => some (True, .bool (x != y))
  | .lss => some (True, .bool (x < y))
  | .leq => some (True, .bool (x ≤ y))
  | .gtr => some (True, .bool (x > y))
  | .geq => some (True, .bool (x ≥ y))
  | _ => none
def ashift (op : BinOp) (k : IntKind) (x y : Int) : Option (Prop × Value) :=
  match op with
  | .shl => some (0 ≤ y, .int k (k.wrap (x * 2 ^ (min y.toNat k.bits))))
  | .shr => some (0 ≤ y, .int k (x.fdiv (2 ^ (min y.toNat k.bits))))
  | _ => none
def isShift : BinOp → Bool
  | .shl | .shr => true
  | _ => false
def aboth (op : BinOp) (b : Bool) : Option (Prop × Value) :=
  match op with
  | .eql => some (True, .bool b)
  | .neq => some (True, .bool (!b))
  | _ => none

/-- Floats. -/
def aflt (op : BinOp) (k : FloatKind) (a b : Nat) : Option (Prop × Value) :=
  match op with
  | .eql => some (True, .bool (k.format.order a b == some .eq))
  | .neq => some (True, .bool (k.format.order a b != some .eq))
  | .lss => some (True, .bool (k.format.order a b == some .lt))
  | .leq => some (True, .bool (k.format.order a b == some .lt || k.format.order a b == some .eq))
  | .gtr => some (True, .bool (k.format.order a b == some .gt))
  | .geq => some (True, .bool (k.format.order a b == some .gt || k.format.order a b == some .eq))
  | op => match floatBits op k a b with
    | some r => some (True, .float k r)
    | none => none
def acpl (op : BinOp) (k : FloatKind) (a b c d : Nat) : Option (Prop × Value) :=
  match op with
  | .eql => some (True, .bool (k.format.order a c == some .eq && k.format.order b d == some .eq))
  | .neq => some (True, .bool !(k.format.order a c == some .eq && k.format.order b d == some .eq))
  | _ => none
/-- Calls that the machine itself answers: a float's bits, there and back. -/
def extF (P : Program) (f : FuncId) (args : List AV) : Option Value :=
  match P.funcs[f]? with
  | some fn => match fn.body.isNone && fn.origin == "" with
    | true => match fn.name == "math.Float64bits", fn.name == "math.Float64frombits", args with
      | true, _, [.v (.float .f64 b)] => some (.int .u64 b)
      | false, true, [.v (.int .u64 n)] => some (.float .f64 n.toNat)
      | _, _, _ => none
    | false => none
  | none => none

def binF (H : Heap) (r : Option (Prop × Value)) : Out :=
  match r with
  | some (p, x) => ⟨p, .v x, H⟩
  | none => .no H

def loadF (H : Heap) (agg : Bool) (size : Nat) (ok : Prop) (cs : List AV) (off : Nat) : Out :=
  if agg then ⟨ok ∧ off + size ≤ cs.length, .agg ((cs.drop off).take size), H⟩ else ⟨ok ∧ off < cs.length, cs.getD off .bad, H⟩

def hd (H : Heap) (k : Nat) : AObj := H.getD k ⟨[], false, false⟩

/-- A bound of a slice, as the operands tell it. -/
def boundA (g : Operand → AV) (d : Int) : Option Operand → Option Int
  | none => some d
  | some y => match g y with | .v (.int _ n) => some n | _ => none

/-- What operations other than calls of Go functions tell: what they ask, their value, the heap behind them. -/
def opF (P : Program) (g : Operand → AV) (H : Heap) : Op → Out
  | .move x | .assign x => ⟨True, g x, H⟩
  | .pick c a b => match g c with
    | .v (.bool t) => ⟨True, match t with | true => g a | false => g b, H⟩
    | _ => .no H
  | .alloc t => match tk P t with
    | some r => ⟨True, .ptr H.length 0, H ++ [⟨r.zero.map .v, true, true⟩]⟩
    | none => .no H
  | .box _ x => match cellsA (g x) with
    | some cs => ⟨True, .ptr H.length 0, H ++ [⟨cs, true, true⟩]⟩
    | none => .no H
  | .build t parts => match tk P t with
    | some r => match r.sd with
      | .st fs => match fillA (fun i => fs[i]?) (r.zero.map .v) (parts.toList.map fun p => (p.1, g p.2)) with
        | some cs => ⟨True, .agg cs, H⟩
        | none => .no H
      | .arr _ e => match tk P e with
        | some re => match fillA (fun i => some (i * re.size, re.size)) (r.zero.map .v) (parts.toList.map fun p => (p.1, g p.2)) with
          | some cs => ⟨True, .agg cs, H⟩
          | none => .no H
        | none => .no H
      | _ => .no H
    | none => .no H
  | .buildSlice t len parts => match tk P t with
    | some r => match r.sd with
      | .sl e => match tk P e with
        | some re => match fillA (fun i => some (i * re.size, re.size)) (zerosA re.zero len) (parts.toList.map fun p => (p.1, g p.2)) with
          | some cs => ⟨len * re.size ≤ 2 ^ 24 ∧ re.zero.length = re.size, .own re.size H.length 0 len, H ++ [⟨cs, true, true⟩]⟩
          | none => .no H
        | none => .no H
      | _ => .no H
    | none => .no H
  | .load t x => match tk P t with
    | some r => match g x with
      | .ptr k off => loadF H r.agg r.size ((hd H k).rd = true) (hd H k).cells off
      | .dp cs off => loadF H r.agg r.size True cs off
      | _ => .no H
    | none => .no H
  | .store t x y => match tk P t, g x, cellsA (g y) with
    | some r, .ptr k off, some vc => ⟨(hd H k).wr = true ∧ vc.length = r.size ∧ 0 < r.size ∧ vc.all leafA = true ∧ off + vc.length ≤ (hd H k).cells.length,
        .v undef, H.set k ⟨spl (hd H k).cells off vc, true, true⟩⟩
    | _, _, _ => .no H
  | .nilCheck x => match g x with
    | .ptr k off => ⟨True, .ptr k off, H⟩
    | .dp cs off => ⟨True, .dp cs off, H⟩
    | _ => .no H
  | .binOp op t x y _ => match g x, g y with
    | .v (.int k a), .v (.int k' b) => if isShift op then binF H (ashift op k a b) else if k = k' then binF H (abin op k a b) else .no H
    | .v (.float k a), .v (.float k' b) => if k = k' then binF H (aflt op k a b) else .no H
    | .v (.complex k a b), .v (.complex k' c d) => if k = k' then binF H (acpl op k a b c d) else .no H
    | .v (.bool a), .v (.bool b) => match tk P t with
      | some r => match r.sd with
        | .bool => binF H (aboth op (a == b))
        | _ => .no H
      | none => .no H
    | _, _ => .no H
  | .unOp op _ x => match op, g x with
    | .neg, .v (.int k n) => ⟨True, .v (.int k (k.wrap (0 - n))), H⟩
    | .not, .v (.bool b) => ⟨True, .v (.bool !b), H⟩
    | _, _ => .no H
  | .convert src dst x => match tk P src, tk P dst, g x with
    | some _, some r, .v (.int _ n) => match r.sd with
      | .int k => ⟨True, .v (.int k (k.wrap n)), H⟩
      | .flt k => ⟨True, .v (.float k (floatOfInt k n)), H⟩
      | _ => .no H
    | some _, some r, .v (.float s b) => match r.sd with
      | .int k => match floatToIntVal s b k with
        | some n => ⟨True, .v (.int k n), H⟩
        | none => .no H
      | _ => .no H
    | _, _, _ => .no H
  | .makeSlice t l c => match tk P t with
    | some r => match r.sd with
      | .sl e => match tk P e, g l, g c with
        | some re, .v (.int _ n), .v (.int _ m) => ⟨n = m ∧ 0 ≤ n ∧ n < 2 ^ 62 ∧ re.bytes * n ≤ 2 ^ 48 ∧ re.zero.length = re.size, .own re.size H.length 0 n.toNat, H ++ [⟨zerosA re.zero n.toNat, true, true⟩]⟩
        | _, _, _ => .no H
      | _ => .no H
    | none => .no H
  | .slice t x lo hi none => match tk P t with
    | some r => match r.sd with
      | .sl e => match tk P e with
        | some re =>
          match g x with
          | .own sz k off n => match boundA g 0 lo, boundA g n hi with
            | some l, some h => ⟨0 ≤ l ∧ l ≤ h ∧ h ≤ n ∧ sz = re.size, .own sz k (off + l.toNat * re.size) (h.toNat - l.toNat), H⟩
            | _, _ => .no H
          | .sl n cs => match boundA g 0 lo, boundA g n hi with
            | some l, some h => ⟨0 ≤ l ∧ l ≤ h ∧ h ≤ n, .sl (h.toNat - l.toNat) ((cs.drop (l.toNat * re.size)).take ((h.toNat - l.toNat) * re.size)), H⟩
            | _, _ => .no H
          | _ => .no H
        | none => .no H
      | _ => .no H
    | none => .no H
  | .fieldAddr s x f => match tk P s with
    | some r => match r.sd with
      | .st fs => match fs[f]? with
        | some (o, sz) => match g x with
          | .ptr k off => ⟨sz ≠ 0, .ptr k (off + o), H⟩
          | .dp cs off => ⟨sz ≠ 0, .dp cs (off + o), H⟩
          | _ => .no H
        | none => .no H
      | _ => .no H
    | none => .no H
  | .indexAddr t x ix => match tk P t, g ix with
    | some r, .v (.int _ i) => match r.sd with
      | .sl e => match tk P e with
        | some re => match g x with
          | .own sz k off n => ⟨0 ≤ i ∧ i < n ∧ sz ≠ 0, .ptr k (off + i.toNat * re.size), H⟩
          | .sl n cs => ⟨0 ≤ i ∧ i < n ∧ i.toNat * re.size < cs.length, .dp cs (i.toNat * re.size), H⟩
          | _ => .no H
        | none => .no H
      | .arr n e => match tk P e with
        | some re => match g x with
          | .ptr k off => ⟨0 ≤ i ∧ i < n, .ptr k (off + i.toNat * re.size), H⟩
          | .dp cs off => ⟨0 ≤ i ∧ i < n, .dp cs (off + i.toNat * re.size), H⟩
          | _ => .no H
        | none => .no H
      | _ => .no H
    | _, _ => .no H
  | .field s x f => match fdOf P s f with
    | some p => match tk P p.2, g x with
      | some r, .agg cs => loadF H r.agg r.size True cs p.1
      | _, _ => .no H
    | none => .no H
  | .extract x ix => match g x with
    | .tup vs => ⟨ix < vs.length, vs.getD ix .bad, H⟩
    | _ => .no H
  | .call ⟨.builtin .len, args, ts⟩ => match args.toList, ts.toList with
    | [x], [t] => match tk P t with
      | some r => match r.sd, g x with
        | .sl _, .own _ _ _ n => ⟨True, .v (.int .i64 n), H⟩
        | .sl _, .sl n _ => ⟨True, .v (.int .i64 n), H⟩
        | .sl _, .v (.slice _ n _) => ⟨True, .v (.int .i64 n), H⟩
        | .arr n _, _ => ⟨True, .v (.int .i64 n), H⟩
        | _, _ => .no H
      | none => .no H
    | _, _ => .no H
  | .call ⟨.builtin .max, args, ts⟩ => match args.toList with
    | [x, y] => match g x, g y with
      | .v (.int k a), .v (.int _ b) => ⟨True, .v (.int k (if b > a then b else a)), H⟩
      | _, _ => .no H
    | _ => .no H
  | .call ⟨.builtin .min, args, ts⟩ => match args.toList with
    | [x, y] => match g x, g y with
      | .v (.int k a), .v (.int _ b) => ⟨True, .v (.int k (if b < a then b else a)), H⟩
      | _, _ => .no H
    | _ => .no H
  | .call ⟨.builtin .complex, args, ts⟩ => match args.toList with
    | [x, y] => match g x, g y with
      | .v (.float k a), .v (.float k' b) => ⟨k = k', .v (.complex k a b), H⟩
      | _, _ => .no H
    | _ => .no H
  | .call ⟨.builtin .real, args, ts⟩ => match args.toList with
    | [x] => match g x with
      | .v (.complex k a _) => ⟨True, .v (.float k a), H⟩
      | _ => .no H
    | _ => .no H
  | .call ⟨.builtin .imag, args, ts⟩ => match args.toList with
    | [x] => match g x with
      | .v (.complex k _ b) => ⟨True, .v (.float k b), H⟩
      | _ => .no H
    | _ => .no H
  | .call ⟨.value (.func f), args, _⟩ => match extF P f (args.toList.map g) with
    | some r => ⟨True, .v r, H⟩
    | none => .no H
  | _ => .no H

/-- What is appended: how many elements, their cells. -/
def newsF (P : Program) (g : Operand → AV) (H : Heap) (re : TK) (x : Operand) (t' : TypeId) : Option (Prop × Nat × List AV) :=
  match tk P t' with
  | some r => match r.sd with
    | .int _ => match g x with
      | .v (.int _ l) => some (0 ≤ l ∧ l < 2 ^ 40 ∧ l * re.bytes ≤ 2 ^ 47 ∧ re.zero.length = re.size, l.toNat, zerosA re.zero l.toNat)
      | _ => none
    | .sl _ => match g x with
      | .v (.slice none 0 0) => some (True, 0, [])
      | .sl n cs => some (cs.length = n * re.size, n, cs)
      | .own sz k off n => some (sz = re.size ∧ (hd H k).rd = true ∧ off + n * sz ≤ (hd H k).cells.length, n, ((hd H k).cells.drop off).take (n * sz))
      | _ => none
    | _ => none
  | none => none

def dead : AObj := ⟨[], false, false⟩

/-- append -/
def appF (P : Program) (g : Operand → AV) (H : Heap) (s x : Operand) (t t' : TypeId) : Out :=
  match tk P t with
  | some r => match r.sd with
    | .sl e => match tk P e with
      | some re => match newsF P g H re x t' with
        | some (p, m, news) => match g s with
          | .v (.slice none 0 0) => match m with
            | 0 => ⟨p, .v (.slice none 0 0), H⟩
            | _ => ⟨p ∧ 0 < re.size ∧ news.all leafA = true ∧ re.zero.length = re.size ∧ m * re.bytes ≤ 2 ^ 47 ∧ m ≤ 2 ^ 62, .own re.size H.length 0 m, H ++ [⟨news, true, true⟩]⟩
          | .own sz k off n => ⟨p ∧ sz = re.size ∧ 0 < re.size ∧ (hd H k).wr = true ∧ off + n * sz ≤ (hd H k).cells.length ∧ news.all leafA = true ∧ re.zero.length = re.size ∧ (n + m) * re.bytes ≤ 2 ^ 47 ∧ n + m ≤ 2 ^ 62,
              .own re.size H.length 0 (n + m), H.set k dead ++ [⟨((hd H k).cells.drop off).take (n * sz) ++ news, true, true⟩]⟩
          | _ => .no H
        | none => .no H
      | none => .no H
    | _ => .no H
  | none => .no H

end Go.Ab

set_option linter.unusedVariables false
set_option linter.unusedSimpArgs false
namespace Go.Ab
open Go.RowKit (Below)

abbrev CRep (mu : Mu) (S : Nat → Prop) (w : World) (cs : List AV) (xs : Nat → Value) : Prop := ∀ i, i < cs.length → ARep mu S w (cs.getD i .bad) (xs i)

def ObjRep (mu : Mu) (S : Nat → Prop) (w : World) (ad : Addr) (cells : List AV) : Prop :=
  ad.spot = none ∧ ∃ (cs : Array Value) (e : TypeId), w.heap[ad.block]? = some (Obj.cells cs e (0, 0)) ∧
    ∃ xs : Nat → Value, (∀ i, i < cells.length → cs[ad.off + i]? = some (xs i)) ∧ CRep mu S w cells xs

/-- The blocks that no object of the call's own that may still be written lies in. -/
def Sset (X : Nat → Prop) (mu : Mu) (H : Heap) (b : Nat) : Prop := X b ∧ ∀ k ad o, mu k = some ad → H[k]? = some o → o.wr = true → ad.block ≠ b

structure SimH (C : Ctx) (B : Nat) (X : Nat → Prop) (w0 : World) (mu : Mu) (H : Heap) (w : World) : Prop where
  hB : B ≤ w0.heap.size
  below : Below B w0 w
  glob : GlobOK C.G w
  obj : ∀ k ad o, mu k = some ad → H[k]? = some o → o.rd = true → ObjRep mu (Sset X mu H) w ad o.cells
  lo : ∀ k ad o, mu k = some ad → H[k]? = some o → o.wr = true → B ≤ ad.block ∧ o.rd = true ∧ C.G ad.block = none
  hX : ∀ b, B ≤ b → X b
  hG : ∀ g, C.G g ≠ none → X g
  lob : ∀ k ad o, mu k = some ad → H[k]? = some o → o.rd = true → B ≤ ad.block
  inj : ∀ k k' ad ad' o o', mu k = some ad → mu k' = some ad' → H[k]? = some o → H[k']? = some o' → o.wr = true → o'.rd = true → ad.block = ad'.block → k = k'

inductive CalmOut (mu : Mu) (S : Nat → Prop) (w : World) (H : Heap) (r : Result Next) (o : Out) : Prop
  | quiet (x : Value) (hr : r = .ok (.value x) w) (ha : ARep mu S w o.av x) (hH : o.H = H) : CalmOut mu S w H r o
  | new (cs : List AV) (arr : Array Value) (e : TypeId) (x : Value) (hr : r = .ok (.value x) (w.alloc (.cells arr e))) (hH : o.H = H ++ [⟨cs, true, true⟩])
      (hl : cs.length = arr.size) (hc : CRep mu S w cs (fun i => arr.getD i undef))
      (hx : (o.av = .ptr H.length 0 ∧ x = .pointer (some ⟨w.heap.size, 0, none⟩)) ∨
        ∃ sz n, o.av = .own sz H.length 0 n ∧ x = .slice (some ⟨w.heap.size, 0, none⟩) n n ∧ n * sz ≤ arr.size) : CalmOut mu S w H r o

theorem hd_spec {H Hb : Heap} {k : Nat} (hp : H <+: Hb) (h : (hd H k).rd = true ∨ (hd H k).wr = true) : Hb[k]? = some (hd H k) := by
  unfold hd at *
  rw [List.getD_eq_getElem?_getD] at *
  cases hk : H[k]? with
  | none => rw [hk] at h; simp at h
  | some o =>
    obtain ⟨t, rfl⟩ := hp
    simp only [Option.getD_some]
    have hlt := (List.getElem?_eq_some_iff.mp hk).1
    rw [List.getElem?_append_left hlt]; exact hk

section
variable {P : Program} {mu : Mu} {S : Nat → Prop} {w : World} {g : Operand → AV} {ρ : Operand → Value} {H : Heap}

theorem ARep.v_inv {x y : Value} (h : ARep mu S w (.v x) y) : y = x := by cases h; rfl

/-- A value's cells. -/
theorem cellsA_rep {a : AV} {x : Value} {cs : List AV} (h : ARep mu S w a x) (hc : cellsA a = some cs) :
    cs.length = x.cells.size ∧ CRep mu S w cs (fun i => x.cells.getD i undef) := by
  have one : ∀ {a : AV} {x : Value}, ARep mu S w a x → x.cells = #[x] → [a].length = x.cells.size ∧ CRep mu S w [a] (fun i => x.cells.getD i undef) := by
    intro a x h hx
    rw [hx]
    refine ⟨rfl, fun i hi => ?_⟩
    simp at hi
    subst hi
    simpa using h
  cases a with
  | bad => simp [cellsA] at hc
  | v y =>
    have := h.v_inv
    subst this
    cases x with
    | agg xs =>
      simp [cellsA] at hc
      subst hc
      refine ⟨by simp [Value.cells], fun i hi => ?_⟩
      simp only [List.length_map, Array.length_toList] at hi
      have : (List.map AV.v xs.toList).getD i AV.bad = .v (xs.getD i undef) := by
        simp [List.getD_eq_getElem?_getD, Array.getD, hi]
      rw [this]; exact .v _
    | tuple xs => simp [cellsA] at hc
    | _ => simp [cellsA] at hc; subst hc; exact one (.v _) rfl
  | sl n l => simp [cellsA] at hc; subst hc; cases h; exact one (by constructor <;> assumption) rfl
  | own sz k off n => simp [cellsA] at hc; subst hc; cases h; exact one (by constructor <;> assumption) rfl
  | ptr k off => simp [cellsA] at hc; subst hc; cases h; exact one (by constructor <;> assumption) rfl
  | dp l off => simp [cellsA] at hc; subst hc; cases h; exact one (by constructor <;> assumption) rfl
  | agg l => simp [cellsA] at hc; subst hc; cases h with | agg _ xs hl hr => exact ⟨hl, hr⟩
  | tup l => simp [cellsA] at hc

theorem leafA_rep {a : AV} {x : Value} (h : ARep mu S w a x) (hl : leafA a = true) : x.oneCell' = true := by
  cases h <;> simp_all [leafA, Value.oneCell']
  cases x <;> simp_all [leafV]

theorem getD_take {α : Type} (l : List α) (d : α) (n i : Nat) (h : i < n) : (l.take n).getD i d = l.getD i d := by
  simp [List.getD_eq_getElem?_getD, List.getElem?_take, h]
theorem getD_drop {α : Type} (l : List α) (d : α) (n i : Nat) : (l.drop n).getD i d = l.getD (n + i) d := by
  simp [List.getD_eq_getElem?_getD, List.getElem?_drop]
theorem length_spl {cells vc : List AV} {off : Nat} (h : off + vc.length ≤ cells.length) : (spl cells off vc).length = cells.length := by
  simp [spl]; omega
theorem getD_spl (cells vc : List AV) (off i : Nat) (h : off + vc.length ≤ cells.length) :
    (spl cells off vc).getD i .bad = if off ≤ i ∧ i < off + vc.length then vc.getD (i - off) .bad else cells.getD i .bad := by
  unfold spl
  simp only [List.getD_eq_getElem?_getD, List.append_assoc]
  by_cases h1 : i < off
  · rw [List.getElem?_append_left (by simp; omega)]
    rw [if_neg (by omega)]
    simp [List.getElem?_take, h1]
  · rw [List.getElem?_append_right (by simp; omega)]
    simp only [List.length_take]
    have e : min off cells.length = off := by omega
    rw [e]
    by_cases h2 : i < off + vc.length
    · rw [if_pos ⟨by omega, h2⟩, List.getElem?_append_left (by omega)]
    · rw [if_neg (by omega), List.getElem?_append_right (by omega), List.getElem?_drop]
      congr 2; omega

/-- What 'fill' does. -/
theorem foldl_set (vc : Array Value) (off : Nat) : ∀ (l : List Value) (k : Nat) (cs : Array Value), (∀ j, l[j]? = vc[k + j]?) →
    ((l.zipIdx k).foldl (fun cs p => cs.setIfInBounds (off + p.2) p.1) cs).size = cs.size ∧
    ∀ i, ((l.zipIdx k).foldl (fun cs p => cs.setIfInBounds (off + p.2) p.1) cs).getD i undef = if i < cs.size ∧ off + k ≤ i ∧ i < off + k + l.length then vc.getD (i - off) undef else cs.getD i undef := by
  intro l
  induction l with
  | nil => intro k cs _; refine ⟨rfl, fun i => ?_⟩; rw [if_neg (by simp)]; simp
  | cons x l ih =>
    intro k cs h
    have h0 : vc[k]? = some x := by simpa using (h 0).symm
    obtain ⟨ih1, ih2⟩ := ih (k + 1) (cs.setIfInBounds (off + k) x) (fun j => by have := h (j + 1); simp at this; rw [this]; congr 1; omega)
    simp only [List.zipIdx_cons, List.foldl_cons]
    refine ⟨by rw [ih1]; simp, fun i => ?_⟩
    rw [ih2]
    simp only [Array.size_setIfInBounds, List.length_cons]
    by_cases h1 : i < cs.size ∧ off + (k + 1) ≤ i ∧ i < off + (k + 1) + l.length
    · rw [if_pos h1, if_pos (by omega)]
    · rw [if_neg h1]
      by_cases h2 : i = off + k ∧ i < cs.size
      · obtain ⟨rfl, hlt⟩ := h2
        rw [if_pos (by omega)]
        simp [Array.getD, hlt, h0]
        simp [Array.getElem?_eq_some_iff] at h0
        obtain ⟨q, e⟩ := h0
        simp [q, e]
      · rw [if_neg (by omega)]
        simp only [Array.getD_eq_getD_getElem?, Array.getElem?_setIfInBounds]
        by_cases h3 : off + k = i
        · rw [if_pos h3]; rw [if_neg (by omega)]
          have : cs[i]? = none := by rw [Array.getElem?_eq_none]; omega
          rw [this]
        · rw [if_neg h3]

theorem fill_rep (place : Nat → Option (Nat × Nat)) : ∀ (parts : List (Nat × Operand)) (cells : List AV) (arr : Array Value) (cs : List AV), (∀ p ∈ parts, ARep mu S w (g p.2) (ρ p.2)) →
    cells.length = arr.size → CRep mu S w cells (fun i => arr.getD i undef) → fillA place cells (parts.map fun p => (p.1, g p.2)) = some cs →
    ∃ arr', Instr.fill place arr (parts.map fun p => (p.1, ρ p.2)) = some arr' ∧ cs.length = arr'.size ∧ CRep mu S w cs (fun i => arr'.getD i undef) := by
  intro parts
  induction parts with
  | nil => intro cells arr cs _ hl hr h; simp [fillA] at h; subst h; exact ⟨arr, rfl, hl, hr⟩
  | cons p rest ih =>
    intro cells arr cs hp hl hr h
    simp only [List.map_cons, fillA] at h
    split at h
    · rename_i off size vc hpl hvc
      obtain ⟨hv1, hv2⟩ := cellsA_rep (hp p (by simp)) hvc
      split at h
      · simp at h
      · rename_i hn
        have hn : vc.length = size ∧ off + vc.length ≤ cells.length := by omega
        obtain ⟨f1, f2⟩ := foldl_set (ρ p.2).cells off (ρ p.2).cells.toList 0 arr (fun j => by simp)
        have hz : (ρ p.2).cells.zipIdx.toList = (ρ p.2).cells.toList.zipIdx 0 := by simp
        obtain ⟨arr', e1, e2, e3⟩ := ih (spl cells off vc) ((ρ p.2).cells.zipIdx.foldl (fun cs (c, j) => cs.setIfInBounds (off + j) c) arr) cs (fun q hq => hp q (by simp [hq]))
          (by rw [length_spl hn.2, hl, ← f1, ← hz, Array.foldl_toList])
          (fun i hi => by
            rw [length_spl hn.2] at hi
            rw [getD_spl _ _ _ _ hn.2, ← Array.foldl_toList, hz]
            show ARep mu S w _ ((((ρ p.2).cells.toList.zipIdx 0).foldl (fun cs p => cs.setIfInBounds (off + p.2) p.1) arr).getD i undef)
            rw [f2]
            by_cases hh : off ≤ i ∧ i < off + vc.length
            · rw [if_pos hh, if_pos (by simp; omega)]
              exact hv2 (i - off) (by omega)
            · rw [if_neg hh, if_neg (by simp; omega)]
              exact hr i hi) h
        refine ⟨arr', ?_, e2, e3⟩
        simp only [List.map_cons, Instr.fill, hpl]
        rw [if_neg (by simp; omega)]
        exact e1
    · simp at h

theorem zeros_rep (z : Value) (n sz : Nat) (hz : z.cells.size = sz) : (zerosA z.cells.toList n).length = (madeCells z.cells (n * sz)).size ∧
    CRep mu S w (zerosA z.cells.toList n) (fun i => (madeCells z.cells (n * sz)).getD i undef) := by
  subst hz
  refine ⟨by simp [zerosA, madeCells], fun i hi => ?_⟩
  simp only [zerosA, List.length_map, List.length_range, Array.length_toList] at hi
  have hpos : 0 < z.cells.size := by
    rcases Nat.eq_zero_or_pos z.cells.size with h | h
    · rw [h] at hi; simp at hi
    · exact h
  have hm := Nat.mod_lt i hpos
  have e1 : (zerosA z.cells.toList n).getD i .bad = .v (z.cells.getD (i % z.cells.size) undef) := by
    simp [zerosA, List.getD_eq_getElem?_getD, hi, hm]
  have e2 : (madeCells z.cells (n * z.cells.size)).getD i undef = z.cells.getD (i % z.cells.size) undef := by
    simp [madeCells, hi, Array.getD, hm]
  rw [e1]
  show ARep mu S w _ ((madeCells z.cells (n * z.cells.size)).getD i undef)
  rw [e2]; exact .v _
end

end Go.Ab

set_option linter.unusedVariables false
set_option linter.unusedSimpArgs false
namespace Go.Ab
open Go.RowKit (Below)

section
variable {C : Ctx} {P : Program} {B : Nat} {X : Nat → Prop} {w0 : World} {mu : Mu} {Hb : Heap} {w : World} {g : Operand → AV} {ρ : Operand → Value} {H : Heap}

theorem loadF_sound {t : TypeId} {r : TK} (hr : tk P t = some r) (S : Nat → Prop) (ad : Addr) (off : Nat) (cs : List AV) (xs : Nat → Value) (ok : Prop)
    (hx : ∀ i, i < cs.length → w.cell? ⟨ad.block, ad.off + i, none⟩ = some (xs i)) (hrep : CRep mu S w cs xs) (hpre : (loadF H r.agg r.size ok cs off).pre) :
    ∃ x, (Instr.loadAt t (.pointer (some ⟨ad.block, ad.off + off, none⟩))).run P w = .ok x w ∧ ARep mu S w (loadF H r.agg r.size ok cs off).av x := by
  obtain ⟨i, d, z, hi, hd, hz, e1, e2, e3, e4, e5⟩ := tk_spec hr
  unfold loadF at hpre ⊢
  by_cases ha : r.agg = true
  · rw [if_pos ha] at hpre ⊢
    obtain ⟨_, hle⟩ := hpre
    refine ⟨.agg ((Array.range r.size).map fun j => xs (off + j)), ?_, ?_⟩
    · have hl := run_loadCells (P := P) (w := w) ⟨ad.block, ad.off + off, none⟩ r.size (fun j => xs (off + j)) (fun j hj => by
        rw [Addr.add_lit]
        have := hx (off + j) (by omega)
        rw [← Nat.add_assoc] at this; exact this)
      rw [e1] at ha
      rw [e2] at hl ⊢
      unfold TypeDesc.isAgg at ha
      cases d <;> simp at ha <;>
        simp [Instr.loadAt, Instr.sureAddr, loadVar, isAgg, run_underlying hd, sizeOf, typeInfo, hi, hl] <;> (apply Array.ext' <;> simp)
    · refine .agg _ _ (by simp; omega) (fun j hj => ?_)
      simp only [List.length_take, List.length_drop] at hj
      have hj' : j < r.size := by omega
      rw [getD_take _ _ _ _ hj', getD_drop]
      have e : ((Array.range r.size).map fun j => xs (off + j)).getD j undef = xs (off + j) := by simp [Array.getD, hj']
      rw [e]
      exact hrep (off + j) (by omega)
  · rw [if_neg ha] at hpre ⊢
    obtain ⟨_, hlt⟩ := hpre
    refine ⟨xs off, ?_, hrep off hlt⟩
    have hc := hx off hlt
    rw [e1] at ha
    unfold TypeDesc.isAgg at ha
    cases d <;> simp at ha <;> simp [Instr.loadAt, Instr.sureAddr, loadVar, isAgg, run_underlying hd, hc]

theorem part_sound {t : TypeId} {r : TK} (hr : tk P t = some r) (S : Nat → Prop) (off : Nat) (cs : List AV) (xs : Array Value) (hl : cs.length = xs.size)
    (hrep : ∀ i, i < cs.length → ARep mu S w (cs.getD i .bad) (xs.getD i undef)) (hpre : (loadF H r.agg r.size True cs off).pre) :
    ∃ x, (part t xs off).run P w = .ok x w ∧ ARep mu S w (loadF H r.agg r.size True cs off).av x := by
  obtain ⟨i, d, z, hi, hd, hz, e1, e2, e3, e4, e5⟩ := tk_spec hr
  unfold loadF at hpre ⊢
  by_cases ha : r.agg = true
  · rw [if_pos ha] at hpre ⊢
    obtain ⟨_, hle⟩ := hpre
    refine ⟨.agg (xs.extract off (off + r.size)), ?_, ?_⟩
    · rw [e1] at ha
      rw [e2]
      unfold TypeDesc.isAgg at ha
      cases d <;> simp at ha <;> simp [part, isAgg, run_underlying hd, sizeOf, typeInfo, hi]
    · refine .agg _ _ (by simp; omega) (fun j hj => ?_)
      simp only [List.length_take, List.length_drop] at hj
      have hj' : j < r.size := by omega
      rw [getD_take _ _ _ _ hj', getD_drop]
      have e : (xs.extract off (off + r.size)).getD j undef = xs.getD (off + j) undef := by
        rw [Array.getD_eq_getD_getElem?, Array.getD_eq_getD_getElem?, Array.getElem?_extract, if_pos (by omega)]
      rw [e]
      exact hrep (off + j) (by omega)
  · rw [if_neg ha] at hpre ⊢
    obtain ⟨_, hlt⟩ := hpre
    refine ⟨xs.getD off undef, ?_, hrep off hlt⟩
    have hlt' : off < xs.size := by omega
    have hc : xs[off]? = some (xs.getD off undef) := by rw [Array.getElem?_eq_getElem hlt']; simp [Array.getD, hlt']
    generalize xs.getD off undef = y at hc ⊢
    rw [e1] at ha
    unfold TypeDesc.isAgg at ha
    cases d <;> simp at ha <;> simp [part, isAgg, run_underlying hd, hc]

theorem abin_sound {op : BinOp} {k : IntKind} {a b : Int} {p : Prop} {x : Value} (hn : isShift op = false) (h : abin op k a b = some (p, x)) (hp : p) (t : TypeId) :
    (binOp op t (.int k a) (.int k b)).run P w = .ok x w := by
  cases op <;> first | (cases h; simp [binOp, Op.intArith, Op.intDiv, Op.intBits, Op.intCmp]; done) | (cases h; simp [binOp, Op.intDiv, hp]; done) | (cases hn; done) | cases h

theorem ashift_sound {op : BinOp} {k k' : IntKind} {a b : Int} {p : Prop} {x : Value} (h : ashift op k a b = some (p, x)) (hp : p) (t : TypeId) :
    (binOp op t (.int k a) (.int k' b)).run P w = .ok x w := by
  cases op <;> first | (cases h; done) | (cases h; simp [binOp, Op.shift, Int.not_lt.mpr hp])

theorem equalIn_bool (d : Nat) {a b : Bool} {t : TypeId} (ht : P.underlying t = some .bool) : (Op.equalIn (d + 1) t (.bool a) (.bool b)).run P w = .ok (a == b) w := by
  simp [Op.equalIn, run_underlying ht]
theorem aboth_sound {op : BinOp} {a b : Bool} {p : Prop} {x : Value} (h : aboth op (a == b) = some (p, x)) {t : TypeId} (ht : P.underlying t = some .bool) :
    (binOp op t (.bool a) (.bool b)).run P w = .ok x w := by
  have e : (Op.equal t (.bool a) (.bool b)).run P w = .ok (a == b) w := equalIn_bool 9999 ht
  cases op <;> first | (cases h; done) | (cases h; simp only [binOp, Sem.run_bind, e, Result.andThen_ok, Sem.run_pure])

theorem eqGuard_int (op : BinOp) (t : TypeId) (x y : Operand) (k k' : IntKind) (a b : Int) : (eqGuard op t x y (.int k a) (.int k' b)).run P w = .ok () w := by
  cases op <;> simp [eqGuard]
theorem aflt_sound {op : BinOp} {k : FloatKind} {a b : Nat} {p : Prop} {x : Value} (h : aflt op k a b = some (p, x)) (t : TypeId) :
    (binOp op t (.float k a) (.float k b)).run P w = .ok x w := by
  have key : ∀ op, (match floatBits op k a b with | some r => some (True, Value.float k r) | none => none) = some (p, x) → (binOp op t (.float k a) (.float k b)).run P w = .ok x w := by
    intro op h
    cases hf : floatBits op k a b with
    | none => rw [hf] at h; cases h
    | some r =>
      rw [hf] at h
      cases h
      exact run_float_arith w op t k a b r hf
  cases op <;> first | (cases h; simp [binOp, Op.floatCmp]; done) | exact key _ h
theorem acpl_sound {op : BinOp} {k : FloatKind} {a b c d : Nat} {p : Prop} {x : Value} (h : acpl op k a b c d = some (p, x)) (t : TypeId) :
    (binOp op t (.complex k a b) (.complex k c d)).run P w = .ok x w := by
  cases op <;> first | (cases h; done) | (cases h; simp [binOp, Op.complexOp, Op.Complex.cmp, Op.floatCmp, asBool]; done)
theorem eqGuard_float (op : BinOp) (t : TypeId) (x y : Operand) (k k' : FloatKind) (a b : Nat) : (eqGuard op t x y (.float k a) (.float k' b)).run P w = .ok () w := by
  cases op <;> simp [eqGuard]
theorem eqGuard_cpl (op : BinOp) (t : TypeId) (x y : Operand) (k k' : FloatKind) (a b c d : Nat) : (eqGuard op t x y (.complex k a b) (.complex k' c d)).run P w = .ok () w := by
  cases op <;> simp [eqGuard]
theorem eqGuard_bool (op : BinOp) (t : TypeId) (x y : Operand) (a b : Bool) : (eqGuard op t x y (.bool a) (.bool b)).run P w = .ok () w := by
  cases op <;> simp [eqGuard]
end

end Go.Ab

set_option linter.unusedVariables false
set_option linter.unusedSimpArgs false
namespace Go.Ab
open Go.RowKit (Below)

section
variable {C : Ctx} {B : Nat} {X : Nat → Prop} {w0 : World} {mu : Mu} {Hb : Heap} {w : World} {g : Operand → AV} {ρ : Operand → Value} {H : Heap}

theorem run_value {P : Program} {s : Sem Value} {x : Value} {w w' : World} (h : s.run P w = .ok x w') : (do pure (Next.value (← s)) : Sem Next).run P w = .ok (.value x) w' := by
  simp [h]

theorem getD_map_v (l : List Value) (i : Nat) (h : i < l.length) : (l.map AV.v).getD i .bad = .v (l.getD i undef) := by
  simp [List.getD_eq_getElem?_getD, h]

theorem zero_rep {S : Nat → Prop} (z : Value) : (z.cells.toList.map AV.v).length = z.cells.size ∧ CRep mu S w (z.cells.toList.map AV.v) (fun i => z.cells.getD i undef) := by
  refine ⟨by simp, fun i hi => ?_⟩
  simp only [List.length_map] at hi
  rw [getD_map_v _ _ hi]
  have : z.cells.toList.getD i undef = z.cells.getD i undef := by simp
  rw [this]; exact .v _

theorem mapM_places {P : Program} {w : World} : ∀ (fs : List Field), (∀ f ∈ fs, (P.info? f.type).isSome = true) →
    (fs.mapM (m := Sem) fun f => do pure (f.offset, ← sizeOf f.type)).run P w = .ok (fs.map fun f => (f.offset, P.cellsOf f.type)) w := by
  intro fs
  induction fs with
  | nil => intro _; simp
  | cons f fs ih =>
    intro h
    obtain ⟨i, hi⟩ := Option.isSome_iff_exists.mp (h f (by simp))
    have := ih (fun q hq => h q (by simp [hq]))
    simp only [List.mapM_cons]
    simp [sizeOf, typeInfo, hi, Program.cellsOf]
    simp [sizeOf, typeInfo, Program.cellsOf] at this
    simp [this]

theorem st_spec {P : Program} {d : TypeDesc} {fs : List (Nat × Nat)} (h : TypeDesc.sd P d = .st fs) :
    ∃ fields, d = .struct fields ∧ (∀ f ∈ fields.toList, (P.info? f.type).isSome = true) ∧ fs = fields.toList.map fun f => (f.offset, P.cellsOf f.type) := by
  unfold TypeDesc.sd at h
  cases d <;> simp at h
  rename_i fields
  split at h
  · rename_i hh
    simp at h
    exact ⟨fields, rfl, List.all_eq_true.mp (by simpa using hh), h.symm⟩
  · simp at h
theorem sl_spec {P : Program} {d : TypeDesc} {e : TypeId} (h : TypeDesc.sd P d = .sl e) : d = .slice e := by
  unfold TypeDesc.sd at h
  cases d <;> simp at h
  · exact h ▸ rfl
  · split at h <;> simp at h
theorem arr_spec {P : Program} {d : TypeDesc} {n : Nat} {e : TypeId} (h : TypeDesc.sd P d = .arr n e) : d = .array n e := by
  unfold TypeDesc.sd at h
  cases d <;> simp at h
  · obtain ⟨rfl, rfl⟩ := h; rfl
  · split at h <;> simp at h
theorem flt_spec {P : Program} {d : TypeDesc} {k : FloatKind} (h : TypeDesc.sd P d = .flt k) : d = .float k := by
  unfold TypeDesc.sd at h
  split at h <;> first | (cases h; rfl) | (cases h; done) | (split at h <;> cases h)
theorem bool_spec {P : Program} {d : TypeDesc} (h : TypeDesc.sd P d = .bool) : d = .bool := by
  unfold TypeDesc.sd at h
  cases d <;> simp at h
  · rfl
  · split at h <;> simp at h
theorem int_spec {P : Program} {d : TypeDesc} {k : IntKind} (h : TypeDesc.sd P d = .int k) : d = .int k := by
  unfold TypeDesc.sd at h
  cases d <;> simp at h
  · exact h ▸ rfl
  · split at h <;> simp at h

theorem ptr_cells (hs : SimH C B X w0 mu Hb w) (hp : H <+: Hb) {k off : Nat} {x : Value} (h : ARep mu (Sset X mu Hb) w (.ptr k off) x) (hrd : (hd H k).rd = true) :
    ∃ (ad : Addr) (xs : Nat → Value), x = .pointer (some ⟨ad.block, ad.off + off, none⟩) ∧ (∀ i, i < (hd H k).cells.length → w.cell? ⟨ad.block, ad.off + i, none⟩ = some (xs i)) ∧ CRep mu (Sset X mu Hb) w (hd H k).cells xs := by
  cases h with
  | ptr _ _ ad hk =>
    obtain ⟨_, cs, e, hh, xs, hx, hr⟩ := hs.obj k ad _ hk (hd_spec hp (.inl hrd)) hrd
    exact ⟨ad, xs, rfl, fun i hi => by simp [World.cell?, hh, hx i hi], hr⟩

/-! the operations, one by one -/
variable (hg : ∀ x, ARep mu (Sset X mu Hb) w (g x) (ρ x)) (hs : SimH C B X w0 mu Hb w) (hp : H <+: Hb)
include hg
set_option linter.unusedSectionVars false

theorem s_alloc {t : TypeId} (hpre : (opF C.P g H (.alloc t)).pre) : CalmOut mu (Sset X mu Hb) w H ((do pure (Next.value (← Instr.alloc t true (.tuple #[]))) : Sem Next).run C.P w) (opF C.P g H (.alloc t)) := by
  simp only [opF] at hpre ⊢
  cases hr : tk C.P t with
  | none => rw [hr] at hpre; exact hpre.elim
  | some r =>
    simp only [hr]
    obtain ⟨i, d, z, hi, hd', hz, e1, e2, e3, e4, e5⟩ := tk_spec hr
    obtain ⟨z1, z2⟩ := zero_rep (mu := mu) (w := w) (S := Sset X mu Hb) z
    rw [← e4] at z1 z2
    exact .new _ z.cells t _ (run_value (x := .pointer (some ⟨w.heap.size, 0, none⟩)) (by simp [Instr.alloc, zeroValue, typeInfo, hi, hz, newVar, newRow])) rfl z1 z2 (.inl ⟨rfl, rfl⟩)

theorem s_box {t : TypeId} {x : Operand} (hpre : (opF C.P g H (.box t x)).pre) : CalmOut mu (Sset X mu Hb) w H ((do pure (Next.value (← Instr.box t (ρ x))) : Sem Next).run C.P w) (opF C.P g H (.box t x)) := by
  simp only [opF] at hpre ⊢
  cases hr : cellsA (g x) with
  | none => rw [hr] at hpre; exact hpre.elim
  | some cs =>
    simp only [hr]
    obtain ⟨z1, z2⟩ := cellsA_rep (hg x) hr
    exact .new _ (ρ x).cells t _ (run_value (x := .pointer (some ⟨w.heap.size, 0, none⟩)) (by simp [Instr.box, newVar, newRow])) rfl z1 z2 (.inl ⟨rfl, rfl⟩)

theorem s_build {t : TypeId} {parts : Array (Nat × Operand)} (hpre : (opF C.P g H (.build t parts)).pre) :
    CalmOut mu (Sset X mu Hb) w H ((do pure (Next.value (← Instr.build t (parts.map fun (i, x) => (i, ρ x)))) : Sem Next).run C.P w) (opF C.P g H (.build t parts)) := by
  simp only [opF] at hpre ⊢
  cases hr : tk C.P t with
  | none => rw [hr] at hpre; exact hpre.elim
  | some r =>
    simp only [hr] at hpre ⊢
    obtain ⟨i, d, z, hi, hd', hz, e1, e2, e3, e4, e5⟩ := tk_spec hr
    obtain ⟨z1, z2⟩ := zero_rep (mu := mu) (w := w) (S := Sset X mu Hb) z
    rw [← e4] at z1 z2
    have hpl : (parts.map fun (i, x) => (i, ρ x)).toList = parts.toList.map fun p => (p.1, ρ p.2) := by simp
    cases hsd : r.sd with
    | st fs =>
      simp only [hsd] at hpre ⊢
      obtain ⟨fields, rfl, hf, rfl⟩ := st_spec (e5 ▸ hsd)
      generalize hcs : fillA _ _ _ = oc at hpre ⊢
      cases oc with
      | none => exact hpre.elim
      | some cs =>
        obtain ⟨arr', f1, f2, f3⟩ := fill_rep _ _ _ z.cells _ (fun p _ => hg p.2) z1 z2 hcs
        refine .quiet (.agg arr') (run_value ?_) (.agg _ _ f2 f3) rfl
        have hm := mapM_places (P := C.P) (w := w) fields.toList hf
        have hm' : (fields.mapM (m := Sem) fun f => do pure (f.offset, ← sizeOf f.type)).run C.P w = .ok (fields.map fun f => (f.offset, C.P.cellsOf f.type)) w := by
          rw [Array.mapM_eq_mapM_toList]
          simp only [Sem.run_map, hm, Result.andThen_ok]
          congr 1
          apply Array.ext'; simp
        have f1' : Instr.fill (fun x => (fields.map fun f => (f.offset, C.P.cellsOf f.type))[x]?) z.cells (parts.toList.map fun p => (p.1, ρ p.2)) = some arr' := by
          rw [← f1]; congr 1; funext x; simp
        have hzv : (zeroValue t).run C.P w = .ok z w := by simp [zeroValue, typeInfo, hi, hz]
        simp only [Instr.build, Sem.run_bind, hzv, run_underlying hd', Result.andThen_ok, hm', hpl, f1', Sem.run_pure]
    | arr n e =>
      simp only [hsd] at hpre ⊢
      have := arr_spec (e5 ▸ hsd); subst this
      cases hre : tk C.P e with
      | none => rw [hre] at hpre; exact hpre.elim
      | some re =>
        simp only [hre] at hpre ⊢
        obtain ⟨i', d', z', hi', _, _, _, e2', _, _, _⟩ := tk_spec hre
        generalize hcs : fillA _ _ _ = oc at hpre ⊢
        cases oc with
        | none => exact hpre.elim
        | some cs =>
          obtain ⟨arr', f1, f2, f3⟩ := fill_rep _ _ _ z.cells _ (fun p _ => hg p.2) z1 z2 hcs
          refine .quiet (.agg arr') (run_value ?_) (.agg _ _ f2 f3) rfl
          rw [e2'] at f1
          simp [Instr.build, zeroValue, typeInfo, hi, hz, run_underlying hd', sizeOf, hi', f1, hpl]
    | _ => simp only [hsd] at hpre; exact hpre.elim

theorem s_buildSlice {t : TypeId} {len : Nat} {parts : Array (Nat × Operand)} (hpre : (opF C.P g H (.buildSlice t len parts)).pre) :
    CalmOut mu (Sset X mu Hb) w H ((do pure (Next.value (← Instr.buildSlice t len (parts.map fun (i, x) => (i, ρ x)))) : Sem Next).run C.P w) (opF C.P g H (.buildSlice t len parts)) := by
  simp only [opF] at hpre ⊢
  cases hr : tk C.P t with
  | none => rw [hr] at hpre; exact hpre.elim
  | some r =>
    simp only [hr] at hpre ⊢
    obtain ⟨i, d, z, hi, hd', hz, e1, e2, e3, e4, e5⟩ := tk_spec hr
    have hpl : (parts.map fun (i, x) => (i, ρ x)).toList = parts.toList.map fun p => (p.1, ρ p.2) := by simp
    cases hsd : r.sd with
    | sl e =>
      simp only [hsd] at hpre ⊢
      have := sl_spec (e5 ▸ hsd); subst this
      cases hre : tk C.P e with
      | none => rw [hre] at hpre; exact hpre.elim
      | some re =>
        simp only [hre] at hpre ⊢
        obtain ⟨i', d', z', hi', _, hz', _, e2', _, e4', _⟩ := tk_spec hre
        generalize hcs : fillA _ _ _ = oc at hpre ⊢
        cases oc with
        | none => exact hpre.elim
        | some cs =>
          obtain ⟨hlim, hzl⟩ := hpre
          have hzc : z'.cells.size = re.size := by rw [← hzl, e4']; simp
          obtain ⟨z1, z2⟩ := zeros_rep (mu := mu) (w := w) (S := Sset X mu Hb) z' len re.size hzc
          rw [← e4'] at z1 z2
          obtain ⟨arr', f1, f2, f3⟩ := fill_rep _ _ _ _ _ (fun p _ => hg p.2) z1 z2 hcs
          have hsz : arr'.size = len * re.size := by
            have : ∀ (ps : List (Nat × AV)) (cells : List AV) (cs : List AV) (pl : Nat → Option (Nat × Nat)), fillA pl cells ps = some cs → cs.length = cells.length := by
              intro ps
              induction ps with
              | nil => intro cells cs pl h; simp [fillA] at h; rw [h]
              | cons p ps ih =>
                intro cells cs pl h
                simp only [fillA] at h
                split at h
                · split at h
                  · simp at h
                  · rename_i hn; rw [ih _ _ _ h, length_spl (by omega)]
                · simp at h
            have h1 := this _ _ _ _ hcs
            rw [← f2, h1]; simp [zerosA, hzl]
          refine .new _ arr' e _ (run_value (x := .slice (some ⟨w.heap.size, 0, none⟩) len len) ?_) rfl f2 f3 (.inr ⟨re.size, len, rfl, rfl, by omega⟩)
          rw [e2'] at f1 hlim
          simp only [madeCells] at f1
          have hlim' : ¬ (2 ^ 24 < len * i'.size) := by omega
          by_cases h0 : len * i'.size = 0
          · have f1' : Instr.fill (fun i => some (i * i'.size, i'.size)) #[] (parts.toList.map fun p => (p.1, ρ p.2)) = some arr' := by
              rw [← f1]; congr 1; rw [h0]; simp
            simp [Instr.buildSlice, run_underlying hd', sizeOf, typeInfo, hi', h0, f1', hpl, newRow, Array.range_zero']
          · simp [Instr.buildSlice, run_underlying hd', sizeOf, typeInfo, hi', hz', zeroValue, h0, hlim', f1, hpl, newRow]
    | _ => simp only [hsd] at hpre; exact hpre.elim

end
end Go.Ab

set_option linter.unusedVariables false
set_option linter.unusedSimpArgs false
set_option linter.unusedSectionVars false
namespace Go.Ab
open Go.RowKit (Below)

section
variable {C : Ctx} {B : Nat} {X : Nat → Prop} {w0 : World} {mu : Mu} {Hb : Heap} {w : World} {g : Operand → AV} {ρ : Operand → Value} {H : Heap}
variable (hg : ∀ x, ARep mu (Sset X mu Hb) w (g x) (ρ x)) (hs : SimH C B X w0 mu Hb w) (hp : H <+: Hb)
include hg

theorem s_pick {c a b : Operand} (hpre : (opF C.P g H (.pick c a b)).pre) :
    CalmOut mu (Sset X mu Hb) w H ((do pure (Next.value (if ← asBool (ρ c) then ρ a else ρ b)) : Sem Next).run C.P w) (opF C.P g H (.pick c a b)) := by
  simp only [opF] at hpre ⊢
  have hc := hg c
  cases hgc : g c with
  | v x =>
    rw [hgc] at hc
    have e := hc.v_inv
    cases x with
    | bool t =>
      cases t
      · exact .quiet (ρ b) (by simp [e, asBool]) (hg b) rfl
      · exact .quiet (ρ a) (by simp [e, asBool]) (hg a) rfl
    | _ => rw [hgc] at hpre; exact hpre.elim
  | _ => rw [hgc] at hpre; exact hpre.elim

include hs hp in
theorem s_load {t : TypeId} {x : Operand} (hpre : (opF C.P g H (.load t x)).pre) : CalmOut mu (Sset X mu Hb) w H ((do pure (Next.value (← Instr.loadAt t (ρ x))) : Sem Next).run C.P w) (opF C.P g H (.load t x)) := by
  simp only [opF] at hpre ⊢
  have hx := hg x
  cases hr : tk C.P t with
  | none => rw [hr] at hpre; exact hpre.elim
  | some r =>
    simp only [hr] at hpre ⊢
    cases hgx : g x with
    | ptr k off =>
      rw [hgx] at hx
      simp only [hgx] at hpre ⊢
      have hrd : (hd H k).rd = true := by unfold loadF at hpre; split at hpre <;> exact hpre.1
      obtain ⟨ad, xs, e, hc, hrep⟩ := ptr_cells hs hp hx hrd
      obtain ⟨y, h1, h2⟩ := loadF_sound (H := H) hr (Sset X mu Hb) ad off _ xs _ hc hrep hpre
      exact .quiet y (run_value (by rw [e]; exact h1)) h2 (by unfold loadF; split <;> rfl)
    | dp cs off =>
      rw [hgx] at hx
      simp only [hgx] at hpre ⊢
      generalize hy : ρ x = y at hx
      cases hx with
      | dp _ _ ad xs hx' hrep =>
        obtain ⟨y, h1, h2⟩ := loadF_sound (H := H) hr (Sset X mu Hb) ad off _ xs _ (fun i hi => (hx' i hi).2) hrep hpre
        exact .quiet y (run_value h1) h2 (by unfold loadF; split <;> rfl)
    | _ => simp only [hgx] at hpre; exact hpre.elim

theorem s_binOp {op : BinOp} {t t' : TypeId} {x y : Operand} (hpre : (opF C.P g H (.binOp op t x y t')).pre) :
    CalmOut mu (Sset X mu Hb) w H ((do pure (Next.value (← (do eqGuard op t x y (ρ x) (ρ y); binOp op t (ρ x) (ρ y) : Sem Value))) : Sem Next).run C.P w) (opF C.P g H (.binOp op t x y t')) := by
  simp only [opF] at hpre ⊢
  have hx := hg x
  have hy := hg y
  cases hgx : g x with
  | v a =>
    cases hgy : g y with
    | v b =>
      rw [hgx] at hx
      rw [hgy] at hy
      have ex := hx.v_inv
      have ey := hy.v_inv
      cases a with
      | int k a =>
        cases b with
        | int k' b =>
          simp only [hgx, hgy] at hpre ⊢
          by_cases hsh : isShift op = true
          · rw [if_pos hsh] at hpre ⊢
            cases hr : ashift op k a b with
            | none => rw [hr] at hpre; exact hpre.elim
            | some pr =>
              rw [hr] at hpre
              exact .quiet pr.2 (run_value (by simp [ex, ey, eqGuard_int, ashift_sound (k' := k') hr hpre])) (by simp [binF]; exact .v _) rfl
          · rw [if_neg hsh] at hpre ⊢
            by_cases hk : k = k'
            · subst hk
              rw [if_pos rfl] at hpre ⊢
              cases hr : abin op k a b with
              | none => rw [hr] at hpre; exact hpre.elim
              | some pr =>
                rw [hr] at hpre
                exact .quiet pr.2 (run_value (by simp [ex, ey, eqGuard_int, abin_sound (by simpa using hsh) hr hpre])) (by simp [binF]; exact .v _) rfl
            · rw [if_neg hk] at hpre; exact hpre.elim
        | _ => simp only [hgx, hgy] at hpre; exact hpre.elim
      | float k a =>
        cases b with
        | float k' b =>
          simp only [hgx, hgy] at hpre ⊢
          by_cases hk : k = k'
          · subst hk
            rw [if_pos rfl] at hpre ⊢
            cases hr : aflt op k a b with
            | none => rw [hr] at hpre; exact hpre.elim
            | some pr =>
              exact .quiet pr.2 (run_value (by simp [ex, ey, eqGuard_float, aflt_sound hr])) (by simp [binF]; exact .v _) rfl
          · rw [if_neg hk] at hpre; exact hpre.elim
        | _ => simp only [hgx, hgy] at hpre; exact hpre.elim
      | complex k a a' =>
        cases b with
        | complex k' b b' =>
          simp only [hgx, hgy] at hpre ⊢
          by_cases hk : k = k'
          · subst hk
            rw [if_pos rfl] at hpre ⊢
            cases hr : acpl op k a a' b b' with
            | none => rw [hr] at hpre; exact hpre.elim
            | some pr =>
              exact .quiet pr.2 (run_value (by simp [ex, ey, eqGuard_cpl, acpl_sound hr])) (by simp [binF]; exact .v _) rfl
          · rw [if_neg hk] at hpre; exact hpre.elim
        | _ => simp only [hgx, hgy] at hpre; exact hpre.elim
      | bool a =>
        cases b with
        | bool b =>
          simp only [hgx, hgy] at hpre ⊢
          cases ht : tk C.P t with
          | none => simp only [ht] at hpre; exact hpre.elim
          | some r =>
            simp only [ht] at hpre ⊢
            obtain ⟨i, d, z, hi, hd', hz, e1, e2, e3, e4, e5⟩ := tk_spec ht
            cases hsd : r.sd with
            | bool =>
              simp only [hsd] at hpre ⊢
              have := bool_spec (e5 ▸ hsd); subst this
              cases hr : aboth op (a == b) with
              | none => rw [hr] at hpre; exact hpre.elim
              | some pr =>
                exact .quiet pr.2 (run_value (by simp [ex, ey, eqGuard_bool, aboth_sound hr hd'])) (by simp [binF]; exact .v _) rfl
            | _ => simp only [hsd] at hpre; exact hpre.elim
        | _ => simp only [hgx, hgy] at hpre; exact hpre.elim
      | _ => simp only [hgx, hgy] at hpre; exact hpre.elim
    | _ => simp only [hgx, hgy] at hpre; cases a <;> exact hpre.elim
  | _ => simp only [hgx] at hpre; exact hpre.elim

theorem s_unOp {op : UnOp} {t : TypeId} {x : Operand} (hpre : (opF C.P g H (.unOp op t x)).pre) :
    CalmOut mu (Sset X mu Hb) w H ((do pure (Next.value (← Op.unary op (ρ x))) : Sem Next).run C.P w) (opF C.P g H (.unOp op t x)) := by
  simp only [opF] at hpre ⊢
  have hx := hg x
  cases hgx : g x with
  | v a =>
    rw [hgx] at hx
    have ex := hx.v_inv
    cases op <;> cases a <;> simp only [hgx] at hpre ⊢ <;> first | exact hpre.elim | exact .quiet _ (run_value (by rw [ex]; rfl)) (.v _) rfl
  | _ => simp only [hgx] at hpre; cases op <;> exact hpre.elim

theorem s_convert {s d : TypeId} {x : Operand} (hpre : (opF C.P g H (.convert s d x)).pre) :
    CalmOut mu (Sset X mu Hb) w H ((do pure (Next.value (← convert s d (ρ x))) : Sem Next).run C.P w) (opF C.P g H (.convert s d x)) := by
  simp only [opF] at hpre ⊢
  have hx := hg x
  cases hr : tk C.P s with
  | none => simp only [hr] at hpre; exact hpre.elim
  | some rs =>
    cases hr' : tk C.P d with
    | none => simp only [hr, hr'] at hpre; exact hpre.elim
    | some r =>
      obtain ⟨_, _, _, hi, hd', hz, _⟩ := tk_spec hr
      obtain ⟨_, _, _, hi2, hd2, hz2, _, _, _, _, e5⟩ := tk_spec hr'
      cases hgx : g x with
      | v a =>
        rw [hgx] at hx
        have ex := hx.v_inv
        cases a with
        | int k' n =>
          simp only [hr, hr', hgx] at hpre ⊢
          cases hsd : r.sd with
          | int k =>
            simp only [hsd] at hpre ⊢
            have := int_spec (e5 ▸ hsd); subst this
            exact .quiet _ (run_value (by rw [ex]; simp [convert, run_underlying hd', run_underlying hd2, Conv.intToInt])) (.v _) rfl
          | flt k =>
            simp only [hsd] at hpre ⊢
            have := flt_spec (e5 ▸ hsd); subst this
            exact .quiet _ (run_value (by rw [ex]; exact run_convert_int_float w s d k' k n (by rw [hd']; rfl) hd2)) (.v _) rfl
          | _ => simp only [hsd] at hpre; exact hpre.elim
        | float k' b =>
          simp only [hr, hr', hgx] at hpre ⊢
          cases hsd : r.sd with
          | int k =>
            simp only [hsd] at hpre ⊢
            have := int_spec (e5 ▸ hsd); subst this
            cases hf : floatToIntVal k' b k with
            | none => simp only [hf] at hpre; exact hpre.elim
            | some n =>
              simp only [hf] at hpre ⊢
              exact .quiet _ (run_value (by rw [ex]; exact run_convert_float_int w s d k' k b n (by rw [hd']; rfl) hd2 hf)) (.v _) rfl
          | _ => simp only [hsd] at hpre; exact hpre.elim
        | _ => simp only [hr, hr', hgx] at hpre; exact hpre.elim
      | _ => simp only [hr, hr', hgx] at hpre; exact hpre.elim

theorem s_makeSlice {t : TypeId} {l c : Operand} (hpre : (opF C.P g H (.makeSlice t l c)).pre) :
    CalmOut mu (Sset X mu Hb) w H ((do pure (Next.value (← Instr.makeSlice t (ρ l) (ρ c))) : Sem Next).run C.P w) (opF C.P g H (.makeSlice t l c)) := by
  simp only [opF] at hpre ⊢
  have hl := hg l
  have hc := hg c
  cases hr : tk C.P t with
  | none => simp only [hr] at hpre; exact hpre.elim
  | some r =>
    obtain ⟨_, _, _, hi, hd', hz, _, _, _, _, e5⟩ := tk_spec hr
    simp only [hr] at hpre ⊢
    cases hsd : r.sd with
    | sl e =>
      simp only [hsd] at hpre ⊢
      have := sl_spec (e5 ▸ hsd); subst this
      cases hre : tk C.P e with
      | none => simp only [hre] at hpre; exact hpre.elim
      | some re =>
        obtain ⟨i', _, z', hi', _, hz', _, e2', e3', e4', _⟩ := tk_spec hre
        cases hgl : g l with
        | v a =>
          cases hgc : g c with
          | v b =>
            rw [hgl] at hl
            rw [hgc] at hc
            have ex := hl.v_inv
            have ey := hc.v_inv
            cases a <;> cases b <;> simp only [hre, hgl, hgc] at hpre ⊢ <;> first | exact hpre.elim | skip
            rename_i kl n kc m
            obtain ⟨rfl, h0, h62, hby, hzl⟩ := hpre
            have hzc : z'.cells.size = re.size := by rw [← hzl, e4']; simp
            obtain ⟨z1, z2⟩ := zeros_rep (mu := mu) (w := w) (S := Sset X mu Hb) z' n.toNat re.size hzc
            rw [← e4'] at z1 z2
            have hrun := run_make (P := C.P) w t e i' z' hd' hi' hz' kl kc n n h0 (Int.le_refl _) (by rw [e3'] at hby; omega) (by omega)
            rw [← e2'] at hrun
            exact .new _ _ e _ (run_value (by rw [ex, ey]; exact hrun)) rfl z1 z2 (.inr ⟨_, _, rfl, rfl, by simp [madeCells]⟩)
          | _ => cases a <;> simp only [hre, hgl, hgc] at hpre <;> exact hpre.elim
        | _ => simp only [hre, hgl] at hpre; exact hpre.elim
    | _ => simp only [hsd] at hpre; exact hpre.elim

theorem s_nilCheck {o : Oper} {x : Operand} (ho : o.op = .nilCheck x) (hpre : (opF C.P g H (.nilCheck x)).pre) : CalmOut mu (Sset X mu Hb) w H ((execOp ρ o).run C.P w) (opF C.P g H (.nilCheck x)) := by
  simp only [opF] at hpre ⊢
  have hx := hg x
  cases hgx : g x with
  | ptr k off =>
    rw [hgx] at hx
    generalize hy : ρ x = y at hx
    cases hx with
    | ptr _ _ ad hk => exact .quiet (.pointer (some ⟨ad.block, ad.off + off, none⟩)) (by simp [execOp, ho, hy]) (.ptr _ _ ad hk) rfl
  | dp cs off =>
    rw [hgx] at hx
    generalize hy : ρ x = y at hx
    cases hx with
    | dp _ _ ad xs h1 h2 => exact .quiet (.pointer (some ⟨ad.block, ad.off + off, none⟩)) (by simp [execOp, ho, hy]) (.dp _ _ ad xs h1 h2) rfl
  | _ => simp only [hgx] at hpre; exact hpre.elim

theorem s_field {s : TypeId} {x : Operand} {f : Nat} (hpre : (opF C.P g H (.field s x f)).pre) :
    CalmOut mu (Sset X mu Hb) w H ((do pure (Next.value (← Instr.field s (ρ x) f)) : Sem Next).run C.P w) (opF C.P g H (.field s x f)) := by
  simp only [opF] at hpre ⊢
  have hx := hg x
  cases hfd : fdOf C.P s f with
  | none => simp only [hfd] at hpre; exact hpre.elim
  | some p =>
    simp only [hfd] at hpre ⊢
    cases hr : tk C.P p.2 with
    | none => simp only [hr] at hpre; exact hpre.elim
    | some r =>
      simp only [hr] at hpre ⊢
      cases hgx : g x with
      | agg cs =>
        rw [hgx] at hx
        simp only [hgx] at hpre ⊢
        generalize hy : ρ x = y at hx
        cases hx with
        | agg _ xs hl hrep =>
          obtain ⟨v, h1, h2⟩ := part_sound (H := H) hr (Sset X mu Hb) p.1 cs xs hl hrep hpre
          have hH : (loadF H r.agg r.size True cs p.1).H = H := by unfold loadF; split <;> rfl
          refine .quiet v (run_value ?_) h2 hH
          unfold fdOf at hfd
          split at hfd
          · rename_i fields hu
            rw [Option.map_eq_some_iff] at hfd
            obtain ⟨fld, hfld, rfl⟩ := hfd
            simp only [Instr.field, Sem.run_bind, run_underlying hu, Result.andThen_ok, hfld, asAgg, Sem.run_pure]
            exact h1
          · cases hfd
      | _ => simp only [hgx] at hpre; exact hpre.elim

theorem s_extract {x : Operand} {ix : Nat} (hpre : (opF C.P g H (.extract x ix)).pre) :
    CalmOut mu (Sset X mu Hb) w H ((do pure (Next.value (← Instr.extract (ρ x) ix)) : Sem Next).run C.P w) (opF C.P g H (.extract x ix)) := by
  simp only [opF] at hpre ⊢
  have hx := hg x
  cases hgx : g x with
  | tup vs =>
    rw [hgx] at hx
    simp only [hgx] at hpre ⊢
    generalize hy : ρ x = y at hx
    cases hx with
    | tup _ xs hl hr =>
      have : xs[ix]? = some (xs.getD ix undef) := by
        have h : ix < xs.size := by omega
        rw [Array.getElem?_eq_getElem h]; simp [Array.getD, h]
      exact .quiet (xs.getD ix undef) (run_value (by simp only [Instr.extract, this]; rfl)) (hr ix hpre) rfl
  | _ => simp only [hgx] at hpre; exact hpre.elim

end
end Go.Ab

set_option linter.unusedVariables false
set_option linter.unusedSimpArgs false
set_option linter.unusedSectionVars false
namespace Go.Ab
open Go.RowKit (Below)

section
variable {C : Ctx} {B : Nat} {X : Nat → Prop} {w0 : World} {mu : Mu} {Hb : Heap} {w : World} {g : Operand → AV} {ρ : Operand → Value} {H : Heap}
variable (hg : ∀ x, ARep mu (Sset X mu Hb) w (g x) (ρ x)) (hs : SimH C B X w0 mu Hb w) (hp : H <+: Hb)
include hg

theorem s_fieldAddr {s : TypeId} {x : Operand} {f : Nat} (hpre : (opF C.P g H (.fieldAddr s x f)).pre) :
    CalmOut mu (Sset X mu Hb) w H ((do pure (Next.value (← Instr.fieldAt s (ρ x) f)) : Sem Next).run C.P w) (opF C.P g H (.fieldAddr s x f)) := by
  simp only [opF] at hpre ⊢
  have hx := hg x
  cases hr : tk C.P s with
  | none => simp only [hr] at hpre; exact hpre.elim
  | some r =>
    obtain ⟨_, _, _, hi, hd', hz, _, _, _, _, e5⟩ := tk_spec hr
    simp only [hr] at hpre ⊢
    cases hsd : r.sd with
    | st fs =>
      simp only [hsd] at hpre ⊢
      obtain ⟨fields, rfl, hf, rfl⟩ := st_spec (e5 ▸ hsd)
      generalize hfi : (fields.toList.map fun f => (f.offset, C.P.cellsOf f.type))[f]? = oc at hpre ⊢
      cases oc with
      | none => exact hpre.elim
      | some p =>
        obtain ⟨o, sz⟩ := p
        simp only [List.getElem?_map, Option.map_eq_some_iff] at hfi
        obtain ⟨fld, hfld, hpe⟩ := hfi
        simp only [Prod.mk.injEq] at hpe
        obtain ⟨rfl, rfl⟩ := hpe
        have hff : fields[f]? = some fld := by simpa using hfld
        obtain ⟨fi, hfi⟩ := Option.isSome_iff_exists.mp (hf fld (by simpa using List.mem_of_getElem? hfld))
        cases hgx : g x with
        | ptr k off =>
          rw [hgx] at hx
          simp only [hgx] at hpre ⊢
          generalize hy : ρ x = y at hx
          cases hx with
          | ptr _ _ ad hk =>
            refine .quiet (.pointer (some ⟨ad.block, ad.off + (off + fld.offset), none⟩)) (run_value ?_) (.ptr _ _ ad hk) rfl
            have : fi.size ≠ 0 := by simpa [Program.cellsOf, hfi] using hpre
            simp [Instr.fieldAt, run_underlying hd', hff, Instr.sureAddr, fieldPlace, sizeOf, typeInfo, hfi, this, Addr.add_lit, Nat.add_assoc]
        | dp cs off =>
          rw [hgx] at hx
          simp only [hgx] at hpre ⊢
          generalize hy : ρ x = y at hx
          cases hx with
          | dp _ _ ad xs h1 h2 =>
            refine .quiet (.pointer (some ⟨ad.block, ad.off + (off + fld.offset), none⟩)) (run_value ?_) (.dp _ _ ad xs h1 h2) rfl
            have : fi.size ≠ 0 := by simpa [Program.cellsOf, hfi] using hpre
            simp [Instr.fieldAt, run_underlying hd', hff, Instr.sureAddr, fieldPlace, sizeOf, typeInfo, hfi, this, Addr.add_lit, Nat.add_assoc]
        | _ => simp only [hgx] at hpre; exact hpre.elim
    | _ => simp only [hsd] at hpre; exact hpre.elim

theorem s_indexAddr {t : TypeId} {x ix : Operand} (hpre : (opF C.P g H (.indexAddr t x ix)).pre) :
    CalmOut mu (Sset X mu Hb) w H ((do pure (Next.value (← Instr.indexAt t (ρ x) (ρ ix))) : Sem Next).run C.P w) (opF C.P g H (.indexAddr t x ix)) := by
  simp only [opF] at hpre ⊢
  have hx := hg x
  have hix := hg ix
  cases hr : tk C.P t with
  | none => simp only [hr] at hpre; exact hpre.elim
  | some r =>
    obtain ⟨_, _, _, hi, hd', hz, _, _, _, _, e5⟩ := tk_spec hr
    simp only [hr] at hpre ⊢
    cases hgi : g ix with
    | v a =>
      rw [hgi] at hix
      have ei := hix.v_inv
      cases a with
      | int k i =>
        simp only [hgi] at hpre ⊢
        cases hsd : r.sd with
        | sl e =>
          simp only [hsd] at hpre ⊢
          have := sl_spec (e5 ▸ hsd); subst this
          cases hre : tk C.P e with
          | none => simp only [hre] at hpre; exact hpre.elim
          | some re =>
            obtain ⟨i', _, z', hi', _, hz', _, e2', e3', e4', _⟩ := tk_spec hre
            simp only [hre] at hpre ⊢
            cases hgx : g x with
            | own sz kk off n =>
              rw [hgx] at hx
              simp only [hgx] at hpre ⊢
              obtain ⟨h0, hlt, hsz⟩ := hpre
              generalize hy : ρ x = y at hx
              cases hx with
              | own _ _ _ _ ad ad' c hk hn hb hsp ho hcap =>
                have hc0 : c ≠ 0 := by omega
                have hoff := ho hc0
                obtain ⟨bl, of, sp⟩ := ad'
                simp only at hb hsp hoff
                subst hb hsp hoff
                refine .quiet (.pointer (some ⟨ad.block, ad.off + (off + i.toNat * re.size), none⟩)) (run_value ?_) (.ptr _ _ ad hk) rfl
                simp [Instr.indexAt, ei, asIntOf, run_underlying hd', h0, hlt, sizeOf, typeInfo, hi', e2', Addr.add_lit, Nat.add_assoc]
            | sl n cs =>
              rw [hgx] at hx
              simp only [hgx] at hpre ⊢
              obtain ⟨h0, hlt, hlen⟩ := hpre
              generalize hy : ρ x = y at hx
              cases hx with
              | sl _ _ a c xs hn hx' hrep =>
                obtain ⟨ad, rfl, hsp, _, _⟩ := hx' 0 (by omega)
                refine .quiet (.pointer (some ⟨ad.block, ad.off + i.toNat * re.size, none⟩)) (run_value ?_) (.dp _ _ ad xs (fun j hj => ?_) hrep) rfl
                · obtain ⟨bl, of, sp⟩ := ad
                  simp only at hsp
                  subst hsp
                  simp [Instr.indexAt, ei, asIntOf, run_underlying hd', h0, hlt, sizeOf, typeInfo, hi', e2', Addr.add_lit, Nat.add_assoc]
                · obtain ⟨ad2, e, _, q1, q2⟩ := hx' j hj
                  cases e
                  exact ⟨q1, q2⟩
            | _ => simp only [hgx] at hpre; exact hpre.elim
        | arr n e =>
          simp only [hsd] at hpre ⊢
          have := arr_spec (e5 ▸ hsd); subst this
          cases hre : tk C.P e with
          | none => simp only [hre] at hpre; exact hpre.elim
          | some re =>
            obtain ⟨i', _, z', hi', _, hz', _, e2', e3', e4', _⟩ := tk_spec hre
            simp only [hre] at hpre ⊢
            cases hgx : g x with
            | ptr kk off =>
              rw [hgx] at hx
              simp only [hgx] at hpre ⊢
              obtain ⟨h0, hlt⟩ := hpre
              generalize hy : ρ x = y at hx
              cases hx with
              | ptr _ _ ad hk =>
                refine .quiet (.pointer (some ⟨ad.block, ad.off + (off + i.toNat * re.size), none⟩)) (run_value ?_) (.ptr _ _ ad hk) rfl
                simp [Instr.indexAt, Instr.sureAddr, ei, asIntOf, run_underlying hd', h0, hlt, sizeOf, typeInfo, hi', e2', Addr.add_lit, Nat.add_assoc]
            | dp cs off =>
              rw [hgx] at hx
              simp only [hgx] at hpre ⊢
              obtain ⟨h0, hlt⟩ := hpre
              generalize hy : ρ x = y at hx
              cases hx with
              | dp _ _ ad xs h1 h2 =>
                refine .quiet (.pointer (some ⟨ad.block, ad.off + (off + i.toNat * re.size), none⟩)) (run_value ?_) (.dp _ _ ad xs h1 h2) rfl
                simp [Instr.indexAt, Instr.sureAddr, ei, asIntOf, run_underlying hd', h0, hlt, sizeOf, typeInfo, hi', e2', Addr.add_lit, Nat.add_assoc]
            | _ => simp only [hgx] at hpre; exact hpre.elim
        | _ => simp only [hsd] at hpre; exact hpre.elim
      | _ => simp only [hgi] at hpre; exact hpre.elim
    | _ => simp only [hgi] at hpre; exact hpre.elim

theorem bound_some {d : Int} {o : Option Operand} {n : Int} (h : boundA g d o = some n) : (o = none ∧ n = d) ∨ ∃ y k, o = some y ∧ ρ y = .int k n := by
  cases o with
  | none => simp [boundA] at h; exact .inl ⟨rfl, h.symm⟩
  | some y =>
    have hy := hg y
    simp only [boundA] at h
    cases hgy : g y with
    | v a =>
      rw [hgy] at h hy
      have e := hy.v_inv
      cases a <;> simp at h
      rename_i k n'
      subst h
      exact .inr ⟨y, k, rfl, e⟩
    | _ => rw [hgy] at h; simp at h

theorem run_bounds {P : Program} {len cap : Nat} {lo hi : Option Operand} {l h : Int} (hlo : boundA g 0 lo = some l) (hhi : boundA g len hi = some h) (h0 : 0 ≤ l) (h1 : l ≤ h) (h2 : h ≤ len) (hc : len ≤ cap) :
    (Instr.sliceBounds true len cap (lo.map ρ) (hi.map ρ) none).run P w = .ok (l.toNat, h.toNat, cap) w := by
  rcases bound_some hg hlo with ⟨rfl, rfl⟩ | ⟨y, k, rfl, e⟩ <;> rcases bound_some hg hhi with ⟨rfl, rfl⟩ | ⟨y', k', rfl, e'⟩
  · simp [Instr.sliceBounds]
  · have : h ≤ (cap : Int) := by omega
    simp [Instr.sliceBounds, Instr.sliceBound, e', asIntOf, this, h1]
  · simp [Instr.sliceBounds, Instr.sliceBound, e, asIntOf, h0, h1]
  · have : h ≤ (cap : Int) := by omega
    have h3 : 0 ≤ h := by omega
    have h4 : l ≤ ((h.toNat : Nat) : Int) := by omega
    have h5 : ¬ (max h 0 < l) := by rw [Int.max_eq_left h3]; omega
    simp [Instr.sliceBounds, Instr.sliceBound, e, e', asIntOf, this, h0, h1, h3, h5]

theorem s_slice {t : TypeId} {x : Operand} {lo hi : Option Operand} (hpre : (opF C.P g H (.slice t x lo hi none)).pre) :
    CalmOut mu (Sset X mu Hb) w H ((do pure (Next.value (← Instr.sliceAt t (ρ x) (lo.map ρ) (hi.map ρ) none)) : Sem Next).run C.P w) (opF C.P g H (.slice t x lo hi none)) := by
  simp only [opF] at hpre ⊢
  have hx := hg x
  cases hr : tk C.P t with
  | none => simp only [hr] at hpre; exact hpre.elim
  | some r =>
    obtain ⟨_, _, _, hi', hd', hz, _, _, _, _, e5⟩ := tk_spec hr
    simp only [hr] at hpre ⊢
    cases hsd : r.sd with
    | sl e =>
      simp only [hsd] at hpre ⊢
      have := sl_spec (e5 ▸ hsd); subst this
      cases hre : tk C.P e with
      | none => simp only [hre] at hpre; exact hpre.elim
      | some re =>
        obtain ⟨i', _, z', hi'', _, hz', _, e2', e3', e4', _⟩ := tk_spec hre
        simp only [hre] at hpre ⊢
        cases hgx : g x with
        | own sz kk off n =>
          rw [hgx] at hx
          simp only [hgx] at hpre ⊢
          generalize hl : boundA g 0 lo = ol at hpre ⊢
          generalize hh : boundA g n hi = oh at hpre ⊢
          cases ol with
          | none => exact hpre.elim
          | some l =>
            cases oh with
            | none => exact hpre.elim
            | some h =>
              obtain ⟨h0, h1, h2, rfl⟩ := hpre
              generalize hy : ρ x = y at hx
              cases hx with
              | own _ _ _ _ ad ad' c hk hn hb hsp ho hcap =>
                have hrun := run_bounds (P := C.P) hg (lo := lo) (hi := hi) hl hh h0 h1 h2 hn
                obtain ⟨bl, of, sp⟩ := ad'
                simp only at hb hsp ho
                subst hb hsp
                refine .quiet (.slice (if c = l.toNat then some ⟨ad.block, of, none⟩ else some ⟨ad.block, of + l.toNat * re.size, none⟩) (h.toNat - l.toNat) (c - l.toNat)) (run_value ?_) ?_ rfl
                · have hcond : ∀ (q : Bool), True := fun _ => trivial
                  simp [Instr.sliceAt, Instr.slice, run_underlying hd', hrun, sizeOf, typeInfo, hi'', e2', Addr.add_lit]
                · by_cases hcl : c = l.toNat
                  · rw [if_pos hcl]
                    obtain ⟨cs, e, q1, q2⟩ := hcap
                    exact .own _ _ _ _ ad _ _ hk (by omega) rfl rfl (fun h => by omega) ⟨cs, e, q1, fun h => by omega⟩
                  · rw [if_neg hcl]
                    have hc0 : c ≠ 0 := by omega
                    obtain ⟨cs, e, q1, q2⟩ := hcap
                    have q2 := q2 hc0
                    refine .own _ _ _ _ ad _ _ hk (by omega) rfl rfl (fun _ => by rw [ho hc0]; simp only; omega) ⟨cs, e, q1, fun _ => ?_⟩
                    have hm : (c - l.toNat) * re.size + l.toNat * re.size = c * re.size := by rw [← Nat.add_mul]; congr 1; omega
                    omega
        | sl n cs =>
          rw [hgx] at hx
          simp only [hgx] at hpre ⊢
          generalize hl : boundA g 0 lo = ol at hpre ⊢
          generalize hh : boundA g n hi = oh at hpre ⊢
          cases ol with
          | none => exact hpre.elim
          | some l =>
            cases oh with
            | none => exact hpre.elim
            | some h =>
              obtain ⟨h0, h1, h2⟩ := hpre
              generalize hy : ρ x = y at hx
              cases hx with
              | sl _ _ a c xs hn hx' hrep =>
                have hrun := run_bounds (P := C.P) hg (lo := lo) (hi := hi) hl hh h0 h1 h2 hn
                refine .quiet (.slice (if c = l.toNat then a else a.map (·.add (l.toNat * re.size))) (h.toNat - l.toNat) (c - l.toNat)) (run_value ?_) ?_ rfl
                · simp [Instr.sliceAt, Instr.slice, run_underlying hd', hrun, sizeOf, typeInfo, hi'', e2']
                · refine .sl _ _ _ _ (fun j => xs (l.toNat * re.size + j)) (by omega) (fun j hj => ?_) (fun j hj => ?_)
                  · simp only [List.length_take, List.length_drop] at hj
                    have hpos : 0 < h.toNat - l.toNat := by
                      rcases Nat.eq_zero_or_pos (h.toNat - l.toNat) with q | q
                      · rw [q] at hj; simp at hj
                      · exact q
                    rw [if_neg (by omega)]
                    obtain ⟨ad, rfl, hsp, q1, q2⟩ := hx' (l.toNat * re.size + j) (by omega)
                    obtain ⟨bl, of, sp⟩ := ad
                    simp only at hsp
                    subst hsp
                    refine ⟨⟨bl, of + l.toNat * re.size, none⟩, by simp [Addr.add_lit], rfl, q1, ?_⟩
                    simp only [Nat.add_assoc] at q2 ⊢; exact q2
                  · simp only [List.length_take, List.length_drop] at hj
                    rw [getD_take _ _ _ _ (by omega), getD_drop]
                    exact hrep _ (by omega)
        | _ => simp only [hgx] at hpre; exact hpre.elim
    | _ => simp only [hsd] at hpre; exact hpre.elim

end
end Go.Ab

set_option linter.unusedVariables false
set_option linter.unusedSimpArgs false
set_option linter.unusedSectionVars false
namespace Go.Ab
open Go.RowKit (Below)

section
variable {C : Ctx} {B : Nat} {X : Nat → Prop} {w0 : World} {mu : Mu} {Hb : Heap} {w : World} {g : Operand → AV} {ρ : Operand → Value} {H : Heap}
variable (hg : ∀ x, ARep mu (Sset X mu Hb) w (g x) (ρ x)) (hs : SimH C B X w0 mu Hb w) (hp : H <+: Hb)
include hg

theorem run_call_builtin {P : Program} {o : Oper} {b : Builtin} {args : Array Operand} {ts : Array TypeId} {w w' : World} {x : Value} {f : Sem Value}
    (ho : o.op = .call ⟨.builtin b, args, ts⟩) (hb : ∀ consts, builtin b ts o.type consts (args.map ρ) = (do pure (Next.value (← f)))) (hf : f.run P w = .ok x w') : (execOp ρ o).run P w = .ok (.value x) w' := by
  simp [execOp, ho, resolve, invoke, hb, hf]

theorem s_len {o : Oper} {args : Array Operand} {ts : Array TypeId} (ho : o.op = .call ⟨.builtin .len, args, ts⟩) (hpre : (opF C.P g H (.call ⟨.builtin .len, args, ts⟩)).pre) :
    CalmOut mu (Sset X mu Hb) w H ((execOp ρ o).run C.P w) (opF C.P g H (.call ⟨.builtin .len, args, ts⟩)) := by
  obtain ⟨args⟩ := args
  obtain ⟨ts⟩ := ts
  simp only [opF] at hpre ⊢
  match args, ts, hpre with
  | [x], [t], hpre =>
    simp only at hpre ⊢
    have hx := hg x
    cases hr : tk C.P t with
    | none => simp only [hr] at hpre; exact hpre.elim
    | some r =>
      obtain ⟨_, _, _, hi, hd', hz, _, _, _, _, e5⟩ := tk_spec hr
      simp only [hr] at hpre ⊢
      have fin : ∀ (y : Value), (Builtin.len_ #[t] o.type #[ρ x]).run C.P w = .ok y w → (execOp ρ o).run C.P w = .ok (.value y) w := fun y h =>
        run_call_builtin hg (f := Builtin.len_ #[t] o.type #[ρ x]) ho (fun _ => by simp [builtin]) h
      cases hsd : r.sd with
      | sl e =>
        have := sl_spec (e5 ▸ hsd); subst this
        cases hgx : g x with
        | own sz k off n =>
          rw [hgx] at hx
          simp only [hsd, hgx] at hpre ⊢
          generalize hy : ρ x = y at hx
          cases hx with
          | own _ _ _ _ ad ad' c => exact .quiet (.int .i64 n) (fin _ (by simp [hy, Builtin.len_, run_underlying hd', goInt])) (.v _) rfl
        | sl n cs =>
          rw [hgx] at hx
          simp only [hsd, hgx] at hpre ⊢
          generalize hy : ρ x = y at hx
          cases hx with
          | sl => exact .quiet (.int .i64 n) (fin _ (by simp [hy, Builtin.len_, run_underlying hd', goInt])) (.v _) rfl
        | v a =>
          rw [hgx] at hx
          have e := hx.v_inv
          cases a <;> simp only [hsd, hgx] at hpre ⊢ <;> first | exact hpre.elim | skip
          exact .quiet _ (fin _ (by simp [e, Builtin.len_, run_underlying hd', goInt])) (.v _) rfl
        | _ => simp only [hsd, hgx] at hpre; exact hpre.elim
      | arr n e =>
        have := arr_spec (e5 ▸ hsd); subst this
        have hav : ∀ a, (match (SD.arr n e), a with
          | .sl _, AV.own _ _ _ n => Out.mk True (.v (.int .i64 n)) H
          | .sl _, .sl n _ => ⟨True, .v (.int .i64 n), H⟩
          | .sl _, .v (.slice _ n _) => ⟨True, .v (.int .i64 n), H⟩
          | .arr n _, _ => ⟨True, .v (.int .i64 n), H⟩
          | _, _ => .no H) = ⟨True, .v (.int .i64 n), H⟩ := fun a => by cases a <;> rfl
        simp only [hsd] at hpre ⊢
        exact .quiet (.int .i64 n) (fin _ (by simp [Builtin.len_, run_underlying hd', goInt])) (.v _) rfl
      | _ => simp only [hsd] at hpre; exact hpre.elim
  | [], [], hpre => exact hpre.elim
  | [], _ :: _, hpre => exact hpre.elim
  | _ :: _ :: _, [], hpre => exact hpre.elim
  | _ :: _ :: _, _ :: _, hpre => exact hpre.elim
  | [_], [], hpre => exact hpre.elim
  | [_], _ :: _ :: _, hpre => exact hpre.elim

theorem s_max {o : Oper} {args : Array Operand} {ts : Array TypeId} (ho : o.op = .call ⟨.builtin .max, args, ts⟩) (hpre : (opF C.P g H (.call ⟨.builtin .max, args, ts⟩)).pre) :
    CalmOut mu (Sset X mu Hb) w H ((execOp ρ o).run C.P w) (opF C.P g H (.call ⟨.builtin .max, args, ts⟩)) := by
  obtain ⟨args⟩ := args
  simp only [opF] at hpre ⊢
  match args, hpre with
  | [x, y], hpre =>
    simp only at hpre ⊢
    have hx := hg x
    have hy := hg y
    cases hgx : g x with
    | v a =>
      cases hgy : g y with
      | v b =>
        rw [hgx] at hx
        rw [hgy] at hy
        have ex := hx.v_inv
        have ey := hy.v_inv
        cases a <;> cases b <;> simp only [hgx, hgy] at hpre ⊢ <;> first | exact hpre.elim | skip
        rename_i k1 n1 k2 n2
        exact .quiet (.int k1 (if n2 > n1 then n2 else n1)) (run_call_builtin hg (f := Builtin.max_ ts o.type #[ρ x, ρ y]) ho (fun _ => by simp [builtin]) (by simp [ex, ey, Builtin.max_, Builtin.max2])) (.v _) rfl
      | _ => cases a <;> simp only [hgx, hgy] at hpre <;> exact hpre.elim
    | _ => simp only [hgx] at hpre; exact hpre.elim
  | [], hpre => exact hpre.elim
  | [_], hpre => exact hpre.elim
  | _ :: _ :: _ :: _, hpre => exact hpre.elim

theorem s_min {o : Oper} {args : Array Operand} {ts : Array TypeId} (ho : o.op = .call ⟨.builtin .min, args, ts⟩) (hpre : (opF C.P g H (.call ⟨.builtin .min, args, ts⟩)).pre) :
    CalmOut mu (Sset X mu Hb) w H ((execOp ρ o).run C.P w) (opF C.P g H (.call ⟨.builtin .min, args, ts⟩)) := by
  obtain ⟨args⟩ := args
  simp only [opF] at hpre ⊢
  match args, hpre with
  | [x, y], hpre =>
    simp only at hpre ⊢
    have hx := hg x
    have hy := hg y
    cases hgx : g x with
    | v a =>
      cases hgy : g y with
      | v b =>
        rw [hgx] at hx
        rw [hgy] at hy
        have ex := hx.v_inv
        have ey := hy.v_inv
        cases a <;> cases b <;> simp only [hgx, hgy] at hpre ⊢ <;> first | exact hpre.elim | skip
        rename_i k1 n1 k2 n2
        exact .quiet (.int k1 (if n2 < n1 then n2 else n1)) (run_call_builtin hg (f := Builtin.min_ ts o.type #[ρ x, ρ y]) ho (fun _ => by simp [builtin]) (by simp [ex, ey, Builtin.min_, Builtin.min2])) (.v _) rfl
      | _ => cases a <;> simp only [hgx, hgy] at hpre <;> exact hpre.elim
    | _ => simp only [hgx] at hpre; exact hpre.elim
  | [], hpre => exact hpre.elim
  | [_], hpre => exact hpre.elim
  | _ :: _ :: _ :: _, hpre => exact hpre.elim

theorem s_complex {o : Oper} {args : Array Operand} {ts : Array TypeId} (ho : o.op = .call ⟨.builtin .complex, args, ts⟩) (hpre : (opF C.P g H (.call ⟨.builtin .complex, args, ts⟩)).pre) :
    CalmOut mu (Sset X mu Hb) w H ((execOp ρ o).run C.P w) (opF C.P g H (.call ⟨.builtin .complex, args, ts⟩)) := by
  obtain ⟨args⟩ := args
  simp only [opF] at hpre ⊢
  match args, hpre with
  | [x, y], hpre =>
    simp only at hpre ⊢
    have hx := hg x
    have hy := hg y
    cases hgx : g x with
    | v a =>
      cases hgy : g y with
      | v b =>
        rw [hgx] at hx
        rw [hgy] at hy
        have ex := hx.v_inv
        have ey := hy.v_inv
        cases a <;> cases b <;> simp only [hgx, hgy] at hpre ⊢ <;> first | exact hpre.elim | skip
        rename_i k1 n1 k2 n2
        exact .quiet (.complex k1 n1 n2) (run_call_builtin hg (f := Builtin.complex_ ts o.type #[ρ x, ρ y]) ho (fun _ => by simp [builtin]) (by rw [ex, ey]; subst hpre; show Sem.run C.P (if k1 = k1 then _ else _) w = _; rw [if_pos rfl]; rfl)) (.v _) rfl
      | _ => cases a <;> simp only [hgx, hgy] at hpre <;> exact hpre.elim
    | _ => simp only [hgx] at hpre; exact hpre.elim
  | [], hpre => exact hpre.elim
  | [_], hpre => exact hpre.elim
  | _ :: _ :: _ :: _, hpre => exact hpre.elim

theorem s_real {o : Oper} {args : Array Operand} {ts : Array TypeId} (ho : o.op = .call ⟨.builtin .real, args, ts⟩) (hpre : (opF C.P g H (.call ⟨.builtin .real, args, ts⟩)).pre) :
    CalmOut mu (Sset X mu Hb) w H ((execOp ρ o).run C.P w) (opF C.P g H (.call ⟨.builtin .real, args, ts⟩)) := by
  obtain ⟨args⟩ := args
  simp only [opF] at hpre ⊢
  match args, hpre with
  | [x], hpre =>
    simp only at hpre ⊢
    have hx := hg x
    cases hgx : g x with
    | v a =>
      rw [hgx] at hx
      have ex := hx.v_inv
      cases a <;> simp only [hgx] at hpre ⊢ <;> first | exact hpre.elim | skip
      rename_i k1 n1 n2
      exact .quiet (.float k1 n1) (run_call_builtin hg (f := Builtin.real_ ts o.type #[ρ x]) ho (fun _ => by simp [builtin]) (by rw [ex]; rfl)) (.v _) rfl
    | _ => simp only [hgx] at hpre; exact hpre.elim
  | [], hpre => exact hpre.elim
  | _ :: _ :: _, hpre => exact hpre.elim

theorem s_imag {o : Oper} {args : Array Operand} {ts : Array TypeId} (ho : o.op = .call ⟨.builtin .imag, args, ts⟩) (hpre : (opF C.P g H (.call ⟨.builtin .imag, args, ts⟩)).pre) :
    CalmOut mu (Sset X mu Hb) w H ((execOp ρ o).run C.P w) (opF C.P g H (.call ⟨.builtin .imag, args, ts⟩)) := by
  obtain ⟨args⟩ := args
  simp only [opF] at hpre ⊢
  match args, hpre with
  | [x], hpre =>
    simp only at hpre ⊢
    have hx := hg x
    cases hgx : g x with
    | v a =>
      rw [hgx] at hx
      have ex := hx.v_inv
      cases a <;> simp only [hgx] at hpre ⊢ <;> first | exact hpre.elim | skip
      rename_i k1 n1 n2
      exact .quiet (.float k1 n2) (run_call_builtin hg (f := Builtin.imag_ ts o.type #[ρ x]) ho (fun _ => by simp [builtin]) (by rw [ex]; rfl)) (.v _) rfl
    | _ => simp only [hgx] at hpre; exact hpre.elim
  | [], hpre => exact hpre.elim
  | _ :: _ :: _, hpre => exact hpre.elim

omit hg in
theorem find_bits {fn : Func} (h : fn.name = "math.Float64bits") (h2 : fn.origin = "") : Extern.findNext fn = none ∧ Extern.find fn = some Extern.MathFloatBits.float64bits := by
  constructor
  · unfold Extern.findNext; rw [h, h2]; rfl
  · unfold Extern.find; rw [h, h2]; rfl
omit hg in
theorem find_from {fn : Func} (h : fn.name = "math.Float64frombits") (h2 : fn.origin = "") : Extern.findNext fn = none ∧ Extern.find fn = some Extern.MathFloatBits.float64frombits := by
  constructor
  · unfold Extern.findNext; rw [h, h2]; rfl
  · unfold Extern.find; rw [h, h2]; rfl
theorem s_ext {o : Oper} {f : FuncId} {args : Array Operand} {ts : Array TypeId} (ho : o.op = .call ⟨.value (.func f), args, ts⟩) (hf : ρ (.func f) = .func (.func f) #[] #[]) {r : Value} (hr : extF C.P f (args.toList.map g) = some r) :
    (execOp ρ o).run C.P w = .ok (.value r) w := by
  obtain ⟨args⟩ := args
  unfold extF at hr
  cases hfn : C.P.funcs[f]? with
  | none => simp only [hfn] at hr; cases hr
  | some fn =>
    simp only [hfn] at hr
    cases hb : fn.body.isNone && fn.origin == "" with
    | false => rw [hb] at hr; cases hr
    | true =>
      rw [hb] at hr
      simp only [Bool.and_eq_true, beq_iff_eq] at hb
      have run1 : ∀ {e : Array Value → Sem Value} (x : Value), (fn.name == "runtime.NumGoroutine") = false → Extern.findNext fn = none → Extern.find fn = some e → (e (args.map ρ).toArray).run C.P w = .ok x w → (execOp ρ o).run C.P w = .ok (.value x) w := by
        intro e x h0 h1 h2 h3
        simp only [execOp, ho, resolve, Deferred.ofValue, hf, invoke, Sem.run_bind, Result.andThen_ok, Sem.run_pure]
        have h4 := run_callFunc_extern (P := C.P) (w := w) hfn h0 hb.1 h1 h2 (args.map ρ).toArray
        simp only [h3, Result.andThen_ok] at h4
        simpa using h4
      cases args with
      | nil => cases h1 : (fn.name == "math.Float64bits") <;> cases h2 : (fn.name == "math.Float64frombits") <;> simp [h1, h2] at hr
      | cons x rest =>
        cases rest with
        | cons y rest => cases h1 : (fn.name == "math.Float64bits") <;> cases h2 : (fn.name == "math.Float64frombits") <;> simp [h1, h2] at hr
        | nil =>
          have hx := hg x
          cases h1 : (fn.name == "math.Float64bits") with
          | true =>
            have h1' : fn.name = "math.Float64bits" := by simpa using h1
            obtain ⟨f1, f2⟩ := find_bits h1' hb.2
            simp only [h1, List.map_cons, List.map_nil] at hr
            cases hgx : g x with
            | v a =>
              rw [hgx] at hx hr
              have ex := hx.v_inv
              cases a with
              | float k b =>
                cases k with
                | f64 =>
                  simp only at hr
                  cases hr
                  exact run1 _ (by rw [h1']; rfl) f1 f2 (by rw [List.map_cons, List.map_nil, ex]; rfl)
                | f32 => cases hr
              | _ => cases hr
            | _ => rw [hgx] at hr; cases hr
          | false =>
            cases h2 : (fn.name == "math.Float64frombits") with
            | false => simp only [h1, h2] at hr; cases hr
            | true =>
              have h2' : fn.name = "math.Float64frombits" := by simpa using h2
              obtain ⟨f1, f2⟩ := find_from h2' hb.2
              simp only [h1, h2, List.map_cons, List.map_nil] at hr
              cases hgx : g x with
              | v a =>
                rw [hgx] at hx hr
                have ex := hx.v_inv
                cases a with
                | int k n =>
                  cases k with
                  | u64 =>
                    simp only at hr
                    cases hr
                    exact run1 _ (by rw [h2']; rfl) f1 f2 (by rw [List.map_cons, List.map_nil, ex]; rfl)
                  | _ => cases hr
                | _ => cases hr
              | _ => rw [hgx] at hr; cases hr

include hs hp in
/-- An operation that changes nothing that was there. -/
theorem calm_sound {o : Oper} (hfun : ∀ f, ρ (.func f) = .func (.func f) #[] #[]) (hns : ∀ t a x, o.op ≠ .store t a x) (hpre : (opF C.P g H o.op).pre) : CalmOut mu (Sset X mu Hb) w H ((execOp ρ o).run C.P w) (opF C.P g H o.op) := by
  cases ho : o.op with
  | move x => exact .quiet (ρ x) (by simp [execOp, ho]) (hg x) rfl
  | assign x => exact .quiet (ρ x) (by simp [execOp, ho]) (hg x) rfl
  | pick c a b => rw [ho] at hpre; have := s_pick hg hpre; simpa only [execOp, ho] using this
  | alloc t => rw [ho] at hpre; have := s_alloc hg hpre; simpa only [execOp, ho] using this
  | box t x => rw [ho] at hpre; have := s_box hg hpre; simpa only [execOp, ho] using this
  | build t ps => rw [ho] at hpre; have := s_build hg hpre; simpa only [execOp, ho] using this
  | buildSlice t n ps => rw [ho] at hpre; have := s_buildSlice hg hpre; simpa only [execOp, ho] using this
  | load t x => rw [ho] at hpre; have := s_load hg hs hp hpre; simpa only [execOp, ho] using this
  | store t a x => exact absurd ho (hns t a x)
  | nilCheck x => rw [ho] at hpre; exact s_nilCheck hg ho hpre
  | binOp op t x y t' => rw [ho] at hpre; have := s_binOp hg hpre; simpa only [execOp, ho] using this
  | unOp op t x => rw [ho] at hpre; have := s_unOp hg hpre; simpa only [execOp, ho] using this
  | convert s d x => rw [ho] at hpre; have := s_convert hg hpre; simpa only [execOp, ho] using this
  | makeSlice t l c => rw [ho] at hpre; have := s_makeSlice hg hpre; simpa only [execOp, ho] using this
  | slice t x lo hi mx =>
    rw [ho] at hpre
    cases mx with
    | none => have := s_slice hg hpre; simpa only [execOp, ho, Option.map_none] using this
    | some m => exact hpre.elim
  | fieldAddr s x f => rw [ho] at hpre; have := s_fieldAddr hg hpre; simpa only [execOp, ho] using this
  | indexAddr t x ix => rw [ho] at hpre; have := s_indexAddr hg hpre; simpa only [execOp, ho] using this
  | field s x f => rw [ho] at hpre; have := s_field hg hpre; simpa only [execOp, ho] using this
  | extract x ix => rw [ho] at hpre; have := s_extract hg hpre; simpa only [execOp, ho] using this
  | call c =>
    obtain ⟨callee, args, ts⟩ := c
    rw [ho] at hpre
    cases callee with
    | value x =>
      cases x with
      | func f =>
        simp only [opF] at hpre ⊢
        cases hr : extF C.P f (args.toList.map g) with
        | none => rw [hr] at hpre; exact hpre.elim
        | some r =>
          simp only
          exact .quiet r (s_ext hg ho (hfun f) hr) (.v _) rfl
      | _ => exact hpre.elim
    | invoke r m => exact hpre.elim
    | builtin b =>
      cases b with
      | len => exact s_len hg ho hpre
      | max => exact s_max hg ho hpre
      | min => exact s_min hg ho hpre
      | complex => exact s_complex hg ho hpre
      | real => exact s_real hg ho hpre
      | imag => exact s_imag hg ho hpre
      | _ => exact hpre.elim
  | _ => rw [ho] at hpre; exact hpre.elim

end
end Go.Ab

set_option linter.unusedVariables false
set_option linter.unusedSimpArgs false
set_option linter.unusedSectionVars false
namespace Go.Ab
open Go.RowKit (Below)

theorem Evo.of_below {S : Nat → Prop} {w w' : World} (h : Below w.heap.size w w') : Evo S w w' :=
  ⟨h.size, fun b _ hb => h.block b hb, fun b cs e hc => ⟨cs, by rw [h.block b (Array.getElem?_eq_some_iff.mp hc).1]; exact hc, rfl⟩⟩

theorem Evo.trans {S S' : Nat → Prop} {w w' w'' : World} (h : Evo S w w') (h' : Evo S' w' w'') (hS : ∀ b, S b → b < w.heap.size → S' b) : Evo S w w'' :=
  ⟨Nat.le_trans h.size h'.size, fun b hb hl => (h'.same b (hS b hb hl) (Nat.lt_of_lt_of_le hl h.size)).trans (h.same b hb hl), fun b cs e hc =>
    let ⟨cs', h1, h2⟩ := h.shape b cs e hc; let ⟨cs'', h3, h4⟩ := h'.shape b cs' e h1; ⟨cs'', h3, h4.trans h2⟩⟩

theorem below_all {B : Nat} {w0 w w' : World} (h0 : B ≤ w0.heap.size) (h : Below B w0 w) (h' : Below w.heap.size w w') : Below B w0 w' :=
  h.trans (h'.mono (Nat.le_trans h0 h.size))

theorem below_alloc (w : World) (o : Obj) : Below w.heap.size w (w.alloc o) := (Below.refl _ _).alloc (Nat.le_refl _) o

section
variable {C : Ctx} {B : Nat} {X : Nat → Prop} {w0 : World} {mu : Mu} {H : Heap} {w w' : World}

theorem ObjRep.evo {mu' : Mu} {S S' : Nat → Prop} {ad : Addr} {cells : List AV} (hm : ∀ k a, mu k = some a → mu' k = some a) (hS : ∀ b, S b → b < w.heap.size → S' b) (he : Evo S w w')
    (hb : w'.heap[ad.block]? = w.heap[ad.block]?) (h : ObjRep mu S w ad cells) : ObjRep mu' S' w' ad cells := by
  obtain ⟨h1, cs, e, h2, xs, h3, h4⟩ := h
  exact ⟨h1, cs, e, by rw [hb]; exact h2, xs, h3, fun i hi => (h4 i hi).mono hm hS he⟩

/-- Blocks that are new, and nothing else. -/
theorem SimH.ext (h : SimH C B X w0 mu H w) (hb : Below w.heap.size w w') : SimH C B X w0 mu H w' where
  hB := h.hB
  below := below_all h.hB h.below hb
  glob := h.glob.below hb
  obj k ad o hk ho hr := by
    have := h.obj k ad o hk ho hr
    obtain ⟨_, cs, e, h2, _⟩ := id this
    exact this.evo (fun _ _ q => q) (fun _ q _ => q) (.of_below hb) (hb.block _ (Array.getElem?_eq_some_iff.mp h2).1)
  lo := h.lo
  hX := h.hX
  hG := h.hG
  lob := h.lob
  inj := h.inj

/-- Only the count of draws differs, or nothing of the heap. -/
theorem below_of_heap {w w' : World} (h1 : w'.heap = w.heap) (h2 : w'.os = w.os) (h3 : w'.tape = w.tape) (h4 : w'.output = w.output) : Below w.heap.size w w' :=
  ⟨h2, h3, h4, by rw [h1]; exact Nat.le_refl _, fun k _ => by rw [h1]⟩

def Mu.put (mu : Mu) (k : Nat) (ad : Addr) : Mu := fun j => if j = k then some ad else mu j

theorem Mu.put_ext {mu : Mu} {k : Nat} {ad : Addr} (hk : mu k = none) : ∀ j a, mu j = some a → (mu.put k ad) j = some a := by
  intro j a h
  unfold Mu.put
  by_cases e : j = k
  · rw [e, hk] at h; cases h
  · rw [if_neg e]; exact h

/-- A new object of the call's own. -/
theorem SimH.new (h : SimH C B X w0 mu H w) {k : Nat} {cs : List AV} {arr : Array Value} {e : TypeId} {wr : Bool} (hk : mu k = none) (hH : H[k]? = some ⟨cs, true, wr⟩)
    (hl : cs.length = arr.size) (hc : CRep mu (Sset X mu H) w cs (fun i => arr.getD i undef)) :
    SimH C B X w0 (mu.put k ⟨w.heap.size, 0, none⟩) H (w.alloc (.cells arr e)) ∧
    (∀ b, Sset X mu H b → b < w.heap.size → Sset X (mu.put k ⟨w.heap.size, 0, none⟩) H b) := by
  have hS : ∀ b, Sset X mu H b → b < w.heap.size → Sset X (mu.put k ⟨w.heap.size, 0, none⟩) H b := by
    intro b hb hlt
    refine ⟨hb.1, fun j ad o hj ho hw => ?_⟩
    unfold Mu.put at hj
    by_cases e : j = k
    · rw [if_pos e] at hj
      cases hj
      simp only
      omega
    · rw [if_neg e] at hj; exact hb.2 j ad o hj ho hw
  have hbel := below_alloc w (.cells arr e)
  refine ⟨⟨h.hB, below_all h.hB h.below hbel, h.glob.below hbel, ?_, ?_, h.hX, h.hG, ?_, ?_⟩, hS⟩
  · intro j ad o hj ho hr
    unfold Mu.put at hj
    by_cases e' : j = k
    · rw [if_pos e'] at hj
      cases hj
      subst e'
      rw [hH] at ho
      cases ho
      refine ⟨rfl, arr, e, heap_alloc_new w _, fun i => arr.getD i undef, fun i hi => ?_, fun i hi => (hc i hi).mono (Mu.put_ext hk) hS (.of_below hbel)⟩
      have hi' : i < arr.size := by simp only at hi; omega
      simp [Array.getD, hi']
    · rw [if_neg e'] at hj
      have := h.obj j ad o hj ho hr
      obtain ⟨_, cs', e2, h2, _⟩ := id this
      exact this.evo (Mu.put_ext hk) hS (.of_below hbel) (hbel.block _ (Array.getElem?_eq_some_iff.mp h2).1)
  · intro j ad o hj ho hw
    unfold Mu.put at hj
    by_cases e' : j = k
    · rw [if_pos e'] at hj
      cases hj
      subst e'
      rw [hH] at ho
      cases ho
      refine ⟨Nat.le_trans h.hB h.below.size, rfl, ?_⟩
      cases hg : C.G w.heap.size with
      | none => rfl
      | some l => have := (h.glob _ _ hg).1; omega
    · rw [if_neg e'] at hj; exact h.lo j ad o hj ho hw
  · intro j ad o hj ho hr
    unfold Mu.put at hj
    by_cases e' : j = k
    · rw [if_pos e'] at hj
      cases hj
      exact Nat.le_trans h.hB h.below.size
    · rw [if_neg e'] at hj; exact h.lob j ad o hj ho hr
  · intro j j' ad ad' o o' hj hj' ho ho' hw hr hb
    unfold Mu.put at hj hj'
    by_cases e1 : j = k <;> by_cases e2 : j' = k
    · rw [e1, e2]
    · rw [if_pos e1] at hj
      rw [if_neg e2] at hj'
      cases hj
      obtain ⟨_, cs', e3, h2, _⟩ := h.obj j' ad' o' hj' ho' hr
      have := (Array.getElem?_eq_some_iff.mp h2).1
      simp only at hb
      omega
    · rw [if_neg e1] at hj
      rw [if_pos e2] at hj'
      cases hj'
      obtain ⟨_, hrd, _⟩ := h.lo j ad o hj ho hw
      obtain ⟨_, cs', e3, h2, _⟩ := h.obj j ad o hj ho hrd
      have := (Array.getElem?_eq_some_iff.mp h2).1
      simp only at hb
      omega
    · rw [if_neg e1] at hj
      rw [if_neg e2] at hj'
      exact h.inj j j' ad ad' o o' hj hj' ho ho' hw hr hb
end

end Go.Ab

set_option linter.unusedVariables false
set_option linter.unusedSimpArgs false
set_option linter.unusedSectionVars false
namespace Go.Ab
open Go.RowKit (Below)

section
variable {C : Ctx} {B : Nat} {X : Nat → Prop} {w0 : World} {mu : Mu} {w : World} {g : Operand → AV} {ρ : Operand → Value} {H : Heap}

theorem setRow_evo {b : Nat} {old cs : Array Value} {e : TypeId} (hb : w.heap[b]? = some (.cells old e (0, 0))) (hsz : cs.size = old.size) {S : Nat → Prop} (hS : ¬ S b) : Evo S w (w.setRow b cs) :=
  ⟨by simp, fun k hk _ => setRow_other w b k cs (fun q => hS (q ▸ hk)), fun k c e' hc => by
    by_cases q : k = b
    · subst q
      rw [hb] at hc
      cases hc
      exact ⟨cs, setRow_heap w k _ cs _ _ hb, hsz⟩
    · exact ⟨c, by rw [setRow_other w b k cs q]; exact hc, rfl⟩⟩

theorem glob_setRow {b : Nat} {cs : Array Value} (h : GlobOK C.G w) (hb : C.G b = none) : GlobOK C.G (w.setRow b cs) := by
  intro k l hk
  have hne : k ≠ b := fun q => by rw [q, hb] at hk; cases hk
  obtain ⟨h1, h2⟩ := h k l hk
  exact ⟨by simpa using h1, fun i hi => by rw [cell_setRow_other w b cs ⟨k, i, none⟩ hne]; exact h2 i hi⟩

theorem heap_set {H : Heap} {k : Nat} {o : AObj} (j : Nat) : (H.set k o)[j]? = if j = k ∧ k < H.length then some o else H[j]? := by
  by_cases h : j = k
  · subst h
    by_cases h2 : j < H.length
    · rw [if_pos ⟨rfl, h2⟩]; simp [h2]
    · rw [if_neg (by omega)]
      rw [List.getElem?_eq_none (by simp; omega), List.getElem?_eq_none (by omega)]
  · rw [if_neg (fun q => h q.1), List.getElem?_set_ne (Ne.symm h)]

/-- A writable object's row is written anew. -/
theorem SimH.write (h : SimH C B X w0 mu H w) {k : Nat} {ad : Addr} {o : AObj} (hk : mu k = some ad) (ho : H[k]? = some o) (hw : o.wr = true) {old cs : Array Value} {e : TypeId}
    (hb : w.heap[ad.block]? = some (.cells old e (0, 0))) (hsz : cs.size = old.size) (cells : List AV) (xs : Nat → Value)
    (hx : ∀ i, i < cells.length → cs[ad.off + i]? = some (xs i)) (hr : CRep mu (Sset X mu H) w cells xs) :
    SimH C B X w0 mu (H.set k ⟨cells, true, true⟩) (w.setRow ad.block cs) ∧ Evo (Sset X mu H) w (w.setRow ad.block cs) ∧ (∀ b, Sset X mu H b → Sset X mu (H.set k ⟨cells, true, true⟩) b) := by
  have hlt : k < H.length := (List.getElem?_eq_some_iff.mp ho).1
  have hnS : ¬ Sset X mu H ad.block := fun q => q.2 k ad o hk ho hw rfl
  have hevo := setRow_evo (S := Sset X mu H) hb hsz hnS
  have hS : ∀ b, Sset X mu H b → Sset X mu (H.set k ⟨cells, true, true⟩) b := by
    intro b q
    refine ⟨q.1, fun j ad' o' hj ho' hw' => ?_⟩
    rw [heap_set] at ho'
    by_cases e : j = k ∧ k < H.length
    · rw [if_pos e] at ho'
      obtain ⟨rfl, _⟩ := e
      exact q.2 j ad' o hj ho hw
    · rw [if_neg e] at ho'; exact q.2 j ad' o' hj ho' hw'
  obtain ⟨l1, l2, l3⟩ := h.lo k ad o hk ho hw
  refine ⟨⟨h.hB, below_setRow h.below l1 cs, glob_setRow h.glob l3, ?_, ?_, h.hX, h.hG, ?_, ?_⟩, hevo, hS⟩
  · intro j ad' o' hj ho' hr'
    rw [heap_set] at ho'
    by_cases e' : j = k ∧ k < H.length
    · rw [if_pos e'] at ho'
      cases ho'
      obtain ⟨rfl, _⟩ := e'
      rw [hk] at hj
      cases hj
      obtain ⟨s1, _⟩ := h.obj j ad o hk ho l2
      exact ⟨s1, cs, e, setRow_heap w _ _ cs _ _ hb, xs, hx, fun i hi => (hr i hi).mono (fun _ _ q => q) (fun b q _ => hS b q) hevo⟩
    · rw [if_neg e'] at ho'
      have := h.obj j ad' o' hj ho' hr'
      have hne : ad'.block ≠ ad.block := fun q => by
        have := h.inj k j ad ad' o o' hk hj ho ho' hw hr' q.symm
        exact e' ⟨this.symm, hlt⟩
      exact this.evo (fun _ _ q => q) (fun b q _ => hS b q) hevo (setRow_other w _ _ cs hne)
  · intro j ad' o' hj ho' hw'
    rw [heap_set] at ho'
    by_cases e' : j = k ∧ k < H.length
    · rw [if_pos e'] at ho'
      cases ho'
      obtain ⟨rfl, _⟩ := e'
      rw [hk] at hj
      cases hj
      exact ⟨l1, rfl, l3⟩
    · rw [if_neg e'] at ho'; exact h.lo j ad' o' hj ho' hw'
  · intro j ad' o' hj ho' hr'
    rw [heap_set] at ho'
    by_cases e' : j = k ∧ k < H.length
    · rw [if_pos e'] at ho'
      cases ho'
      obtain ⟨rfl, _⟩ := e'
      rw [hk] at hj
      cases hj
      exact l1
    · rw [if_neg e'] at ho'; exact h.lob j ad' o' hj ho' hr'
  · intro j j' ad1 ad2 o1 o2 hj hj' ho1 ho2 hw1 hr2 hbb
    rw [heap_set] at ho1 ho2
    by_cases e1 : j = k ∧ k < H.length <;> by_cases e2 : j' = k ∧ k < H.length
    · rw [e1.1, e2.1]
    · rw [if_neg e2] at ho2
      obtain ⟨rfl, _⟩ := e1
      exact h.inj j j' ad1 ad2 o o2 hj hj' ho ho2 hw hr2 hbb
    · rw [if_neg e1] at ho1
      obtain ⟨rfl, _⟩ := e2
      exact h.inj j j' ad1 ad2 o1 o hj hj' ho1 ho hw1 l2 hbb
    · rw [if_neg e1] at ho1
      rw [if_neg e2] at ho2
      exact h.inj j j' ad1 ad2 o1 o2 hj hj' ho1 ho2 hw1 hr2 hbb

theorem run_storeAt {P : Program} {t : TypeId} {r : TK} (hr : tk P t = some r) {b off : Nat} {x : Value} {old : Array Value} {e : TypeId}
    (hb : w.heap[b]? = some (.cells old e (0, 0))) (hsz : x.cells.size = r.size) (hle : off + r.size ≤ old.size) (h1 : ∀ v ∈ x.cells.toList, v.oneCell' = true) :
    (Instr.storeAt t (.pointer (some ⟨b, off, none⟩)) x).run P w = .ok () (w.setRow b (old.toList.take off ++ x.cells.toList ++ old.toList.drop (off + x.cells.toList.length)).toArray) := by
  obtain ⟨i, d, z, hi, hd', hz, e1, e2, e3, e4, e5⟩ := tk_spec hr
  have hst := run_storeCells_at (P := P) b off e x.cells.toList 0 old w hb (by simp; omega) h1
  simp only [Nat.add_zero] at hst
  have hne : x.cells.size = i.size := by rw [← e2, hsz]
  have hso : (sizeOf t).run P w = .ok i.size w := by simp [sizeOf, typeInfo, hi]
  simp only [Instr.storeAt, Instr.sureAddr, storeVar, Sem.run_bind, Sem.run_pure, Result.andThen_ok, hso]
  simp only [hne, ne_eq, not_true_eq_false, if_false]
  exact hst

theorem getElem?_seg (old : List Value) (vs : List Value) (off i : Nat) (h : off + vs.length ≤ old.length) :
    (old.take off ++ vs ++ old.drop (off + vs.length))[i]? = if off ≤ i ∧ i < off + vs.length then vs[i - off]? else old[i]? := by
  rw [List.append_assoc]
  by_cases h1 : i < off
  · rw [List.getElem?_append_left (by simp; omega), if_neg (by omega)]
    simp [List.getElem?_take, h1]
  · rw [List.getElem?_append_right (by simp; omega)]
    have e : (old.take off).length = off := by simp; omega
    rw [e]
    by_cases h2 : i < off + vs.length
    · rw [if_pos ⟨by omega, h2⟩, List.getElem?_append_left (by omega)]
    · rw [if_neg (by omega), List.getElem?_append_right (by omega), List.getElem?_drop]
      congr 1; omega

theorem store_sound (hg : ∀ x, ARep mu (Sset X mu H) w (g x) (ρ x)) (hs : SimH C B X w0 mu H w) {o : Oper} {t : TypeId} {a x : Operand} (ho : o.op = .store t a x) (hpre : (opF C.P g H (.store t a x)).pre) :
    ∃ w', (execOp ρ o).run C.P w = .ok .skip w' ∧ SimH C B X w0 mu (opF C.P g H (.store t a x)).H w' ∧ Evo (Sset X mu H) w w' ∧ (∀ b, Sset X mu H b → Sset X mu (opF C.P g H (.store t a x)).H b) ∧ (opF C.P g H (.store t a x)).av = .v undef := by
  simp only [opF] at hpre ⊢
  cases hr : tk C.P t with
  | none => simp only [hr] at hpre; exact hpre.elim
  | some r =>
    have ha := hg a
    cases hga : g a with
    | ptr k off =>
      rw [hga] at ha
      cases hcx : cellsA (g x) with
      | none => simp only [hr, hga, hcx] at hpre; exact hpre.elim
      | some vc =>
        simp only [hr, hga, hcx] at hpre ⊢
        obtain ⟨hw, hl, hpos, hleaf, hle⟩ := hpre
        obtain ⟨c1, c2⟩ := cellsA_rep (hg x) hcx
        generalize hy : ρ a = y at ha
        cases ha with
        | ptr _ _ ad hk =>
          have hok := hd_spec (List.prefix_refl H) (.inr hw)
          obtain ⟨_, hrd, _⟩ := hs.lo k ad _ hk hok hw
          obtain ⟨s1, old, e, hb, xs, hxs, hrep⟩ := hs.obj k ad _ hk hok hrd
          have hfit : ad.off + off + r.size ≤ old.size := by
            have := hxs ((hd H k).cells.length - 1) (by omega)
            have := (Array.getElem?_eq_some_iff.mp this).1
            omega
          have h1 : ∀ v ∈ (ρ x).cells.toList, v.oneCell' = true := by
            intro v hv
            obtain ⟨i, hi, rfl⟩ := List.mem_iff_getElem.mp hv
            have hi' : i < vc.length := by simp at hi; omega
            have := c2 i hi'
            have hlf := List.all_eq_true.mp hleaf (vc.getD i .bad) (by simp [List.getD_eq_getElem?_getD, hi'])
            have e2 : (ρ x).cells.getD i undef = (ρ x).cells.toList[i] := by simp at hi; simp [Array.getD, hi]
            exact e2 ▸ leafA_rep this hlf
          have hrun := run_storeAt hr hb (x := ρ x) (off := ad.off + off) (by omega) hfit h1
          have hlen : (ρ x).cells.toList.length = vc.length := by simp; omega
          have hseg := fun i => getElem?_seg old.toList (ρ x).cells.toList (ad.off + off) i (by rw [hlen]; simp; omega)
          obtain ⟨q1, q2, q3⟩ := hs.write hk hok hw hb (cs := (old.toList.take (ad.off + off) ++ (ρ x).cells.toList ++ old.toList.drop (ad.off + off + (ρ x).cells.toList.length)).toArray)
            (by simp; omega) (spl (hd H k).cells off vc) (fun i => if off ≤ i ∧ i < off + vc.length then (ρ x).cells.getD (i - off) undef else xs i)
            (fun i hi => by
              rw [length_spl hle] at hi
              simp only [List.getElem?_toArray]
              rw [hseg, hlen]
              by_cases h : off ≤ i ∧ i < off + vc.length
              · have hii : ad.off + i - (ad.off + off) = i - off := by omega
                have hlt : i - off < (ρ x).cells.size := by omega
                rw [if_pos (by omega), if_pos h, hii]
                simp [Array.getD, hlt]
              · rw [if_neg (by omega), if_neg h]
                simpa using hxs i hi)
            (fun i hi => by
              rw [length_spl hle] at hi
              rw [getD_spl _ _ _ _ hle]
              by_cases h : off ≤ i ∧ i < off + vc.length
              · simp only [if_pos h]
                exact c2 (i - off) (by omega)
              · simp only [if_neg h]
                exact hrep i hi)
          exact ⟨_, by simp [execOp, ho, hy, hrun], q1, q2, q3, trivial⟩
    | _ => simp only [hr, hga] at hpre; exact hpre.elim
end

end Go.Ab

set_option linter.unusedVariables false
set_option linter.unusedSimpArgs false
set_option linter.unusedSectionVars false
namespace Go.Ab
open Go.RowKit (Below)

section
variable {C : Ctx} {B : Nat} {X : Nat → Prop} {w0 : World} {mu : Mu} {w : World} {g : Operand → AV} {ρ : Operand → Value} {H : Heap}

theorem SimH.grow (h : SimH C B X w0 mu H w) (hk : mu H.length = none) (o : AObj) : SimH C B X w0 mu (H ++ [o]) w ∧ (∀ b, Sset X mu H b → Sset X mu (H ++ [o]) b) ∧ (∀ b, Sset X mu (H ++ [o]) b → Sset X mu H b) := by
  have key : ∀ k ad o', mu k = some ad → ((H ++ [o])[k]? = some o' ↔ H[k]? = some o') := by
    intro k ad o' hm
    by_cases e : k < H.length
    · rw [List.getElem?_append_left e]
    · have : k ≠ H.length := fun q => by rw [q, hk] at hm; cases hm
      rw [List.getElem?_eq_none (by simp; omega), List.getElem?_eq_none (by omega)]
  have s1 : ∀ b, Sset X mu H b → Sset X mu (H ++ [o]) b := fun b q => ⟨q.1, fun k ad o' hm ho hw => q.2 k ad o' hm ((key k ad o' hm).mp ho) hw⟩
  have s2 : ∀ b, Sset X mu (H ++ [o]) b → Sset X mu H b := fun b q => ⟨q.1, fun k ad o' hm ho hw => q.2 k ad o' hm ((key k ad o' hm).mpr ho) hw⟩
  exact ⟨⟨h.hB, h.below, h.glob, fun k ad o' hm ho hr => (h.obj k ad o' hm ((key k ad o' hm).mp ho) hr).evo (fun _ _ q => q) (fun b q _ => s1 b q) (.refl _ _) rfl,
    fun k ad o' hm ho hw => h.lo k ad o' hm ((key k ad o' hm).mp ho) hw, h.hX, h.hG,
    fun k ad o' hm ho hr => h.lob k ad o' hm ((key k ad o' hm).mp ho) hr,
    fun k k' ad ad' o1 o2 hm hm' h1 h2 => h.inj k k' ad ad' o1 o2 hm hm' ((key k ad o1 hm).mp h1) ((key k' ad' o2 hm').mp h2)⟩, s1, s2⟩

/-- An object is no longer written (fz: it may still be read). -/
theorem SimH.still (h : SimH C B X w0 mu H w) {k : Nat} {o o' : AObj} (ho : H[k]? = some o) (hc : o'.rd = true → o'.cells = o.cells ∧ o.rd = true) (hw : o'.wr = false) :
    SimH C B X w0 mu (H.set k o') w ∧ (∀ b, Sset X mu H b → Sset X mu (H.set k o') b) := by
  have hlt : k < H.length := (List.getElem?_eq_some_iff.mp ho).1
  have hS : ∀ b, Sset X mu H b → Sset X mu (H.set k o') b := by
    intro b q
    refine ⟨q.1, fun j ad o1 hj ho1 hw1 => ?_⟩
    rw [heap_set] at ho1
    by_cases e : j = k ∧ k < H.length
    · rw [if_pos e] at ho1; cases ho1; rw [hw] at hw1; cases hw1
    · rw [if_neg e] at ho1; exact q.2 j ad o1 hj ho1 hw1
  refine ⟨⟨h.hB, h.below, h.glob, ?_, ?_, h.hX, h.hG, ?_, ?_⟩, hS⟩
  · intro j ad o1 hj ho1 hr1
    rw [heap_set] at ho1
    by_cases e : j = k ∧ k < H.length
    · rw [if_pos e] at ho1; cases ho1
      obtain ⟨c1, c2⟩ := hc hr1
      rw [c1]
      obtain ⟨rfl, _⟩ := e
      exact (h.obj j ad o hj ho c2).evo (fun _ _ q => q) (fun b q _ => hS b q) (.refl _ _) rfl
    · rw [if_neg e] at ho1; exact (h.obj j ad o1 hj ho1 hr1).evo (fun _ _ q => q) (fun b q _ => hS b q) (.refl _ _) rfl
  · intro j ad o1 hj ho1 hw1
    rw [heap_set] at ho1
    by_cases e : j = k ∧ k < H.length
    · rw [if_pos e] at ho1; cases ho1; rw [hw] at hw1; cases hw1
    · rw [if_neg e] at ho1; exact h.lo j ad o1 hj ho1 hw1
  · intro j ad o1 hj ho1 hr1
    rw [heap_set] at ho1
    by_cases e : j = k ∧ k < H.length
    · rw [if_pos e] at ho1; cases ho1
      obtain ⟨c1, c2⟩ := hc hr1
      obtain ⟨rfl, _⟩ := e
      exact h.lob j ad o hj ho c2
    · rw [if_neg e] at ho1; exact h.lob j ad o1 hj ho1 hr1
  · intro j j' ad ad' o1 o2 hj hj' ho1 ho2 hw1 hr2 hb
    rw [heap_set] at ho1 ho2
    by_cases e : j = k ∧ k < H.length
    · rw [if_pos e] at ho1; cases ho1; rw [hw] at hw1; cases hw1
    · rw [if_neg e] at ho1
      by_cases e2 : j' = k ∧ k < H.length
      · rw [if_pos e2] at ho2; cases ho2
        obtain ⟨c1, c2⟩ := hc hr2
        obtain ⟨rfl, _⟩ := e2
        exact h.inj j j' ad ad' o1 o hj hj' ho1 ho hw1 c2 hb
      · rw [if_neg e2] at ho2; exact h.inj j j' ad ad' o1 o2 hj hj' ho1 ho2 hw1 hr2 hb

/-- A writable object takes a new number; the old one is dead. -/
theorem SimH.rename (h : SimH C B X w0 mu H w) {k : Nat} {ad : Addr} {pre cs : List AV} (hk : mu k = some ad) (hn : mu H.length = none) (ho : H[k]? = some ⟨pre ++ cs, true, true⟩) :
    SimH C B X w0 (mu.put H.length ⟨ad.block, ad.off + pre.length, none⟩) (H.set k dead ++ [⟨cs, true, true⟩]) w ∧
      (∀ b, Sset X mu H b → Sset X (mu.put H.length ⟨ad.block, ad.off + pre.length, none⟩) (H.set k dead ++ [⟨cs, true, true⟩]) b) := by
  have hlt : k < H.length := (List.getElem?_eq_some_iff.mp ho).1
  have hne : k ≠ H.length := by omega
  obtain ⟨h1, s1⟩ := h.still (o' := dead) ho (by simp [dead]) rfl
  have hn' : mu (H.set k dead).length = none := by simpa using hn
  obtain ⟨h2, s2, s3⟩ := h1.grow hn' ⟨cs, true, true⟩
  have hext := Mu.put_ext (ad := ⟨ad.block, ad.off + pre.length, none⟩) hn
  obtain ⟨q1, q2, q3⟩ := h.lo k ad _ hk ho rfl
  have hS : ∀ b, Sset X mu H b → Sset X (mu.put H.length ⟨ad.block, ad.off + pre.length, none⟩) (H.set k dead ++ [⟨cs, true, true⟩]) b := by
    intro b hb
    refine ⟨hb.1, fun j ad' o' hj ho' hw' => ?_⟩
    unfold Mu.put at hj
    by_cases e : j = H.length
    · rw [if_pos e] at hj; cases hj; exact hb.2 k ad _ hk ho rfl
    · rw [if_neg e] at hj; exact (s2 b (s1 b hb)).2 j ad' o' hj ho' hw'
  have last : ∀ o', (H.set k dead ++ [⟨cs, true, true⟩])[H.length]? = some o' → o' = ⟨cs, true, true⟩ := by
    intro o' q
    rw [List.getElem?_append_right (by simp)] at q
    simpa using q.symm
  refine ⟨⟨h.hB, h.below, h.glob, ?_, ?_, h.hX, h.hG, ?_, ?_⟩, hS⟩
  · intro j ad' o' hj ho' hr'
    unfold Mu.put at hj
    by_cases e : j = H.length
    · rw [if_pos e] at hj; cases hj; subst e
      cases last o' ho'
      obtain ⟨t1, c, e2, t2, xs, t3, t4⟩ := h.obj k ad _ hk ho rfl
      refine ⟨rfl, c, e2, t2, fun i => xs (pre.length + i), fun i hi => ?_, fun i hi => ?_⟩
      · have := t3 (pre.length + i) (by simp at hi ⊢; omega)
        rw [← this]; congr 1; simp only; omega
      · have := t4 (pre.length + i) (by simp at hi ⊢; omega)
        have e3 : (pre ++ cs).getD (pre.length + i) AV.bad = cs.getD i .bad := by
          simp [List.getD_eq_getElem?_getD, List.getElem?_append_right]
        simp only [e3] at this
        exact this.mono hext (fun b q _ => hS b q) (.refl _ _)
    · rw [if_neg e] at hj
      have hlt2 : j < H.length := by
        have := (List.getElem?_eq_some_iff.mp ho').1
        simp at this; omega
      rw [List.getElem?_append_left (by simpa using hlt2), heap_set] at ho'
      by_cases e3 : j = k ∧ k < H.length
      · rw [if_pos e3] at ho'; cases ho'; cases hr'
      · rw [if_neg e3] at ho'
        exact (h.obj j ad' o' hj ho' hr').evo hext (fun b q _ => hS b q) (.refl _ _) rfl
  · intro j ad' o' hj ho' hw'
    unfold Mu.put at hj
    by_cases e : j = H.length
    · rw [if_pos e] at hj; cases hj; subst e; cases last o' ho'
      exact ⟨q1, rfl, q3⟩
    · rw [if_neg e] at hj; exact h2.lo j ad' o' hj ho' hw'
  · intro j ad' o' hj ho' hr'
    unfold Mu.put at hj
    by_cases e : j = H.length
    · rw [if_pos e] at hj; cases hj; exact q1
    · rw [if_neg e] at hj; exact h2.lob j ad' o' hj ho' hr'
  · intro j j' ad1 ad2 o1 o2 hj hj' ho1 ho2 hw1 hr2 hb
    unfold Mu.put at hj hj'
    by_cases e1 : j = H.length <;> by_cases e2 : j' = H.length
    · rw [e1, e2]
    · rw [if_pos e1] at hj; rw [if_neg e2] at hj'; cases hj
      have hlt2 : j' < H.length := by
        have := (List.getElem?_eq_some_iff.mp ho2).1
        simp at this; omega
      rw [List.getElem?_append_left (by simpa using hlt2), heap_set] at ho2
      by_cases e3 : j' = k ∧ k < H.length
      · rw [if_pos e3] at ho2; cases ho2; cases hr2
      · rw [if_neg e3] at ho2
        have := h.inj k j' ad ad2 _ o2 hk hj' ho ho2 rfl hr2 hb
        exact absurd ⟨this.symm, hlt⟩ e3
    · rw [if_neg e1] at hj; rw [if_pos e2] at hj'; cases hj'
      have hlt2 : j < H.length := by
        have := (List.getElem?_eq_some_iff.mp ho1).1
        simp at this; omega
      rw [List.getElem?_append_left (by simpa using hlt2), heap_set] at ho1
      by_cases e3 : j = k ∧ k < H.length
      · rw [if_pos e3] at ho1; cases ho1; cases hw1
      · rw [if_neg e3] at ho1
        have := h.inj j k ad1 ad o1 _ hj hk ho1 ho hw1 rfl hb
        exact absurd ⟨this, hlt⟩ e3
    · rw [if_neg e1] at hj; rw [if_neg e2] at hj'
      exact h2.inj j j' ad1 ad2 o1 o2 hj hj' ho1 ho2 hw1 hr2 hb
end
end Go.Ab

set_option linter.unusedVariables false
set_option linter.unusedSimpArgs false
set_option linter.unusedSectionVars false
namespace Go.Ab
open Go.RowKit (Below)

/-- What 'append' does with this second argument. -/
structure AppRun (P : Program) (t t' e : TypeId) (i : TypeInfo) (z : Value) (xv : Value) (m : Nat) (nv : Array Value) (w : World) : Prop where
  room : ∀ (ty : TypeId) (ad : Addr) (sLen sCap : Nat) (w1 : World), sLen + m ≤ sCap → (storeCells (ad.add (sLen * i.size)) nv.toList).run P w = .ok () w1 →
    (Builtin.append_ #[t, t'] ty #[.slice (some ad) sLen sCap, xv]).run P w = .ok (.slice (some ad) (sLen + m) sCap) w1
  grow : ∀ (ty : TypeId) (base : Option Addr) (sLen sCap : Nat) (ov : Array Value), sCap < sLen + m → (Builtin.firstCells i.size sLen (.slice base sLen sCap)).run P w.drew = .ok ov w.drew →
    Builtin.nextslicecap (sLen + m) sCap * i.bytes ≤ 281474976710656 → sLen + m ≤ 2 ^ 62 →
    (Builtin.append_ #[t, t'] ty #[.slice base sLen sCap, xv]).run P w = .ok (.slice (some ⟨w.heap.size, 0, none⟩) (sLen + m) (grownCap w (sLen + m) sCap e))
      (w.drew.alloc (.cells (ov ++ nv ++ Builtin.zeroCells z.cells (grownCap w (sLen + m) sCap e - (sLen + m))) e))
  nil : ∀ (ty : TypeId), m = 0 → (Builtin.append_ #[t, t'] ty #[.slice none 0 0, xv]).run P w = .ok (.slice none 0 0) w

section
variable {C : Ctx} {P : Program} {B : Nat} {X : Nat → Prop} {w0 : World} {mu : Mu} {w : World} {g : Operand → AV} {ρ : Operand → Value} {H : Heap}

theorem appRun_slice {t t' e e' : TypeId} {i : TypeInfo} {z : Value} (ht : P.underlying t = some (.slice e)) (ht' : P.underlying t' = some (.slice e')) (hi : P.info? e = some i) (hz : i.zero = some z)
    {a : Option Addr} {m c : Nat} {nv : Array Value} (hf : ∀ w1 : World, (∀ a, w1.cell? a = w.cell? a) → (Builtin.firstCells i.size m (.slice a m c)).run P w1 = .ok nv w1) : AppRun P t t' e i z (.slice a m c) m nv w where
  room ty ad sLen sCap w1 h hst := by
    have hf0 := hf w (fun _ => rfl)
    simp [Builtin.append_, run_underlying ht, run_underlying ht', sizeOf, typeInfo, hi, Builtin.lenOf, h, hf0, hst]
  grow ty base sLen sCap ov h hov hfit h62 := by
    have hn : ¬ (sLen + m ≤ sCap) := by omega
    have h63' : ¬ (9223372036854775807 < ((sLen : Int) + (m : Int))) := by omega
    have h48' : ¬ (281474976710656 < Builtin.nextslicecap (sLen + m) sCap * i.bytes) := by omega
    have hf1 := hf w.drew (fun _ => rfl)
    simp [Builtin.append_, run_underlying ht, run_underlying ht', sizeOf, typeInfo, zeroValue, hi, hz, Builtin.lenOf, hn, h63', h48', Question.forced, hf1, hov, newRow, grownCap]
  nil ty hm := by
    subst hm
    have hf0 := hf w (fun _ => rfl)
    simp [Builtin.append_, run_underlying ht, run_underlying ht', sizeOf, typeInfo, hi, Builtin.lenOf, hf0]

theorem appRun_zeros {t t' e : TypeId} {k k' : IntKind} {i : TypeInfo} {z : Value} (ht : P.underlying t = some (.slice e)) (ht' : P.underlying t' = some (.int k)) (hi : P.info? e = some i) (hz : i.zero = some z)
    {l : Int} (h0 : 0 ≤ l) (h40 : l < 2 ^ 40) (hb : l * i.bytes ≤ 2 ^ 47) (hzs : z.cells.size = i.size) : AppRun P t t' e i z (.int k' l) l.toNat (madeCells z.cells (l.toNat * i.size)) w where
  room ty ad sLen sCap w1 h hst := by
    have hw : IntKind.i64.wrap l = l := by rw [IntKind.wrap_i64]; omega
    have hn0 : ¬ (l < 0) := by omega
    have hbb : ¬ (281474976710656 < l * (i.bytes : Int)) := by omega
    by_cases hq : l.toNat * i.size = 0
    · have hst' : (storeCells (ad.add (sLen * i.size)) []).run P w = .ok () w1 := by
        rw [hq] at hst; simpa [madeCells, Array.range_zero'] using hst
      simp [Builtin.append_, run_underlying ht, run_underlying ht', sizeOf, typeInfo, hi, asInt, asIntOf, hw, hn0, hbb, h, hq, hst']
    · have e1 : Builtin.zeroCells z.cells l.toNat = madeCells z.cells (l.toNat * i.size) := by simp [Builtin.zeroCells, madeCells, hzs]
      simp [Builtin.append_, run_underlying ht, run_underlying ht', sizeOf, typeInfo, zeroValue, hi, hz, asInt, asIntOf, hw, hn0, hbb, h, hq, e1, hst]
  grow ty base sLen sCap ov h hov hfit h62 := by
    have hw : IntKind.i64.wrap l = l := by rw [IntKind.wrap_i64]; omega
    have hn0 : ¬ (l < 0) := by omega
    have hbb : ¬ (281474976710656 < l * (i.bytes : Int)) := by omega
    have hn : ¬ (sLen + l.toNat ≤ sCap) := by omega
    have h63' : ¬ (9223372036854775807 < ((sLen : Int) + max l 0)) := by omega
    have h48' : ¬ (281474976710656 < Builtin.nextslicecap (sLen + l.toNat) sCap * i.bytes) := by omega
    by_cases hq : l.toNat * i.size = 0
    · have e2 : madeCells z.cells (l.toNat * i.size) = #[] := by rw [hq]; simp [madeCells, Array.range_zero']
      rw [e2]
      simp [Builtin.append_, run_underlying ht, run_underlying ht', sizeOf, typeInfo, zeroValue, hi, hz, asInt, asIntOf, hw, hn0, hbb, hn, h63', h48', Question.forced, hq, hov, newRow, grownCap]
    · have e1 : Builtin.zeroCells z.cells l.toNat = madeCells z.cells (l.toNat * i.size) := by simp [Builtin.zeroCells, madeCells, hzs]
      simp [Builtin.append_, run_underlying ht, run_underlying ht', sizeOf, typeInfo, zeroValue, hi, hz, asInt, asIntOf, hw, hn0, hbb, hn, h63', h48', Question.forced, hq, hov, newRow, grownCap, e1]
  nil ty hm := by
    have hl : l = 0 := by omega
    subst hl
    simp [Builtin.append_, run_underlying ht, run_underlying ht', sizeOf, typeInfo, zeroValue, hi, hz, asInt, asIntOf, IntKind.wrap_i64]
end
end Go.Ab

set_option linter.unusedVariables false
set_option linter.unusedSimpArgs false
set_option linter.unusedSectionVars false
namespace Go.Ab
open Go.RowKit (Below)

section
variable {C : Ctx} {B : Nat} {X : Nat → Prop} {w0 : World} {mu : Mu} {w : World} {g : Operand → AV} {ρ : Operand → Value} {H : Heap}

theorem own_cells (hs : SimH C B X w0 mu H w) {sz k off n : Nat} {x : Value} (h : ARep mu (Sset X mu H) w (.own sz k off n) x) (hrd : (hd H k).rd = true) (hle : off + n * sz ≤ (hd H k).cells.length) :
    ∃ (ad ad' : Addr) (c : Nat) (vs : Array Value), mu k = some ad ∧ ad.spot = none ∧ x = .slice (some ad') n c ∧ n ≤ c ∧ ad'.block = ad.block ∧ ad'.spot = none ∧ (c ≠ 0 → ad'.off = ad.off + off) ∧
      vs.size = n * sz ∧ (∀ j v, vs.toList[j]? = some v → w.cell? (ad'.add j) = some v) ∧ CRep mu (Sset X mu H) w (((hd H k).cells.drop off).take (n * sz)) (fun i => vs.getD i undef) := by
  cases h with
  | own _ _ _ _ ad ad' c hk hn hb hsp ho hcap =>
    obtain ⟨s1, cs, e, hh, xs, hx, hr⟩ := hs.obj k ad _ hk (hd_spec (List.prefix_refl H) (.inl hrd)) hrd
    refine ⟨ad, ad', c, (Array.range (n * sz)).map (fun j => xs (off + j)), hk, s1, rfl, hn, hb, hsp, ho, by simp, fun j v hj => ?_, fun i hi => ?_⟩
    · have hjl : j < n * sz := by
        have := (List.getElem?_eq_some_iff.mp hj).1
        simpa using this
      have hc0 : c ≠ 0 := by
        intro q
        have : n = 0 := by omega
        rw [this] at hjl; simp at hjl
      simp [hjl] at hj
      subst hj
      obtain ⟨bl, of, sp⟩ := ad'
      simp only at hb hsp ho
      subst hb hsp
      rw [Addr.add_lit]
      have := hx (off + j) (by omega)
      rw [← Nat.add_assoc] at this
      simp [World.cell?, hh, ho hc0, this]
    · simp only [List.length_take, List.length_drop] at hi
      have hi' : i < n * sz := by omega
      rw [getD_take _ _ _ _ hi', getD_drop]
      have e3 : ((Array.range (n * sz)).map (fun j => xs (off + j))).getD i undef = xs (off + i) := by simp [Array.getD, hi']
      simp only [e3]
      exact hr (off + i) (by omega)

theorem newsF_sound (hg : ∀ x, ARep mu (Sset X mu H) w (g x) (ρ x)) (hs : SimH C B X w0 mu H w) {t t' e : TypeId} {re : TK} {x : Operand} {p : Prop} {m : Nat} {news : List AV}
    (ht : C.P.underlying t = some (.slice e)) (hre : tk C.P e = some re) {i : TypeInfo} {z : Value} (hi : C.P.info? e = some i) (hz : i.zero = some z) (hsz : re.size = i.size) (hby : re.bytes = i.bytes) (hzl : re.zero = z.cells.toList)
    (h : newsF C.P g H re x t' = some (p, m, news)) (hp : p) :
    ∃ nv : Array Value, nv.size = news.length ∧ news.length = m * re.size ∧ CRep mu (Sset X mu H) w news (fun i => nv.getD i undef) ∧ AppRun C.P t t' e i z (ρ x) m nv w := by
  unfold newsF at h
  have hx := hg x
  cases hr : tk C.P t' with
  | none => rw [hr] at h; cases h
  | some r =>
    simp only [hr] at h
    obtain ⟨_, _, _, hi2, hd2, hz2, _, _, _, _, e5⟩ := tk_spec hr
    cases hsd : r.sd with
    | int k =>
      have := int_spec (e5 ▸ hsd); subst this
      simp only [hsd] at h
      cases hgx : g x with
      | v a =>
        rw [hgx] at hx
        have ex := hx.v_inv
        cases a <;> simp only [hgx] at h <;> first | (cases h; done) | skip
        rename_i k' l
        simp only [Option.some.injEq, Prod.mk.injEq] at h
        obtain ⟨rfl, rfl, rfl⟩ := h
        obtain ⟨h0, h40, hb, hzz⟩ := hp
        have hzc : z.cells.size = re.size := by rw [← hzz, hzl]; simp
        obtain ⟨z1, z2⟩ := zeros_rep (mu := mu) (w := w) (S := Sset X mu H) z l.toNat re.size hzc
        rw [← hzl] at z1 z2
        refine ⟨_, z1.symm, by rw [z1]; simp [madeCells], z2, ?_⟩
        rw [ex, hsz]
        exact appRun_zeros ht hd2 hi hz h0 h40 (by rw [← hby]; exact hb) (by omega)
      | _ => simp only [hgx] at h; cases h
    | sl e2 =>
      have := sl_spec (e5 ▸ hsd); subst this
      simp only [hsd] at h
      cases hgx : g x with
      | v a =>
        rw [hgx] at hx
        have ex := hx.v_inv
        simp only [hgx] at h
        split at h
        · rename_i heq
          cases heq
          simp only [Option.some.injEq, Prod.mk.injEq] at h
          obtain ⟨rfl, rfl, rfl⟩ := h
          refine ⟨#[], rfl, by simp, fun i hi => by simp at hi, ?_⟩
          rw [ex]
          exact appRun_slice ht hd2 hi hz (fun w1 _ => run_firstCells_none w1 _ _ _ _)
        all_goals (first | (cases h; done) | skip)
        all_goals (rename_i heq; cases heq)
      | sl n cs =>
        rw [hgx] at hx
        simp only [hgx, Option.some.injEq, Prod.mk.injEq] at h
        obtain ⟨rfl, rfl, rfl⟩ := h
        generalize hy : ρ x = y at hx
        cases hx with
        | sl _ _ a c xs hn hx' hrep =>
          refine ⟨(Array.range (n * re.size)).map xs, by simp; omega, hp, fun i hi => ?_, ?_⟩
          · have hi' : i < n * re.size := by omega
            have e3 : ((Array.range (n * re.size)).map xs).getD i undef = xs i := by simp [Array.getD, hi']
            simp only [e3]; exact hrep i hi
          · refine appRun_slice ht hd2 hi hz (fun w1 hw1 => ?_)
            rcases Nat.eq_zero_or_pos (n * re.size) with q | q
            · cases a with
              | none => rw [run_firstCells_none, q]; simp [Array.range_zero']
              | some ad =>
                have := run_firstCells_some (P := C.P) w1 i.size n ad n c [] (by rw [← hsz]; simp [q]) (by simp)
                rw [this, q]; simp [Array.range_zero']
            · obtain ⟨ad, rfl, hsp, _, _⟩ := hx' 0 (by omega)
              have := run_firstCells_some (P := C.P) w1 i.size n ad n c ((Array.range (n * re.size)).map xs).toList (by simp [hsz]) (fun j v hj => by
                have hjl : j < n * re.size := by
                  have := (List.getElem?_eq_some_iff.mp hj).1
                  simpa using this
                simp [hjl] at hj
                subst hj
                obtain ⟨ad2, ea, _, _, hc⟩ := hx' j (by omega)
                cases ea
                obtain ⟨bl, of, sp⟩ := ad
                simp only at hsp
                subst hsp
                rw [Addr.add_lit, hw1]; exact hc)
              rw [this]
      | own sz k off n =>
        rw [hgx] at hx
        simp only [hgx, Option.some.injEq, Prod.mk.injEq] at h
        obtain ⟨rfl, rfl, rfl⟩ := h
        obtain ⟨rfl, hrd, hle⟩ := hp
        obtain ⟨ad, ad', c, vs, hk, _, ex, hn, _, _, _, hvs, hcell, hrep⟩ := own_cells hs hx hrd hle
        refine ⟨vs, by simp; omega, by simp; omega, hrep, ?_⟩
        rw [ex]
        refine appRun_slice ht hd2 hi hz (fun w1 hw1 => ?_)
        have := run_firstCells_some (P := C.P) w1 i.size n ad' n c vs.toList (by simp; rw [hvs, hsz]) (fun j v hj => by rw [hw1]; exact hcell j v hj)
        rw [this]
      | _ => simp only [hgx] at h; cases h
    | _ => simp only [hsd] at h; cases h
end
end Go.Ab

set_option linter.unusedVariables false
set_option linter.unusedSimpArgs false
set_option linter.unusedSectionVars false
namespace Go.Ab
open Go.RowKit (Below)

/-- Behind an operation: the world, the map of objects, what they tell. -/
structure After (C : Ctx) (B : Nat) (X : Nat → Prop) (w0 : World) (mu : Mu) (H : Heap) (w : World) (mu' : Mu) (H' : Heap) (w' : World) : Prop where
  sim : SimH C B X w0 mu' H' w'
  ext : ∀ k a, mu k = some a → mu' k = some a
  evo : Evo (Sset X mu H) w w'
  keep : ∀ b, Sset X mu H b → b < w.heap.size → Sset X mu' H' b

section
variable {C : Ctx} {B : Nat} {X : Nat → Prop} {w0 : World} {mu : Mu} {w : World} {g : Operand → AV} {ρ : Operand → Value} {H : Heap}

theorem crep_append {S : Nat → Prop} {cs ds : List AV} {vs us : Array Value} (h1 : CRep mu S w cs (fun i => vs.getD i undef)) (h2 : CRep mu S w ds (fun i => us.getD i undef)) (hl : cs.length = vs.size) (hl2 : ds.length = us.size) :
    CRep mu S w (cs ++ ds) (fun i => (vs ++ us).getD i undef) := by
  intro i hi
  simp only [List.length_append] at hi
  by_cases h : i < cs.length
  · have e1 : (cs ++ ds).getD i .bad = cs.getD i .bad := by simp [List.getD_eq_getElem?_getD, List.getElem?_append_left h]
    have e2 : (vs ++ us).getD i undef = vs.getD i undef := by simp [Array.getD_eq_getD_getElem?, Array.getElem?_append_left (show i < vs.size by omega)]
    simp only [e1, e2]; exact h1 i h
  · have e1 : (cs ++ ds).getD i .bad = ds.getD (i - cs.length) .bad := by simp [List.getD_eq_getElem?_getD, List.getElem?_append_right (show cs.length ≤ i by omega)]
    have e2 : (vs ++ us).getD i undef = us.getD (i - vs.size) undef := by simp [Array.getD_eq_getD_getElem?, Array.getElem?_append_right (show vs.size ≤ i by omega)]
    simp only [e1, e2, hl]; exact h2 (i - vs.size) (by omega)

theorem leaf_all {S : Nat → Prop} {cs : List AV} {vs : Array Value} (h : CRep mu S w cs (fun i => vs.getD i undef)) (hl : cs.length = vs.size) (hf : cs.all leafA = true) : ∀ v ∈ vs.toList, v.oneCell' = true := by
  intro v hv
  obtain ⟨i, hi, rfl⟩ := List.mem_iff_getElem.mp hv
  have hi' : i < cs.length := by simp at hi; omega
  have hlf := List.all_eq_true.mp hf (cs.getD i .bad) (by simp [List.getD_eq_getElem?_getD, hi'])
  have e2 : vs.getD i undef = vs.toList[i] := by simp at hi; simp [Array.getD, hi]
  exact e2 ▸ leafA_rep (h i hi') hlf

theorem crep_mono {mu' : Mu} {S S' : Nat → Prop} {w' : World} {cs : List AV} {xs : Nat → Value} (hm : ∀ k a, mu k = some a → mu' k = some a) (hS : ∀ b, S b → b < w.heap.size → S' b) (he : Evo S w w') (h : CRep mu S w cs xs) : CRep mu' S' w' cs xs :=
  fun i hi => (h i hi).mono hm hS he

/-- A new row of the call's own, longer than what is told of it. -/
theorem SimH.newRow (hs : SimH C B X w0 mu H w) (hn : mu H.length = none) {cells : List AV} {vs rest : Array Value} {e : TypeId} {w1 : World} (hb1 : Below w.heap.size w w1) (hz1 : w1.heap.size = w.heap.size)
    (hl : cells.length = vs.size) (hc : CRep mu (Sset X mu H) w cells (fun i => vs.getD i undef)) :
    After C B X w0 mu H w (mu.put H.length ⟨w.heap.size, 0, none⟩) (H ++ [⟨cells, true, true⟩]) (w1.alloc (.cells (vs ++ rest) e)) := by
  have hs1 := hs.ext hb1
  obtain ⟨g1, g2, g3⟩ := hs1.grow hn ⟨cells ++ rest.toList.map .v, true, true⟩
  have hc1 : CRep mu (Sset X mu (H ++ [⟨cells ++ rest.toList.map .v, true, true⟩])) w1 (cells ++ rest.toList.map .v) (fun i => (vs ++ rest).getD i undef) := by
    refine crep_append (crep_mono (fun _ _ q => q) (fun b q _ => g2 b q) (.of_below hb1) hc) (fun i hi => ?_) hl (by simp)
    simp only [List.length_map, Array.length_toList] at hi
    rw [getD_map_v _ _ (by simpa using hi)]
    have e1 : rest.toList.getD i undef = rest.getD i undef := by simp
    rw [e1]; exact .v _
  obtain ⟨n1, n2⟩ := g1.new (wr := true) (k := H.length) (arr := vs ++ rest) (e := e) hn (by simp) (by simp [hl]) hc1
  rw [hz1] at n1 n2
  have hext := Mu.put_ext (ad := ⟨w.heap.size, 0, none⟩) hn
  have hbel : Below w.heap.size w (w1.alloc (.cells (vs ++ rest) e)) := hb1.trans ((below_alloc w1 _).mono (by omega))
  have hS2 : ∀ b, Sset X (mu.put H.length ⟨w.heap.size, 0, none⟩) (H ++ [⟨cells ++ rest.toList.map .v, true, true⟩]) b → Sset X (mu.put H.length ⟨w.heap.size, 0, none⟩) (H ++ [⟨cells, true, true⟩]) b := by
    intro b q
    refine ⟨q.1, fun k ad o hk ho hw => ?_⟩
    by_cases e1 : k = H.length
    · subst e1
      exact q.2 H.length ad ⟨cells ++ rest.toList.map .v, true, true⟩ hk (by simp) rfl
    · refine q.2 k ad o hk ?_ hw
      by_cases e2 : k < H.length
      · rw [List.getElem?_append_left e2] at ho ⊢; exact ho
      · rw [List.getElem?_eq_none (by simp; omega)] at ho; cases ho
  have hget : ∀ k o, (H ++ [⟨cells, true, true⟩])[k]? = some o → (k = H.length ∧ o = ⟨cells, true, true⟩) ∨ (k ≠ H.length ∧ (H ++ [⟨cells ++ rest.toList.map .v, true, true⟩])[k]? = some o) := by
    intro k o ho
    by_cases e1 : k = H.length
    · subst e1; simp at ho; exact .inl ⟨rfl, ho.symm⟩
    · refine .inr ⟨e1, ?_⟩
      by_cases e2 : k < H.length
      · rw [List.getElem?_append_left e2] at ho ⊢; exact ho
      · rw [List.getElem?_eq_none (by simp; omega)] at ho; cases ho
  have hlast : (H ++ [(⟨cells ++ rest.toList.map .v, true, true⟩ : AObj)])[H.length]? = some ⟨cells ++ rest.toList.map .v, true, true⟩ := by simp
  refine ⟨⟨n1.hB, n1.below, n1.glob, ?_, ?_, n1.hX, n1.hG, ?_, ?_⟩, hext, .of_below hbel, fun b q hlt => hS2 b (n2 b (g2 b q) (by omega))⟩
  · intro k ad o hk ho hr
    rcases hget k o ho with ⟨rfl, rfl⟩ | ⟨e1, ho'⟩
    · obtain ⟨s1, cs, e2, s2, xs, s3, s4⟩ := n1.obj _ ad _ hk hlast rfl
      refine ⟨s1, cs, e2, s2, xs, fun i hi => s3 i (by simp at hi ⊢; omega), fun i hi => ?_⟩
      have := s4 i (by simp at hi ⊢; omega)
      have e3 : (cells ++ rest.toList.map AV.v).getD i .bad = cells.getD i .bad := by simp [List.getD_eq_getElem?_getD, List.getElem?_append_left hi]
      simp only [e3] at this
      exact this.mono (fun _ _ q => q) (fun b q _ => hS2 b q) (.refl _ _)
    · exact (n1.obj k ad o hk ho' hr).evo (fun _ _ q => q) (fun b q _ => hS2 b q) (.refl _ _) rfl
  · intro k ad o hk ho hw
    rcases hget k o ho with ⟨rfl, rfl⟩ | ⟨e1, ho'⟩
    · obtain ⟨q1, _, q3⟩ := n1.lo _ ad _ hk hlast rfl
      exact ⟨q1, rfl, q3⟩
    · exact n1.lo k ad o hk ho' hw
  · intro k ad o hk ho hr
    rcases hget k o ho with ⟨rfl, rfl⟩ | ⟨e1, ho'⟩
    · exact n1.lob _ ad _ hk hlast rfl
    · exact n1.lob k ad o hk ho' hr
  · intro k k' ad ad' o o' hk hk' ho ho' hw hr hb
    rcases hget k o ho with ⟨rfl, rfl⟩ | ⟨e1, ho1⟩ <;> rcases hget k' o' ho' with ⟨rfl, rfl⟩ | ⟨e2, ho2⟩
    · rfl
    · exact n1.inj _ k' ad ad' _ o' hk hk' hlast ho2 rfl hr hb
    · exact n1.inj k _ ad ad' o _ hk hk' ho1 hlast hw rfl hb
    · exact n1.inj k k' ad ad' o o' hk hk' ho1 ho2 hw hr hb

theorem append_sound (hg : ∀ x, ARep mu (Sset X mu H) w (g x) (ρ x)) (hs : SimH C B X w0 mu H w) (hn : ∀ k, H.length ≤ k → mu k = none) {o : Oper} {s x : Operand} {t t' : TypeId}
    (ho : o.op = .call ⟨.builtin .append, #[s, x], #[t, t']⟩) (hpre : (appF C.P g H s x t t').pre) :
    ∃ w' mu' y, (execOp ρ o).run C.P w = .ok (.value y) w' ∧ After C B X w0 mu H w mu' (appF C.P g H s x t t').H w' ∧ ARep mu' (Sset X mu' (appF C.P g H s x t t').H) w' (appF C.P g H s x t t').av y ∧
      (∀ k, (appF C.P g H s x t t').H.length ≤ k → mu' k = none) := by
  unfold appF at hpre ⊢
  cases hr : tk C.P t with
  | none => simp only [hr] at hpre; exact hpre.elim
  | some r =>
    obtain ⟨_, _, _, _, hd', _, _, _, _, _, e5⟩ := tk_spec hr
    simp only [hr] at hpre ⊢
    cases hsd : r.sd with
    | sl e =>
      have := sl_spec (e5 ▸ hsd); subst this
      simp only [hsd] at hpre ⊢
      cases hre : tk C.P e with
      | none => simp only [hre] at hpre; exact hpre.elim
      | some re =>
        obtain ⟨i, d, z, hi, _, hz, _, hsz, hby, hzl, _⟩ := tk_spec hre
        simp only [hre] at hpre ⊢
        cases hnf : newsF C.P g H re x t' with
        | none => simp only [hnf] at hpre; exact hpre.elim
        | some pr =>
          obtain ⟨p, m, news⟩ := pr
          simp only [hnf] at hpre ⊢
          have hx := hg s
          have call : ∀ (y : Value) (w' : World), (Builtin.append_ #[t, t'] o.type #[ρ s, ρ x]).run C.P w = .ok y w' → (execOp ρ o).run C.P w = .ok (.value y) w' := fun y w' h =>
            run_call_builtin hg (f := Builtin.append_ #[t, t'] o.type #[ρ s, ρ x]) ho (fun _ => by simp [builtin]) h
          have hdrew : Below w.heap.size w w.drew := below_of_heap rfl rfl rfl rfl
          cases hgs : g s with
          | v a =>
            rw [hgs] at hx
            have ex := hx.v_inv
            cases a with
            | slice b n c =>
              cases b with
              | none =>
                cases n with
                | zero =>
                  cases c with
                  | zero =>
                    cases m with
                    | zero =>
                      simp only [hgs] at hpre ⊢
                      obtain ⟨nv, h1, h2, h3, h4⟩ := newsF_sound hg hs hd' hre hi hz hsz hby hzl hnf hpre
                      exact ⟨w, mu, _, call _ _ (by rw [ex]; exact h4.nil _ rfl), ⟨hs, fun _ _ q => q, .refl _ _, fun _ q _ => q⟩, .v _, hn⟩
                    | succ m =>
                      simp only [hgs] at hpre ⊢
                      obtain ⟨hp, hpos, hleaf, hzz, hfit, h62⟩ := hpre
                      obtain ⟨nv, h1, h2, h3, h4⟩ := newsF_sound hg hs hd' hre hi hz hsz hby hzl hnf hp
                      have hrun := h4.grow o.type none 0 0 #[] (by omega) (by rw [run_firstCells_none]) (by rw [Nat.zero_add, nextslicecap_zero (by omega), ← hby]; omega) (by omega)
                      simp only [Nat.zero_add, Array.empty_append] at hrun
                      have hnr := hs.newRow (hn _ (Nat.le_refl _)) (rest := Builtin.zeroCells z.cells (grownCap w (m + 1) 0 e - (m + 1))) (e := e) hdrew rfl h1.symm h3
                      have hge := grownCap_ge w (m + 1) 0 e
                      refine ⟨_, _, _, call _ _ (by rw [ex]; exact hrun), hnr, ?_, fun k hk => ?_⟩
                      · refine .own _ _ _ _ ⟨w.heap.size, 0, none⟩ ⟨w.heap.size, 0, none⟩ _ (by simp [Mu.put]) hge rfl rfl (fun _ => rfl) ⟨_, e, heap_alloc_new w.drew _, fun _ => ?_⟩
                        have hzc : z.cells.size = re.size := by rw [← hzz, hzl]; simp
                        simp only [Array.size_append, size_zeroCells, h1, h2, hzc, ← Nat.add_mul, Nat.zero_add]
                        exact Nat.mul_le_mul_right _ (by omega)
                      · unfold Mu.put
                        simp only [List.length_append, List.length_singleton] at hk
                        rw [if_neg (by omega)]; exact hn k (by omega)
                  | succ c => simp only [hgs] at hpre; exact hpre.elim
                | succ n => simp only [hgs] at hpre; exact hpre.elim
              | some b => simp only [hgs] at hpre; exact hpre.elim
            | _ => simp only [hgs] at hpre; exact hpre.elim
          | own sz k off n =>
            rw [hgs] at hx
            simp only [hgs] at hpre ⊢
            obtain ⟨hp, rfl, hpos, hwr, hle, hleaf, hzz, hfit, h62⟩ := hpre
            obtain ⟨nv, h1, h2, h3, h4⟩ := newsF_sound hg hs hd' hre hi hz hsz hby hzl hnf hp
            have hok := hd_spec (List.prefix_refl H) (.inr hwr)
            have hzc : z.cells.size = re.size := by rw [← hzz, hzl]; simp
            generalize hy : ρ s = ys at hx
            have hcap := hx
            have hrd : (hd H k).rd = true := by
              cases hx with
              | own _ _ _ _ ad _ _ hk => exact (hs.lo k ad _ hk hok hwr).2.1
            obtain ⟨ad, ad', c, vs, hk, hsp0, rfl, hnc, hb, hsp, hof, hvs, hcell, hrep⟩ := own_cells hs hx hrd hle
            obtain ⟨bl, of, sp⟩ := ad'
            simp only at hb hsp hof
            subst hb hsp
            have hfirst : ∀ w1 : World, (∀ a, w1.cell? a = w.cell? a) → (Builtin.firstCells i.size n (.slice (some ⟨ad.block, of, none⟩) n c)).run C.P w1 = .ok vs w1 := fun w1 hw1 =>
              run_firstCells_some (P := C.P) w1 i.size n _ n c vs.toList (by simp; rw [hvs, hsz]) (fun j v hj => by rw [hw1]; exact hcell j v hj)
            have hlen : (H.set k dead).length = H.length := by simp
            have hltk : k < H.length := (List.getElem?_eq_some_iff.mp hok).1
            by_cases hroom : n + m ≤ c
            · -- in place
              obtain ⟨s1, old, e2, hh, xs, hxs, hr0⟩ := hs.obj k ad _ hk hok hrd
              cases hcap with
              | own _ _ _ _ ad2 ad3 _ hk2 _ _ _ _ hc2 =>
                rw [hk] at hk2
                cases hk2
                obtain ⟨cs3, e3, hh3, hc3⟩ := hc2
                rw [hh] at hh3
                cases hh3
                have hbase : c ≠ 0 → of = ad.off + off := hof
                have h1c := leaf_all h3 h1.symm hleaf
                have hsz2 : of + n * i.size + 0 + nv.toList.length ≤ old.size ∨ nv.size = 0 := by
                  rcases Nat.eq_zero_or_pos c with q | q
                  · right
                    have : m = 0 := by omega
                    rw [h1, h2, this]; simp
                  · left
                    have q1 := hc3 (by omega)
                    have q2 := hof (by omega)
                    have : (n + m) * re.size ≤ c * re.size := Nat.mul_le_mul_right _ hroom
                    rw [Nat.add_mul] at this
                    simp only [Array.length_toList, h1, h2]
                    rw [← hsz]; omega
                have hadd : (⟨ad.block, of, none⟩ : Addr).add (n * i.size) = ⟨ad.block, of + n * i.size, none⟩ := by rw [Addr.add_lit]
                -- the row behind
                obtain ⟨row, hst, hrs, hrow⟩ : ∃ row : Array Value, (storeCells ((⟨ad.block, of, none⟩ : Addr).add (n * i.size)) nv.toList).run C.P w = .ok () (w.setRow ad.block row) ∧ row.size = old.size ∧
                    ∀ j, row[j]? = if of + n * i.size ≤ j ∧ j < of + n * i.size + nv.size then nv[j - (of + n * i.size)]? else old[j]? := by
                  rw [hadd]
                  rcases hsz2 with q | q
                  · have hst := run_storeCells_at (P := C.P) ad.block (of + n * i.size) e2 nv.toList 0 old w hh q h1c
                    simp only [Nat.add_zero] at hst q
                    refine ⟨_, hst, by simp at q ⊢; omega, fun j => ?_⟩
                    simp only [List.getElem?_toArray]
                    rw [getElem?_seg old.toList nv.toList _ _ (by simpa using q)]
                    simp
                  · have : nv = #[] := by simpa using q
                    subst this
                    refine ⟨old, ?_, rfl, fun j => ?_⟩
                    · rw [setRow_self w _ _ _ _ hh]; simp [storeCells]
                    · rw [if_neg (by simp)]
                have hrun := h4.room o.type ⟨ad.block, of, none⟩ n c _ hroom hst
                have hpl : ((hd H k).cells.take off).length = off := by simp; omega
                have hml : (((hd H k).cells.drop off).take (n * re.size)).length = n * re.size := by simp; omega
                obtain ⟨w1, w2, w3⟩ := hs.write hk hok hwr hh hrs ((hd H k).cells.take off ++ (((hd H k).cells.drop off).take (n * re.size) ++ news))
                  (fun j => if off + n * re.size ≤ j then nv.getD (j - (off + n * re.size)) undef else xs j)
                  (fun j hj => by
                    simp only [List.length_append, hpl, hml] at hj
                    rw [hrow]
                    by_cases hj2 : off + n * re.size ≤ j
                    · have hc0 : c ≠ 0 := by
                        intro q
                        have e1 : n = 0 := by omega
                        have e2 : m = 0 := by omega
                        rw [h2, e1, e2] at hj
                        rw [e1] at hj2
                        omega
                      have := hof hc0
                      rw [if_pos hj2, if_pos (by rw [← hsz]; omega)]
                      have e1 : ad.off + j - (of + n * i.size) = j - (off + n * re.size) := by rw [← hsz]; omega
                      rw [e1]
                      have hlt : j - (off + n * re.size) < nv.size := by omega
                      simp [Array.getD, hlt]
                    · rw [if_neg hj2]
                      have hx1 := hxs j (by omega)
                      rw [← hx1]
                      rcases Nat.eq_zero_or_pos c with q | q
                      · have e1 : m = 0 := by omega
                        have e2 : nv.size = 0 := by rw [h1, h2, e1]; simp
                        rw [if_neg (by omega)]
                      · have := hof (by omega)
                        rw [if_neg (by rw [← hsz]; omega)])
                  (fun j hj => by
                    simp only [List.length_append, hpl, hml] at hj
                    by_cases hj1 : j < off
                    · have e1 : ((hd H k).cells.take off ++ (((hd H k).cells.drop off).take (n * re.size) ++ news)).getD j .bad = (hd H k).cells.getD j .bad := by
                        rw [List.getD_eq_getElem?_getD, List.getElem?_append_left (by omega), List.getD_eq_getElem?_getD, List.getElem?_take, if_pos hj1]
                      rw [e1]
                      simp only
                      rw [if_neg (by omega)]
                      exact hr0 j (by omega)
                    · by_cases hj2 : off + n * re.size ≤ j
                      · have e1 : ((hd H k).cells.take off ++ (((hd H k).cells.drop off).take (n * re.size) ++ news)).getD j .bad = news.getD (j - (off + n * re.size)) .bad := by
                          rw [List.getD_eq_getElem?_getD, List.getElem?_append_right (by omega), List.getElem?_append_right (by omega), List.getD_eq_getElem?_getD]
                          congr 2; omega
                        rw [e1]
                        simp only
                        rw [if_pos hj2]
                        exact h3 _ (by omega)
                      · have e1 : ((hd H k).cells.take off ++ (((hd H k).cells.drop off).take (n * re.size) ++ news)).getD j .bad = (hd H k).cells.getD j .bad := by
                          rw [List.getD_eq_getElem?_getD, List.getElem?_append_right (by omega), List.getElem?_append_left (by omega), List.getD_eq_getElem?_getD, List.getElem?_take, if_pos (by omega), List.getElem?_drop]
                          congr 2; omega
                        rw [e1]
                        simp only
                        rw [if_neg hj2]
                        exact hr0 j (by omega))
                have hn2 : mu (H.set k ⟨(hd H k).cells.take off ++ (((hd H k).cells.drop off).take (n * re.size) ++ news), true, true⟩).length = none := hn _ (by simp)
                obtain ⟨r1, r2⟩ := w1.rename hk hn2 (by rw [heap_set, if_pos ⟨rfl, hltk⟩])
                simp only [List.length_set, List.set_set, hpl] at r1 r2
                have hext := Mu.put_ext (ad := ⟨ad.block, ad.off + off, none⟩) (hn H.length (Nat.le_refl _))
                refine ⟨_, _, _, call _ _ (by rw [hy]; exact hrun), ⟨r1, hext, w2, fun b q _ => r2 b (w3 b q)⟩, ?_, fun j hj => ?_⟩
                · refine .own _ _ _ _ ⟨ad.block, ad.off + off, none⟩ ⟨ad.block, of, none⟩ c (by simp [Mu.put]) hroom rfl rfl (fun q => by simp only; rw [hof q]; omega) ⟨row, e2, setRow_heap w _ _ row _ _ hh, fun q => ?_⟩
                  rw [hrs]
                  have := hc3 q
                  simp only; omega
                · unfold Mu.put
                  simp only [List.length_append, List.length_set, List.length_singleton] at hj
                  rw [if_neg (by omega)]; exact hn j (by omega)
            · -- a new row
              have hrun := h4.grow o.type (some ⟨ad.block, of, none⟩) n c vs (by omega) (hfirst w.drew (fun _ => rfl)) (growslice_fits (by omega) (by rw [← hby]; omega)) (by omega)
              obtain ⟨k1, k2⟩ := hs.still (o' := dead) hok (by simp [dead]) rfl
              have hrep2 : CRep mu (Sset X mu (H.set k dead)) w (((hd H k).cells.drop off).take (n * re.size) ++ news) (fun j => (vs ++ nv).getD j undef) :=
                crep_mono (fun _ _ q => q) (fun b q _ => k2 b q) (.refl _ _) (crep_append hrep h3 (by rw [hvs]; simp; omega) h1.symm)
              have hnr := k1.newRow (by rw [hlen]; exact hn _ (Nat.le_refl _)) (rest := Builtin.zeroCells z.cells (grownCap w (n + m) c e - (n + m))) (e := e) hdrew rfl (by simp [h1, hvs]; omega) hrep2
              rw [hlen] at hnr
              have hge := grownCap_ge w (n + m) c e
              refine ⟨_, _, _, call _ _ (by rw [hy]; exact hrun), ⟨hnr.sim, hnr.ext, ⟨hnr.evo.size, fun b q => hnr.evo.same b (k2 b q), hnr.evo.shape⟩, fun b q => hnr.keep b (k2 b q)⟩, ?_, fun j hj => ?_⟩
              · refine .own _ _ _ _ ⟨w.heap.size, 0, none⟩ ⟨w.heap.size, 0, none⟩ _ (by simp [Mu.put]) hge rfl rfl (fun _ => rfl) ⟨_, e, heap_alloc_new w.drew _, fun _ => ?_⟩
                simp only [Array.size_append, size_zeroCells, h1, h2, hzc, hvs, ← Nat.add_mul, Nat.zero_add]
                exact Nat.mul_le_mul_right _ (by omega)
              · unfold Mu.put
                simp only [List.length_append, List.length_set, List.length_singleton] at hj
                rw [if_neg (by omega)]; exact hn j (by omega)
          | _ => simp only [hgs] at hpre; exact hpre.elim
    | _ => simp only [hsd] at hpre; exact hpre.elim
end
end Go.Ab
