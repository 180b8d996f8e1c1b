/- The engine: a small language over an abstract memory, what a piece of code comes to, that the model follows it, and an evaluator for the kernel. -/
import Derived.Calls
import Derived.CallsIn
import Derived.Laws.Cells
import Derived.Laws.CopyRow
import Derived.Laws.Sem
import Derived.Laws.StructEq
import Derived.Laws.Tables
import Derived.Laws.World
import Derived.LoopNIn
import Derived.OrdersIn
import Derived.RangeFuncCalls
import Derived.RangeFuncLeaves
import Derived.RangeFuncRecord
/- Part EngA. -/
namespace Go.Eng
open Go

/-! ### A tree of memory blocks -/
inductive Tr (α : Type) where
  | lf
  | nd (l : Tr α) (v : Option α) (r : Tr α)

def Tr.get {α : Type} : Tr α → Nat → Option α
  | .lf, _ => none
  | .nd _ v _, 0 => v
  | .nd l _ r, n + 1 => bif Nat.beq (n % 2) 0 then l.get (n / 2) else r.get (n / 2)

def Tr.put {α : Type} (v : Option α) : Nat → Nat → Tr α → Tr α
  | 0, _, t => t
  | _ + 1, 0, .lf => .nd .lf v .lf
  | _ + 1, 0, .nd l _ r => .nd l v r
  | f + 1, n + 1, .lf => bif Nat.beq (n % 2) 0 then .nd (put v f (n / 2) .lf) none .lf else .nd .lf none (put v f (n / 2) .lf)
  | f + 1, n + 1, .nd l o r => bif Nat.beq (n % 2) 0 then .nd (put v f (n / 2) l) o r else .nd l o (put v f (n / 2) r)

def Tr.set {α : Type} (t : Tr α) (n : Nat) (v : Option α) : Tr α := Tr.put v (n + 1) n t

/-! ### The small language -/
inductive Rv where
  | t (n : Nat)
  | c (v : Value)

inductive Ins where
  | mov (x : Rv)
  | pick (c a b : Rv)
  | build (zero : List Value) (parts : List (Nat × Nat × Rv))
  | nck (x : Rv)
  | bin (op : BinOp) (x y : Rv)
  | eqb (neg : Bool) (x y : Rv)
  | eqa (neg : Bool) (n : Nat) (x y : Rv)
  | eqn (neg : Bool) (kd : Nat) (x y : Rv)
  | un (op : UnOp) (x : Rv)
  | conv (k : IntKind) (x : Rv)
  | s2a (n : Nat) (x : Rv)
  | mkf (f : FuncId) (first cap : List Rv)
  | sls (esz : Nat) (x : Rv) (lo hi mx : Option Rv)
  | sla (n esz : Nat) (x : Rv) (lo hi mx : Option Rv)
  | fa (off : Nat) (x : Rv)
  | ias (esz : Nat) (x i : Rv)
  | iaa (n esz : Nat) (x i : Rv)
  | ix (n esz : Nat) (agg : Bool) (x i : Rv)
  | fld (off sz : Nat) (agg : Bool) (x : Rv)
  | ext (x : Rv) (i : Nat)
  | len (x : Rv)
  | lena (n : Nat)
  | cap (x : Rv)
  | mn (x y : Rv)
  | mx (x y : Rv)
  | ixs (tab : List Nat) (i : Rv)
  | bad
  -- reads
  | ld (a : Rv)
  | lda (n : Nat) (a : Rv)
  | eqp (neg : Bool) (x y : Rv)
  | lk (kn : Option Nat) (zero : Value) (ok : Bool) (m k : Rv)
  | lenm (x : Rv)
  | ent (it : Rv)
  -- new memory
  | alloc (zero : List Value)
  | box (x : Rv)
  | bsl (esz len : Nat) (cells : List Value) (parts : List (Nat × Nat × Rv))
  | mkm
  | mks (esz bytes : Nat) (zero : List Value) (l c : Rv)
  -- effects
  | st (n : Nat) (a x : Rv)
  | mup (kn : Option Nat) (m k v : Rv)
  | app (esz bytes : Nat) (s x : Rv)
  | cpy (esz : Nat) (d s : Rv)
  | clr (zero : List Value) (s : Rv)
  | rng (m : Rv)
  | nxt (it : Rv)
  | call (f : Rv) (args : List Rv)

inductive Kd where
  | pure | read | alloc | eff
  deriving DecidableEq

def Ins.kd : Ins → Kd
  | .sls .. | .ld .. | .lda .. | .eqp .. | .lk .. | .lenm .. | .ent .. => .read
  | .alloc .. | .box .. | .bsl .. | .mkm | .mks .. => .alloc
  | .st .. | .mup .. | .app .. | .cpy .. | .clr .. | .rng .. | .nxt .. | .call .. => .eff
  | _ => .pure

/-- An operation: its slot, its guard, and, in a region that draws its order: the number of its new block; the blocks that are born before it; the reads that are looked at again behind it. -/
structure ROp where
  d : Option Nat
  g : Option (Nat × Bool)
  i : Ins
  res : Nat
  cm : List Nat
  chk : List Nat

inductive Stm where
  | skip
  | ret
  | exit (id : Nat)
  | seq (a b : Stm)
  | cond (c : Rv) (a b : Stm)
  | block (id : Nat) (s : Stm)
  | loop (s : Stm)
  | bad
  | reg (ops : List ROp)
  | drw (n : Nat) (ops : List ROp)
  | rf (g : Rv) (ps : List Nat) (assign body : Stm)

inductive RVar where
  | t (n : Nat)
  | c (a : Nat) (n : Option Nat)

structure AFn where
  ntmps : Nat
  results : List RVar
  body : Stm

/-! ### The abstract memory -/
inductive LSt where
  | ready | busy | done | over
  deriving DecidableEq

structure ALoop where
  st : LSt
  jump : Option Stm
  tmps : List Value
  ps : List Nat
  assign : Stm
  body : Stm

inductive AObj where
  | dead
  | cells (c : List Value) (esz : Nat) (ro : Bool)
  | map (es : List (Value × Value))
  | iter (m : Option Nat) (n : Nat) (over : Bool)
  | loop (r : ALoop)

structure AHeap where
  tr : Tr AObj
  next : Nat

namespace AHeap
def get (H : AHeap) (n : Nat) : Option AObj := H.tr.get n
def set (H : AHeap) (n : Nat) (o : AObj) : AHeap := { H with tr := H.tr.set n (some o) }
def new (H : AHeap) (o : AObj) : AHeap := { tr := H.tr.set H.next (some o), next := H.next + 1 }
end AHeap

def BIG : Nat := 18446744073709551616

def isCell : Value → Bool
  | .agg _ | .tuple _ => false
  | _ => true

def Rv.ev (σ : List Value) : Rv → Value
  | .t n => σ.getD n undef
  | .c v => v

def setT (σ : List Value) (d : Option Nat) (v : Value) : List Value :=
  match d with
  | some d => σ.set d v
  | none => σ

/-- `cs` with `xs` written at `off`; none if they do not fit. -/
def splice (cs : List Value) (off : Nat) (xs : List Value) : Option (List Value) :=
  match off, cs with
  | 0, cs => over cs xs
  | _ + 1, [] => none
  | n + 1, c :: cs => (splice cs n xs).map (c :: ·)
  where
  over : List Value → List Value → Option (List Value)
    | cs, [] => some cs
    | [], _ :: _ => none
    | _ :: cs, x :: xs => (over cs xs).map (x :: ·)

/-- `n` elements from `off` on; none if they are not there. -/
def grab (cs : List Value) (off n : Nat) : Option (List Value) :=
  let r := (cs.drop off).take n
  bif Nat.beq r.length n then some r else none

def fillL (σ : List Value) (cells : List Value) : List (Nat × Nat × Rv) → Option (List Value)
  | [] => some cells
  | (off, sz, x) :: rest =>
    let xs := (x.ev σ).cells.toList
    bif Nat.beq xs.length sz then (splice cells off xs).bind (fillL σ · rest) else none

def aBin (op : BinOp) (x y : Value) : Option Value :=
  match x, y with
  | .int k a, .int k' b =>
    match op with
    | .shl => if b < 0 then none else some (.int k (k.wrap (a * 2 ^ (min b.toNat k.bits))))
    | .shr => if b < 0 then none else some (.int k (a.fdiv (2 ^ (min b.toNat k.bits))))
    | op =>
      if k = k' then
        match op with
        | .add => some (.int k (k.wrap (a + b)))
        | .sub => some (.int k (k.wrap (a - b)))
        | .mul => some (.int k (k.wrap (a * b)))
        | .quo => if b = 0 then none else some (.int k (k.wrap (a.tdiv b)))
        | .rem => if b = 0 then none else some (.int k (a.tmod b))
        | .and => some (.int k (k.wrap ((BitVec.ofInt k.bits a &&& BitVec.ofInt k.bits b).toNat)))
        | .or => some (.int k (k.wrap ((BitVec.ofInt k.bits a ||| BitVec.ofInt k.bits b).toNat)))
        | .xor => some (.int k (k.wrap ((BitVec.ofInt k.bits a ^^^ BitVec.ofInt k.bits b).toNat)))
        | .andNot => some (.int k (k.wrap ((BitVec.ofInt k.bits a &&& ~~~ BitVec.ofInt k.bits b).toNat)))
        | .eql => some (.bool (a == b))
        | .neq => some (.bool (a != b))
        | .lss => some (.bool (a < b))
        | .leq => some (.bool (a ≤ b))
        | .gtr => some (.bool (a > b))
        | .geq => some (.bool (a ≥ b))
        | _ => none
      else none
  | _, _ => none

/-- Equality of two cells that are integers. -/
def cellEq : Value → Value → Option Bool
  | .int k a, .int k' b => if k = k' then some (a == b) else none
  | _, _ => none

def cellsEq : List Value → List Value → Option Bool
  | [], [] => some true
  | x :: xs, y :: ys =>
    match cellEq x y, cellsEq xs ys with
    | some a, some b => some (a && b)
    | _, _ => none
  | _, _ => none

/-- Equality of two keys: integers, or structs and arrays of n cells that are integers or bools. -/
def keyEq (kn : Option Nat) (x y : Value) : Option Bool :=
  match kn, x, y with
  | none, .int k a, .int k' b => if k = k' then some (a == b) else none
  | some n, .agg a, .agg b => bif Nat.beq a.toList.length n && Nat.beq b.toList.length n then cellsEq a.toList b.toList else none
  | _, _, _ => none

/-- A key of the right kind. -/
def keyOK (kn : Option Nat) (k : Value) : Bool :=
  match kn, k with
  | none, .int .. => true
  | some n, .agg a => Nat.beq a.toList.length n
  | _, _ => false

def aUn (op : UnOp) (x : Value) : Option Value :=
  match op, x with
  | .not, .bool b => some (.bool !b)
  | .neg, .int k n => some (.int k (k.wrap (0 - n)))
  | .xor, .int k n => some (.int k (k.wrap ((BitVec.ofInt k.bits (if k.signed then -1 else k.max) ^^^ BitVec.ofInt k.bits n).toNat)))
  | _, _ => none

/-- An index from 0 to `lim`. -/
def aBound (v : Value) (lim : Nat) : Option Nat :=
  match v with
  | .int _ i => if 0 ≤ i ∧ i ≤ lim then some i.toNat else none
  | _ => none

def aBoundO (σ : List Value) (x : Option Rv) (lim dflt : Nat) : Option Nat :=
  match x with
  | some x => aBound (x.ev σ) lim
  | none => some dflt

def okAddr (a : Addr) : Bool := a.spot.isNone

def plainAgg (agg : Bool) (cs : List Value) (off sz : Nat) : Option Value :=
  bif agg then (grab cs off sz).map fun l => .agg l.toArray else cs[off]?

/-- Equality with nil: of slices, maps, functions. -/
def nilEq (kd : Nat) (x y : Value) : Option Bool :=
  match kd, x, y with
  | 0, .slice none _ _, .slice b _ _ => some b.isNone
  | 0, .slice (some _) _ _, .slice none _ _ => some false
  | 1, .map none, .map b => some b.isNone
  | 1, .map (some _), .map none => some false
  | 2, .nilFunc, .nilFunc => some true
  | 2, .nilFunc, .func (.func _) _ _ => some false
  | 2, .func (.func _) _ _, .nilFunc => some false
  | _, _, _ => none

def pureI (σ : List Value) : Ins → Option Value
  | .mov x => some (x.ev σ)
  | .pick c a b => match c.ev σ with | .bool t => some (bif t then a.ev σ else b.ev σ) | _ => none
  | .build zero parts => (fillL σ zero parts).map fun l => .agg l.toArray
  | .nck x => match x.ev σ with | .pointer (some a) => some (.pointer (some a)) | .func (.func f) p q => some (.func (.func f) p q) | _ => none
  | .bin op x y => aBin op (x.ev σ) (y.ev σ)
  | .eqb neg x y => match x.ev σ, y.ev σ with | .bool a, .bool b => some (.bool (bif neg then !(a == b) else a == b)) | _, _ => none
  | .eqa neg n x y => (keyEq (some n) (x.ev σ) (y.ev σ)).map fun r => .bool (bif neg then !r else r)
  | .eqn neg kd x y => (nilEq kd (x.ev σ) (y.ev σ)).map fun r => .bool (bif neg then !r else r)
  | .un op x => aUn op (x.ev σ)
  | .conv k x => match x.ev σ with | .int _ n => some (.int k (k.wrap n)) | _ => none
  | .s2a n x => match x.ev σ with
    | .slice a len _ => if len < n then none else some (.pointer a)
    | _ => none
  | .mkf f first cap => some (.func (.func f) (first.map (·.ev σ)).toArray (cap.map (·.ev σ)).toArray)
  | .sla n esz x lo hi mx => match x.ev σ with
    | .pointer (some a) => if BIG ≤ n then none else
      (aBoundO σ mx n n).bind fun m =>
      (aBoundO σ hi m n).bind fun h =>
      (aBoundO σ lo h 0).bind fun l =>
      some (.slice (some (if m = l then a else a.add (l * esz))) (h - l) (m - l))
    | _ => none
  | .fa off x => match x.ev σ with | .pointer (some a) => some (.pointer (some (a.add off))) | _ => none
  | .ias esz x i => match x.ev σ, i.ev σ with
    | .slice (some a) len _, .int _ i => if 0 ≤ i ∧ i < len then some (.pointer (some (a.add (i.toNat * esz)))) else none
    | _, _ => none
  | .iaa n esz x i => match x.ev σ, i.ev σ with
    | .pointer (some a), .int _ i => if 0 ≤ i ∧ i < n then some (.pointer (some (a.add (i.toNat * esz)))) else none
    | _, _ => none
  | .ix n esz agg x i => match x.ev σ, i.ev σ with
    | .agg cs, .int _ i => if 0 ≤ i ∧ i < n then plainAgg agg cs.toList (i.toNat * esz) esz else none
    | _, _ => none
  | .fld off sz agg x => match x.ev σ with
    | .agg cs => plainAgg agg cs.toList off sz
    | _ => none
  | .ext x i => match x.ev σ with | .tuple vs => vs.toList[i]? | _ => none
  | .len x => match x.ev σ with | .slice _ n _ => some (.int .i64 n) | _ => none
  | .lena n => some (.int .i64 n)
  | .cap x => match x.ev σ with | .slice _ _ c => if c < BIG then some (.int .i64 c) else none | _ => none
  | .mn x y => match x.ev σ, y.ev σ with | .int k a, .int _ b => some (.int k (if b < a then b else a)) | _, _ => none
  | .mx x y => match x.ev σ, y.ev σ with | .int k a, .int _ b => some (.int k (if a < b then b else a)) | _, _ => none
  | .ixs tab i => match i.ev σ with | .int _ i => if 0 ≤ i then (tab[i.toNat]?).map fun (b : Nat) => .int .u8 (b : Int) else none | _ => none
  | _ => none

def getCells (H : AHeap) (a : Addr) (n : Nat) : Option (List Value) :=
  match H.get a.block with
  | some (.cells c _ _) => bif okAddr a then grab c a.off n else none
  | _ => none

def findE (kn : Option Nat) (k : Value) : List (Value × Value) → Option (Option Value)
  | [] => some none
  | (k', v) :: es =>
    match keyEq kn k k' with
    | some true => some (some v)
    | some false => findE kn k es
    | none => none

/-- The block's elements have so many cells. -/
def eszOf (H : AHeap) (a : Option Addr) (esz : Nat) : Bool :=
  match a with
  | some a => match H.get a.block with
    | some (.cells _ e _) => Nat.beq e esz
    | some .dead => true
    | _ => false
  | none => false

def readI (σ : List Value) (H : AHeap) : Ins → Option Value
  | .ld a => match a.ev σ with
    | .pointer (some a) => match H.get a.block with
      | some (.cells c _ _) => bif okAddr a then c[a.off]? else none
      | _ => none
    | _ => none
  | .lda n a => match a.ev σ with
    | .pointer (some a) => (getCells H a n).map fun l => .agg l.toArray
    | _ => none
  | .eqp neg x y =>
    let r : Option Bool := match x.ev σ, y.ev σ with
      | .pointer none, .pointer b => some b.isNone
      | .pointer (some _), .pointer none => some false
      | .pointer (some a), .pointer (some b) =>
        match H.get a.block, H.get b.block with
        | some (.cells _ _ false), some (.cells _ _ false) => bif okAddr a && okAddr b then some (Nat.beq a.block b.block && Nat.beq a.off b.off) else none
        | _, _ => none
      | _, _ => none
    r.map fun r => .bool (bif neg then !r else r)
  | .sls esz x lo hi mx => match x.ev σ with
    | .slice a len cap =>
      if cap < BIG then
        (aBoundO σ mx cap cap).bind fun m =>
        (aBoundO σ hi m len).bind fun h =>
        (aBoundO σ lo h 0).bind fun l =>
        some (.slice (if m = l then a else a.map (·.add (l * esz))) (h - l) (m - l))
      else
        match mx with
        | some mx =>
          (aBound (mx.ev σ) (cap - BIG)).bind fun m => if BIG ≤ m then none else
          (aBoundO σ hi m len).bind fun h =>
          (aBoundO σ lo h 0).bind fun l =>
          some (.slice (if m = l then a else a.map (·.add (l * esz))) (h - l) (m - l))
        | none => bif !(eszOf H a esz) then none else
          (aBoundO σ hi (cap - BIG) len).bind fun h =>
          (aBoundO σ lo h 0).bind fun l =>
          if cap - BIG < h then none else
          if l = 0 then some (.slice a h cap)
          else if l < cap - BIG then some (.slice (a.map (·.add (l * esz))) (h - l) (BIG + (cap - BIG - l)))
          else some (.slice (some ⟨0, 0, none⟩) 0 BIG)
    | _ => none
  | .lk kn zero ok m k =>
    let es : Option (List (Value × Value)) := match m.ev σ with
      | .map none => some []
      | .map (some r) => match H.get r with | some (.map es) => some es | _ => none
      | _ => none
    bif !(keyOK kn (k.ev σ)) then none else es.bind fun es => (findE kn (k.ev σ) es).map fun
      | some v => bif ok then .tuple #[v, .bool true] else v
      | none => bif ok then .tuple #[zero, .bool false] else zero
  | .lenm x => match x.ev σ with
    | .map none => some (.int .i64 0)
    | .map (some r) => match H.get r with | some (.map es) => some (.int .i64 es.length) | _ => none
    | _ => none
  | .ent it => match it.ev σ with
    | .pointer (some a) => match H.get a.block with
      | some (.iter (some m) n true) => match H.get m with
        | some (.map [(k, v)]) => bif Nat.beq n 1 && Nat.beq a.off 0 then some (.tuple #[k, v]) else none
        | _ => none
      | _ => none
    | _ => none
  | _ => none

/-- A new object, and the value that refers to it once it has a number. -/
inductive Ref where
  | ptr
  | slice (l c : Nat)
  | map

def Ref.at (r : Ref) (n : Nat) : Value :=
  match r with
  | .ptr => .pointer (some ⟨n, 0, none⟩)
  | .slice l c => .slice (some ⟨n, 0, none⟩) l c
  | .map => .map (some n)

def repl (n : Nat) (zero : List Value) : List Value :=
  match n with
  | 0 => []
  | n + 1 => zero ++ repl n zero

def allocI (σ : List Value) : Ins → Option (AObj × Ref)
  | .alloc zero => some (.cells zero 0 false, .ptr)
  | .box x => some (.cells (x.ev σ).cells.toList 0 false, .ptr)
  | .bsl esz len cells parts => (fillL σ cells parts).map fun l => (.cells l esz false, .slice len len)
  | .mkm => some (.map [], .map)
  | .mks esz bytes zero l c => match l.ev σ, c.ev σ with
    | .int _ l, .int _ c => if 0 ≤ l ∧ l ≤ c ∧ c ≤ 1099511627776 ∧ bytes * c ≤ 1099511627776 then some (.cells (repl c.toNat zero) esz false, .slice l.toNat c.toNat) else none
    | _, _ => none
  | _ => none

def storeAt (H : AHeap) (a : Addr) (xs : List Value) : Option AHeap :=
  match xs with
  | [] => some H
  | _ =>
    match H.get a.block with
    | some (.cells c esz false) => bif okAddr a && xs.all isCell then (splice c a.off xs).map fun c => H.set a.block (.cells c esz false) else none
    | _ => none

def srcCells (H : AHeap) (base : Option Addr) (n : Nat) : Option (List Value) :=
  match base with
  | some a => bif Nat.beq n 0 then some [] else getCells H a n
  | none => bif Nat.beq n 0 then some [] else none

def upd (kn : Option Nat) (k v : Value) : List (Value × Value) → Option (List (Value × Value))
  | [] => some [(k, v)]
  | (k', v') :: es =>
    match keyEq kn k k' with
    | some true => some ((k, v) :: es)
    | some false => (upd kn k v es).map ((k', v') :: ·)
    | none => none

def effI (σ : List Value) (H : AHeap) : Ins → Option (Value × AHeap)
  | .st n a x => match a.ev σ with
    | .pointer (some a) =>
      let xs := (x.ev σ).cells.toList
      bif Nat.beq xs.length n then (storeAt H a xs).map fun H => (undef, H) else none
    | _ => none
  | .mup kn m k v => match m.ev σ with
    | .map (some r) => match H.get r with
      | some (.map es) => (bif keyOK kn (k.ev σ) then upd kn (k.ev σ) (v.ev σ) es else none).map fun es => (undef, H.set r (.map es))
      | _ => none
    | _ => none
  | .app esz bytes s x => match s.ev σ, x.ev σ with
    | .slice base len cap, .slice xb n _ =>
      (srcCells H xb (n * esz)).bind fun new =>
      let need := len + n
      let lim := if cap < BIG then cap else cap - BIG
      if need ≤ lim then
        match base with
        | some a => (storeAt H (a.add (len * esz)) new).map fun H => (.slice (some a) need cap, H)
        | none => bif Nat.beq n 0 then some (.slice none need cap, H) else none
      else if (2 * need + 1000) * bytes ≤ 281474976710656 ∧ need ≤ 1099511627776 then
        (srcCells H base (len * esz)).bind fun old =>
        let o : AObj := .cells (old ++ new) esz false
        let v : Value := .slice (some ⟨H.next, 0, none⟩) need (BIG + need)
        if cap < BIG then some (v, H.new o)
        else match base with
          | some a => match H.get a.block with
            | some (.cells _ esz' false) => bif okAddr a && Nat.beq esz esz' && new.all isCell then some (v, (H.set a.block .dead).new o) else none
            | _ => none
          | none => none
      else none
    | _, _ => none
  | .cpy esz d s => match d.ev σ, s.ev σ with
    | .slice base dl _, .slice sb sl _ =>
      let n := min sl dl
      (srcCells H sb (n * esz)).bind fun xs =>
      match base with
      | some a => (storeAt H a xs).map fun H => (.int .i64 n, H)
      | none => some (.int .i64 n, H)
    | _, _ => none
  | .clr zero s => match s.ev σ with
    | .slice base n _ =>
      if n = 0 then some (.tuple #[], H) else
      match base with
      | some a => (storeAt H a (repl n zero)).map fun H => (.tuple #[], H)
      | none => none
    | _ => none
  | .rng m => match m.ev σ with
    | .map none => some (.pointer (some ⟨H.next, 0, none⟩), H.new (.iter none 0 false))
    | .map (some r) => match H.get r with
      | some (.map es) => some (.pointer (some ⟨H.next, 0, none⟩), H.new (.iter (some r) es.length false))
      | _ => none
    | _ => none
  | .nxt it => match it.ev σ with
    | .pointer (some a) => bif !(Nat.beq a.off 0) then none else match H.get a.block with
      | some (.iter none _ _) => some (.tuple #[.bool false], H)
      | some (.iter (some m) n fin) => match H.get m with
        | some (.map []) => bif fin then none else some (.tuple #[.bool false], H)
        | some (.map [(k, v)]) => bif Nat.beq n 1 then (bif fin then some (.tuple #[.bool false], H) else some (.tuple #[.bool true, k, v], H.set a.block (.iter (some m) 1 true))) else none
        | _ => none
      | _ => none
    | _ => none
  | _ => none

/-! ### The evaluator -/
inductive Ex where
  | normal
  | exit (id : Nat)
  | ret

abbrev CallF := Value → List Value → AHeap → Option (Value × AHeap)

def wantG (σ : List Value) : Option (Nat × Bool) → Bool
  | none => true
  | some (t, want) => match σ.getD t undef with | .bool b => b == want | _ => false

def evI (call : CallF) (σ : List Value) (H : AHeap) (i : Ins) : Option (Value × AHeap) :=
  match i with
  | .call f args => call (f.ev σ) (args.map (·.ev σ)) H
  | i =>
    match i.kd with
    | .pure => (pureI σ i).map fun v => (v, H)
    | .read => (readI σ H i).map fun v => (v, H)
    | .alloc => (allocI σ i).map fun (o, r) => (r.at H.next, H.new o)
    | .eff => effI σ H i

def evOps (call : CallF) : List ROp → List Value → AHeap → Option (List Value × AHeap)
  | [], σ, H => some (σ, H)
  | o :: ops, σ, H =>
    bif wantG σ o.g then (evI call σ H o.i).bind fun (v, H) => evOps call ops (setT σ o.d v) H
    else evOps call ops (setT σ o.d undef) H

def valEq : Value → Value → Bool
  | .int k a, .int k' b => k == k' && a == b
  | .bool a, .bool b => a == b
  | .pointer none, .pointer none => true
  | .pointer (some a), .pointer (some b) => a == b
  | .slice a n c, .slice a' n' c' => a == a' && Nat.beq n n' && Nat.beq c c'
  | .map a, .map b => a == b
  | .nilFunc, .nilFunc => true
  | _, _ => false

def valsEq : List Value → List Value → Bool
  | [], [] => true
  | x :: xs, y :: ys => valEq x y && valsEq xs ys
  | _, _ => false

def fnEq : Fn → Fn → Bool
  | .func f, .func g => Nat.beq f g
  | .yield l, .yield m => Nat.beq l m
  | _, _ => false

def valEq1 : Value → Value → Bool
  | .func f a b, .func f' a' b' => fnEq f f' && valsEq a.toList a'.toList && valsEq b.toList b'.toList
  | .agg a, .agg b => valsEq a.toList b.toList
  | .tuple a, .tuple b => valsEq a.toList b.toList
  | x, y => valEq x y

/-- The reads `chk` give what they gave. -/
def recheck (all : List ROp) (σ : List Value) (H : AHeap) : List Nat → Bool
  | [] => true
  | j :: js =>
    (match all[j]? with
    | some o => bif wantG σ o.g then (match readI σ H o.i, o.d with | some v, some d => valEq1 v (σ.getD d undef) | _, _ => false) else true
    | none => false) && recheck all σ H js

def look (pend : List (Nat × AObj)) (N : Nat) : Option AObj :=
  match pend with
  | [] => none
  | e :: es => bif Nat.beq e.1 N then some e.2 else look es N

/-- Blocks that wait are born: those whose numbers (from `base` on) are named. -/
def commit (base : Nat) (pend : List (Nat × AObj)) (H : AHeap) : List Nat → AHeap
  | [] => H
  | k :: ks => commit base pend (match look pend (base + k) with | some o => H.set (base + k) o | none => H) ks

def memN (k : Nat) : List Nat → Bool
  | [] => false
  | j :: js => Nat.beq j k || memN k js

def restOf (n : Nat) (com : List Nat) : List Nat := (List.range n).filter fun k => !(memN k com)

/-- Numbers that are kept for blocks to come are free. -/
def clear (base n : Nat) (com : List Nat) (H : AHeap) : Bool :=
  Nat.ble (base + n) H.next && (List.range n).all fun k => memN k com || (H.get (base + k)).isNone

def evDrw (call : CallF) (all : List ROp) (base n : Nat) : List ROp → List Value → AHeap → List (Nat × AObj) → List Nat → Option (List Value × AHeap)
  | [], σ, H, pend, com => some (σ, commit base pend H (restOf n com))
  | o :: ops, σ, H, pend, com =>
    match o.i.kd with
    | .eff =>
      let H := commit base pend H o.cm
      let com := o.cm ++ com
      bif wantG σ o.g then
        (evI call σ H o.i).bind fun (v, H) =>
        let σ := setT σ o.d v
        bif clear base n com H && recheck all σ H o.chk then evDrw call all base n ops σ H pend com else none
      else evDrw call all base n ops (setT σ o.d undef) H pend com
    | .pure => bif wantG σ o.g then (pureI σ o.i).bind fun v => evDrw call all base n ops (setT σ o.d v) H pend com else evDrw call all base n ops (setT σ o.d undef) H pend com
    | .read => bif wantG σ o.g then (readI σ H o.i).bind fun v => evDrw call all base n ops (setT σ o.d v) H pend com else evDrw call all base n ops (setT σ o.d undef) H pend com
    | .alloc => bif wantG σ o.g then (allocI σ o.i).bind fun (ob, r) => evDrw call all base n ops (setT σ o.d (r.at (base + o.res))) H ((base + o.res, ob) :: pend) com else evDrw call all base n ops (setT σ o.d undef) H pend com

abbrev Tbl := Nat → Option AFn
abbrev Orc := Nat → Option (List Value → AHeap → Option (Value × AHeap))

def readRes (σ : List Value) (H : AHeap) : List RVar → Option (List Value)
  | [] => some []
  | .t n :: rs => (readRes σ H rs).map (σ.getD n undef :: ·)
  | .c a none :: rs => (readI σ H (.ld (.t a))).bind fun v => (readRes σ H rs).map (v :: ·)
  | .c a (some n) :: rs => (readI σ H (.lda n (.t a))).bind fun v => (readRes σ H rs).map (v :: ·)

def packRes : List Value → Value
  | [v] => v
  | vs => .tuple vs.toArray

def setPs (σ : List Value) : List Nat → List Value → Option (List Value)
  | [], [] => some σ
  | p :: ps, v :: vs => setPs (σ.set p v) ps vs
  | _, _ => none

mutual
def ev (tbl : Tbl) (orc : Orc) : Nat → Stm → List Value → AHeap → Option (Ex × List Value × AHeap)
  | 0, _, _, _ => none
  | n + 1, s, σ, H =>
    match s with
    | .skip => some (.normal, σ, H)
    | .ret => some (.ret, σ, H)
    | .bad => none
    | .exit id => some (.exit id, σ, H)
    | .seq a b => (ev tbl orc n a σ H).bind fun
      | (.normal, σ, H) => ev tbl orc n b σ H
      | r => some r
    | .cond c a b => match c.ev σ with
      | .bool true => ev tbl orc n a σ H
      | .bool false => ev tbl orc n b σ H
      | _ => none
    | .block id s => (ev tbl orc n s σ H).bind fun
      | (.exit i, σ, H) => bif Nat.beq i id then some (.normal, σ, H) else some (.exit i, σ, H)
      | r => some r
    | .loop s => (ev tbl orc n s σ H).bind fun
      | (.normal, σ, H) => ev tbl orc n (.loop s) σ H
      | r => some r
    | .reg ops => (evOps (evCall tbl orc n) ops σ H).map fun (σ, H) => (.normal, σ, H)
    | .drw k ops => (evDrw (evCall tbl orc n) ops H.next k ops σ { H with next := H.next + k } [] []).map fun (σ, H) => (.normal, σ, H)
    | .rf g ps assign body =>
      let l := H.next
      let run : Option (Ex × List Value × AHeap) := (evCall tbl orc n (g.ev σ) [.func (.yield l) #[] #[]] (H.new (.loop ⟨.ready, none, σ, ps, assign, body⟩))).bind fun (_, H) =>
        match H.get l with
        | some (.loop r) =>
          if r.st = .busy then none else
          let H := H.set l (.loop { r with st := .over })
          match r.jump with
          | none => some (.normal, σ, H)
          | some .ret => some (.ret, σ, H)
          | some (.exit id) => some (.exit id, σ, H)
          | _ => none
        | _ => none
      match g.ev σ with
      | .func (.func _) _ _ => run
      | _ => none
def evCall (tbl : Tbl) (orc : Orc) : Nat → Value → List Value → AHeap → Option (Value × AHeap)
  | 0, _, _, _ => none
  | n + 1, f, args, H =>
    match f with
    | .func (.func g) first cap =>
      let args := first.toList ++ args ++ cap.toList
      match orc g with
      | some o => o args H
      | none => match tbl g with
        | none => none
        | some fn => (ev tbl orc n fn.body (args ++ List.replicate (fn.ntmps - args.length) undef) H).bind fun
          | (.exit _, _, _) => none
          | (_, σ, H) => (readRes σ H fn.results).map fun vs => (packRes vs, H)
    | .func (.yield l) _ _ => match H.get l with
      | some (.loop r) => (setPs r.tmps r.ps args).bind fun σ =>
        let bd := r.body
        (ev tbl orc n r.assign σ H).bind fun
        | (.normal, σ, H) => match H.get l with
          | some (.loop r) =>
            if r.st = .ready then
              (ev tbl orc n bd σ (H.set l (.loop { r with st := .busy }))).bind fun (e, _, H) =>
              match H.get l with
              | some (.loop r) =>
                let fin (j : Stm) : Option (Value × AHeap) := some (.bool false, H.set l (.loop { r with st := .done, jump := some j }))
                match e with
                | .normal => some (.bool true, H.set l (.loop { r with st := .ready, jump := none }))
                | .ret => fin .ret
                | .exit id => fin (.exit id)
              | _ => none
            else none
          | _ => none
        | _ => none
      | _ => none
    | _ => none
end

end Go.Eng

/- Part EngB. -/
namespace Go.Eng
open Go

def isAtom : Value → Bool
  | .bool _ | .int .. | .string _ | .pointer none | .slice none 0 0 | .map none | .nilFunc | .nilIface => true
  | _ => false

def closedV : Value → Bool
  | .agg cs => cs.toList.all isAtom
  | v => isAtom v

def cRv : Operand → Option Rv
  | .tmp t => some (.t t)
  | .const v => bif closedV v then some (.c v) else none
  | .func f => some (.c (.func (.func f) #[] #[]))
  | .global _ => none

def cRvs (xs : Array Operand) : Option (List Rv) := xs.toList.mapM cRv

def cOpt : Option Operand → Option (Option Rv)
  | none => some none
  | some x => (cRv x).map some

def szOf (P : Program) (t : TypeId) : Option Nat := (P.info? t).map (·.size)

def aggOf (P : Program) (t : TypeId) : Option Bool :=
  match P.underlying t with
  | some (.struct _) | some (.array _ _) => some true
  | some _ => some false
  | none => none

/-- The zero value's cells, if they are atoms and as many as the type says. -/
def zeroOf (P : Program) (t : TypeId) : Option (List Value) :=
  match P.info? t with
  | some i => match i.zero with
    | some z => bif closedV z && Nat.beq z.cells.toList.length i.size then some z.cells.toList else none
    | none => none
  | none => none

def offsOK (P : Program) : List Field → Nat → Nat → Bool
  | [], off, sz => Nat.beq off sz
  | f :: fs, off, sz => Nat.beq f.offset off && f.name != "_" && (match szOf P f.type with | some s => offsOK P fs (off + s) sz | none => false)

/-- The type's values are made of integers alone; its fields lie side by side. -/
def flats (P : Program) : Nat → TypeId → Bool
  | 0, _ => false
  | n + 1, t =>
    match P.underlying t with
    | some (.int _) => match szOf P t with | some 1 => true | _ => false
    | some (.struct fs) => !(P.stoodInHeld t) && fs.toList.all (fun f => flats P n f.type) && (match szOf P t with | some sz => offsOK P fs.toList 0 sz | none => false)
    | some (.array k e) => flats P n e && (match szOf P t, szOf P e with | some sz, some se => Nat.beq sz (k * se) && Nat.ble 1 se | _, _ => false)
    | _ => false

def cPart (place : Nat → Option (Nat × Nat)) (p : Nat × Operand) : Option (Nat × Nat × Rv) :=
  match place p.1, cRv p.2 with
  | some (o, s), some r => some (o, s, r)
  | _, _ => none

def cParts (P : Program) (t : TypeId) (parts : Array (Nat × Operand)) : Option (List (Nat × Nat × Rv)) :=
  match P.underlying t with
  | some (.struct fs) => do
    let places ← fs.toList.mapM fun f => (P.info? f.type).map fun i => (f.offset, i.size)
    parts.toList.mapM (cPart (places.toArray[·]?))
  | some (.array _ e) => do
    let i ← P.info? e
    parts.toList.mapM (cPart fun k => some (k * i.size, i.size))
  | _ => none

def isNilConst : Operand → Bool
  | .const (.slice none 0 0) | .const (.map none) | .const .nilFunc => true
  | _ => false

def cBin (P : Program) (op : BinOp) (t : TypeId) (x y : Operand) : Option Ins := do
  let a ← cRv x
  let b ← cRv y
  let eq (neg : Bool) : Option Ins :=
    match P.underlying t with
    | some (.int _) => some (.bin op a b)
    | some .bool => some (.eqb neg a b)
    | some (.pointer e) => match szOf P e with | some (_ + 1) => some (.eqp neg a b) | _ => none
    | some (.slice _) => some (.eqn neg 0 a b)
    | some (.map ..) => some (.eqn neg 1 a b)
    | some (.func ..) => some (.eqn neg 2 a b)
    | some (.struct _) | some (.array ..) => bif flats P 50 t && !(P.eqGuardType P.depth t) then do pure (.eqa neg (← szOf P t) a b) else none
    | _ => none
  match op with
  | .eql => eq false
  | .neq => eq true
  | op => some (.bin op a b)

def cBuiltin (P : Program) (b : Builtin) (ts : Array TypeId) (args : List Rv) : Option Ins :=
  match b, args, ts.toList with
  | .len, [x], [t] => match P.underlying t with
    | some (.slice _) => some (.len x)
    | some (.array n _) => some (.lena n)
    | some (.map ..) => some (.lenm x)
    | some (.pointer a) => match P.underlying a with | some (.array n _) => some (.lena n) | _ => none
    | _ => none
  | .cap, [x], [t] => match P.underlying t with | some (.slice _) => some (.cap x) | _ => none
  | .append, [s, x], [t, u] => match P.underlying t, P.underlying u with
    | some (.slice e), some (.slice _) => do
      let z ← zeroOf P e
      let i ← P.info? e
      pure (.app z.length i.bytes s x)
    | _, _ => none
  | .clear, [s], [t] => match P.underlying t with
    | some (.slice e) => do pure (.clr (← zeroOf P e) s)
    | _ => none
  | .copy, [d, s], [t, u] => match P.underlying t, P.underlying u with
    | some (.slice e), some (.slice _) => do pure (.cpy (← szOf P e) d s)
    | _, _ => none
  | .min, [x, y], _ => some (.mn x y)
  | .max, [x, y], _ => some (.mx x y)
  | _, _, _ => none

/-- How a map's keys are told apart: none: integers; some n: structs or arrays of n cells. -/
def keyN (P : Program) (kt : TypeId) : Option (Option Nat) :=
  match P.underlying kt with
  | some (.int _) => some none
  | some (.struct _) | some (.array ..) => (szOf P kt).map some
  | _ => none

def cOp (P : Program) (o : Oper) : Option Ins :=
  match o.op with
  | .move x | .assign x => do pure (.mov (← cRv x))
  | .pick c a b => do pure (.pick (← cRv c) (← cRv a) (← cRv b))
  | .alloc t => do pure (.alloc (← zeroOf P t))
  | .box _ x => do pure (.box (← cRv x))
  | .build t parts => do pure (.build (← zeroOf P t) (← cParts P t parts))
  | .buildSlice t len parts => match P.underlying t with
    | some (.slice e) => do
      let z ← zeroOf P e
      let ps ← parts.toList.mapM (cPart fun k => some (k * z.length, z.length))
      bif Nat.ble (len * z.length) 65536 && Nat.ble 1 z.length then some (.bsl z.length len (repl len z) ps) else none
    | _ => none
  | .load t a => do
    let a ← cRv a
    bif ← aggOf P t then pure (.lda (← szOf P t) a) else pure (.ld a)
  | .store t a x => do pure (.st (← szOf P t) (← cRv a) (← cRv x))
  | .nilCheck x => do pure (.nck (← cRv x))
  | .binOp op t x y _ => cBin P op t x y
  | .unOp op _ x => do pure (.un op (← cRv x))
  | .convert s d x => match P.underlying s, P.underlying d with
    | some (.int _), some (.int k) => do pure (.conv k (← cRv x))
    | _, _ => none
  | .sliceToArrayPointer t x => match P.underlying t with
    | some (.array n _) => do pure (.s2a n (← cRv x))
    | _ => none
  | .makeFunc fn first cap => match fn with
    | .func f => do pure (.mkf f (← cRvs first) (← cRvs cap))
    | _ => none
  | .makeMap _ r => match r with
    | none => some .mkm
    | some _ => none
  | .makeSlice t l c => match P.underlying t with
    | some (.slice e) => do
      let z ← zeroOf P e
      let i ← P.info? e
      bif Nat.ble 1 z.length then pure (.mks z.length i.bytes z (← cRv l) (← cRv c)) else none
    | _ => none
  | .slice t x lo hi mx => bif mx.isSome && hi.isNone then none else match P.underlying t with
    | some (.slice e) => do pure (.sls (← szOf P e) (← cRv x) (← cOpt lo) (← cOpt hi) (← cOpt mx))
    | some (.array n e) => do pure (.sla n (← szOf P e) (← cRv x) (← cOpt lo) (← cOpt hi) (← cOpt mx))
    | some (.pointer a) => match P.underlying a with
      | some (.array n e) => do pure (.sla n (← szOf P e) (← cRv x) (← cOpt lo) (← cOpt hi) (← cOpt mx))
      | _ => none
    | _ => none
  | .fieldAddr t x i => match P.underlying t with
    | some (.struct fs) => do
      let f ← fs[i]?
      match ← szOf P f.type with
      | 0 => none
      | _ => pure (.fa f.offset (← cRv x))
    | _ => none
  | .field t x i => match P.underlying t with
    | some (.struct fs) => do
      let f ← fs[i]?
      pure (.fld f.offset (← szOf P f.type) (← aggOf P f.type) (← cRv x))
    | _ => none
  | .indexAddr t x i => match P.underlying t with
    | some (.array n e) => do pure (.iaa n (← szOf P e) (← cRv x) (← cRv i))
    | some (.slice e) => do pure (.ias (← szOf P e) (← cRv x) (← cRv i))
    | _ => none
  | .index t x i => match P.underlying t with
    | some (.array n e) => do pure (.ix n (← szOf P e) (← aggOf P e) (← cRv x) (← cRv i))
    | some .string => match x with
      | .const (.string s) => do pure (.ixs (s.data.toList.map (·.toNat)) (← cRv i))
      | _ => none
    | _ => none
  | .lookup t m k ok => match P.underlying t with
    | some (.map kt et) => do
      let i ← P.info? et
      let z ← i.zero
      bif closedV z && flats P 50 kt then pure (.lk (← keyN P kt) z ok (← cRv m) (← cRv k)) else none
    | _ => none
  | .mapUpdate t m k v => match P.underlying t with
    | some (.map kt _) => do bif flats P 50 kt then pure (.mup (← keyN P kt) (← cRv m) (← cRv k) (← cRv v)) else none
    | _ => none
  | .extract x i => do pure (.ext (← cRv x) i)
  | .range t m => match P.underlying t with
    | some (.map ..) => do pure (.rng (← cRv m))
    | _ => none
  | .next it s => bif s then none else do pure (.nxt (← cRv it))
  | .entry it => do pure (.ent (← cRv it))
  | .call c => match c.callee with
    | .value f => do pure (.call (← cRv f) (← cRvs c.args))
    | .builtin b => do cBuiltin P b c.argTypes (← cRvs c.args)
    | .invoke .. => none
  | _ => none

/-! ### Regions -/
def cGuard (ops : List Oper) : Option (Nat × Bool) → Option (Option (Nat × Bool))
  | none => some none
  | some (j, want) => do
    let o ← ops[j]?
    let d ← o.dst
    pure (some (d, want))

/-- What stands before each operation, as a number's bits. -/
def deps (ops : List Oper) : List Nat :=
  go ops []
  where
  go : List Oper → List Nat → List Nat
    | [], acc => acc
    | o :: os, acc => go os (acc ++ [o.after.toList.foldl (fun s e => bif Region.binds .any e then s ||| 2 ^ e.on ||| acc.getD e.on 0 else s) 0])

/-- The order in which the operations are gone through: whatever is no effect comes as early as it can. -/
def pickOrder (n : Nat) (dps : List Nat) (kds : List Kd) : Nat → Nat → List Nat → List Nat
  | 0, _, acc => acc.reverse
  | fuel + 1, done, acc =>
    let free := (List.range n).filter fun i => !(done.testBit i) && Nat.beq (dps.getD i 0 &&& done) (dps.getD i 0)
    match free.find? (fun i => kds.getD i .eff != .eff) with
    | some i => pickOrder n dps kds fuel (done ||| 2 ^ i) (i :: acc)
    | none => match free with
      | i :: _ => pickOrder n dps kds fuel (done ||| 2 ^ i) (i :: acc)
      | [] => acc.reverse

def rvTmps : Rv → List Nat
  | .t n => [n]
  | .c _ => []

def Ins.rvs : Ins → List Rv
  | .mov x | .nck x | .un _ x | .conv _ x | .s2a _ x | .fa _ x | .fld _ _ _ x | .ext x _ | .len x | .cap x | .ld x | .lda _ x | .lenm x | .ent x | .box x | .rng x | .nxt x => [x]
  | .pick a b c | .mup _ a b c => [a, b, c]
  | .build _ ps | .bsl _ _ _ ps => ps.map (·.2.2)
  | .clr _ x | .ixs _ x => [x]
  | .bin _ x y | .eqb _ x y | .eqa _ _ x y | .eqn _ _ x y | .eqp _ x y | .ias _ x y | .iaa _ _ x y | .ix _ _ _ x y | .mn x y | .mx x y | .lk _ _ _ x y | .mks _ _ _ x y | .st _ x y | .app _ _ x y | .cpy _ x y => [x, y]
  | .mkf _ a b => a ++ b
  | .sls _ x a b c | .sla _ _ x a b c => x :: (a.toList ++ b.toList ++ c.toList)
  | .call f xs => f :: xs
  | .lena _ | .alloc _ | .mkm | .bad => []

/-- One operation with its place in the text, its guard and its annotations. -/
structure XOp where
  n : Nat
  o : ROp

def ROp.tmps (o : ROp) : List Nat := (o.i.rvs.flatMap rvTmps) ++ (o.g.toList.map (·.1))

/-- The region's operations in the order in which they are gone through, annotated. `seen`: those gone through, newest first, with their places in the new order. -/
def annotate (dps : List Nat) (all : List ROp) : List Nat → List (Nat × Nat) → List Nat → Nat → List XOp
  | [], _, _, _ => []
  | i :: is, seen, com, pos =>
    match all[i]? with
    | none => []
    | some o =>
      let d := dps.getD i 0
      match o.i.kd with
      | .eff =>
        let cm := seen.filterMap fun (j, _) => match all[j]? with
          | some r => bif r.i.kd == .alloc && d.testBit j && !(com.contains r.res) then some r.res else none
          | none => none
        let chk := seen.filterMap fun (j, p) => match all[j]? with
          | some r => bif r.i.kd == .read && !(d.testBit j) then some p else none
          | none => none
        ⟨i, { o with cm, chk }⟩ :: annotate dps all is ((i, pos) :: seen) (cm ++ com) (pos + 1)
      | _ => ⟨i, o⟩ :: annotate dps all is ((i, pos) :: seen) com (pos + 1)

/-- A region that draws its order. -/
structure RC where
  ops : List Oper
  dps : List Nat
  xs : List XOp
  n : Nat

/-- i waits for j. -/
def RC.D (c : RC) (i j : Nat) : Bool := Nat.blt j c.ops.length && (c.dps.getD i 0).testBit j

def isKd (k : Kd) (x : XOp) : Bool :=
  match k, x.o.i.kd with
  | .pure, .pure | .read, .read | .alloc, .alloc | .eff, .eff => true
  | _, _ => false

/-- The numbers of the blocks that have been born behind these. -/
def comL (pre : List XOp) : List Nat := pre.foldl (fun acc x => bif isKd .eff x then x.o.cm ++ acc else acc) []

def onlyIf (a b : Bool) : Bool := !a || b

def isD (o : Option Nat) (t : Nat) : Bool := match o with | some d => Nat.beq d t | none => false

def isBad : Ins → Bool
  | .bad => true
  | _ => false

def opTmps (o : Oper) : List Nat := o.op.operands.toList.filterMap fun | .tmp t => some t | _ => none

/-- What the proof asks of an operation of such a region, among those before it and those behind it. -/
def chk1 (c : RC) (pre : List XOp) (x : XOp) (post : List XOp) : Bool :=
  let r := List.range c.ops.length
  Nat.blt x.n c.ops.length && (pre.all fun y => !(Nat.beq y.n x.n)) &&
  (r.all fun j => onlyIf (c.D x.n j) (pre.any fun y => Nat.beq y.n j)) &&
  (r.all fun j => onlyIf (c.D x.n j) (r.all fun k => onlyIf (c.D j k) (c.D x.n k))) &&
  (r.all fun j => onlyIf (c.D x.n j) (match c.ops[x.n]? with | some o => o.after.toList.any fun e => Region.binds .any e && (Nat.beq e.on j || c.D e.on j) | none => false)) &&
  (match x.o.d with | some d => pre.all fun y => !(isD y.o.d d) | none => true) &&
  (x.o.tmps.all fun t => (pre.all fun y => onlyIf (isD y.o.d t) (c.D x.n y.n)) && (post.all fun y => onlyIf (isD y.o.d t) (c.D y.n x.n && !(isKd .read x)))) &&
  onlyIf (isKd .eff x) (post.all fun y => c.D y.n x.n) &&
  onlyIf (isKd .alloc x) (Nat.blt x.o.res c.n && pre.all fun y => onlyIf (isKd .alloc y) (!(Nat.beq y.o.res x.o.res))) &&
  onlyIf (isKd .eff x) (x.o.cm.all fun k => !(memN k (comL pre)) && pre.any fun y => isKd .alloc y && Nat.beq y.o.res k && c.D x.n y.n) &&
  onlyIf (isKd .eff x) (pre.all fun y => onlyIf (isKd .alloc y && c.D x.n y.n) (memN y.o.res x.o.cm || memN y.o.res (comL pre))) &&
  onlyIf (isKd .eff x) (pre.zipIdx.all fun y => onlyIf (isKd .read y.1 && !(c.D x.n y.1.n)) (memN y.2 x.o.chk)) &&
  onlyIf (isKd .read x) (match x.o.d with | some d => !(memN d x.o.tmps) | none => false) &&
  (isBad x.o.i || match c.ops[x.n]? with | some o => (opTmps o).all fun t => memN t x.o.tmps | none => false) &&
  (match c.ops[x.n]? with | some o => o.after.toList.all fun e => onlyIf (Region.binds .any e) (c.D x.n e.on) | none => false)

def chkL (c : RC) (pre : List XOp) : List XOp → Bool
  | [] => Nat.beq pre.length c.ops.length && (List.range c.ops.length).all fun i => pre.any fun y => Nat.beq y.n i
  | x :: xs => chk1 c pre x xs && chkL c (pre ++ [x]) xs

def cRops (P : Program) (ops : List Oper) : Option (List ROp) :=
  ops.mapM fun o => do pure { d := o.dst, g := ← cGuard ops o.guard, i := (cOp P o).getD .bad, res := 0, cm := [], chk := [] }

def number : List ROp → Nat → List ROp
  | [], _ => []
  | o :: os, k => bif o.i.kd == .alloc then { o with res := k } :: number os (k + 1) else o :: number os k

def cDrw (P : Program) (ops : List Oper) : Option Stm := do
  let rs ← cRops P ops
  let all := number rs 0
  let dps := deps ops
  let ord := pickOrder all.length dps (all.map (·.i.kd)) all.length 0 []
  let xs := annotate dps all ord [] [] 0
  let n := (all.filter (·.i.kd == .alloc)).length
  bif chkL ⟨ops, dps, xs, n⟩ [] xs then some (.drw n (xs.map (·.o))) else none

def noGoto : Code → Bool
  | .goto _ => false
  | .seq a b | .cond _ a b => noGoto a && noGoto b
  | .block _ a | .loop a | .scope a => noGoto a
  | .rangeFunc _ _ a b => noGoto a && noGoto b
  | _ => true

def cCode (P : Program) : Code → Option Stm
  | .skip => some .skip
  | .ret => some .ret
  | .exit id => some (.exit id)
  | .seq a b => do pure (.seq (← cCode P a) (← cCode P b))
  | .cond c a b => do pure (.cond (← cRv c) (← cCode P a) (← cCode P b))
  | .block id a => do pure (.block id (← cCode P a))
  | .loop a => do pure (.loop (← cCode P a))
  | .region _ ops false => do pure (.reg (← cRops P ops.toList))
  | .region _ ops true => cDrw P ops.toList
  | .label _ => some .skip
  | .scope a => bif noGoto a then cCode P a else some .bad
  | .rangeFunc g ps a b => do pure (.rf (← cRv g) ps.toList (← cCode P a) (← cCode P b))
  | _ => some .bad

def cRes (P : Program) : ResultVar → Option RVar
  | .tmp t => some (.t t)
  | .cell a t => do
    bif ← aggOf P t then pure (.c a (some (← szOf P t))) else pure (.c a none)

def cFn (P : Program) (f : FuncId) : Option AFn := do
  let fn ← P.funcs[f]?
  let body ← fn.body
  let rs ← fn.results.toList.mapM (cRes P)
  bif fn.name == "runtime.NumGoroutine" then none else
  pure { ntmps := fn.ntmps, results := rs, body := ← cCode P body }

end Go.Eng

/- Part EngC. -/
namespace Go.Eng
open Go

/-! ### The tree -/
theorem Tr.get_lf {α : Type} (n : Nat) : (Tr.lf : Tr α).get n = none := by cases n <;> rfl

theorem Tr.get_put {α : Type} (v : Option α) : ∀ (f n : Nat) (t : Tr α) (m : Nat), n < f → (Tr.put v f n t).get m = if m = n then v else t.get m := by
  intro f
  induction f with
  | zero => intro n t m h; exact absurd h (Nat.not_lt_zero _)
  | succ f ih =>
    intro n t m h
    cases n with
    | zero =>
      cases t with
      | lf => cases m with
        | zero => rfl
        | succ m => simp [Tr.put, Tr.get]
      | nd l o r => cases m <;> simp [Tr.put, Tr.get]
    | succ n =>
      have hn : n / 2 < f := by omega
      have e2 : ∀ k : Nat, Nat.beq (k % 2) 0 = decide (k % 2 = 0) := fun k => by
        rw [Bool.eq_iff_iff]; simp [Nat.beq_eq]
      cases t with
      | lf =>
        simp only [Tr.put, e2]
        by_cases hp : n % 2 = 0
        · simp only [hp, decide_true, cond_true]
          cases m with
          | zero => simp [Tr.get]
          | succ m =>
            simp only [Tr.get, e2]
            by_cases hq : m % 2 = 0
            · simp only [hq, decide_true, cond_true, ih _ _ _ hn, Tr.get_lf]
              by_cases he : m = n
              · simp [he]
              · rw [if_neg (by omega), if_neg (by omega)]
            · simp only [hq, decide_false, cond_false]
              rw [if_neg (by omega)]
        · simp only [hp, decide_false, cond_false]
          cases m with
          | zero => simp [Tr.get]
          | succ m =>
            simp only [Tr.get, e2]
            by_cases hq : m % 2 = 0
            · simp only [hq, decide_true, cond_true]
              rw [if_neg (by omega)]
            · simp only [hq, decide_false, cond_false, ih _ _ _ hn, Tr.get_lf]
              by_cases he : m = n
              · simp [he]
              · rw [if_neg (by omega), if_neg (by omega)]
      | nd l o r =>
        simp only [Tr.put, e2]
        by_cases hp : n % 2 = 0
        · simp only [hp, decide_true, cond_true]
          cases m with
          | zero => simp [Tr.get]
          | succ m =>
            simp only [Tr.get, e2]
            by_cases hq : m % 2 = 0
            · simp only [hq, decide_true, cond_true, ih _ _ _ hn]
              by_cases he : m = n
              · simp [he]
              · rw [if_neg (by omega), if_neg (by omega)]
            · simp only [hq, decide_false, cond_false]
              rw [if_neg (by omega)]
        · simp only [hp, decide_false, cond_false]
          cases m with
          | zero => simp [Tr.get]
          | succ m =>
            simp only [Tr.get, e2]
            by_cases hq : m % 2 = 0
            · simp only [hq, decide_true, cond_true]
              rw [if_neg (by omega)]
            · simp only [hq, decide_false, cond_false, ih _ _ _ hn]
              by_cases he : m = n
              · simp [he]
              · rw [if_neg (by omega), if_neg (by omega)]

theorem Tr.get_set {α : Type} (t : Tr α) (n m : Nat) (v : Option α) : (t.set n v).get m = if m = n then v else t.get m :=
  Tr.get_put v _ _ _ _ (Nat.lt_succ_self _)

theorem AHeap.get_set (H : AHeap) (n m : Nat) (o : AObj) : (H.set n o).get m = if m = n then some o else H.get m := Tr.get_set _ _ _ _
theorem AHeap.get_new (H : AHeap) (m : Nat) (o : AObj) : (H.new o).get m = if m = H.next then some o else H.get m := Tr.get_set _ _ _ _
@[simp] theorem AHeap.next_set (H : AHeap) (n : Nat) (o : AObj) : (H.set n o).next = H.next := rfl
@[simp] theorem AHeap.next_new (H : AHeap) (o : AObj) : (H.new o).next = H.next + 1 := rfl

/-! ### Values -/
inductive BSt where
  | dead
  | live (b off esz csz : Nat)

abbrev Mu := Nat → Option BSt

def AddrR (μ : Mu) (a a' : Addr) : Prop :=
  a.spot = none ∧ a'.spot = none ∧ ∃ s, μ a.block = some s ∧ ∀ b off esz csz, s = .live b off esz csz → a'.block = b ∧ a'.off = off + a.off

def NumR (μ : Mu) (r r' : Nat) : Prop := ∃ s, μ r = some s ∧ ∀ b off esz csz, s = .live b off esz csz → r' = b

mutual
inductive VR (μ : Mu) : Value → Value → Prop
  | atom (v : Value) : isAtom v = true → VR μ v v
  | ptr {a a' : Addr} : AddrR μ a a' → VR μ (.pointer (some a)) (.pointer (some a'))
  | slice {a a' : Addr} {len cap cap' : Nat} : AddrR μ a a' → (cap < BIG → cap' = cap) →
      (BIG ≤ cap → cap - BIG ≤ cap' ∧ ∀ b off esz csz, μ a.block = some (.live b off esz csz) → a'.off + cap' * esz ≤ csz) →
      VR μ (.slice (some a) len cap) (.slice (some a') len cap')
  | map {r r' : Nat} : NumR μ r r' → VR μ (.map (some r)) (.map (some r'))
  | func {f : FuncId} {xs ys cs ds : Array Value} : VRs μ xs.toList ys.toList → VRs μ cs.toList ds.toList → VR μ (.func (.func f) xs cs) (.func (.func f) ys ds)
  | yield {l l' : Nat} : NumR μ l l' → VR μ (.func (.yield l) #[] #[]) (.func (.yield l') #[] #[])
  | agg {xs ys : Array Value} : VRs μ xs.toList ys.toList → VR μ (.agg xs) (.agg ys)
  | tuple {xs ys : Array Value} : VRs μ xs.toList ys.toList → VR μ (.tuple xs) (.tuple ys)
inductive VRs (μ : Mu) : List Value → List Value → Prop
  | nil : VRs μ [] []
  | cons {x y : Value} {xs ys : List Value} : VR μ x y → VRs μ xs ys → VRs μ (x :: xs) (y :: ys)
end

theorem VR.undef (μ : Mu) : VR μ Go.undef Go.undef := .tuple .nil

structure Keep (μ μ' : Mu) : Prop where
  keep : ∀ N s, μ N = some s → μ' N = some s ∨ μ' N = some .dead

theorem Keep.refl (μ : Mu) : Keep μ μ := ⟨fun _ _ h => .inl h⟩
theorem Keep.trans {a b c : Mu} (h : Keep a b) (k : Keep b c) : Keep a c := ⟨fun N s hs => by
  rcases h.keep N s hs with h1 | h1
  · exact k.keep N s h1
  · rcases k.keep N _ h1 with h2 | h2 <;> exact .inr h2⟩

theorem AddrR.mono {μ μ' : Mu} {a a' : Addr} (h : AddrR μ a a') (k : Keep μ μ') : AddrR μ' a a' := by
  obtain ⟨h1, h2, s, hs, hl⟩ := h
  rcases k.keep _ _ hs with h3 | h3
  · exact ⟨h1, h2, s, h3, hl⟩
  · exact ⟨h1, h2, _, h3, fun _ _ _ _ e => by cases e⟩

theorem NumR.mono {μ μ' : Mu} {r r' : Nat} (h : NumR μ r r') (k : Keep μ μ') : NumR μ' r r' := by
  obtain ⟨s, hs, hl⟩ := h
  rcases k.keep _ _ hs with h3 | h3
  · exact ⟨s, h3, hl⟩
  · exact ⟨_, h3, fun _ _ _ _ e => by cases e⟩

mutual
theorem VR.mono {μ μ' : Mu} {v v' : Value} (h : VR μ v v') (k : Keep μ μ') : VR μ' v v' := by
  cases h with
  | atom _ h => exact .atom _ h
  | ptr h => exact .ptr (h.mono k)
  | slice h h1 h2 =>
    refine .slice (h.mono k) h1 (fun hb => ⟨(h2 hb).1, fun b off esz csz hl => ?_⟩)
    obtain ⟨_, _, s, hs, _⟩ := h
    rcases k.keep _ _ hs with h3 | h3
    · rw [h3] at hl; cases hl; exact (h2 hb).2 _ _ _ _ hs
    · rw [h3] at hl; cases hl
  | map h => exact .map (h.mono k)
  | func h1 h2 => exact .func (h1.mono k) (h2.mono k)
  | yield h => exact .yield (h.mono k)
  | agg h => exact .agg (h.mono k)
  | tuple h => exact .tuple (h.mono k)
theorem VRs.mono {μ μ' : Mu} {v v' : List Value} (h : VRs μ v v') (k : Keep μ μ') : VRs μ' v v' := by
  cases h with
  | nil => exact .nil
  | cons h t => exact .cons (h.mono k) (t.mono k)
end

theorem VRs.length {μ : Mu} : ∀ {xs ys : List Value}, VRs μ xs ys → xs.length = ys.length
  | _, _, .nil => rfl
  | _, _, .cons _ h => by simp [h.length]

theorem VRs.get {μ : Mu} : ∀ {xs ys : List Value}, VRs μ xs ys → ∀ (i : Nat) {x : Value}, xs[i]? = some x → ∃ y, ys[i]? = some y ∧ VR μ x y
  | _, _, .nil, i, x, h => by simp at h
  | _, _, .cons hx h, i, x, hi => by
    cases i with
    | zero => simp at hi; subst hi; exact ⟨_, rfl, hx⟩
    | succ i => simp at hi; simpa using h.get i hi

theorem VRs.get' {μ : Mu} {xs ys : List Value} (h : VRs μ xs ys) (i : Nat) {y : Value} (hy : ys[i]? = some y) : ∃ x, xs[i]? = some x ∧ VR μ x y := by
  have hl := h.length
  have hi : i < xs.length := by rw [hl]; exact (List.getElem?_eq_some_iff.1 hy).1
  obtain ⟨y', hy', hr⟩ := h.get i (List.getElem?_eq_getElem hi)
  rw [hy] at hy'; cases hy'
  exact ⟨_, List.getElem?_eq_getElem hi, hr⟩

theorem VRs.of_get {μ : Mu} : ∀ {xs ys : List Value}, xs.length = ys.length → (∀ (i : Nat) x y, xs[i]? = some x → ys[i]? = some y → VR μ x y) → VRs μ xs ys
  | [], [], _, _ => .nil
  | x :: xs, y :: ys, hl, h => .cons (h 0 x y rfl rfl) (VRs.of_get (by simpa using hl) fun i x y hx hy => h (i + 1) x y (by simpa using hx) (by simpa using hy))
  | [], _ :: _, hl, _ => by simp at hl
  | _ :: _, [], hl, _ => by simp at hl

theorem VRs.getD {μ : Mu} {xs ys : List Value} (h : VRs μ xs ys) (i : Nat) : VR μ (xs.getD i Go.undef) (ys.getD i Go.undef) := by
  by_cases hi : i < xs.length
  · obtain ⟨y, hy, hr⟩ := h.get i (List.getElem?_eq_getElem hi)
    simp [List.getD, hy, List.getElem?_eq_getElem hi, hr]
  · have hi' : ¬ i < ys.length := by rw [← h.length]; exact hi
    simp [List.getD, List.getElem?_eq_none (Nat.le_of_not_lt hi), List.getElem?_eq_none (Nat.le_of_not_lt hi'), VR.undef]

theorem VRs.append {μ : Mu} {as bs cs ds : List Value} (h : VRs μ as bs) (k : VRs μ cs ds) : VRs μ (as ++ cs) (bs ++ ds) := by
  revert h
  induction as generalizing bs with
  | nil => intro h; cases h; exact k
  | cons a as ih => intro h; cases h with | cons h t => exact .cons h (ih t)

theorem VRs.take {μ : Mu} {xs ys : List Value} (h : VRs μ xs ys) (n : Nat) : VRs μ (xs.take n) (ys.take n) := by
  refine .of_get (by simp [h.length]) fun i x y hx hy => ?_
  rw [List.getElem?_take] at hx hy
  split at hx
  · simp only [*, if_true] at hy
    obtain ⟨y', hy', hr⟩ := h.get i hx
    rw [hy] at hy'; cases hy'; exact hr
  · cases hx

theorem VRs.drop {μ : Mu} {xs ys : List Value} (h : VRs μ xs ys) (n : Nat) : VRs μ (xs.drop n) (ys.drop n) := by
  refine .of_get (by simp [h.length]) fun i x y hx hy => ?_
  rw [List.getElem?_drop] at hx hy
  obtain ⟨y', hy', hr⟩ := h.get _ hx
  rw [hy] at hy'; cases hy'; exact hr

theorem VRs.set {μ : Mu} {xs ys : List Value} (h : VRs μ xs ys) (n : Nat) {x y : Value} (hx : VR μ x y) : VRs μ (xs.set n x) (ys.set n y) := by
  refine .of_get (by simp [h.length]) fun i a b ha hb => ?_
  rw [List.getElem?_set] at ha hb
  by_cases e : n = i
  · simp only [e, if_true] at ha hb
    split at ha
    · split at hb
      · cases ha; cases hb; exact hx
      · cases hb
    · cases ha
  · simp only [e, if_false] at ha hb
    obtain ⟨y', hy', hr⟩ := h.get i ha
    rw [hb] at hy'; cases hy'; exact hr

theorem VRs.atoms {μ : Mu} : ∀ {xs : List Value}, xs.all isAtom = true → VRs μ xs xs
  | [], _ => .nil
  | x :: xs, h => by simp at h; exact .cons (.atom _ h.1) (VRs.atoms (by simpa using h.2))

theorem VR.closed {μ : Mu} {v : Value} (h : closedV v = true) : VR μ v v := by
  unfold closedV at h; split at h <;> first | exact .agg (VRs.atoms h) | exact .atom _ h

theorem VRs.closed {μ : Mu} {v : Value} (h : closedV v = true) : VRs μ v.cells.toList v.cells.toList := by
  unfold closedV at h; split at h
  · exact VRs.atoms h
  · rename_i hn
    have : v.cells = #[v] := by cases v <;> first | rfl | exact absurd rfl (hn _)
    rw [this]; exact .cons (.atom _ h) .nil

theorem VR.cells {μ : Mu} {v v' : Value} (h : VR μ v v') : VRs μ v.cells.toList v'.cells.toList := by
  cases h with
  | atom v h =>
    have : v.cells = #[v] := by cases v <;> first | rfl | (exact absurd (show false = true from h) (by decide))
    rw [this]; exact .cons (.atom _ h) .nil
  | ptr h => exact .cons (.ptr h) .nil
  | slice h h1 h2 => exact .cons (.slice h h1 h2) .nil
  | map h => exact .cons (.map h) .nil
  | func h k => exact .cons (.func h k) .nil
  | yield h => exact .cons (.yield h) .nil
  | agg h => exact h
  | tuple h => exact .cons (.tuple h) .nil

theorem VR.isCell {μ : Mu} {v v' : Value} (h : VR μ v v') : Value.oneCell' v' = isCell v := by
  cases h <;> first | rfl | (rename_i h; revert h; cases v <;> simp [isAtom, isCell, Value.oneCell'])

/-! ### Memory -/
structure LoopR (P : Program) (μ : Mu) (r : ALoop) (q : Loop) : Prop where
  st : q.state = (match r.st with | .ready => .ready | .busy => .busy | .done => .done | .over => .exhausted)
  jump : match r.jump, q.pending with
    | none, none => True
    | some s, some c => (s = .ret ∧ c = .ret) ∨ ∃ id, s = .exit id ∧ c = .exit id
    | _, _ => False
  tmps : VRs μ r.tmps q.tmps.toList
  ps : r.ps = q.params.toList
  assign : cCode P q.assign = some r.assign
  body : cCode P q.body = some r.body

def EntsR (μ : Mu) (es : List (Value × Value)) (fs : List MapEntry) : Prop :=
  VRs μ (es.map (·.1)) (fs.map (·.key)) ∧ VRs μ (es.map (·.2)) (fs.map (·.val))

def OR (P : Program) (μ : Mu) (w : World) (b off esz csz : Nat) : AObj → Prop
  | .dead => False
  | .cells c e ro => e = esz ∧ ∃ cs ty lo hi, w.heap[b]? = some (.cells cs ty (lo, hi)) ∧ cs.size = csz ∧ (ro = false → lo = 0 ∧ hi = 0) ∧ off + c.length ≤ csz ∧
      VRs μ c ((cs.toList.drop off).take c.length)
  | .map es => ∃ fs clock, w.heap[b]? = some (.map fs clock) ∧ EntsR μ es fs.toList ∧ ∀ f ∈ fs.toList, f.born < clock
  | .iter m n over => off = 0 ∧ ∃ m' since seen stepped, w.heap[b]? = some (.mapIter m' since seen stepped) ∧
      match m with
      | none => m' = none
      | some r => ∃ r', m' = some r' ∧ NumR μ r r' ∧ r' < w.heap.size ∧ (over = false → seen = #[]) ∧
          (∀ fs clock, w.heap[r']? = some (.map fs clock) → n ≤ fs.size ∧ (fs.size = n → clock = since ∧ (over = true → n = 1 → stepped = clock ∧ ∀ f, fs[0]? = some f → seen = #[f.born])))
  | .loop r => ∃ q, w.heap[b]? = some (.loop q) ∧ LoopR P μ r q

structure HR (P : Program) (μ : Mu) (H : AHeap) (w : World) : Prop where
  none_iff : ∀ N, μ N = none ↔ H.get N = none
  dead_iff : ∀ N, μ N = some .dead ↔ H.get N = some .dead
  live : ∀ N b off esz csz, μ N = some (.live b off esz csz) → ∃ o, H.get N = some o ∧ OR P μ w b off esz csz o
  inj : ∀ N M b off esz csz off' esz' csz', μ N = some (.live b off esz csz) → μ M = some (.live b off' esz' csz') → N = M
  next : ∀ N, H.next ≤ N → H.get N = none
  zero : H.get 0 = some .dead

end Go.Eng

/- Part EngD. -/
namespace Go.Eng
open Go

variable {P : Program} {μ : Mu}

theorem VR.atom_inv {v v' : Value} (ha : isAtom v = true) (h : VR μ v v') : v' = v := by
  cases h with
  | atom => rfl
  | ptr => cases ha
  | slice => cases ha
  | map => cases ha
  | func => cases ha
  | yield => cases ha
  | agg => cases ha
  | tuple => cases ha

theorem VR.int_inv {k : IntKind} {n : Int} {v' : Value} (h : VR μ (.int k n) v') : v' = .int k n := h.atom_inv rfl
theorem VR.bool_inv {b : Bool} {v' : Value} (h : VR μ (.bool b) v') : v' = .bool b := h.atom_inv rfl
theorem VR.nilp_inv {v' : Value} (h : VR μ (.pointer none) v') : v' = .pointer none := h.atom_inv rfl
theorem VR.nilm_inv {v' : Value} (h : VR μ (.map none) v') : v' = .map none := h.atom_inv rfl
theorem VR.nilf_inv {v' : Value} (h : VR μ .nilFunc v') : v' = .nilFunc := h.atom_inv rfl
theorem VR.ptr_inv {a : Addr} {v' : Value} (h : VR μ (.pointer (some a)) v') : ∃ a', v' = .pointer (some a') ∧ AddrR μ a a' := by
  cases h with
  | atom _ h => cases h
  | ptr h => exact ⟨_, rfl, h⟩
theorem VR.nils_inv {l c : Nat} {v' : Value} (h : VR μ (.slice none l c) v') : l = 0 ∧ c = 0 ∧ v' = .slice none 0 0 := by
  cases h with
  | atom _ h =>
    cases l with
    | succ _ => cases h
    | zero => cases c with
      | succ _ => cases h
      | zero => exact ⟨rfl, rfl, rfl⟩
theorem VR.slice_inv {a : Addr} {l c : Nat} {v' : Value} (h : VR μ (.slice (some a) l c) v') : ∃ a' c', v' = .slice (some a') l c' ∧ AddrR μ a a' ∧ (c < BIG → c' = c) ∧
    (BIG ≤ c → c - BIG ≤ c' ∧ ∀ b off esz csz, μ a.block = some (.live b off esz csz) → a'.off + c' * esz ≤ csz) := by
  cases h with
  | atom _ h => cases h
  | slice h h1 h2 => exact ⟨_, _, rfl, h, h1, h2⟩
theorem VR.map_inv {r : Nat} {v' : Value} (h : VR μ (.map (some r)) v') : ∃ r', v' = .map (some r') ∧ NumR μ r r' := by
  cases h with
  | atom _ h => cases h
  | map h => exact ⟨_, rfl, h⟩
theorem VR.agg_inv {xs : Array Value} {v' : Value} (h : VR μ (.agg xs) v') : ∃ ys, v' = .agg ys ∧ VRs μ xs.toList ys.toList := by
  cases h with
  | atom _ h => cases h
  | agg h => exact ⟨_, rfl, h⟩
theorem VR.tuple_inv {xs : Array Value} {v' : Value} (h : VR μ (.tuple xs) v') : ∃ ys, v' = .tuple ys ∧ VRs μ xs.toList ys.toList := by
  cases h with
  | atom _ h => cases h
  | tuple h => exact ⟨_, rfl, h⟩
theorem VR.func_inv {f : FuncId} {xs cs : Array Value} {v' : Value} (h : VR μ (.func (.func f) xs cs) v') : ∃ ys ds, v' = .func (.func f) ys ds ∧ VRs μ xs.toList ys.toList ∧ VRs μ cs.toList ds.toList := by
  cases h with
  | atom _ h => cases h
  | func h k => exact ⟨_, _, rfl, h, k⟩

theorem rv_sim {x : Operand} {r : Rv} {σ : List Value} {a : Act} (h : cRv x = some r) (hσ : VRs μ σ a.tmps.toList) : VR μ (r.ev σ) (a.eval x) := by
  cases x with
  | tmp t =>
    simp only [cRv, Option.some.injEq] at h; subst h
    have := hσ.getD t
    simpa [Rv.ev, Act.eval, Array.getD_eq_getD_getElem?, List.getD] using this
  | const v =>
    simp only [cRv] at h
    cases hc : closedV v <;> simp [hc] at h
    subst h; exact .closed hc
  | func f => simp only [cRv, Option.some.injEq] at h; subst h; exact .func .nil .nil
  | global g => simp [cRv] at h

theorem rvs_sim {xs : List Operand} {rs : List Rv} {σ : List Value} {a : Act} (h : xs.mapM cRv = some rs) (hσ : VRs μ σ a.tmps.toList) : VRs μ (rs.map (·.ev σ)) (xs.map a.eval) := by
  induction xs generalizing rs with
  | nil => simp at h; subst h; exact .nil
  | cons x xs ih =>
    simp only [List.mapM_cons, bind, Option.bind_eq_some_iff, pure, Option.some.injEq] at h
    obtain ⟨r, hr, rs', hrs, rfl⟩ := h
    exact .cons (rv_sim hr hσ) (ih hrs)

/-! ### Numbers -/
theorem aBin_sim {op : BinOp} {t : TypeId} {x y v : Value} (h : aBin op x y = some v) (w : World) :
    (binOp op t x y).run P w = .ok v w ∧ isAtom v = true := by
  unfold aBin at h
  split at h
  · rename_i k a k' b
    split at h
    · split at h
      · cases h
      · rename_i hb
        cases h; simp [binOp, Op.shift, hb, isAtom]
    · split at h
      · cases h
      · rename_i hb
        cases h; simp [binOp, Op.shift, hb, isAtom]
    · rename_i h1 h2
      split at h
      · rename_i hk
        subst hk
        cases op <;> simp only [reduceCtorEq] at h <;>
          first
          | (exact absurd rfl h1)
          | (exact absurd rfl h2)
          | (cases h; simp [binOp, Op.intArith, Op.intBits, Op.intCmp, isAtom]; done)
          | (split at h; cases h; rename_i hb; cases h; simp [binOp, Op.intDiv, hb, isAtom]; done)
      · cases h
  · cases h

theorem aUn_sim {op : UnOp} {x v : Value} (h : aUn op x = some v) (w : World) : (Op.unary op x).run P w = .ok v w ∧ isAtom v = true := by
  unfold aUn at h
  split at h
  · cases h; simp [Op.unary, isAtom]
  · cases h; simp [Op.unary, Op.intArith, isAtom]
  · cases h; simp [Op.unary, Op.intBits, isAtom]
  · cases h

end Go.Eng

/- Part EngE. -/
namespace Go.Eng
open Go

variable {P : Program} {μ : Mu}

def ofC (P : Program) (t : TypeId) (xs : List Value) : Value :=
  match aggOf P t with
  | some true => .agg xs.toArray
  | _ => xs.headD undef

theorem cellEq_inv {x y : Value} {r : Bool} (h : cellEq x y = some r) : ∃ k a b, x = .int k a ∧ y = .int k b ∧ r = (a == b) := by
  unfold cellEq at h
  split at h
  · split at h
    · rename_i k a k' b hk; subst hk; cases h; exact ⟨_, _, _, rfl, rfl, rfl⟩
    · cases h
  · cases h

theorem cellsEq_cons {x y : Value} {xs ys : List Value} {r : Bool} (h : cellsEq (x :: xs) (y :: ys) = some r) :
    ∃ a b, cellEq x y = some a ∧ cellsEq xs ys = some b ∧ r = (a && b) := by
  simp only [cellsEq] at h
  cases ha : cellEq x y with
  | none => simp [ha] at h
  | some a =>
    cases hb : cellsEq xs ys with
    | none => simp [ha, hb] at h
    | some b => simp [ha, hb] at h; exact ⟨a, b, rfl, rfl, h.symm⟩

theorem cellsEq_split : ∀ (n : Nat) {xs ys : List Value} {r : Bool}, cellsEq xs ys = some r →
    ∃ a b, cellsEq (xs.take n) (ys.take n) = some a ∧ cellsEq (xs.drop n) (ys.drop n) = some b ∧ r = (a && b)
  | 0, xs, ys, r, h => ⟨true, r, by simp [cellsEq], by simpa using h, by simp⟩
  | n + 1, [], [], r, h => by simp [cellsEq] at h; subst h; exact ⟨true, true, by simp [cellsEq], by simp [cellsEq], rfl⟩
  | n + 1, [], y :: ys, r, h => by simp [cellsEq] at h
  | n + 1, x :: xs, [], r, h => by simp [cellsEq] at h
  | n + 1, x :: xs, y :: ys, r, h => by
    obtain ⟨a, b, ha, hb, rfl⟩ := cellsEq_cons h
    obtain ⟨c, d, hc, hd, rfl⟩ := cellsEq_split n hb
    exact ⟨a && c, d, by simp [cellsEq, ha, hc], by simpa using hd, by cases a <;> cases c <;> rfl⟩

theorem cellsEq_length : ∀ {xs ys : List Value} {r : Bool}, cellsEq xs ys = some r → xs.length = ys.length
  | [], [], _, _ => rfl
  | [], _ :: _, _, h => by simp [cellsEq] at h
  | _ :: _, [], _, h => by simp [cellsEq] at h
  | x :: xs, y :: ys, r, h => by
    obtain ⟨a, b, ha, hb, rfl⟩ := cellsEq_cons h
    simp [cellsEq_length hb]

theorem run_part {t : TypeId} {b : Bool} {n : Nat} {cs : Array Value} {off : Nat} (w : World) (ha : aggOf P t = some b) (hs : szOf P t = some n) (hn : b = false → n = 1) (hl : off + n ≤ cs.size) :
    (part t cs off).run P w = .ok (ofC P t ((cs.toList.drop off).take n)) w := by
  have hu : (P.underlying t).isSome = true := by
    unfold aggOf at ha; cases h : P.underlying t with
    | none => simp [h] at ha
    | some _ => rfl
  obtain ⟨d, hd⟩ := Option.isSome_iff_exists.1 hu
  have hi : ∃ i, P.info? t = some i ∧ i.size = n := by
    unfold szOf at hs; cases h : P.info? t with
    | none => simp [h] at hs
    | some i => simp [h] at hs; exact ⟨i, rfl, hs⟩
  obtain ⟨i, hi, hin⟩ := hi
  cases b with
  | true =>
    have : ofC P t ((cs.toList.drop off).take n) = .agg (cs.extract off (off + n)) := by
      simp only [ofC, ha]; congr 1
      apply Array.ext'
      simp [Array.toList_extract, List.extract_eq_take_drop]
    rw [this]
    have hda : (match d with | .struct _ | .array _ _ => true | _ => false) = true := by
      unfold aggOf at ha; rw [hd] at ha; cases d <;> simp at ha <;> rfl
    cases d <;> simp at hda <;> simp [part, isAgg, underlying, hd, sizeOf, typeInfo, hi, hin]
  | false =>
    have hn1 := hn rfl; subst hn1
    have hlt : off < cs.size := by omega
    have hda : (match d with | .struct _ | .array _ _ => true | _ => false) = false := by
      unfold aggOf at ha; rw [hd] at ha; cases d <;> simp at ha <;> rfl
    have he : ofC P t ((cs.toList.drop off).take 1) = cs[off] := by
      have : cs.toList.drop off = cs[off] :: cs.toList.drop (off + 1) := by
        rw [List.drop_eq_getElem_cons (by simpa using hlt)]; simp
      simp [ofC, ha, this]
    rw [he]
    cases d <;> simp at hda <;> simp [part, isAgg, underlying, hd, Array.getElem?_eq_getElem hlt]

theorem flats_agg {n : Nat} {t : TypeId} (h : flats P n t = true) : ∃ b, aggOf P t = some b ∧ (b = false → szOf P t = some 1) ∧ ∃ sz, szOf P t = some sz := by
  cases n with
  | zero => simp [flats] at h
  | succ n =>
    unfold flats at h
    split at h
    · rename_i hu
      split at h
      · rename_i hs; exact ⟨false, by simp [aggOf, hu], fun _ => hs, 1, hs⟩
      · cases h
    · rename_i hu
      simp only [Bool.and_eq_true] at h
      cases hs : szOf P t with
      | none => rw [hs] at h; simp at h
      | some sz => exact ⟨true, by simp [aggOf, hu], (fun e => by cases e), sz, rfl⟩
    · rename_i hu
      simp only [Bool.and_eq_true] at h
      cases hs : szOf P t with
      | none => rw [hs] at h; simp at h
      | some sz => exact ⟨true, by simp [aggOf, hu], (fun e => by cases e), sz, rfl⟩
    · cases h

theorem run_equalIn_array (d : Nat) (t e : TypeId) (k n : Nat) (xs ys : Array Value) (w : World) (ht : P.underlying t = some (.array k e)) (hs : szOf P e = some n) :
    (Op.equalIn (d + 1) t (.agg xs) (.agg ys)).run P w = ((do
      for i in [0:k] do
        if !(← Op.equalIn d e (← part e xs (i * n)) (← part e ys (i * n))) then return false
      pure true : Sem Bool)).run P w := by
  have hi : ∃ i, P.info? e = some i ∧ i.size = n := by
    unfold szOf at hs; cases h : P.info? e with
    | none => simp [h] at hs
    | some i => simp [h] at hs; exact ⟨i, rfl, hs⟩
  obtain ⟨i, hi, rfl⟩ := hi
  simp [Op.equalIn, underlying, ht, sizeOf, typeInfo, hi]

theorem flat_eq : ∀ (n : Nat) (t : TypeId) (sz d : Nat) (xs ys : List Value) (r : Bool) (w : World), flats P n t = true → n ≤ d → szOf P t = some sz →
    xs.length = sz → cellsEq xs ys = some r → (Op.equalIn d t (ofC P t xs) (ofC P t ys)).run P w = .ok r w := by
  intro n
  induction n with
  | zero => intro t sz d xs ys r w h; simp [flats] at h
  | succ n ih =>
    intro t sz d xs ys r w h hd hsz hx hc
    obtain ⟨d, rfl⟩ : ∃ d', d = d' + 1 := ⟨d - 1, by omega⟩
    have hd' : n ≤ d := by omega
    have hy := cellsEq_length hc
    unfold flats at h
    split at h
    · rename_i k hu
      split at h
      · rename_i hs
        rw [hs] at hsz; cases hsz
        match xs, ys, hx, hy with
        | [x], [y], _, _ =>
          obtain ⟨a, b, ha, hb, rfl⟩ := cellsEq_cons hc
          obtain ⟨k', m, m', rfl, rfl, rfl⟩ := cellEq_inv ha
          simp [cellsEq] at hb; subst hb
          have : aggOf P t = some false := by simp [aggOf, hu]
          simp [ofC, this, run_equalIn_int w d t k' k m m' hu]
      · cases h
    · rename_i fs hu
      rw [hsz] at h
      simp only [Bool.and_eq_true, Bool.not_eq_true', List.all_eq_true] at h
      obtain ⟨⟨hst, hall⟩, hoff⟩ := h
      have hagg : aggOf P t = some true := by simp [aggOf, hu]
      have hfo : P.fieldsOf t = fs := by simp [Program.fieldsOf, hu]
      simp only [ofC, hagg]
      rw [run_equalIn_struct w d t _ _ (by rw [hfo]; exact hu) hst, hfo]
      -- the fields, one by one
      have key : ∀ (l : List Field) (off : Nat), (∀ f ∈ l, flats P n f.type = true) → offsOK P l off sz = true → ∀ r, cellsEq (xs.drop off) (ys.drop off) = some r → off ≤ sz →
          (Op.eqFields d xs.toArray ys.toArray l).run P w = .ok r w := by
        intro l
        induction l with
        | nil =>
          intro off _ ho r hr _
          simp only [offsOK] at ho
          have ho := Nat.eq_of_beq_eq_true ho
          have h1 : xs.drop off = [] := List.drop_eq_nil_of_le (by omega)
          have h2 : ys.drop off = [] := List.drop_eq_nil_of_le (by omega)
          rw [h1, h2] at hr; simp [cellsEq] at hr; subst hr
          simp [Op.eqFields]
        | cons f l ihl =>
          intro off hf ho r hr hle
          simp only [offsOK, Bool.and_eq_true] at ho
          obtain ⟨⟨ho1, ho2⟩, ho3⟩ := ho
          have ho1 := Nat.eq_of_beq_eq_true ho1
          cases hs : szOf P f.type with
          | none => rw [hs] at ho3; simp at ho3
          | some s =>
            rw [hs] at ho3; simp only at ho3
            have hff := hf f (by simp)
            obtain ⟨b, hb, hb1, _⟩ := flats_agg hff
            -- the rest of the fields ends at sz
            have hend : ∀ (l : List Field) (o : Nat), offsOK P l o sz = true → o ≤ sz := by
              intro l
              induction l with
              | nil => intro o h; simp only [offsOK] at h; have := Nat.eq_of_beq_eq_true h; omega
              | cons g l ih2 =>
                intro o h
                simp only [offsOK, Bool.and_eq_true] at h
                cases hg : szOf P g.type with
                | none => rw [hg] at h; simp at h
                | some s' => rw [hg] at h; simp only at h; have := ih2 _ h.2; omega
            have hle2 := hend _ _ ho3
            obtain ⟨p, q, hp, hq, rfl⟩ := cellsEq_split s hr
            have px := run_part (cs := xs.toArray) (off := off) w hb hs (fun e => by have := hb1 e; rw [hs] at this; cases this; rfl) (by simp; omega)
            have py := run_part (cs := ys.toArray) (off := off) w hb hs (fun e => by have := hb1 e; rw [hs] at this; cases this; rfl) (by simp; omega)
            have pe := ih f.type s d _ _ p w hff hd' hs (by simp; omega) hp
            have hrest := ihl (off + s) (fun g hg => hf g (by simp [hg])) ho3 q (by simpa [List.drop_drop] using hq) hle2
            have hname : f.name ≠ "_" := by simpa using ho2
            simp only [Op.eqFields, Sem.run_bind, Sem.run_ite, hname, ne_eq, not_false_eq_true, if_true, ho1, px, py, Result.andThen_ok]
            rw [pe]
            cases p <;> simp [hrest]
      have := key fs.toList 0 hall hoff r (by simpa using hc) (by omega)
      simpa using this
    · rename_i k e hu
      simp only [Bool.and_eq_true] at h
      obtain ⟨hfe, h2⟩ := h
      cases hse : szOf P e with
      | none => rw [hsz, hse] at h2; simp at h2
      | some se =>
        rw [hsz, hse] at h2; simp only [Bool.and_eq_true] at h2
        have h3 := Nat.eq_of_beq_eq_true h2.1
        have hagg : aggOf P t = some true := by simp [aggOf, hu]
        obtain ⟨b, hb, hb1, _⟩ := flats_agg hfe
        simp only [ofC, hagg]
        rw [run_equalIn_array d t e k se _ _ w hu hse]
        have key : ∀ (m i : Nat), i + m = k → ∀ r, cellsEq (xs.drop (i * se)) (ys.drop (i * se)) = some r →
            (forIn (m := Sem) (List.range' i m) ((none, ()) : Option Bool × Unit) (fun i _ => do
                if !(← Op.equalIn d e (← part e xs.toArray (i * se)) (← part e ys.toArray (i * se))) then pure (.done (some false, ()))
                else pure (.yield (none, ())))).run P w = .ok (bif r then none else some false, ()) w := by
          intro m
          induction m with
          | zero =>
            intro i hi r hr
            have hik : i = k := by omega
            have h1 : xs.drop (i * se) = [] := List.drop_eq_nil_of_le (by rw [hik]; omega)
            have h2 : ys.drop (i * se) = [] := List.drop_eq_nil_of_le (by rw [hik]; omega)
            rw [h1, h2] at hr; simp [cellsEq] at hr; subst hr
            simp
          | succ m ihm =>
            intro i hi r hr
            obtain ⟨p, q, hp, hq, rfl⟩ := cellsEq_split se hr
            have hik : i * se + se ≤ sz := by
              rw [h3]; have : (i + 1) * se ≤ k * se := Nat.mul_le_mul_right _ (by omega)
              rw [Nat.add_mul] at this; omega
            have px := run_part (cs := xs.toArray) (off := i * se) w hb hse (fun e' => by have := hb1 e'; rw [hse] at this; cases this; rfl) (by simp; omega)
            have py := run_part (cs := ys.toArray) (off := i * se) w hb hse (fun e' => by have := hb1 e'; rw [hse] at this; cases this; rfl) (by simp; omega)
            have pe := ih e se d _ _ p w hfe hd' hse (by simp; omega) hp
            have hrest := ihm (i + 1) (by omega) q (by rw [Nat.add_mul]; simpa [List.drop_drop] using hq)
            simp only [List.range'_succ, List.forIn_cons, Sem.run_bind, px, py, Result.andThen_ok, pe]
            cases p
            · simp
            · simp only [Bool.not_true, Bool.false_eq_true, if_false, Sem.run_pure, Result.andThen_ok, Bool.true_and]
              exact hrest
        have := key k 0 (by omega) r (by simpa using hc)
        simp only [Std.Legacy.Range.forIn_eq_forIn_range', Std.Legacy.Range.size, Nat.sub_zero, Nat.add_sub_cancel, Nat.div_one, Sem.run_bind, this, Result.andThen_ok]
        cases r <;> simp
    · cases h

end Go.Eng

/- Part EngF. -/
namespace Go.Eng
open Go

variable {P : Program} {μ : Mu}

theorem splice_over : ∀ {cs xs r : List Value}, splice.over cs xs = some r → xs.length ≤ cs.length ∧ r = xs ++ cs.drop xs.length
  | cs, [], r, h => by simp [splice.over] at h; subst h; simp
  | [], _ :: _, r, h => by simp [splice.over] at h
  | c :: cs, x :: xs, r, h => by
    simp only [splice.over, Option.map_eq_some_iff] at h
    obtain ⟨r', hr, rfl⟩ := h
    obtain ⟨h1, rfl⟩ := splice_over hr
    exact ⟨by simpa using h1, by simp⟩

theorem splice_eq : ∀ {off : Nat} {cs xs r : List Value}, splice cs off xs = some r → off + xs.length ≤ cs.length ∧ r = cs.take off ++ xs ++ cs.drop (off + xs.length)
  | 0, cs, xs, r, h => by
    unfold splice at h
    obtain ⟨h1, rfl⟩ := splice_over h
    exact ⟨by simpa using h1, by simp⟩
  | off + 1, [], xs, r, h => by simp [splice] at h
  | off + 1, c :: cs, xs, r, h => by
    simp only [splice, Option.map_eq_some_iff] at h
    obtain ⟨r', hr, rfl⟩ := h
    obtain ⟨h1, rfl⟩ := splice_eq hr
    exact ⟨by simp; omega, by simp [Nat.add_right_comm]⟩

theorem grab_eq {cs r : List Value} {off n : Nat} (h : grab cs off n = some r) : r = (cs.drop off).take n ∧ r.length = n ∧ (0 < n → off + n ≤ cs.length) := by
  simp only [grab] at h
  cases hb : Nat.beq ((cs.drop off).take n).length n with
  | false => rw [hb] at h; cases h
  | true =>
    rw [hb] at h; cases h
    have := Nat.eq_of_beq_eq_true hb
    refine ⟨rfl, this, fun hn => ?_⟩
    simp at this; omega

theorem foldl_put (off : Nat) : ∀ (xs : List Value) (k : Nat) (cs : Array Value), off + k + xs.length ≤ cs.size →
    ((xs.zipIdx k).foldl (fun (cs : Array Value) (p : Value × Nat) => cs.setIfInBounds (off + p.2) p.1) cs).toList = cs.toList.take (off + k) ++ xs ++ cs.toList.drop (off + k + xs.length)
  | [], k, cs, _ => by simp
  | x :: xs, k, cs, h => by
    simp only [List.length_cons] at h
    simp only [List.zipIdx_cons, List.foldl_cons]
    rw [foldl_put off xs (k + 1) _ (by simp; omega)]
    have hk : off + k < cs.toList.length := by simp; omega
    apply List.ext_getElem?
    intro i
    simp only [Array.toList_setIfInBounds, List.getElem?_append, List.getElem?_take, List.getElem?_drop, List.length_take, List.length_append, List.length_set, List.getElem?_set, List.length_cons, List.getElem?_cons, ← Nat.add_assoc]
    simp only [Array.length_toList] at hk ⊢
    have e1 : min (off + k + 1) cs.size = off + k + 1 := by omega
    have e2 : min (off + k) cs.size = off + k := by omega
    simp only [e1, e2]
    by_cases a : i < off + k
    · simp [a, show i < off + k + 1 by omega, show i < off + k + 1 + xs.length by omega, show off + k ≠ i by omega]
      intro hh; omega
    · by_cases b : i = off + k
      · subst b; simp [show off + k < off + k + 1 + xs.length by omega, hk]
        intro hh; omega
      · by_cases c : i < off + k + 1 + xs.length
        · simp [a, show ¬ i < off + k + 1 by omega, c, show ¬ (i - (off + k) = 0) by omega, show i - (off + k) - 1 = i - (off + k + 1) by omega]
          intro hh; omega
        · simp only [c, show ¬ i < off + k + xs.length + 1 by omega, if_false, show off + k ≠ off + k + 1 + xs.length + (i - (off + k + 1 + xs.length)) by omega]
          congr 1; omega

theorem VRs.splice {cs xs cs' xs' : List Value} (h : VRs μ cs cs') (k : VRs μ xs xs') (off : Nat) :
    VRs μ (cs.take off ++ xs ++ cs.drop (off + xs.length)) (cs'.take off ++ xs' ++ cs'.drop (off + xs'.length)) := by
  rw [k.length]; exact ((h.take off).append k).append (h.drop _)

theorem fill_sim {a : Act} {σ : List Value} (hσ : VRs μ σ a.tmps.toList) (place : Nat → Option (Nat × Nat)) :
    ∀ (ps : List (Nat × Operand)) (qs : List (Nat × Nat × Rv)) (cells : List Value) (cells' : Array Value) (l : List Value),
      ps.mapM (cPart place) = some qs → VRs μ cells cells'.toList → fillL σ cells qs = some l →
      ∃ l', Instr.fill place cells' (ps.map fun p => (p.1, a.eval p.2)) = some l' ∧ VRs μ l l'.toList
  | [], qs, cells, cells', l, hq, hc, hf => by
    simp at hq; subst hq; simp [fillL] at hf; subst hf; exact ⟨cells', rfl, hc⟩
  | (i, x) :: ps, qs, cells, cells', l, hq, hc, hf => by
    simp only [List.mapM_cons, bind, Option.bind_eq_some_iff, pure, Option.some.injEq] at hq
    obtain ⟨⟨o, s, r⟩, hp, qs', hqs, rfl⟩ := hq
    simp only [cPart] at hp
    cases hpl : place i with
    | none => rw [hpl] at hp; simp at hp
    | some os =>
      cases hr : cRv x with
      | none => rw [hpl, hr] at hp; simp at hp
      | some r' =>
        obtain ⟨o', s'⟩ := os
        rw [hpl, hr] at hp; simp at hp
        obtain ⟨rfl, rfl, rfl⟩ := hp
        have hv := rv_sim hr hσ
        have hcs := hv.cells
        simp only [fillL] at hf
        cases hb : Nat.beq (r'.ev σ).cells.toList.length s' with
        | false => rw [hb] at hf; cases hf
        | true =>
          rw [hb] at hf
          have hs := Nat.eq_of_beq_eq_true hb
          simp only [cond_true, Option.bind_eq_some_iff] at hf
          obtain ⟨l1, h1, h2⟩ := hf
          obtain ⟨hle, rfl⟩ := splice_eq h1
          have hlen : (a.eval x).cells.toList.length = s' := by rw [← hcs.length]; exact hs
          have hle' : o' + (a.eval x).cells.toList.length ≤ cells'.size := by
            have := hc.length; simp only [Array.length_toList] at this; rw [← hcs.length]; omega
          have hput := foldl_put o' (a.eval x).cells.toList 0 cells' (by simpa using hle')
          have hrel := hc.splice hcs o'
          obtain ⟨l', hl', hr'⟩ := fill_sim hσ place ps qs' _ ((a.eval x).cells.zipIdx.foldl (fun cs (c, j) => cs.setIfInBounds (o' + j) c) cells') l hqs
            (by
              rw [← Array.foldl_toList]
              rw [show (a.eval x).cells.zipIdx.toList = (a.eval x).cells.toList.zipIdx 0 by simp [Array.toList_zipIdx]]
              rw [hput]; simpa using hrel) h2
          refine ⟨l', ?_, hr'⟩
          simp only [List.map_cons, Instr.fill, hpl]
          have c1 : (a.eval x).cells.size = s' := by simpa using hlen
          have c2 : ¬ o' + (a.eval x).cells.size > cells'.size := by simpa using hle'
          rw [if_neg (by simp only [c1, ne_eq, not_true_eq_false, decide_false, Bool.false_or, decide_eq_true_eq]; rw [c1] at c2; exact c2)]
          exact hl'

end Go.Eng

/- Part EngG. -/
namespace Go.Eng
open Go

variable {P : Program} {μ : Mu}

theorem sz_inv {t : TypeId} {n : Nat} (h : szOf P t = some n) : ∃ i, P.info? t = some i ∧ i.size = n := by
  unfold szOf at h
  cases hi : P.info? t with
  | none => simp [hi] at h
  | some i => simp [hi] at h; exact ⟨i, rfl, h⟩

theorem run_size {t : TypeId} {n : Nat} (h : szOf P t = some n) (w : World) : (sizeOf t).run P w = .ok n w := by
  obtain ⟨i, hi, rfl⟩ := sz_inv h
  simp [sizeOf, typeInfo, hi]

theorem run_agg {t : TypeId} {b : Bool} (h : aggOf P t = some b) (w : World) : (isAgg t).run P w = .ok b w := by
  unfold aggOf at h
  cases hu : P.underlying t with
  | none => rw [hu] at h; cases h
  | some d => rw [hu] at h; cases d <;> simp at h <;> subst h <;> simp [isAgg, underlying, hu]

theorem zero_inv {t : TypeId} {z : List Value} (h : zeroOf P t = some z) : ∃ i v, P.info? t = some i ∧ i.zero = some v ∧ closedV v = true ∧ z = v.cells.toList ∧ z.length = i.size := by
  unfold zeroOf at h
  split at h
  · rename_i i hi
    split at h
    · rename_i v hv
      cases hb : (closedV v && Nat.beq v.cells.toList.length i.size) with
      | false => rw [hb] at h; cases h
      | true =>
        rw [hb] at h; cases h
        simp only [Bool.and_eq_true] at hb
        exact ⟨i, v, hi, hv, hb.1, rfl, Nat.eq_of_beq_eq_true hb.2⟩
    · cases h
  · cases h

theorem run_zero {t : TypeId} {i : TypeInfo} {v : Value} (hi : P.info? t = some i) (hz : i.zero = some v) (w : World) : (zeroValue t).run P w = .ok v w := by
  simp [zeroValue, typeInfo, hi, hz]

theorem aBound_inv {v v' : Value} {lim n : Nat} (h : aBound v lim = some n) (hr : VR μ v v') (code : BoundsCode) (w : World) :
    (Instr.sliceBound v' lim code).run P w = .ok n w ∧ n ≤ lim := by
  unfold aBound at h
  split at h
  · rename_i k i
    have := hr.int_inv; subst this
    split at h
    · rename_i hc
      cases h
      refine ⟨by simp [Instr.sliceBound, asIntOf, hc], by omega⟩
    · cases h
  · cases h

theorem opt_sim {x : Option Operand} {r : Option Rv} {σ : List Value} {a : Act} (h : cOpt x = some r) (_hσ : VRs μ σ a.tmps.toList) :
    (x = none ∧ r = none) ∨ ∃ o q, x = some o ∧ r = some q ∧ cRv o = some q := by
  cases x with
  | none => simp [cOpt] at h; exact .inl ⟨rfl, h.symm⟩
  | some o =>
    simp only [cOpt, Option.map_eq_some_iff] at h
    obtain ⟨q, hq, rfl⟩ := h
    exact .inr ⟨o, q, rfl, rfl, hq⟩

/-- The three bounds of a slice expression. -/
theorem bounds_sim {a : Act} {σ : List Value} (hσ : VRs μ σ a.tmps.toList) {lo hi mx : Option Operand} {rl rh rm : Option Rv} (hl : cOpt lo = some rl) (hh : cOpt hi = some rh) (hm : cOpt mx = some rm)
    {isSlice : Bool} {len cap l h m : Nat} (h1 : aBoundO σ rm cap cap = some m) (h2 : aBoundO σ rh m len = some h) (h3 : aBoundO σ rl h 0 = some l) (w : World) (hmh : mx.isSome = true → hi.isSome = true) :
    (Instr.sliceBounds isSlice len cap (lo.map a.eval) (hi.map a.eval) (mx.map a.eval)).run P w = .ok (l, h, m) w := by
  rcases opt_sim hm hσ with ⟨rfl, rfl⟩ | ⟨o, q, rfl, rfl, hq⟩
  all_goals rcases opt_sim hh hσ with ⟨rfl, rfl⟩ | ⟨o', q', rfl, rfl, hq'⟩
  all_goals rcases opt_sim hl hσ with ⟨rfl, rfl⟩ | ⟨o'', q'', rfl, rfl, hq''⟩
  all_goals simp only [aBoundO] at h1 h2 h3
  · cases h1; cases h2; cases h3; simp [Instr.sliceBounds]
  · cases h1; cases h2; simp [Instr.sliceBounds, (aBound_inv h3 (rv_sim hq'' hσ) _ w).1]
  · cases h1; cases h3; simp [Instr.sliceBounds, (aBound_inv h2 (rv_sim hq' hσ) _ w).1]
  · cases h1; simp [Instr.sliceBounds, (aBound_inv h2 (rv_sim hq' hσ) _ w).1, (aBound_inv h3 (rv_sim hq'' hσ) _ w).1]
  · simp at hmh
  · simp at hmh
  · cases h3; simp [Instr.sliceBounds, (aBound_inv h1 (rv_sim hq hσ) _ w).1, (aBound_inv h2 (rv_sim hq' hσ) _ w).1]
  · simp [Instr.sliceBounds, (aBound_inv h1 (rv_sim hq hσ) _ w).1, (aBound_inv h2 (rv_sim hq' hσ) _ w).1, (aBound_inv h3 (rv_sim hq'' hσ) _ w).1]

theorem aBoundO_le {σ : List Value} {x : Option Rv} {lim d n : Nat} (h : aBoundO σ x lim d = some n) (hd : d ≤ lim) : n ≤ lim := by
  unfold aBoundO at h
  split at h
  · unfold aBound at h
    split at h
    · split at h
      · cases h; omega
      · cases h
    · cases h
  · cases h; exact hd

theorem AddrR.add {a a' : Addr} (h : AddrR μ a a') (n : Nat) : AddrR μ (a.add n) (a'.add n) := by
  obtain ⟨h1, h2, s, hs, hl⟩ := h
  unfold Addr.add
  by_cases hn : n = 0
  · simp only [hn, if_true]; exact ⟨h1, h2, s, hs, hl⟩
  · simp only [hn, if_false]
    exact ⟨rfl, rfl, s, hs, fun b off esz csz e => by obtain ⟨x, y⟩ := hl b off esz csz e; exact ⟨x, by simp [y]; omega⟩⟩

@[simp] theorem add_block (a : Addr) (n : Nat) : (a.add n).block = a.block := by unfold Addr.add; split <;> rfl
@[simp] theorem add_off (a : Addr) (n : Nat) : (a.add n).off = a.off + n := by unfold Addr.add; split <;> simp_all

theorem plain_sim {b : Bool} {t : TypeId} {n off : Nat} {cs cs' : Array Value} {v : Value} (ha : aggOf P t = some b) (hs : szOf P t = some n) (h : VRs μ cs.toList cs'.toList)
    (hv : plainAgg b cs.toList off n = some v) : ∃ v', VR μ v v' ∧ ∀ w, (part t cs' off).run P w = .ok v' w := by
  unfold plainAgg at hv
  cases b with
  | true =>
    simp only [cond_true, Option.map_eq_some_iff] at hv
    obtain ⟨l, hl, rfl⟩ := hv
    obtain ⟨rfl, hlen, hle⟩ := grab_eq hl
    refine ⟨.agg (cs'.extract off (off + n)), .agg ?_, fun w => ?_⟩
    · simp only [Array.toList_extract, List.extract_eq_take_drop, Nat.add_sub_cancel_left]
      exact (h.drop off).take n
    · simp [part, run_agg ha, run_size hs]
  | false =>
    simp only [cond_false] at hv
    obtain ⟨v', hv', hr⟩ := h.get off hv
    exact ⟨v', hr, fun w => by simp [part, run_agg ha, show cs'[off]? = some v' by simpa using hv']⟩

theorem keyEq_inv {kn : Option Nat} {x y x' y' : Value} {r : Bool} (h : keyEq kn x y = some r) (hx : VR μ x x') (hy : VR μ y y') :
    (∃ k a b, kn = none ∧ x' = .int k a ∧ y' = .int k b ∧ r = (a == b)) ∨
    (∃ n xs ys, kn = some n ∧ x' = .agg xs ∧ y' = .agg ys ∧ xs.toList.length = n ∧ cellsEq xs.toList ys.toList = some r) := by
  unfold keyEq at h
  split at h
  · split at h
    · rename_i k a k' b hk; subst hk; cases h
      exact .inl ⟨k, a, b, rfl, hx.int_inv, hy.int_inv, rfl⟩
    · cases h
  · rename_i n a b
    cases hb : (Nat.beq a.toList.length n && Nat.beq b.toList.length n) with
    | false => rw [hb] at h; cases h
    | true =>
      rw [hb] at h
      simp only [Bool.and_eq_true] at hb
      obtain ⟨xs, rfl, hxs⟩ := hx.agg_inv
      obtain ⟨ys, rfl, hys⟩ := hy.agg_inv
      -- cells that are integers are what they are
      have same : ∀ {p q p' : List Value} {r : Bool}, cellsEq p q = some r → VRs μ p p' → p' = p := by
        intro p
        induction p with
        | nil => intro q p' r _ hp; cases hp; rfl
        | cons x p ih =>
          intro q p' r hc hp
          cases q with
          | nil => simp [cellsEq] at hc
          | cons y q =>
            obtain ⟨_, _, h1, h2, _⟩ := cellsEq_cons hc
            obtain ⟨_, _, _, rfl, _, _⟩ := cellEq_inv h1
            cases hp with
            | cons h t => rw [h.int_inv, ih h2 t]
      have sameR : ∀ {p q q' : List Value} {r : Bool}, cellsEq p q = some r → VRs μ q q' → q' = q := by
        intro p
        induction p with
        | nil => intro q q' r hc hp; cases q with | nil => cases hp; rfl | cons _ _ => simp [cellsEq] at hc
        | cons x p ih =>
          intro q q' r hc hp
          cases q with
          | nil => simp [cellsEq] at hc
          | cons y q =>
            obtain ⟨_, _, h1, h2, _⟩ := cellsEq_cons hc
            obtain ⟨_, _, _, _, rfl, _⟩ := cellEq_inv h1
            cases hp with
            | cons h t => rw [h.int_inv, ih h2 t]
      refine .inr ⟨n, xs, ys, rfl, rfl, rfl, ?_, ?_⟩
      · rw [same h hxs]; exact Nat.eq_of_beq_eq_true hb.1
      · rw [same h hxs, sameR h hys]; exact h
  · cases h

/-- Two structs, or two arrays, held against each other. -/
theorem run_equal_agg {t : TypeId} {n : Nat} {xs ys : Array Value} {r : Bool} (hf : flats P 50 t = true) (ha : aggOf P t = some true) (hs : szOf P t = some n) (hl : xs.toList.length = n)
    (h : cellsEq xs.toList ys.toList = some r) (w : World) (d : Nat) (hd : 50 ≤ d) : (Op.equalIn d t (.agg xs) (.agg ys)).run P w = .ok r w := by
  have := flat_eq 50 t n d xs.toList ys.toList r w hf hd hs hl h
  simpa [ofC, ha] using this

end Go.Eng

/- Part EngH. -/
namespace Go.Eng
open Go

variable {P : Program} {μ : Mu}

theorem AddrR.ite {a a' : Addr} (h : AddrR μ a a') (n : Nat) (c : Prop) [Decidable c] : AddrR μ (if c then a else a.add n) (if c then a' else a'.add n) := by
  split
  · exact h
  · exact h.add n

theorem sls_sim {t e : TypeId} {n : Nat} {x : Operand} {lo hi mx : Option Operand} {rx : Rv} {rl rh rm : Option Rv} {σ : List Value} {a : Act} {v : Value} (ht : P.underlying t = some (.slice e))
    (hn : szOf P e = some n) (hx : cRv x = some rx) (hl : cOpt lo = some rl) (hh : cOpt hi = some rh) (hm : cOpt mx = some rm) (hmh : mx.isSome = true → hi.isSome = true)
    (hσ : VRs μ σ a.tmps.toList) {H : AHeap} {w : World} (hH : HR P μ H w) (hv : readI σ H (.sls n rx rl rh rm) = some v) :
    ∃ v', VR μ v v' ∧ ∀ w, (Instr.sliceAt t (a.eval x) (lo.map a.eval) (hi.map a.eval) (mx.map a.eval)).run P w = .ok v' w := by
  have hX := rv_sim hx hσ
  have hz : μ 0 = some .dead := (hH.dead_iff 0).2 hH.zero
  simp only [readI] at hv
  split at hv
  · rename_i ad len cap he
    rw [he] at hX
    split at hv
    · -- the capacity is known
      rename_i hcap
      simp only [Option.bind_eq_some_iff, Option.some.injEq] at hv
      obtain ⟨m, h1, h, h2, l, h3, rfl⟩ := hv
      cases ad with
      | none =>
        obtain ⟨rfl, rfl, hx'⟩ := hX.nils_inv
        have b1 := aBoundO_le h1 (Nat.le_refl _)
        have b2 := aBoundO_le h2 (by omega)
        have b3 := aBoundO_le h3 (by omega)
        have m0 : m = 0 := by omega
        have l0 : l = 0 := by omega
        have h0 : h = 0 := by omega
        subst m0; subst l0; subst h0
        refine ⟨.slice none 0 0, .atom _ rfl, fun w => ?_⟩
        rw [hx']
        simp [Instr.sliceAt, Instr.slice, run_underlying ht, bounds_sim hσ hl hh hm h1 h2 h3 w hmh, run_size hn]
      | some ad =>
        obtain ⟨a', c', hx', har, hc, _⟩ := hX.slice_inv
        have := hc hcap; subst this
        have hml := aBoundO_le h1 (Nat.le_refl _)
        refine ⟨.slice (some (if m = l then a' else a'.add (l * n))) (h - l) (m - l), ?_, fun w => ?_⟩
        · have : (if m = l then some ad else (some ad).map (·.add (l * n))) = some (if m = l then ad else ad.add (l * n)) := by split <;> rfl
          rw [this]
          exact .slice (har.ite _ _) (fun _ => rfl) (fun hb => by omega)
        · rw [hx']
          simp only [Instr.sliceAt, Instr.slice, Sem.run_bind, run_underlying ht, Result.andThen_ok, bounds_sim hσ hl hh hm h1 h2 h3 w hmh, run_size hn]
          split <;> simp
    · -- the capacity is not known
      rename_i hcap
      have hcap' : BIG ≤ cap := by omega
      cases ad with
      | none => obtain ⟨rfl, rfl, _⟩ := hX.nils_inv; exact absurd hcap' (by decide)
      | some ad =>
      obtain ⟨a', c', hx', har, _, hc⟩ := hX.slice_inv
      obtain ⟨hc1, hc2⟩ := hc hcap'
      split at hv
      · rename_i qm
        simp only [Option.bind_eq_some_iff] at hv
        obtain ⟨m, h1, hv⟩ := hv
        split at hv
        · cases hv
        rename_i hmB
        simp only [Option.bind_eq_some_iff, Option.some.injEq] at hv
        obtain ⟨h, h2, l, h3, rfl⟩ := hv
        rcases opt_sim hm hσ with ⟨_, e⟩ | ⟨om, q, rfl, e, hq⟩
        · cases e
        · cases e
          have h1' : aBoundO σ (some qm) c' c' = some m := by
            simp only [aBoundO]
            unfold aBound at h1 ⊢
            split at h1
            · rename_i k i
              split at h1
              · rename_i hb; cases h1
                rw [if_pos ⟨hb.1, by have := hb.2; omega⟩]
              · cases h1
            · cases h1
          have hmc : m ≤ cap - BIG := by
            unfold aBound at h1
            split at h1
            · split at h1
              · rename_i hb; cases h1; have := hb.2; omega
              · cases h1
            · cases h1
          refine ⟨.slice (some (if m = l then a' else a'.add (l * n))) (h - l) (m - l), ?_, fun w => ?_⟩
          · have : (if m = l then some ad else (some ad).map (·.add (l * n))) = some (if m = l then ad else ad.add (l * n)) := by split <;> rfl
            rw [this]
            exact .slice (har.ite _ _) (fun _ => rfl) (fun hb' => by omega)
          · rw [hx']
            simp only [Instr.sliceAt, Instr.slice, Sem.run_bind, run_underlying ht, Result.andThen_ok, bounds_sim hσ hl hh hm h1' h2 h3 w hmh, run_size hn]
            split <;> simp
      · cases hes : eszOf H (some ad) n with
        | false => rw [hes] at hv; cases hv
        | true =>
        rw [hes] at hv
        simp only [Bool.not_true, cond_false, Option.bind_eq_some_iff] at hv
        obtain ⟨h, h2, l, h3, hv⟩ := hv
        rcases opt_sim hm hσ with ⟨rfl, _⟩ | ⟨om, q, rfl, e, hq⟩
        · split at hv
          · cases hv
          · rename_i hch
            have h2' : aBoundO σ rh c' len = some h := by
              unfold aBoundO at h2 ⊢
              split at h2
              · unfold aBound at h2 ⊢
                split at h2
                · split at h2
                  · rename_i hb; cases h2; rw [if_pos ⟨hb.1, by have := hb.2; omega⟩]
                  · cases h2
                · cases h2
              · exact h2
            have h1' : aBoundO σ none c' c' = some c' := rfl
            have run : ∀ w, (Instr.sliceAt t (a.eval x) (lo.map a.eval) (hi.map a.eval) (Option.map a.eval none)).run P w = .ok (.slice (some (if c' = l then a' else a'.add (l * n))) (h - l) (c' - l)) w := by
              intro w
              rw [hx']
              simp only [Instr.sliceAt, Instr.slice, Sem.run_bind, run_underlying ht, Result.andThen_ok, bounds_sim hσ hl hh hm h1' h2' h3 w hmh, run_size hn]
              split <;> simp
            have hlh := aBoundO_le h3 (Nat.zero_le _)
            split at hv
            · rename_i l0; subst l0; cases hv
              refine ⟨_, ?_, run⟩
              have : (if c' = 0 then a' else a'.add (0 * n)) = a' := by split <;> simp [Addr.add]
              rw [this]
              exact .slice har (fun hb => by omega) (fun _ => ⟨by omega, hc2⟩)
            · split at hv
              · rename_i hlc
                cases hv
                refine ⟨_, ?_, run⟩
                rw [if_neg (by omega)]
                refine .slice (har.add _) (fun hb => by omega) (fun _ => ⟨by omega, fun b off esz csz hlv => ?_⟩)
                have := hc2 b off esz csz (by simpa using hlv)
                have he : esz = n := by
                  obtain ⟨o, ho, hor⟩ := hH.live _ _ _ _ _ (by simpa using hlv)
                  simp only [eszOf, ho] at hes
                  cases o with
                  | cells c e ro => simp only at hes; have := Nat.eq_of_beq_eq_true hes; rw [← hor.1]; exact this
                  | dead => exact hor.elim
                  | _ => cases hes
                subst he
                simp only [add_off]
                have e1 : l * esz + (c' - l) * esz = c' * esz := by rw [← Nat.add_mul]; congr 1; omega
                omega
              · cases hv
                refine ⟨_, ?_, run⟩
                have hlc : h = l := by omega
                rw [hlc, Nat.sub_self]
                refine .slice ⟨rfl, ?_, .dead, hz, fun _ _ _ _ e => by cases e⟩ (fun hb => by exact absurd hb (by decide)) (fun _ => ⟨by omega, fun b off esz csz hlv => ?_⟩)
                · have := har.2.1
                  split
                  · exact this
                  · unfold Addr.add; split <;> simp [this]
                · simp only [hz] at hlv; cases hlv
        · cases e
  · cases hv

end Go.Eng

/- Part EngI. -/
namespace Go.Eng
open Go

variable {P : Program} {μ : Mu}

theorem val_run {s : Sem Value} {v : Value} {w w' : World} (h : s.run P w = .ok v w') : ((do pure (.value (← s)) : Sem Next)).run P w = .ok (.value v) w' := by
  simp [h]

theorem run_equal_nil {t : TypeId} {kd : Nat} {x y x' y' : Value} {r : Bool} (hx : VR μ x x') (hy : VR μ y y') (h : nilEq kd x y = some r)
    (ht : (kd = 0 ∧ ∃ e, P.underlying t = some (.slice e)) ∨ (kd = 1 ∧ ∃ k e, P.underlying t = some (.map k e)) ∨ (kd = 2 ∧ ∃ p r b, P.underlying t = some (.func p r b))) (w : World) :
    (Op.equal t x' y').run P w = .ok r w := by
  unfold Op.equal Op.maxDepth
  rw [Op.equalIn.eq_def]
  unfold nilEq at h
  split at h
  · rename_i l c b l' c'
    obtain ⟨rfl, rfl, rfl⟩ := hx.nils_inv
    rcases ht with ⟨_, e, ht⟩ | ⟨h', _⟩ | ⟨h', _⟩
    · cases b with
      | none => obtain ⟨rfl, rfl, rfl⟩ := hy.nils_inv; cases h; simp [run_underlying ht]
      | some b => obtain ⟨a', c', rfl, _⟩ := hy.slice_inv; cases h; simp [run_underlying ht]
    · cases h'
    · cases h'
  · obtain ⟨rfl, rfl, rfl⟩ := hy.nils_inv
    obtain ⟨a', c', rfl, _⟩ := hx.slice_inv
    rcases ht with ⟨_, e, ht⟩ | ⟨h', _⟩ | ⟨h', _⟩
    · cases h; simp [run_underlying ht]
    · cases h'
    · cases h'
  · rename_i b
    have := hx.nilm_inv; subst this
    rcases ht with ⟨h', _⟩ | ⟨_, k, e, ht⟩ | ⟨h', _⟩
    · cases h'
    · cases b with
      | none => have := hy.nilm_inv; subst this; cases h; simp [run_underlying ht]
      | some b => obtain ⟨r', rfl, _⟩ := hy.map_inv; cases h; simp [run_underlying ht]
    · cases h'
  · have := hy.nilm_inv; subst this
    obtain ⟨r', rfl, _⟩ := hx.map_inv
    rcases ht with ⟨h', _⟩ | ⟨_, k, e, ht⟩ | ⟨h', _⟩
    · cases h'
    · cases h; simp [run_underlying ht]
    · cases h'
  · have := hx.nilf_inv; subst this
    have := hy.nilf_inv; subst this
    rcases ht with ⟨h', _⟩ | ⟨h', _⟩ | ⟨_, p, q, b, ht⟩
    · cases h'
    · cases h'
    · cases h; simp [run_underlying ht]
  · have := hx.nilf_inv; subst this
    obtain ⟨ys, ds, rfl, _⟩ := hy.func_inv
    rcases ht with ⟨h', _⟩ | ⟨h', _⟩ | ⟨_, p, q, b, ht⟩
    · cases h'
    · cases h'
    · cases h; simp [run_underlying ht]
  · have := hy.nilf_inv; subst this
    obtain ⟨ys, ds, rfl, _⟩ := hx.func_inv
    rcases ht with ⟨h', _⟩ | ⟨h', _⟩ | ⟨_, p, q, b, ht⟩
    · cases h'
    · cases h'
    · cases h; simp [run_underlying ht]
  · cases h

def nilK : Value → Bool
  | .slice .. | .map _ | .nilFunc | .func .. => true
  | _ => false
def eqK : Value → Bool
  | .slice .. | .map _ | .nilFunc | .func .. | .bool _ | .agg _ | .pointer _ => true
  | _ => false
def notInt : Value → Bool
  | .int .. => false
  | _ => true
def plK : Value → Bool
  | .slice .. | .map _ | .nilFunc | .func .. | .bool _ | .pointer _ | .int .. => true
  | _ => false
theorem nilK_eqK {v : Value} (h : nilK v = true) : eqK v = true ∧ notInt v = true ∧ plK v = true := by
  cases v <;> simp [nilK] at h <;> exact ⟨rfl, rfl, rfl⟩

/-- '==' and '!=' where they come to Op.equal. -/
theorem run_eq {neg : Bool} {t : TypeId} {x y : Operand} {p q : Value} {r : Bool} {w : World} (hp : eqK p = true) (hq : notInt q = true)
    (hg : (eqGuard (bif neg then .neq else .eql) t x y p q).run P w = .ok () w) (he : (Op.equal t p q).run P w = .ok r w) :
    (do eqGuard (bif neg then .neq else .eql) t x y p q; binOp (bif neg then .neq else .eql) t p q : Sem Value).run P w = .ok (.bool (bif neg then !r else r)) w := by
  cases neg <;> simp only [cond_true, cond_false] at hg ⊢ <;> simp only [Sem.run_bind, hg, Result.andThen_ok] <;> cases p <;> simp only [eqK, Bool.false_eq_true] at hp <;> cases q <;> simp only [notInt, Bool.false_eq_true] at hq <;>
    simp [binOp, he]

theorem guard_plain {op : BinOp} {t : TypeId} {x y : Operand} {p q : Value} {w : World} (hp : plK p = true) :
    (eqGuard op t x y p q).run P w = .ok () w := by
  cases p <;> simp only [plK, Bool.false_eq_true] at hp <;> cases op <;> simp [eqGuard]

theorem nilEq_kind {kd : Nat} {x y x' y' : Value} {r : Bool} (hx : VR μ x x') (hy : VR μ y y') (h : nilEq kd x y = some r) :
    nilK x' = true ∧ nilK y' = true := by
  unfold nilEq at h
  split at h
  · rename_i l c b l' c'
    obtain ⟨rfl, rfl, rfl⟩ := hx.nils_inv
    cases b with
    | none => obtain ⟨rfl, rfl, rfl⟩ := hy.nils_inv; exact ⟨rfl, rfl⟩
    | some b => obtain ⟨a', c', rfl, _⟩ := hy.slice_inv; exact ⟨rfl, rfl⟩
  · obtain ⟨rfl, rfl, rfl⟩ := hy.nils_inv
    obtain ⟨a', c', rfl, _⟩ := hx.slice_inv
    exact ⟨rfl, rfl⟩
  · rename_i b
    have := hx.nilm_inv; subst this
    cases b with
    | none => have := hy.nilm_inv; subst this; exact ⟨rfl, rfl⟩
    | some b => obtain ⟨r', rfl, _⟩ := hy.map_inv; exact ⟨rfl, rfl⟩
  · have := hy.nilm_inv; subst this
    obtain ⟨r', rfl, _⟩ := hx.map_inv
    exact ⟨rfl, rfl⟩
  · have := hx.nilf_inv; subst this
    have := hy.nilf_inv; subst this
    exact ⟨rfl, rfl⟩
  · have := hx.nilf_inv; subst this
    obtain ⟨ys, ds, rfl, _⟩ := hy.func_inv
    exact ⟨rfl, rfl⟩
  · have := hy.nilf_inv; subst this
    obtain ⟨ys, ds, rfl, _⟩ := hx.func_inv
    exact ⟨rfl, rfl⟩
  · cases h

end Go.Eng

/- Part EngJ. -/
namespace Go.Eng
open Go

variable {P : Program} {μ : Mu}

/-- What a pure operation gives in the model. -/
def PureR (P : Program) (μ : Mu) (a : Act) (o : Oper) (v : Value) : Prop := ∃ v', VR μ v v' ∧ ∀ w, (execOp a.eval o).run P w = .ok (.value v') w

theorem PureR.atom {a : Act} {o : Oper} {v : Value} (ha : isAtom v = true) (h : ∀ w, (execOp a.eval o).run P w = .ok (.value v) w) : PureR P μ a o v := ⟨v, .atom _ ha, h⟩

theorem bin_pure {a : Act} {σ : List Value} {o : Oper} {i : Ins} {v : Value} {op : BinOp} {t : TypeId} {x y : Operand} {yt : TypeId} (ho : o.op = .binOp op t x y yt)
    (hc : cBin P op t x y = some i) (hk : i.kd = .pure) (hv : pureI σ i = some v) (hσ : VRs μ σ a.tmps.toList) : PureR P μ a o v := by
  simp only [cBin, bind, Option.bind_eq_some_iff] at hc
  obtain ⟨rx, hx, ry, hy, hc⟩ := hc
  have hX := rv_sim hx hσ
  have hY := rv_sim hy hσ
  have isbin : i = .bin op rx ry → PureR P μ a o v := by
    intro e
    subst e
    simp only [pureI] at hv
    have ints : ∃ k m k' m', rx.ev σ = .int k m ∧ ry.ev σ = .int k' m' := by
      unfold aBin at hv; split at hv
      · rename_i k m k' m' e1 e2; exact ⟨_, _, _, _, e1, e2⟩
      · cases hv
    obtain ⟨k, m, k', m', e1, e2⟩ := ints
    rw [e1] at hX hv; rw [e2] at hY hv
    have h1 := hX.int_inv
    have h2 := hY.int_inv
    have hb := fun w => aBin_sim (P := P) (t := t) hv w
    refine .atom (hb default).2 fun w => ?_
    simp only [execOp, ho, h1, h2]
    refine val_run ?_
    simp only [Sem.run_bind, guard_plain (p := .int k m) (q := .int k' m') rfl, Result.andThen_ok, (hb w).1]
  -- what '==' and '!=' compile to
  have iseq : ∀ neg : Bool, op = (bif neg then .neq else .eql) →
      (match P.underlying t with
      | some (.int _) => some (Ins.bin op rx ry)
      | some .bool => some (.eqb neg rx ry)
      | some (.pointer e) => match szOf P e with | some (_ + 1) => some (.eqp neg rx ry) | _ => none
      | some (.slice _) => some (.eqn neg 0 rx ry)
      | some (.map ..) => some (.eqn neg 1 rx ry)
      | some (.func ..) => some (.eqn neg 2 rx ry)
      | some (.struct _) | some (.array ..) => bif flats P 50 t && !(P.eqGuardType P.depth t) then do pure (.eqa neg (← szOf P t) rx ry) else none
      | _ => none) = some i → PureR P μ a o v := by
    intro neg hop he
    have nils : ∀ kd, i = .eqn neg kd rx ry → ((kd = 0 ∧ ∃ e, P.underlying t = some (.slice e)) ∨ (kd = 1 ∧ ∃ k e, P.underlying t = some (.map k e)) ∨ (kd = 2 ∧ ∃ p r b, P.underlying t = some (.func p r b))) → PureR P μ a o v := by
      intro kd e ht
      subst e
      simp only [pureI, Option.map_eq_some_iff] at hv
      obtain ⟨r, hr, rfl⟩ := hv
      have hkk := nilEq_kind hX hY hr
      refine .atom rfl fun w => ?_
      simp only [execOp, ho, hop]
      exact val_run (run_eq (nilK_eqK hkk.1).1 (nilK_eqK hkk.2).2.1 (guard_plain (nilK_eqK hkk.1).2.2) (run_equal_nil hX hY hr ht w))
    have aggs : (aggOf P t = some true) → (bif flats P 50 t && !(P.eqGuardType P.depth t) then (do pure (.eqa neg (← szOf P t) rx ry) : Option Ins) else none) = some i → PureR P μ a o v := by
      intro hagg he
      cases hb : (flats P 50 t && !(P.eqGuardType P.depth t)) with
      | false => rw [hb] at he; cases he
      | true =>
        rw [hb] at he
        simp only [cond_true, bind, Option.bind_eq_some_iff, pure, Option.some.injEq] at he
        obtain ⟨n, hn, rfl⟩ := he
        simp only [Bool.and_eq_true, Bool.not_eq_true'] at hb
        simp only [pureI, Option.map_eq_some_iff] at hv
        obtain ⟨r, hr, rfl⟩ := hv
        rcases keyEq_inv hr hX hY with ⟨_, _, _, e, _⟩ | ⟨n', xs, ys, e, hx', hy', hl, hce⟩
        · cases e
        · cases e
          refine .atom rfl fun w => ?_
          simp only [execOp, ho, hop, hx', hy']
          refine val_run (run_eq rfl rfl (run_eqGuard_agg w _ t x y xs ys hb.2) ?_)
          exact run_equal_agg hb.1 hagg hn hl hce w _ (by decide)
    split at he
    · exact isbin (by cases he; rfl)
    · rename_i hu
      cases he
      simp only [pureI] at hv
      split at hv
      · rename_i p q e1 e2
        cases hv
        rw [e1] at hX; rw [e2] at hY
        have h1 := hX.bool_inv
        have h2 := hY.bool_inv
        refine .atom rfl fun w => ?_
        simp only [execOp, ho, hop, h1, h2]
        refine val_run (run_eq rfl rfl (guard_plain rfl) ?_)
        unfold Op.equal Op.maxDepth
        rw [Op.equalIn.eq_def]
        simp [run_underlying hu]
      · cases hv
    · split at he
      · cases he; cases hk
      · cases he
    · rename_i e hu; exact nils 0 (by cases he; rfl) (.inl ⟨rfl, e, hu⟩)
    · rename_i k e hu; exact nils 1 (by cases he; rfl) (.inr (.inl ⟨rfl, k, e, hu⟩))
    · rename_i p q b hu; exact nils 2 (by cases he; rfl) (.inr (.inr ⟨rfl, p, q, b, hu⟩))
    · rename_i fs hu; exact aggs (by simp [aggOf, hu]) he
    · rename_i k e hu; exact aggs (by simp [aggOf, hu]) he
    · cases he
  cases op
  case eql => exact iseq false rfl hc
  case neq => exact iseq true rfl hc
  all_goals exact isbin (by simpa using hc.symm)

theorem build_pure {a : Act} {σ : List Value} {o : Oper} {v : Value} {t : TypeId} {parts : Array (Nat × Operand)} {z : List Value} {ps : List (Nat × Nat × Rv)} (ho : o.op = .build t parts)
    (hz : zeroOf P t = some z) (hp : cParts P t parts = some ps) (hv : pureI σ (.build z ps) = some v) (hσ : VRs μ σ a.tmps.toList) : PureR P μ a o v := by
  simp only [pureI, Option.map_eq_some_iff] at hv
  obtain ⟨l, hl, rfl⟩ := hv
  obtain ⟨it, zv, hit, hzv, hcl, rfl, hlen⟩ := zero_inv hz
  have hzr : VRs μ zv.cells.toList zv.cells.toList := .closed hcl
  have fin : ∀ place, parts.toList.mapM (cPart place) = some ps → (∀ l', Instr.fill place zv.cells (parts.toList.map fun p => (p.1, a.eval p.2)) = some l' → P.built t (parts.map fun p => (p.1, a.eval p.2)).toList = some l') → PureR P μ a o (.agg l.toArray) := by
    intro place hpl hb
    obtain ⟨l', hl', hr⟩ := fill_sim hσ place parts.toList ps _ zv.cells l hpl hzr hl
    refine ⟨.agg l', .agg (by simpa using hr), fun w => ?_⟩
    simp only [execOp, ho]
    exact val_run (run_build w t _ l' (hb l' hl'))
  simp only [cParts] at hp
  split at hp
  · rename_i fs hu
    simp only [bind, Option.bind_eq_some_iff] at hp
    obtain ⟨places, hpl, hp⟩ := hp
    refine fin _ hp fun l' h => ?_
    simp only [Program.built, hit, hu, hzv, hpl, Array.toList_map]
    exact h
  · rename_i k e hu
    simp only [bind, Option.bind_eq_some_iff] at hp
    obtain ⟨ie, hie, hp⟩ := hp
    refine fin _ hp fun l' h => ?_
    simp only [Program.built, hit, hu, hzv, hie, Array.toList_map]
    exact h
  · cases hp

end Go.Eng

/- Part EngK. -/
namespace Go.Eng
open Go

variable {P : Program} {μ : Mu}

theorem PureR.mk {a : Act} {o : Oper} {v v' : Value} (hr : VR μ v v') (h : ∀ w, (execOp a.eval o).run P w = .ok (.value v') w) : PureR P μ a o v := ⟨v', hr, h⟩

theorem bif_some {α : Type} {c : Bool} {x i : α} (h : (bif c then some x else none) = some i) : c = true ∧ x = i := by
  cases c
  · cases h
  · cases h; exact ⟨rfl, rfl⟩

theorem toI64 (n : Nat) : Go.goInt n = .int .i64 n := rfl

theorem builtin_pure {a : Act} {σ : List Value} {o : Oper} {i : Ins} {v : Value} {c : Call} {b : Builtin} {args : List Rv} (ho : o.op = .call c) (hcal : c.callee = .builtin b)
    (hargs : c.args.toList.mapM cRv = some args) (hc : cBuiltin P b c.argTypes args = some i) (hk : i.kd = .pure) (hv : pureI σ i = some v) (hσ : VRs μ σ a.tmps.toList) : PureR P μ a o v := by
  have hA := rvs_sim hargs hσ
  have hmap : ∀ xs, (args.map (·.ev σ)) = xs → ∃ ys, c.args.map a.eval = ys.toArray ∧ VRs μ xs ys := by
    intro xs hx
    refine ⟨c.args.toList.map a.eval, ?_, hx ▸ hA⟩
    apply Array.ext'; simp
  have run : ∀ ys : List Value, c.args.map a.eval = ys.toArray → ∀ w, (execOp a.eval o).run P w = (builtin b c.argTypes o.type (c.args.map fun | .const _ => true | _ => false) ys.toArray).run P w := by
    intro ys hy w
    simp [execOp, ho, resolve, hcal, hy, invoke]
    rfl
  have ht : ∀ t, c.argTypes.toList = [t] → c.argTypes[0]? = some t := by
    intro t h
    have : c.argTypes = #[t] := by apply Array.ext'; simpa using h
    simp [this]
  unfold cBuiltin at hc
  split at hc
  · rename_i x t hts
    obtain ⟨ys, hy, hr⟩ := hmap [x.ev σ] rfl
    cases hr with
    | cons hx hn =>
      cases hn
      rename_i x'
      have hrun := run _ hy
      split at hc
      · rename_i e hu
        cases hc
        simp only [pureI] at hv
        split at hv
        · rename_i ad n cp e1
          cases hv
          rw [e1] at hx
          refine .atom rfl fun w => ?_
          cases ad with
          | none =>
            obtain ⟨rfl, rfl, rfl⟩ := hx.nils_inv
            rw [hrun]
            simp [builtin, Builtin.len_, ht t hts, run_underlying hu, goInt]
          | some ad =>
            obtain ⟨a', c', rfl, _⟩ := hx.slice_inv
            rw [hrun]
            simp [builtin, Builtin.len_, ht t hts, run_underlying hu, goInt]
        · cases hv
      · rename_i n e hu
        cases hc
        simp only [pureI, Option.some.injEq] at hv
        subst hv
        refine .atom rfl fun w => ?_
        rw [hrun]
        simp [builtin, Builtin.len_, ht t hts, run_underlying hu, goInt]
      · cases hc; cases hk
      · rename_i ar hu
        split at hc
        · rename_i n e hu2
          cases hc
          simp only [pureI, Option.some.injEq] at hv
          subst hv
          refine .atom rfl fun w => ?_
          rw [hrun]
          simp [builtin, Builtin.len_, ht t hts, run_underlying hu, run_underlying hu2, goInt]
        · cases hc
      · cases hc
  · rename_i x t hts
    obtain ⟨ys, hy, hr⟩ := hmap [x.ev σ] rfl
    cases hr with
    | cons hx hn =>
      cases hn
      have hrun := run _ hy
      split at hc
      · rename_i e hu
        cases hc
        simp only [pureI] at hv
        split at hv
        · rename_i ad n cp e1
          rw [e1] at hx
          split at hv
          · rename_i hcp
            cases hv
            refine .atom rfl fun w => ?_
            cases ad with
            | none =>
              obtain ⟨rfl, rfl, rfl⟩ := hx.nils_inv
              rw [hrun]
              simp [builtin, Builtin.cap_, ht t hts, run_underlying hu, goInt]
            | some ad =>
              obtain ⟨a', c', rfl, _, hcc, _⟩ := hx.slice_inv
              have := hcc hcp; subst this
              rw [hrun]
              simp [builtin, Builtin.cap_, ht t hts, run_underlying hu, goInt]
          · cases hv
        · cases hv
      · cases hc
  · split at hc
    · simp only [bind, Option.bind_eq_some_iff, pure, Option.some.injEq] at hc
      obtain ⟨_, _, _, _, rfl⟩ := hc
      cases hk
    · cases hc
  · split at hc
    · simp only [bind, Option.bind_eq_some_iff, pure, Option.some.injEq] at hc
      obtain ⟨_, _, rfl⟩ := hc
      cases hk
    · cases hc
  · split at hc
    · simp only [bind, Option.bind_eq_some_iff, pure, Option.some.injEq] at hc
      obtain ⟨_, _, rfl⟩ := hc
      cases hk
    · cases hc
  · rename_i x y
    cases hc
    obtain ⟨ys, hy, hr⟩ := hmap [x.ev σ, y.ev σ] rfl
    cases hr with
    | cons hx hn =>
      cases hn with
      | cons hy' hn =>
        cases hn
        have hrun := run _ hy
        simp only [pureI] at hv
        split at hv
        · rename_i k p k' q e1 e2
          cases hv
          rw [e1] at hx; rw [e2] at hy'
          have h1 := hx.int_inv; subst h1
          have h2 := hy'.int_inv; subst h2
          refine .atom rfl fun w => ?_
          rw [hrun]
          simp [builtin, Builtin.min_, Builtin.min2]
        · cases hv
  · rename_i x y
    cases hc
    obtain ⟨ys, hy, hr⟩ := hmap [x.ev σ, y.ev σ] rfl
    cases hr with
    | cons hx hn =>
      cases hn with
      | cons hy' hn =>
        cases hn
        have hrun := run _ hy
        simp only [pureI] at hv
        split at hv
        · rename_i k p k' q e1 e2
          cases hv
          rw [e1] at hx; rw [e2] at hy'
          have h1 := hx.int_inv; subst h1
          have h2 := hy'.int_inv; subst h2
          refine .atom rfl fun w => ?_
          rw [hrun]
          simp [builtin, Builtin.max_, Builtin.max2]
        · cases hv
  · cases hc

theorem pure_sim {a : Act} {σ : List Value} {o : Oper} {i : Ins} {v : Value} (hc : cOp P o = some i) (hk : i.kd = .pure) (hv : pureI σ i = some v) (hσ : VRs μ σ a.tmps.toList) : PureR P μ a o v := by
  cases hop : o.op <;> simp only [cOp, hop, bind, Option.bind_eq_some_iff, pure, Option.some.injEq] at hc
  case move x =>
    obtain ⟨r, hr, rfl⟩ := hc
    simp only [pureI, Option.some.injEq] at hv; subst hv
    exact .mk (rv_sim hr hσ) fun w => by simp [execOp, hop]
  case assign x =>
    obtain ⟨r, hr, rfl⟩ := hc
    simp only [pureI, Option.some.injEq] at hv; subst hv
    exact .mk (rv_sim hr hσ) fun w => by simp [execOp, hop]
  case pick c x y =>
    obtain ⟨rc, hrc, rx, hrx, ry, hry, rfl⟩ := hc
    simp only [pureI] at hv
    split at hv
    · rename_i t e
      cases hv
      have hC := rv_sim hrc hσ
      rw [e] at hC
      have := hC.bool_inv
      cases t
      · exact .mk (rv_sim hry hσ) fun w => by simp [execOp, hop, this, asBool]
      · exact .mk (rv_sim hrx hσ) fun w => by simp [execOp, hop, this, asBool]
    · cases hv
  case alloc t => obtain ⟨_, _, rfl⟩ := hc; cases hk
  case box t x => obtain ⟨_, _, rfl⟩ := hc; cases hk
  case build t parts =>
    obtain ⟨z, hz, ps, hp, rfl⟩ := hc
    exact build_pure hop hz hp hv hσ
  case buildSlice t n parts =>
    split at hc
    · simp only [Option.bind_eq_some_iff] at hc
      obtain ⟨z, _, ps, _, hc⟩ := hc
      obtain ⟨_, rfl⟩ := bif_some hc
      cases hk
    · cases hc
  case load t x =>
    obtain ⟨_, _, b, _, n, _, hc⟩ := hc
    cases b <;> simp only [cond_true, cond_false, Option.some.injEq] at hc <;> subst hc <;> cases hk
  case store t x y => obtain ⟨_, _, _, _, _, _, rfl⟩ := hc; cases hk
  case nilCheck x =>
    obtain ⟨r, hr, rfl⟩ := hc
    have hX := rv_sim hr hσ
    simp only [pureI] at hv
    split at hv
    · rename_i ad e
      cases hv
      rw [e] at hX
      obtain ⟨a', hx', har⟩ := hX.ptr_inv
      exact .mk (.ptr har) fun w => by simp [execOp, hop, hx']
    · rename_i f p q e
      cases hv
      rw [e] at hX
      obtain ⟨ys, ds, hx', h1, h2⟩ := hX.func_inv
      exact .mk (.func h1 h2) fun w => by simp [execOp, hop, hx']
    · cases hv
  case binOp op t x y yt => exact bin_pure hop (by simpa [cOp, hop] using hc) hk hv hσ
  case unOp op t x =>
    obtain ⟨r, hr, rfl⟩ := hc
    have hX := rv_sim hr hσ
    simp only [pureI] at hv
    have hx : a.eval x = r.ev σ := by
      unfold aUn at hv
      split at hv
      · rename_i e; rw [e] at hX ⊢; exact hX.bool_inv
      · rename_i e; rw [e] at hX ⊢; exact hX.int_inv
      · rename_i e; rw [e] at hX ⊢; exact hX.int_inv
      · cases hv
    refine .atom (aUn_sim (P := P) hv default).2 fun w => ?_
    simp only [execOp, hop, hx]
    exact val_run (aUn_sim hv w).1
  case convert s d x =>
    split at hc
    · rename_i k k' h1 h2
      simp only [Option.bind_eq_some_iff, Option.some.injEq] at hc
      obtain ⟨r, hr, rfl⟩ := hc
      have hX := rv_sim hr hσ
      simp only [pureI] at hv
      split at hv
      · rename_i q n e
        cases hv
        rw [e] at hX
        have := hX.int_inv
        refine .atom rfl fun w => ?_
        simp only [execOp, hop, this]
        refine val_run ?_
        simp [convert, run_underlying h1, run_underlying h2, Conv.intToInt]
      · cases hv
    · cases hc
  case sliceToArrayPointer t x =>
    split at hc
    · rename_i n e hu
      simp only [Option.bind_eq_some_iff, Option.some.injEq] at hc
      obtain ⟨r, hr, rfl⟩ := hc
      have hX := rv_sim hr hσ
      simp only [pureI] at hv
      split at hv
      · rename_i ad len cp e1
        rw [e1] at hX
        split at hv
        · cases hv
        · rename_i hlt
          cases hv
          cases ad with
          | none =>
            obtain ⟨rfl, rfl, hx'⟩ := hX.nils_inv
            refine .atom rfl fun w => ?_
            simp only [execOp, hop, hx']
            refine val_run ?_
            simp [Instr.arrayAt, run_underlying hu, hlt]
          | some ad =>
            obtain ⟨a', c', hx', har, _⟩ := hX.slice_inv
            refine .mk (.ptr har) fun w => ?_
            simp only [execOp, hop, hx']
            refine val_run ?_
            simp [Instr.arrayAt, run_underlying hu, hlt]
      · cases hv
    · cases hc
  case makeFunc fn first cap =>
    split at hc
    · rename_i f
      simp only [Option.bind_eq_some_iff, Option.some.injEq] at hc
      obtain ⟨r1, h1, r2, h2, rfl⟩ := hc
      simp only [pureI, Option.some.injEq] at hv
      subst hv
      refine .mk (.func (xs := _) (cs := _) (ys := first.map a.eval) (ds := cap.map a.eval) ?_ ?_) fun w => ?_
      · simpa using rvs_sim h1 hσ
      · simpa using rvs_sim h2 hσ
      · simp [execOp, hop, Instr.makeFunc]
    · cases hc
  case makeMap t r =>
    split at hc
    · cases hc; cases hk
    · cases hc
  case makeSlice t l c =>
    split at hc
    · simp only [Option.bind_eq_some_iff] at hc
      obtain ⟨_, _, _, _, _, _, _, _, hc⟩ := hc
      obtain ⟨_, rfl⟩ := bif_some hc
      cases hk
    · cases hc
  case slice t x lo hi mx =>
    have arr : ∀ n e, (P.underlying t = some (.array n e) ∨ ∃ p, P.underlying t = some (.pointer p) ∧ P.underlying p = some (.array n e)) → (mx.isSome = true → hi.isSome = true) →
        (∃ s, szOf P e = some s ∧ ∃ rx, cRv x = some rx ∧ ∃ rl, cOpt lo = some rl ∧ ∃ rh, cOpt hi = some rh ∧ ∃ rm, cOpt mx = some rm ∧ Ins.sla n s rx rl rh rm = i) → PureR P μ a o v := by
      intro n e hu hmh hc
      obtain ⟨s, hs, rx, hx, rl, hl, rh, hh, rm, hm, rfl⟩ := hc
      have hX := rv_sim hx hσ
      simp only [pureI] at hv
      split at hv
      · rename_i ad e1
        rw [e1] at hX
        split at hv
        · cases hv
        rename_i hB
        simp only [Option.bind_eq_some_iff, Option.some.injEq] at hv
        obtain ⟨m, h1, h, h2, l, h3, rfl⟩ := hv
        obtain ⟨a', hx', har⟩ := hX.ptr_inv
        have hmn := aBoundO_le h1 (Nat.le_refl _)
        · refine .mk (.slice (har.ite (l * s) (m = l)) (fun _ => rfl) (fun hb' => by omega)) fun w => ?_
          simp only [execOp, hop, hx']
          refine val_run ?_
          rcases hu with hu | ⟨p, hu, hu2⟩
          · simp [Instr.sliceAt, run_underlying hu, Instr.sureAddr, bounds_sim hσ hl hh hm h1 h2 h3 w hmh, run_size hs]
          · simp [Instr.sliceAt, Instr.slice, run_underlying hu, run_underlying hu2, asAddr, bounds_sim hσ hl hh hm h1 h2 h3 w hmh, run_size hs]
      · cases hv
    cases hmx : (mx.isSome && hi.isNone) with
    | true => rw [hmx] at hc; cases hc
    | false =>
      rw [hmx] at hc
      have hmh : mx.isSome = true → hi.isSome = true := by
        intro h; rw [h] at hmx; cases hi <;> simp at hmx ⊢
      simp only [cond_false] at hc
      split at hc
      · simp only [Option.bind_eq_some_iff, Option.some.injEq] at hc
        obtain ⟨_, _, _, _, _, _, _, _, _, _, rfl⟩ := hc
        cases hk
      · rename_i n e hu
        exact arr n e (.inl hu) hmh (by simpa only [Option.bind_eq_some_iff, Option.some.injEq] using hc)
      · rename_i p hu
        split at hc
        · rename_i n e hu2
          exact arr n e (.inr ⟨p, hu, hu2⟩) hmh (by simpa only [Option.bind_eq_some_iff, Option.some.injEq] using hc)
        · cases hc
      · cases hc
  case fieldAddr t x k =>
    split at hc
    · rename_i fs hu
      simp only [Option.bind_eq_some_iff] at hc
      obtain ⟨f, hf, s, hs, hc⟩ := hc
      split at hc
      · cases hc
      · rename_i n hn
        simp only [Option.bind_eq_some_iff, Option.some.injEq] at hc
        obtain ⟨r, hr, rfl⟩ := hc
        have hX := rv_sim hr hσ
        simp only [pureI] at hv
        split at hv
        · rename_i ad e1
          rw [e1] at hX
          cases hv
          obtain ⟨a', hx', har⟩ := hX.ptr_inv
          refine .mk (.ptr (har.add _)) fun w => ?_
          simp only [execOp, hop, hx']
          refine val_run ?_
          simp [Instr.fieldAt, run_underlying hu, hf, Instr.sureAddr, fieldPlace, run_size hs]
          intro h0; exact absurd h0 hn
        · cases hv
    · cases hc
  case field t x k =>
    split at hc
    · rename_i fs hu
      simp only [Option.bind_eq_some_iff, Option.some.injEq] at hc
      obtain ⟨f, hf, s, hs, b, hb, r, hr, rfl⟩ := hc
      have hX := rv_sim hr hσ
      simp only [pureI] at hv
      split at hv
      · rename_i cs e1
        rw [e1] at hX
        obtain ⟨ys, hx', hys⟩ := hX.agg_inv
        obtain ⟨v', hr', hrun⟩ := plain_sim hb hs hys hv
        refine .mk hr' fun w => ?_
        simp only [execOp, hop, hx']
        refine val_run ?_
        simp [Instr.field, run_underlying hu, hf, asAgg, hrun]
      · cases hv
    · cases hc
  case indexAddr t x k =>
    split at hc
    · rename_i n e hu
      simp only [Option.bind_eq_some_iff, Option.some.injEq] at hc
      obtain ⟨s, hs, r, hr, q, hq, rfl⟩ := hc
      have hX := rv_sim hr hσ
      have hK := rv_sim hq hσ
      simp only [pureI] at hv
      split at hv
      · rename_i ad kk j e1 e2
        rw [e1] at hX; rw [e2] at hK
        split at hv
        · rename_i hlt
          cases hv
          obtain ⟨a', hx', har⟩ := hX.ptr_inv
          have hk' := hK.int_inv
          refine .mk (.ptr (har.add _)) fun w => ?_
          simp only [execOp, hop, hx', hk']
          refine val_run ?_
          simp [Instr.indexAt, asIntOf, run_underlying hu, Instr.sureAddr, hlt, run_size hs]
        · cases hv
      · cases hv
    · rename_i e hu
      simp only [Option.bind_eq_some_iff, Option.some.injEq] at hc
      obtain ⟨s, hs, r, hr, q, hq, rfl⟩ := hc
      have hX := rv_sim hr hσ
      have hK := rv_sim hq hσ
      simp only [pureI] at hv
      split at hv
      · rename_i ad len cp kk j e1 e2
        rw [e1] at hX; rw [e2] at hK
        split at hv
        · rename_i hlt
          cases hv
          obtain ⟨a', c', hx', har, _⟩ := hX.slice_inv
          have hk' := hK.int_inv
          refine .mk (.ptr (har.add _)) fun w => ?_
          simp only [execOp, hop, hx', hk']
          refine val_run ?_
          simp [Instr.indexAt, asIntOf, run_underlying hu, hlt, run_size hs]
        · cases hv
      · cases hv
    · cases hc
  case index t x k =>
    split at hc
    · rename_i n e hu
      simp only [Option.bind_eq_some_iff, Option.some.injEq] at hc
      obtain ⟨s, hs, b, hb, r, hr, q, hq, rfl⟩ := hc
      have hX := rv_sim hr hσ
      have hK := rv_sim hq hσ
      simp only [pureI] at hv
      split at hv
      · rename_i cs kk j e1 e2
        rw [e1] at hX; rw [e2] at hK
        split at hv
        · rename_i hlt
          obtain ⟨ys, hx', hys⟩ := hX.agg_inv
          have hk' := hK.int_inv
          obtain ⟨v', hr', hrun⟩ := plain_sim hb hs hys hv
          refine .mk hr' fun w => ?_
          simp only [execOp, hop, hx', hk']
          refine val_run ?_
          simp [Instr.index, asIntOf, run_underlying hu, hlt, run_size hs, hrun]
        · cases hv
      · cases hv
    · rename_i hu
      split at hc
      · rename_i s
        simp only [Option.bind_eq_some_iff, Option.some.injEq] at hc
        obtain ⟨q, hq, rfl⟩ := hc
        have hK := rv_sim hq hσ
        simp only [pureI] at hv
        split at hv
        · rename_i kk j e2
          rw [e2] at hK
          have hk' := hK.int_inv
          split at hv
          · rename_i hlt
            simp only [Option.map_eq_some_iff] at hv
            obtain ⟨b, hb, rfl⟩ := hv
            refine .atom rfl fun w => ?_
            simp only [execOp, hop, hk', show a.eval (.const (.string s)) = .string s from rfl]
            refine val_run ?_
            rw [List.getElem?_map, Option.map_eq_some_iff] at hb
            obtain ⟨c, hc, rfl⟩ := hb
            have : s[j.toNat]? = some c := by
              have h1 : j.toNat < s.data.size := by
                have := (List.getElem?_eq_some_iff.1 hc).1; simpa using this
              have h2 : s.data.toList[j.toNat]? = some c := hc
              rw [Array.getElem?_toList] at h2
              have h3 : j.toNat < s.size := h1
              simp only [getElem?_pos, h3]
              rw [getElem?_pos s.data j.toNat h1] at h2
              exact h2
            simp [Instr.index, asIntOf, run_underlying hu, hlt, this]
          · cases hv
        · cases hv
      · cases hc
    · cases hc
  case lookup t x k ok =>
    split at hc
    · simp only [Option.bind_eq_some_iff] at hc
      obtain ⟨_, _, _, _, _, _, _, _, _, _, hc⟩ := hc
      obtain ⟨_, rfl⟩ := bif_some hc
      cases hk
    · cases hc
  case mapUpdate t x k y =>
    split at hc
    · simp only [Option.bind_eq_some_iff] at hc
      obtain ⟨_, _, _, _, _, _, _, _, hc⟩ := hc
      obtain ⟨_, rfl⟩ := bif_some hc
      cases hk
    · cases hc
  case range t x =>
    split at hc
    · simp only [Option.bind_eq_some_iff, Option.some.injEq] at hc
      obtain ⟨_, _, rfl⟩ := hc
      cases hk
    · cases hc
  case next x s =>
    cases s <;> simp only [cond_true, cond_false, Option.bind_eq_some_iff, Option.some.injEq, reduceCtorEq] at hc
    obtain ⟨_, _, rfl⟩ := hc
    cases hk
  case entry x =>
    obtain ⟨_, _, rfl⟩ := hc
    cases hk
  case extract x k =>
    obtain ⟨r, hr, rfl⟩ := hc
    have hX := rv_sim hr hσ
    simp only [pureI] at hv
    split at hv
    · rename_i vs e1
      rw [e1] at hX
      obtain ⟨ys, hx', hys⟩ := hX.tuple_inv
      obtain ⟨v', hv', hr'⟩ := hys.get k hv
      refine .mk hr' fun w => ?_
      simp only [execOp, hop, hx']
      refine val_run ?_
      simp [Instr.extract, show ys[k]? = some v' by simpa using hv']
    · cases hv
  case call c =>
    split at hc
    · simp only [Option.bind_eq_some_iff, Option.some.injEq] at hc
      obtain ⟨_, _, _, _, rfl⟩ := hc
      cases hk
    · rename_i b hcal
      simp only [Option.bind_eq_some_iff] at hc
      obtain ⟨args, hargs, hc⟩ := hc
      exact builtin_pure hop hcal hargs hc hk hv hσ
    · cases hc
  all_goals cases hc

end Go.Eng

/- Part EngL. -/
namespace Go.Eng
open Go

variable {P : Program} {μ : Mu} {H : AHeap} {w : World}

theorem HR.find (h : HR P μ H w) {N : Nat} {o : AObj} (ho : H.get N = some o) (hd : o ≠ .dead) : ∃ b off esz csz, μ N = some (.live b off esz csz) ∧ OR P μ w b off esz csz o := by
  cases hm : μ N with
  | none => rw [(h.none_iff N).1 hm] at ho; cases ho
  | some s =>
    cases s with
    | dead => rw [(h.dead_iff N).1 hm] at ho; cases ho; exact absurd rfl hd
    | live b off esz csz =>
      obtain ⟨o', ho', hor⟩ := h.live N b off esz csz hm
      rw [ho] at ho'; cases ho'
      exact ⟨b, off, esz, csz, rfl, hor⟩

/-- A cell of the abstract memory is a cell of the model's. -/
theorem HR.cell (h : HR P μ H w) {a a' : Addr} {c : List Value} {esz : Nat} {ro : Bool} (ho : H.get a.block = some (.cells c esz ro)) (ha : AddrR μ a a') {v : Value} (hv : c[a.off]? = some v) :
    ∃ v', w.cell? a' = some v' ∧ VR μ v v' := by
  obtain ⟨b, off, esz', csz, hm, he, cs, ty, lo, hi, hw, hsz, hro, hle, hvs⟩ := h.find ho (by intro e; cases e)
  obtain ⟨_, hsp, s, hs, hl⟩ := ha
  rw [hm] at hs; cases hs
  obtain ⟨hb, hoff⟩ := hl _ _ _ _ rfl
  obtain ⟨v', hv', hr⟩ := hvs.get a.off hv
  have hlt : a.off < c.length := (List.getElem?_eq_some_iff.1 hv).1
  refine ⟨v', ?_, hr⟩
  rw [List.getElem?_take_of_lt hlt, List.getElem?_drop] at hv'
  simp only [World.cell?, hb, hw, hsp, hoff, Option.isSome_none, Bool.false_eq_true, if_false]
  simpa using hv'

theorem HR.cells (h : HR P μ H w) {a a' : Addr} {l : List Value} {n : Nat} (hl : getCells H a n = some l) (ha : AddrR μ a a') :
    ∃ l', VRs μ l l' ∧ l'.length = n ∧ ∀ j v, l'[j]? = some v → w.cell? (a'.add j) = some v := by
  unfold getCells at hl
  split at hl
  · rename_i c e ro ho
    cases hok : okAddr a with
    | false => rw [hok] at hl; cases hl
    | true =>
      rw [hok] at hl
      simp only [cond_true] at hl
      obtain ⟨rfl, hlen, hle⟩ := grab_eq hl
      have key : ∀ j, j < n → ∃ v', w.cell? (a'.add j) = some v' ∧ ∃ v, c[a.off + j]? = some v ∧ VR μ v v' := by
        intro j hj
        have hlt : a.off + j < c.length := by have := hle (by omega); omega
        obtain ⟨v', h1, h2⟩ := h.cell (a := a.add j) (a' := a'.add j) (by simpa using ho) (ha.add j) (v := c[a.off + j]) (by simp [List.getElem?_eq_getElem hlt])
        exact ⟨v', h1, _, List.getElem?_eq_getElem hlt, h2⟩
      refine ⟨(List.range n).map fun j => (w.cell? (a'.add j)).getD undef, ?_, by simp, ?_⟩
      · refine .of_get (by rw [hlen]; simp) fun i x y hx hy => ?_
        have hi : i < n := by rw [← hlen]; exact (List.getElem?_eq_some_iff.1 hx).1
        obtain ⟨v', h1, v, h2, h3⟩ := key i hi
        simp [hi, h1] at hy
        rw [List.getElem?_take_of_lt hi, List.getElem?_drop, h2] at hx
        cases hx; subst hy; exact h3
      · intro j v hj
        have hi : j < n := by have := (List.getElem?_eq_some_iff.1 hj).1; simpa using this
        obtain ⟨v', h1, _⟩ := key j hi
        simp [hi, h1] at hj
        rw [h1, hj]
  · cases hl

theorem HR.loadCells (h : HR P μ H w) {a a' : Addr} {l : List Value} {n : Nat} (hl : getCells H a n = some l) (ha : AddrR μ a a') :
    ∃ l', VRs μ l l' ∧ l'.length = n ∧ (loadCells a' n).run P w = .ok l'.toArray w := by
  obtain ⟨l', h1, h2, h3⟩ := h.cells hl ha
  exact ⟨l', h1, h2, by rw [← h2]; exact run_loadCells_list w a' l' h3⟩

/-- A block of cells that may be written: what '==' on addresses asks of it. -/
theorem HR.block (h : HR P μ H w) {a a' : Addr} {c : List Value} {esz : Nat} (ho : H.get a.block = some (.cells c esz false)) (ha : AddrR μ a a') :
    ∃ cs ty, w.heap[a'.block]? = some (.cells cs ty (0, 0)) := by
  obtain ⟨b, off, esz', csz, hm, he, cs, ty, lo, hi, hw, hsz, hro, hle, hvs⟩ := h.find ho (by intro e; cases e)
  obtain ⟨_, hsp, s, hs, hl⟩ := ha
  rw [hm] at hs; cases hs
  obtain ⟨hb, hoff⟩ := hl _ _ _ _ rfl
  obtain ⟨rfl, rfl⟩ := hro rfl
  exact ⟨cs, ty, by rw [hb]; exact hw⟩

theorem run_sameAddr {a b : Addr} {c d : Array Value} {t u : TypeId} (ha : w.heap[a.block]? = some (.cells c t (0, 0))) (hb : w.heap[b.block]? = some (.cells d u (0, 0))) :
    (sameAddr a b).run P w = .ok (if a.block == b.block then a == b else false) w := by
  unfold sameAddr
  by_cases h : a.block = b.block
  · simp [h]
  · have fa : ∀ off, w.frozen? ⟨a.block, off, none⟩ = false := fun off => by simp [World.frozen?, ha]
    have fb : ∀ off, w.frozen? ⟨b.block, off, none⟩ = false := fun off => by simp [World.frozen?, hb]
    have fa' : w.frozen? a = false := by simp [World.frozen?, ha]
    have fb' : w.frozen? b = false := by simp [World.frozen?, hb]
    have sa : w.shape? a.block = some (t, c.size) := by simp [World.shape?, ha]
    have sb : w.shape? b.block = some (u, d.size) := by simp [World.shape?, hb]
    simp [h, fa', fb', noView, viewAt, sa, sb, mayBeOne, stringish, fa, fb]

end Go.Eng

/- Part EngM. -/
namespace Go.Eng
open Go

variable {P : Program} {μ : Mu} {H : AHeap} {w : World}

def ReadR (P : Program) (μ : Mu) (a : Act) (o : Oper) (v : Value) (w : World) : Prop := ∃ v', VR μ v v' ∧ (execOp a.eval o).run P w = .ok (.value v') w

/-! ### Keys of maps -/
theorem run_checkKey (em : Bool) : ∀ (n : Nat) (t : TypeId) (sz d : Nat) (xs : List Value) (w : World), flats P n t = true → n ≤ d → szOf P t = some sz → xs.length = sz →
    (Instr.checkKey em d t (ofC P t xs)).run P w = .ok () w := by
  intro n
  induction n with
  | zero => intro t sz d xs w h; simp [flats] at h
  | succ n ih =>
    intro t sz d xs w h hd hsz hx
    obtain ⟨d, rfl⟩ : ∃ d', d = d' + 1 := ⟨d - 1, by omega⟩
    have hd' : n ≤ d := by omega
    unfold flats at h
    split at h
    · rename_i k hu
      simp [Instr.checkKey, run_underlying hu]
    · rename_i fs hu
      rw [hsz] at h
      simp only [Bool.and_eq_true, Bool.not_eq_true', List.all_eq_true] at h
      obtain ⟨⟨hst, hall⟩, hoff⟩ := h
      have hagg : aggOf P t = some true := by simp [aggOf, hu]
      simp only [ofC, hagg, Instr.checkKey, Sem.run_bind, run_underlying hu, Result.andThen_ok]
      rw [← Array.forIn_toList]
      have key : ∀ (l : List Field) (off : Nat), (∀ f ∈ l, flats P n f.type = true) → offsOK P l off sz = true →
          (forIn (m := Sem) l PUnit.unit (fun f _ => do
            if f.name ≠ "_" then Instr.checkKey em d f.type (← part f.type xs.toArray f.offset)
            pure (.yield PUnit.unit))).run P w = .ok PUnit.unit w := by
        intro l
        induction l with
        | nil => intro off _ _; simp
        | cons f l ihl =>
          intro off hf ho
          simp only [offsOK, Bool.and_eq_true] at ho
          obtain ⟨⟨ho1, ho2⟩, ho3⟩ := ho
          have ho1 := Nat.eq_of_beq_eq_true ho1
          cases hs : szOf P f.type with
          | none => rw [hs] at ho3; simp at ho3
          | some s =>
            rw [hs] at ho3; simp only at ho3
            have hff := hf f (by simp)
            obtain ⟨b, hb, hb1, _⟩ := flats_agg hff
            have hend : ∀ (l : List Field) (o : Nat), offsOK P l o sz = true → o ≤ sz := by
              intro l
              induction l with
              | nil => intro o h; simp only [offsOK] at h; have := Nat.eq_of_beq_eq_true h; omega
              | cons g l ih2 =>
                intro o h
                simp only [offsOK, Bool.and_eq_true] at h
                cases hg : szOf P g.type with
                | none => rw [hg] at h; simp at h
                | some s' => rw [hg] at h; simp only at h; have := ih2 _ h.2; omega
            have hle2 := hend _ _ ho3
            have px := run_part (cs := xs.toArray) (off := off) w hb hs (fun e => by have := hb1 e; rw [hs] at this; cases this; rfl) (by simp; omega)
            have pe := ih f.type s d ((xs.drop off).take s) w hff hd' hs (by simp; omega)
            have hname : f.name ≠ "_" := by simpa using ho2
            have hrest := ihl (off + s) (fun g hg => hf g (by simp [hg])) ho3
            simp only [List.forIn_cons, Sem.run_bind, hname, ne_eq, not_false_eq_true, if_true, ho1, px, Result.andThen_ok, pe, Sem.run_pure]
            exact hrest
      have := key fs.toList 0 hall hoff
      simp only [ne_eq] at this
      rw [this]; rfl
    · rename_i k e hu
      simp only [Bool.and_eq_true] at h
      obtain ⟨hfe, h2⟩ := h
      cases hse : szOf P e with
      | none => rw [hsz, hse] at h2; simp at h2
      | some se =>
        rw [hsz, hse] at h2; simp only [Bool.and_eq_true] at h2
        have h3 := Nat.eq_of_beq_eq_true h2.1
        have hagg : aggOf P t = some true := by simp [aggOf, hu]
        obtain ⟨b, hb, hb1, _⟩ := flats_agg hfe
        simp only [ofC, hagg, Instr.checkKey, Sem.run_bind, run_underlying hu, Result.andThen_ok]
        have key : ∀ (m i : Nat), i + m = k →
            (forIn (m := Sem) (List.range' i m) PUnit.unit (fun i _ => do
                Instr.checkKey em d e (← part e xs.toArray (i * (← sizeOf e)))
                pure (.yield PUnit.unit))).run P w = .ok PUnit.unit w := by
          intro m
          induction m with
          | zero => intro i hi; simp
          | succ m ihm =>
            intro i hi
            have hik : i * se + se ≤ sz := by
              rw [h3]; have : (i + 1) * se ≤ k * se := Nat.mul_le_mul_right _ (by omega)
              rw [Nat.add_mul] at this; omega
            have px := run_part (cs := xs.toArray) (off := i * se) w hb hse (fun e' => by have := hb1 e'; rw [hse] at this; cases this; rfl) (by simp; omega)
            have pe := ih e se d ((xs.drop (i * se)).take se) w hfe hd' hse (by simp; omega)
            have hrest := ihm (i + 1) (by omega)
            simp only [List.range'_succ, List.forIn_cons, Sem.run_bind, run_size hse, px, Result.andThen_ok, pe, Sem.run_pure]
            exact hrest
        have := key k 0 (by omega)
        simp only [Std.Legacy.Range.forIn_eq_forIn_range', Std.Legacy.Range.size, Nat.sub_zero, Nat.add_sub_cancel, Nat.div_one]
        rw [this]; rfl
    · cases h

end Go.Eng

/- Part EngN. -/
namespace Go.Eng
open Go

variable {P : Program} {μ : Mu} {H : AHeap} {w : World}

theorem cellsEq_true : ∀ {xs ys : List Value}, cellsEq xs ys = some true → xs = ys
  | [], [], _ => rfl
  | [], _ :: _, h => by simp [cellsEq] at h
  | _ :: _, [], h => by simp [cellsEq] at h
  | x :: xs, y :: ys, h => by
    obtain ⟨a, b, ha, hb, hr⟩ := cellsEq_cons h
    obtain ⟨k, m, m', rfl, rfl, rfl⟩ := cellEq_inv ha
    have h1 : (m == m') = true ∧ b = true := by have h := hr.symm; simpa only [Bool.and_eq_true] using h
    rw [h1.2] at hb
    rw [cellsEq_true hb, eq_of_beq h1.1]

theorem cellsEq_ints : ∀ {xs ys : List Value} {r : Bool}, cellsEq xs ys = some r → ∀ x ∈ xs, ∃ k n, x = .int k n
  | [], _, _, _ => fun x h => by cases h
  | _ :: _, [], _, h => by simp [cellsEq] at h
  | x :: xs, y :: ys, r, h => by
    obtain ⟨a, b, ha, hb, hr⟩ := cellsEq_cons h
    obtain ⟨k, m, m', rfl, rfl, rfl⟩ := cellEq_inv ha
    intro z hz
    rcases List.mem_cons.1 hz with rfl | hz
    · exact ⟨_, _, rfl⟩
    · exact cellsEq_ints hb z hz

theorem sameBits_agg {xs : Array Value} (h : ∀ x ∈ xs.toList, ∃ k n, x = .int k n) (d : Nat) : Instr.sameBits (d + 1) (.agg xs) (.agg xs) = true := by
  simp only [Instr.sameBits, beq_self_eq_true, Bool.true_and, List.all_eq_true]
  intro p hp
  obtain ⟨x, y⟩ := p
  have hx : x ∈ xs.toList := (List.of_mem_zip hp).1
  have hxy : x = y := by
    rw [List.mem_iff_getElem?] at hp
    obtain ⟨i, hi⟩ := hp
    rw [List.getElem?_zip_eq_some] at hi
    have := hi.1.symm.trans hi.2
    cases this; rfl
  subst hxy
  obtain ⟨k, n, rfl⟩ := h x hx
  simp [Instr.sameBits]

/-- Where the key stands, in the abstract list and in the model's. -/
def Found (μ : Mu) (kn : Option Nat) (k k' v : Value) (es : List (Value × Value)) (fs : List MapEntry) (i : Nat) (r : Option Value) (q : Option (Nat × Value)) : Prop :=
  (r = none ∧ q = none ∧ upd kn k v es = some (es ++ [(k, v)])) ∨
  (∃ j v0 e, r = some v0 ∧ fs[j]? = some e ∧ VR μ v0 e.val ∧ e.key = k' ∧ q = some (i + j, e.val) ∧ j < es.length ∧ upd kn k v es = some (es.set j (k, v)) ∧ (∀ c, Instr.sameBits (c + 1) e.key k' = true))

theorem Found.step {kn : Option Nat} {k k' v k0 v0 : Value} {es : List (Value × Value)} {f : MapEntry} {fs : List MapEntry} {i : Nat} {r : Option Value} {q : Option (Nat × Value)}
    (hk : keyEq kn k k0 = some false) (h : Found μ kn k k' v es fs (i + 1) r q) : Found μ kn k k' v ((k0, v0) :: es) (f :: fs) i r q := by
  rcases h with ⟨h1, h2, h3⟩ | ⟨j, u, e, h1, h2, h3, h4, h5, h6, h7, h8⟩
  · exact .inl ⟨h1, h2, by simp [upd, hk, h3]⟩
  · exact .inr ⟨j + 1, u, e, h1, by simpa using h2, h3, h4, by rw [h5]; congr 2; omega, by simpa using h6, by simp [upd, hk, h7], h8⟩

theorem find_int {k v : Value} {kk kk' : IntKind} {m : Int} {es : List (Value × Value)} {fs : List MapEntry} {r : Option Value} (hE : EntsR μ es fs) (hk : k = .int kk m) (h : findE none k es = some r) (i : Nat) :
    ∃ q, Instr.findNow (.int kk') (.int kk m) fs i = some q ∧ Found μ none k (.int kk m) v es fs i r q := by
  induction es generalizing fs i with
  | nil =>
    obtain ⟨h1, h2⟩ := hE
    cases fs with
    | nil => simp [findE] at h; subst h; exact ⟨none, rfl, .inl ⟨rfl, rfl, rfl⟩⟩
    | cons _ _ => cases h1
  | cons e es ih =>
    obtain ⟨k0, v0⟩ := e
    obtain ⟨h1, h2⟩ := hE
    cases fs with
    | nil => cases h1
    | cons f fs =>
      simp only [List.map_cons] at h1 h2
      cases h1 with
      | cons hk0 h1 =>
      cases h2 with
      | cons hv0 h2 =>
        simp only [findE] at h
        cases hq : keyEq none k k0 with
        | none => rw [hq] at h; cases h
        | some b =>
          rcases keyEq_inv hq (by subst hk; exact VR.atom _ rfl : VR μ k (.int kk m)) hk0 with ⟨kk2, a, b', _, e1, e2, e3⟩ | ⟨n, xs, ys, e, _⟩
          · cases e1
            cases b with
            | true =>
              rw [hq] at h; cases h
              have hm : m = b' := by simpa using e3.symm
              subst hm
              refine ⟨some (i, f.val), ?_, .inr ⟨0, v0, f, rfl, rfl, hv0, e2, rfl, by simp, by simp [upd, hq], fun c => ?_⟩⟩
              · simp [Instr.findNow, Instr.sameNow, e2]
              · rw [e2]; simp [Instr.sameBits]
            | false =>
              rw [hq] at h
              obtain ⟨q, hq1, hq2⟩ := ih ⟨h1, h2⟩ h (i + 1)
              refine ⟨q, ?_, hq2.step hq⟩
              simp [Instr.findNow, Instr.sameNow, e2, ← e3, hq1]
          · cases e

theorem find_agg {kt : TypeId} {n : Nat} {k v : Value} {xs : Array Value} {es : List (Value × Value)} {fs : List MapEntry} {r : Option Value} (hf : flats P 50 kt = true) (ha : aggOf P kt = some true) (hs : szOf P kt = some n)
    (hE : EntsR μ es fs) (hk : VR μ k (.agg xs)) (h : findE (some n) k es = some r) (i : Nat) :
    ∃ q, (Instr.findAsking kt (.agg xs) fs i).run P w = .ok q w ∧ Found μ (some n) k (.agg xs) v es fs i r q := by
  induction es generalizing fs i with
  | nil =>
    obtain ⟨h1, h2⟩ := hE
    cases fs with
    | nil => simp [findE] at h; subst h; exact ⟨none, rfl, .inl ⟨rfl, rfl, rfl⟩⟩
    | cons _ _ => cases h1
  | cons e es ih =>
    obtain ⟨k0, v0⟩ := e
    obtain ⟨h1, h2⟩ := hE
    cases fs with
    | nil => cases h1
    | cons f fs =>
      simp only [List.map_cons] at h1 h2
      cases h1 with
      | cons hk0 h1 =>
      cases h2 with
      | cons hv0 h2 =>
        simp only [findE] at h
        cases hq : keyEq (some n) k k0 with
        | none => rw [hq] at h; cases h
        | some b =>
          rcases keyEq_inv hq hk hk0 with ⟨_, _, _, e, _⟩ | ⟨n', xs', ys, e, e1, e2, e3, e4⟩
          · cases e
          · cases e; cases e1
            have heq := run_equal_agg (P := P) hf ha hs e3 e4 w Op.maxDepth (by decide)
            have heq' : (Op.equal kt (.agg xs) (.agg ys)).run P w = .ok b w := heq
            cases b with
            | true =>
              rw [hq] at h; cases h
              have hxy : xs = ys := Array.ext' (cellsEq_true e4)
              subst hxy
              refine ⟨some (i, f.val), ?_, .inr ⟨0, v0, f, rfl, rfl, hv0, e2, rfl, by simp, by simp [upd, hq], fun c => ?_⟩⟩
              · simp [Instr.findAsking, e2, heq']
              · rw [e2]; exact sameBits_agg (cellsEq_ints e4) c
            | false =>
              rw [hq] at h
              obtain ⟨q, hq1, hq2⟩ := ih ⟨h1, h2⟩ h (i + 1)
              refine ⟨q, ?_, hq2.step hq⟩
              simp [Instr.findAsking, e2, heq', hq1]

/-- The key's value is one of the key's type. -/
theorem find_key {kt : TypeId} {kn : Option Nat} {k k' v : Value} {es : List (Value × Value)} {fs : List MapEntry} {r : Option Value} (hf : flats P 50 kt = true) (hn : keyN P kt = some kn)
    (hE : EntsR μ es fs) (hk : VR μ k k') (hkk : keyOK kn k = true) (h : findE kn k es = some r) :
    (∀ em d, 50 ≤ d → (Instr.checkKey em d kt k').run P w = .ok () w) ∧ ∃ q, (Instr.findKey kt k' fs).run P w = .ok q w ∧ Found μ kn k k' v es fs 0 r q := by
  unfold keyN at hn
  split at hn
  · rename_i kk' hu
    cases hn
    cases k <;> simp only [keyOK, Bool.false_eq_true] at hkk
    · rename_i kk m
      have := hk.int_inv; subst this
      have hsz : szOf P kt = some 1 := by
        unfold flats at hf
        rw [hu] at hf
        simp only at hf
        split at hf
        · assumption
        · cases hf
      have hag : aggOf P kt = some false := by simp [aggOf, hu]
      refine ⟨fun em d hd => ?_, ?_⟩
      · have := run_checkKey em 50 kt 1 d [.int kk m] w hf hd hsz rfl
        simpa [ofC, hag] using this
      · obtain ⟨q, hq1, hq2⟩ := find_int (kk' := kk') (v := v) hE rfl h 0
        exact ⟨q, by simp [Instr.findKey, run_underlying hu, hq1], hq2⟩
  · rename_i fs' hu
    have hag : aggOf P kt = some true := by simp [aggOf, hu]
    simp only [Option.map_eq_some_iff] at hn
    obtain ⟨n, hs, rfl⟩ := hn
    cases k <;> simp only [keyOK, Bool.false_eq_true] at hkk
    · rename_i xs0
      obtain ⟨xs, rfl, hxs⟩ := hk.agg_inv
      have hl : xs.toList.length = n := by rw [← hxs.length]; exact Nat.eq_of_beq_eq_true hkk
      refine ⟨fun em d hd => ?_, ?_⟩
      · have := run_checkKey em 50 kt n d xs.toList w hf hd hs hl
        simpa [ofC, hag] using this
      · obtain ⟨q, hq1, hq2⟩ := find_agg (v := v) (w := w) hf hag hs hE hk h 0
        refine ⟨q, ?_, hq2⟩
        simp only [Instr.findKey, Sem.run_bind, run_underlying hu, Result.andThen_ok]
        cases fs with
        | nil => simp [Instr.findAsking] at hq1; subst hq1; simp [Instr.findNow]
        | cons f fs => simp [Instr.findNow, Instr.sameNow, hq1]
  · rename_i k0 e0 hu
    have hag : aggOf P kt = some true := by simp [aggOf, hu]
    simp only [Option.map_eq_some_iff] at hn
    obtain ⟨n, hs, rfl⟩ := hn
    cases k <;> simp only [keyOK, Bool.false_eq_true] at hkk
    · rename_i xs0
      obtain ⟨xs, rfl, hxs⟩ := hk.agg_inv
      have hl : xs.toList.length = n := by rw [← hxs.length]; exact Nat.eq_of_beq_eq_true hkk
      refine ⟨fun em d hd => ?_, ?_⟩
      · have := run_checkKey em 50 kt n d xs.toList w hf hd hs hl
        simpa [ofC, hag] using this
      · obtain ⟨q, hq1, hq2⟩ := find_agg (v := v) (w := w) hf hag hs hE hk h 0
        refine ⟨q, ?_, hq2⟩
        simp only [Instr.findKey, Sem.run_bind, run_underlying hu, Result.andThen_ok]
        cases fs with
        | nil => simp [Instr.findAsking] at hq1; subst hq1; simp [Instr.findNow]
        | cons f fs => simp [Instr.findNow, Instr.sameNow, hq1]
  · cases hn

end Go.Eng

/- Part EngO. -/
namespace Go.Eng
open Go

variable {P : Program} {μ : Mu} {H : AHeap} {w : World}

theorem HR.map (h : HR P μ H w) {r r' : Nat} {es : List (Value × Value)} (ho : H.get r = some (.map es)) (hr : NumR μ r r') :
    ∃ fs clock, w.heap[r']? = some (.map fs clock) ∧ EntsR μ es fs.toList ∧ ∀ f ∈ fs.toList, f.born < clock := by
  obtain ⟨b, off, esz', csz, hm, fs, clock, hw, hE, hb⟩ := h.find ho (by intro e; cases e)
  obtain ⟨s, hs, hl⟩ := hr
  rw [hm] at hs; cases hs
  rw [hl _ _ _ _ rfl]
  exact ⟨fs, clock, hw, hE, hb⟩

theorem run_getMap {r : Nat} {fs : Array MapEntry} {clock : Nat} (h : w.heap[r]? = some (.map fs clock)) : (getObj r).run P w = .ok (.map fs clock) w := by
  simp [getObj, Sem.run, h]

theorem eqp_read {a : Act} {σ : List Value} {o : Oper} {v : Value} {neg : Bool} {op : BinOp} {t e : TypeId} {x y : Operand} {yt : TypeId} {rx ry : Rv} {n : Nat} (ho : o.op = .binOp op t x y yt) (hop : op = (bif neg then .neq else .eql))
    (hu : P.underlying t = some (.pointer e)) (hs : szOf P e = some (n + 1)) (hx : cRv x = some rx) (hy : cRv y = some ry)
    (hσ : VRs μ σ a.tmps.toList) (hH : HR P μ H w) (hv : readI σ H (.eqp neg rx ry) = some v) : ReadR P μ a o v w := by
  have hX := rv_sim hx hσ
  have hY := rv_sim hy hσ
  simp only [readI, Option.map_eq_some_iff] at hv
  obtain ⟨r, hr, rfl⟩ := hv
  refine ⟨_, .atom _ rfl, ?_⟩
  simp only [execOp, ho, hop]
  have fin : ∀ p q, a.eval x = .pointer p → a.eval y = .pointer q → (Op.equal t (.pointer p) (.pointer q)).run P w = .ok r w →
      ((do pure (.value (← (do eqGuard (bif neg then .neq else .eql) t x y (a.eval x) (a.eval y); binOp (bif neg then .neq else .eql) t (a.eval x) (a.eval y) : Sem Value))) : Sem Next)).run P w = .ok (.value (.bool (bif neg then !r else r))) w := by
    intro p q h1 h2 h3
    rw [h1, h2]
    exact val_run (run_eq rfl rfl (guard_plain rfl) h3)
  split at hr
  · rename_i b e1 e2
    rw [e1] at hX; rw [e2] at hY
    have h1 := hX.nilp_inv
    cases b with
    | none =>
      have h2 := hY.nilp_inv
      cases hr
      refine fin _ _ h1 h2 ?_
      unfold Op.equal Op.maxDepth; rw [Op.equalIn.eq_def]; simp [run_underlying hu]
    | some b =>
      obtain ⟨b', h2, _⟩ := hY.ptr_inv
      cases hr
      refine fin _ _ h1 h2 ?_
      unfold Op.equal Op.maxDepth; rw [Op.equalIn.eq_def]; simp [run_underlying hu]
  · rename_i b e1 e2
    rw [e1] at hX; rw [e2] at hY
    have h2 := hY.nilp_inv
    obtain ⟨b', h1, _⟩ := hX.ptr_inv
    cases hr
    refine fin _ _ h1 h2 ?_
    unfold Op.equal Op.maxDepth; rw [Op.equalIn.eq_def]; simp [run_underlying hu]
  · rename_i p q e1 e2
    rw [e1] at hX; rw [e2] at hY
    obtain ⟨p', h1, hp⟩ := hX.ptr_inv
    obtain ⟨q', h2, hq⟩ := hY.ptr_inv
    split at hr
    · rename_i c1 z1 c2 z2 g1 g2
      cases hok : (okAddr p && okAddr q) with
      | false => rw [hok] at hr; cases hr
      | true =>
        rw [hok] at hr
        simp only [cond_true, Option.some.injEq] at hr
        obtain ⟨cs1, t1, w1⟩ := hH.block g1 hp
        obtain ⟨cs2, t2, w2⟩ := hH.block g2 hq
        refine fin _ _ h1 h2 ?_
        have same : (if p'.block == q'.block then p' == q' else false) = r := by
          obtain ⟨b1, o1, z1', s1, m1, _⟩ := hH.find g1 (by intro e; cases e)
          obtain ⟨b2, o2, z2', s2, m2, _⟩ := hH.find g2 (by intro e; cases e)
          obtain ⟨_, hsp1, st1, hs1, hl1⟩ := hp
          obtain ⟨_, hsp2, st2, hs2, hl2⟩ := hq
          rw [m1] at hs1; cases hs1
          rw [m2] at hs2; cases hs2
          obtain ⟨hb1, ho1⟩ := hl1 _ _ _ _ rfl
          obtain ⟨hb2, ho2⟩ := hl2 _ _ _ _ rfl
          by_cases hbl : p.block = q.block
          · have : b1 = b2 ∧ o1 = o2 := by rw [hbl, m2] at m1; cases m1; exact ⟨rfl, rfl⟩
            have hbb : p'.block = q'.block := by rw [hb1, hb2, this.1]
            have e1 : Nat.beq p.block q.block = true := by rw [hbl]; exact Nat.beq_refl _
            rw [e1] at hr
            simp only [Bool.true_and] at hr
            rw [← hr]
            simp only [hbb, beq_self_eq_true, if_true]
            rw [Bool.eq_iff_iff, beq_iff_eq, Nat.beq_eq]
            constructor
            · intro h; have := congrArg Addr.off h; omega
            · intro h
              obtain ⟨pb, po, ps⟩ := p'
              obtain ⟨qb, qo, qs⟩ := q'
              simp only at hsp1 hsp2 hbb ho1 ho2
              subst hsp1; subst hsp2; subst hbb
              congr 1; omega
          · have hbb : ¬ p'.block = q'.block := by
              rw [hb1, hb2]; intro h; subst h
              exact hbl (hH.inj _ _ _ _ _ _ _ _ _ m1 m2)
            have e1 : Nat.beq p.block q.block = false := by
              cases h : Nat.beq p.block q.block
              · rfl
              · exact absurd (Nat.eq_of_beq_eq_true h) hbl
            rw [e1] at hr
            simp only [Bool.false_and] at hr
            rw [← hr]
            simp [hbb]
        unfold Op.equal Op.maxDepth; rw [Op.equalIn.eq_def]
        simp only [Sem.run_bind, run_underlying hu, Result.andThen_ok, run_size hs]
        rw [if_pos (by omega), run_sameAddr w1 w2, same]
    · cases hr
  · cases hr

theorem read_sim {a : Act} {σ : List Value} {o : Oper} {i : Ins} {v : Value} (hc : cOp P o = some i) (hk : i.kd = .read) (hv : readI σ H i = some v) (hσ : VRs μ σ a.tmps.toList) (hH : HR P μ H w) : ReadR P μ a o v w := by
  cases hop : o.op <;> simp only [cOp, hop, bind, Option.bind_eq_some_iff, pure, Option.some.injEq] at hc
  case move x => obtain ⟨r, hr, rfl⟩ := hc; cases hk
  case assign x => obtain ⟨r, hr, rfl⟩ := hc; cases hk
  case pick c x y => obtain ⟨rc, hrc, rx, hrx, ry, hry, rfl⟩ := hc; cases hk
  case alloc t => obtain ⟨_, _, rfl⟩ := hc; cases hk
  case box t x => obtain ⟨_, _, rfl⟩ := hc; cases hk
  case build t parts => obtain ⟨z, hz, ps, hp, rfl⟩ := hc; cases hk
  case buildSlice t n parts =>
    split at hc
    · simp only [Option.bind_eq_some_iff] at hc
      obtain ⟨z, _, ps, _, hc⟩ := hc
      obtain ⟨_, rfl⟩ := bif_some hc
      cases hk
    · cases hc
  case load t x =>
    obtain ⟨r, hr, b, hb, n, hn, hc⟩ := hc
    have hX := rv_sim hr hσ
    cases b <;> simp only [cond_true, cond_false, Option.some.injEq] at hc <;> subst hc
    · simp only [readI] at hv
      split at hv
      · rename_i ad e1
        rw [e1] at hX
        obtain ⟨a', hx', har⟩ := hX.ptr_inv
        split at hv
        · rename_i c z ro ho
          cases hok : okAddr ad with
          | false => rw [hok] at hv; cases hv
          | true =>
            rw [hok] at hv
            simp only [cond_true] at hv
            obtain ⟨v', hcell, hr'⟩ := hH.cell ho har hv
            refine ⟨v', hr', ?_⟩
            simp only [execOp, hop, hx']
            refine val_run ?_
            simp [Instr.loadAt, Instr.sureAddr, loadVar, run_agg hb, hcell]
        · cases hv
      · cases hv
    · simp only [readI] at hv
      split at hv
      · rename_i ad e1
        rw [e1] at hX
        obtain ⟨a', hx', har⟩ := hX.ptr_inv
        simp only [Option.map_eq_some_iff] at hv
        obtain ⟨l, hl, rfl⟩ := hv
        obtain ⟨l', h1, h2, h3⟩ := hH.loadCells hl har
        refine ⟨.agg l'.toArray, .agg (by simpa using h1), ?_⟩
        simp only [execOp, hop, hx']
        refine val_run ?_
        simp [Instr.loadAt, Instr.sureAddr, loadVar, run_agg hb, run_size hn, h3]
      · cases hv
  case store t x y => obtain ⟨_, _, _, _, _, _, rfl⟩ := hc; cases hk
  case nilCheck x => obtain ⟨r, hr, rfl⟩ := hc; cases hk
  case binOp op t x y yt =>
    simp only [cBin, bind, Option.bind_eq_some_iff] at hc
    obtain ⟨rx, hx, ry, hy, hc⟩ := hc
    have iseq : ∀ neg : Bool, op = (bif neg then .neq else .eql) →
      (match P.underlying t with
      | some (.int _) => some (Ins.bin op rx ry)
      | some .bool => some (.eqb neg rx ry)
      | some (.pointer e) => match szOf P e with | some (_ + 1) => some (.eqp neg rx ry) | _ => none
      | some (.slice _) => some (.eqn neg 0 rx ry)
      | some (.map ..) => some (.eqn neg 1 rx ry)
      | some (.func ..) => some (.eqn neg 2 rx ry)
      | some (.struct _) | some (.array ..) => bif flats P 50 t && !(P.eqGuardType P.depth t) then do pure (.eqa neg (← szOf P t) rx ry) else none
      | _ => none) = some i → ReadR P μ a o v w := by
      intro neg hneg he
      have agg : (bif flats P 50 t && !(P.eqGuardType P.depth t) then (do pure (.eqa neg (← szOf P t) rx ry) : Option Ins) else none) = some i → ReadR P μ a o v w := by
        intro he
        cases hb : (flats P 50 t && !(P.eqGuardType P.depth t)) with
        | false => rw [hb] at he; cases he
        | true =>
          rw [hb] at he
          simp only [cond_true, bind, Option.bind_eq_some_iff, pure, Option.some.injEq] at he
          obtain ⟨n, hn, rfl⟩ := he
          cases hk
      split at he
      · cases he; cases hk
      · cases he; cases hk
      · rename_i e hu
        split at he
        · rename_i n hs
          cases he
          exact eqp_read hop hneg hu hs hx hy hσ hH hv
        · cases he
      · cases he; cases hk
      · cases he; cases hk
      · cases he; cases hk
      · exact agg he
      · exact agg he
      · cases he
    cases op
    case eql => exact iseq false rfl hc
    case neq => exact iseq true rfl hc
    all_goals (cases hc; cases hk)
  case unOp op t x => obtain ⟨r, hr, rfl⟩ := hc; cases hk
  case convert s d x =>
    split at hc
    · simp only [Option.bind_eq_some_iff, Option.some.injEq] at hc
      obtain ⟨r, hr, rfl⟩ := hc
      cases hk
    · cases hc
  case sliceToArrayPointer t x =>
    split at hc
    · simp only [Option.bind_eq_some_iff, Option.some.injEq] at hc
      obtain ⟨r, hr, rfl⟩ := hc
      cases hk
    · cases hc
  case makeFunc fn first cap =>
    split at hc
    · simp only [Option.bind_eq_some_iff, Option.some.injEq] at hc
      obtain ⟨r1, h1, r2, h2, rfl⟩ := hc
      cases hk
    · cases hc
  case makeMap t r =>
    split at hc
    · cases hc; cases hk
    · cases hc
  case makeSlice t l c =>
    split at hc
    · simp only [Option.bind_eq_some_iff] at hc
      obtain ⟨_, _, _, _, _, _, _, _, hc⟩ := hc
      obtain ⟨_, rfl⟩ := bif_some hc
      cases hk
    · cases hc
  case slice t x lo hi mx =>
    cases hmx : (mx.isSome && hi.isNone) with
    | true => rw [hmx] at hc; cases hc
    | false =>
      rw [hmx] at hc
      have hmh : mx.isSome = true → hi.isSome = true := by
        intro h; rw [h] at hmx; cases hi <;> simp at hmx ⊢
      simp only [cond_false] at hc
      split at hc
      · rename_i e hu
        simp only [Option.bind_eq_some_iff, Option.some.injEq] at hc
        obtain ⟨s, hs, rx, hx, rl, hl, rh, hh, rm, hm, rfl⟩ := hc
        obtain ⟨v', hr, hrun⟩ := sls_sim hu hs hx hl hh hm hmh hσ hH hv
        refine ⟨v', hr, ?_⟩
        simp only [execOp, hop]
        exact val_run (hrun w)
      · simp only [Option.bind_eq_some_iff, Option.some.injEq] at hc
        obtain ⟨_, _, _, _, _, _, _, _, _, _, rfl⟩ := hc
        cases hk
      · split at hc
        · simp only [Option.bind_eq_some_iff, Option.some.injEq] at hc
          obtain ⟨_, _, _, _, _, _, _, _, _, _, rfl⟩ := hc
          cases hk
        · cases hc
      · cases hc
  case fieldAddr t x k =>
    split at hc
    · simp only [Option.bind_eq_some_iff] at hc
      obtain ⟨f, hf, s, hs, hc⟩ := hc
      split at hc
      · cases hc
      · simp only [Option.bind_eq_some_iff, Option.some.injEq] at hc
        obtain ⟨r, hr, rfl⟩ := hc
        cases hk
    · cases hc
  case field t x k =>
    split at hc
    · simp only [Option.bind_eq_some_iff, Option.some.injEq] at hc
      obtain ⟨_, _, _, _, _, _, _, _, rfl⟩ := hc
      cases hk
    · cases hc
  case indexAddr t x k =>
    split at hc
    · simp only [Option.bind_eq_some_iff, Option.some.injEq] at hc
      obtain ⟨_, _, _, _, _, _, rfl⟩ := hc
      cases hk
    · simp only [Option.bind_eq_some_iff, Option.some.injEq] at hc
      obtain ⟨_, _, _, _, _, _, rfl⟩ := hc
      cases hk
    · cases hc
  case index t x k =>
    split at hc
    · simp only [Option.bind_eq_some_iff, Option.some.injEq] at hc
      obtain ⟨_, _, _, _, _, _, _, _, rfl⟩ := hc
      cases hk
    · split at hc
      · simp only [Option.bind_eq_some_iff, Option.some.injEq] at hc
        obtain ⟨_, _, rfl⟩ := hc
        cases hk
      · cases hc
    · cases hc
  case lookup t x k ok =>
    split at hc
    · rename_i kt et hu
      simp only [Option.bind_eq_some_iff] at hc
      obtain ⟨it, hit, z, hz, kn, hkn, rm, hm, rk, hrk, hc⟩ := hc
      obtain ⟨hcf, rfl⟩ := bif_some hc
      simp only [Bool.and_eq_true] at hcf
      have hM := rv_sim hm hσ
      have hK := rv_sim hrk hσ
      simp only [readI] at hv
      cases hko : keyOK kn (rk.ev σ) with
      | false => rw [hko] at hv; cases hv
      | true =>
        rw [hko] at hv
        simp only [Bool.not_true, cond_false, Option.bind_eq_some_iff, Option.map_eq_some_iff] at hv
        obtain ⟨es, hes, r, hfind, rfl⟩ := hv
        -- the entries in the model
        have ents : ∃ fs : Array MapEntry, EntsR μ es fs.toList ∧ ((a.eval x = .map none ∧ fs = #[]) ∨ ∃ r' clock, a.eval x = .map (some r') ∧ w.heap[r']? = some (.map fs clock)) := by
          split at hes
          · rename_i e1
            cases hes
            rw [e1] at hM
            exact ⟨#[], ⟨.nil, .nil⟩, .inl ⟨hM.nilm_inv, rfl⟩⟩
          · rename_i r0 e1
            rw [e1] at hM
            obtain ⟨r', hx', hnr⟩ := hM.map_inv
            split at hes
            · rename_i es' ho
              cases hes
              obtain ⟨fs, clock, hw, hE, _⟩ := hH.map ho hnr
              exact ⟨fs, hE, .inr ⟨r', clock, hx', hw⟩⟩
            · cases hes
          · cases hes
        obtain ⟨fs, hE, hfs⟩ := ents
        obtain ⟨hck, q, hq, hF⟩ := find_key (v := .bool true) (w := w) hcf.2 hkn hE hK hko hfind
        have hzv : (zeroValue et).run P w = .ok z w := run_zero hit hz w
        rcases hF with ⟨rfl, rfl, _⟩ | ⟨j, v0, e, rfl, hj, hv0, _, rfl, _⟩
        · refine ⟨bif ok then .tuple #[z, .bool false] else z, ?_, ?_⟩
          · cases ok
            · exact .closed hcf.1
            · exact .tuple (.cons (.closed hcf.1) (.cons (.atom _ rfl) .nil))
          · simp only [execOp, hop]
            refine val_run ?_
            rcases hfs with ⟨hx', rfl⟩ | ⟨r', clock, hx', hw⟩
            · have hq' : (Instr.findKey kt (a.eval k) []).run P w = .ok none w := hq
              rw [hx']
              cases ok <;> simp [Instr.lookup, run_underlying hu, hck _ _ (show 50 ≤ 10000 by decide), hq', hzv]
            · rw [hx']
              cases ok <;> simp [Instr.lookup, run_underlying hu, run_getMap hw, hck _ _ (show 50 ≤ 10000 by decide), hq, hzv]
        · refine ⟨bif ok then .tuple #[e.val, .bool true] else e.val, ?_, ?_⟩
          · cases ok
            · exact hv0
            · exact .tuple (.cons hv0 (.cons (.atom _ rfl) .nil))
          · simp only [execOp, hop]
            refine val_run ?_
            rcases hfs with ⟨hx', rfl⟩ | ⟨r', clock, hx', hw⟩
            · simp at hj
            · rw [hx']
              cases ok <;> simp [Instr.lookup, run_underlying hu, run_getMap hw, hck _ _ (show 50 ≤ 10000 by decide), hq]
    · cases hc
  case mapUpdate t x k y =>
    split at hc
    · simp only [Option.bind_eq_some_iff] at hc
      obtain ⟨_, _, _, _, _, _, _, _, hc⟩ := hc
      obtain ⟨_, rfl⟩ := bif_some hc
      cases hk
    · cases hc
  case range t x =>
    split at hc
    · simp only [Option.bind_eq_some_iff, Option.some.injEq] at hc
      obtain ⟨_, _, rfl⟩ := hc
      cases hk
    · cases hc
  case next x s =>
    cases s <;> simp only [cond_true, cond_false, Option.bind_eq_some_iff, Option.some.injEq, reduceCtorEq] at hc
    obtain ⟨_, _, rfl⟩ := hc
    cases hk
  case entry x =>
    obtain ⟨r, hr, rfl⟩ := hc
    have hX := rv_sim hr hσ
    simp only [readI] at hv
    split at hv
    · rename_i ad e1
      rw [e1] at hX
      obtain ⟨a', hx', har⟩ := hX.ptr_inv
      split at hv
      · rename_i m n ho
        split at hv
        · rename_i k0 v0 hm
          cases hn : (Nat.beq n 1 && Nat.beq ad.off 0) with
          | false => rw [hn] at hv; cases hv
          | true =>
            rw [hn] at hv; cases hv
            simp only [Bool.and_eq_true] at hn
            have hn1 := Nat.eq_of_beq_eq_true hn.1
            have hn2 := Nat.eq_of_beq_eq_true hn.2
            subst hn1
            obtain ⟨b, off, esz', csz, hmu, hoffz, m', since, seen, stepped, hw, r', rfl, hnr, _, _, hfacts⟩ := hH.find ho (by intro e; cases e)
            obtain ⟨hsp0, hsp, s, hs, hl⟩ := har
            rw [hmu] at hs; cases hs
            obtain ⟨hb, hoff⟩ := hl _ _ _ _ rfl
            obtain ⟨fs, clock, hwm, hE, hborn⟩ := hH.map hm hnr
            obtain ⟨hE1, hE2⟩ := hE
            obtain ⟨hle, hst⟩ := hfacts fs clock hwm
            have hone : ∃ f, fs.toList = [f] ∧ VR μ k0 f.key ∧ VR μ v0 f.val := by
              cases hfl : fs.toList with
              | nil => rw [hfl] at hE1; cases hE1
              | cons f rest =>
                rw [hfl] at hE1 hE2
                cases hE1 with
                | cons h1 t1 =>
                cases hE2 with
                | cons h2 t2 =>
                cases rest with
                | nil => exact ⟨f, rfl, h1, h2⟩
                | cons _ _ => cases t1
            obtain ⟨f, hfl, hk0, hv0⟩ := hone
            have hfs : fs = #[f] := Array.ext' (by simpa using hfl)
            subst hfs
            obtain ⟨_, hst2⟩ := hst rfl
            obtain ⟨hstep, hseen⟩ := hst2 rfl rfl
            have hseen := hseen f rfl
            have hoff0 : a'.off = 0 := by omega
            refine ⟨.tuple #[f.key, f.val], .tuple (.cons hk0 (.cons hv0 .nil)), ?_⟩
            simp only [execOp, hop, hx']
            refine val_run ?_
            obtain ⟨ab, ao, as⟩ := a'
            simp only at hb hoff0 hsp
            subst hb; subst hoff0; subst hsp
            simp [Instr.entry, getObj, Sem.run, hw, hwm, hseen, hstep]
        · cases hv
      · cases hv
    · cases hv
  case extract x k =>
    obtain ⟨r, hr, rfl⟩ := hc
    cases hk
  case call c =>
    split at hc
    · simp only [Option.bind_eq_some_iff, Option.some.injEq] at hc
      obtain ⟨_, _, _, _, rfl⟩ := hc
      cases hk
    · rename_i b hcal
      simp only [Option.bind_eq_some_iff] at hc
      obtain ⟨args, hargs, hc⟩ := hc
      have hA := rvs_sim hargs hσ
      unfold cBuiltin at hc
      split at hc
      · rename_i x t hts
        split at hc
        · cases hc; cases hk
        · cases hc; cases hk
        · rename_i kt et hu
          cases hc
          have hy : ∃ y, c.args.map a.eval = #[y] ∧ VR μ (x.ev σ) y := by
            cases hl : c.args.toList.map a.eval with
            | nil => rw [hl] at hA; cases hA
            | cons y ys =>
              rw [hl] at hA
              simp only [List.map_cons, List.map_nil] at hA
              cases hA with
              | cons h1 h2 =>
                cases h2
                refine ⟨y, ?_, h1⟩
                apply Array.ext'; simpa using hl
          obtain ⟨y, hy, hr⟩ := hy
          have ht : c.argTypes[0]? = some t := by
            have : c.argTypes = #[t] := by apply Array.ext'; simpa using hts
            simp [this]
          simp only [readI] at hv
          have run : (execOp a.eval o).run P w = (builtin .len c.argTypes o.type (c.args.map fun | .const _ => true | _ => false) #[y]).run P w := by
            simp [execOp, hop, resolve, hcal, hy, invoke]
            rfl
          split at hv
          · rename_i e1
            cases hv
            rw [e1] at hr
            have := hr.nilm_inv; subst this
            refine ⟨_, .atom _ rfl, ?_⟩
            rw [run]
            simp [builtin, Builtin.len_, ht, run_underlying hu, goInt]
          · rename_i r e1
            rw [e1] at hr
            obtain ⟨r', rfl, hnr⟩ := hr.map_inv
            split at hv
            · rename_i es ho
              cases hv
              obtain ⟨fs, clock, hw, hE, _⟩ := hH.map ho hnr
              refine ⟨_, .atom _ rfl, ?_⟩
              rw [run]
              have hl : fs.size = es.length := by have := hE.1.length; simpa using this.symm
              simp [builtin, Builtin.len_, ht, run_underlying hu, goInt, run_getMap hw, hl]
            · cases hv
          · cases hv
        · split at hc
          · cases hc; cases hk
          · cases hc
        · cases hc
      · split at hc
        · cases hc; cases hk
        · cases hc
      · split at hc
        · simp only [bind, Option.bind_eq_some_iff, pure, Option.some.injEq] at hc
          obtain ⟨_, _, _, _, rfl⟩ := hc
          cases hk
        · cases hc
      · split at hc
        · simp only [bind, Option.bind_eq_some_iff, pure, Option.some.injEq] at hc
          obtain ⟨_, _, rfl⟩ := hc
          cases hk
        · cases hc
      · split at hc
        · simp only [bind, Option.bind_eq_some_iff, pure, Option.some.injEq] at hc
          obtain ⟨_, _, rfl⟩ := hc
          cases hk
        · cases hc
      · cases hc; cases hk
      · cases hc; cases hk
      · cases hc
    · cases hc
  all_goals cases hc

end Go.Eng

/- Part EngP. -/
namespace Go.Eng
open Go

variable {P : Program} {μ μ' : Mu} {H H' : AHeap} {w w' : World}

/-- What may become of a block of the model's memory. -/
inductive Evo : Option Obj → Option Obj → Prop
  | same (o : Option Obj) : Evo o o
  | cells (c d : Array Value) (t u : TypeId) (f g : Nat × Nat) : Evo (some (.cells c t f)) (some (.cells d u g))
  | map (fs gs : Array MapEntry) (c d : Nat) : ((gs.size = fs.size ∧ d = c ∧ ∀ j : Nat, (gs[j]?).map (·.born) = (fs[j]?).map (·.born)) ∨ fs.size < gs.size) → Evo (some (.map fs c)) (some (.map gs d))
  | iter (a b c d a' b' c' d') : Evo (some (.mapIter a b c d)) (some (.mapIter a' b' c' d'))
  | loop (l l' : Loop) : Evo (some (.loop l)) (some (.loop l'))

structure Step (μ : Mu) (w : World) (μ' : Mu) (w' : World) : Prop where
  keep : Keep μ μ'
  img : ∀ N b off esz csz, μ' N = some (.live b off esz csz) → (∃ M off' esz' csz', μ M = some (.live b off' esz' csz')) ∨ w.heap.size ≤ b
  size : w.heap.size ≤ w'.heap.size
  evo : ∀ b, b < w.heap.size → Evo w.heap[b]? w'.heap[b]?
  frame : ∀ b, b < w.heap.size → (∀ M off esz csz, μ M ≠ some (.live b off esz csz)) → w'.heap[b]? = w.heap[b]?
  tape : w'.tape = w.tape
  os : w'.os = w.os
  output : w'.output = w.output

theorem Evo.trans {a b c : Option Obj} (h : Evo a b) (k : Evo b c) : Evo a c := by
  cases h with
  | same => exact k
  | cells c d t u f g =>
    cases k with
    | same => exact .cells ..
    | cells => exact .cells ..
  | map fs gs c d h =>
    cases k with
    | same => exact .map _ _ _ _ h
    | map _ hs _ e k =>
      refine .map _ _ _ _ ?_
      rcases h with ⟨h1, h2, h3⟩ | h
      · rcases k with ⟨k1, k2, k3⟩ | k
        · exact .inl ⟨by omega, by omega, fun j => (k3 j).trans (h3 j)⟩
        · exact .inr (by omega)
      · rcases k with ⟨k1, _, _⟩ | k
        · exact .inr (by omega)
        · exact .inr (by omega)
  | iter =>
    cases k with
    | same => exact .iter ..
    | iter => exact .iter ..
  | loop =>
    cases k with
    | same => exact .loop ..
    | loop => exact .loop ..

theorem Step.refl (μ : Mu) (w : World) : Step μ w μ w :=
  ⟨.refl μ, fun _ _ _ _ _ h => .inl ⟨_, _, _, _, h⟩, Nat.le_refl _, fun _ _ => .same _, fun _ _ _ => rfl, rfl, rfl, rfl⟩

theorem Step.trans {a b c : Mu} {u v x : World} (h : Step a u b v) (k : Step b v c x) : Step a u c x where
  keep := h.keep.trans k.keep
  img := fun N p off esz csz hN => by
    rcases k.img N p off esz csz hN with ⟨M, o, e, z, hM⟩ | hle
    · exact h.img M p o e z hM
    · exact .inr (Nat.le_trans h.size hle)
  size := Nat.le_trans h.size k.size
  evo := fun p hp => (h.evo p hp).trans (k.evo p (Nat.lt_of_lt_of_le hp h.size))
  frame := fun p hp hn => by
    rw [k.frame p (Nat.lt_of_lt_of_le hp h.size) (fun M off esz csz hM => ?_), h.frame p hp hn]
    rcases h.img M p off esz csz hM with ⟨M', o, e, z, hM'⟩ | hle
    · exact hn _ _ _ _ hM'
    · omega
  tape := k.tape.trans h.tape
  os := k.os.trans h.os
  output := k.output.trans h.output

theorem EntsR.mono {es : List (Value × Value)} {fs : List MapEntry} (h : EntsR μ es fs) (k : Keep μ μ') : EntsR μ' es fs := ⟨h.1.mono k, h.2.mono k⟩

theorem LoopR.mono {r : ALoop} {q : Loop} (h : LoopR P μ r q) (k : Keep μ μ') : LoopR P μ' r q := { h with tmps := h.tmps.mono k }

/-- An object whose own block has not changed is what it was. -/
theorem OR.mono {b off esz csz : Nat} {o : AObj} (h : OR P μ w b off esz csz o) (k : Keep μ μ') (hs : w'.heap[b]? = w.heap[b]?) (hz : w.heap.size ≤ w'.heap.size) (he : ∀ b, b < w.heap.size → Evo w.heap[b]? w'.heap[b]?) : OR P μ' w' b off esz csz o := by
  cases o with
  | dead => exact h
  | cells c e ro =>
    obtain ⟨h1, cs, ty, lo, hi, h2, h3, h4, h5, h6⟩ := h
    exact ⟨h1, cs, ty, lo, hi, hs.trans h2, h3, h4, h5, h6.mono k⟩
  | map es =>
    obtain ⟨fs, clock, h1, h2, h3⟩ := h
    exact ⟨fs, clock, hs.trans h1, h2.mono k, h3⟩
  | iter m n over =>
    obtain ⟨h0, m', since, seen, stepped, h1, h2⟩ := h
    refine ⟨h0, m', since, seen, stepped, hs.trans h1, ?_⟩
    cases m with
    | none => exact h2
    | some r =>
      obtain ⟨r', e1, e2, e3, e4, e5⟩ := h2
      refine ⟨r', e1, e2.mono k, by omega, e4, fun fs clock hw => ?_⟩
      have hevo := he r' e3
      rw [hw] at hevo
      generalize hq : w.heap[r']? = q at hevo
      cases hevo with
      | same => exact e5 fs clock hq
      | map gs _ c _ hc =>
        obtain ⟨f1, f2⟩ := e5 gs c hq
        rcases hc with ⟨c1, c2, c3⟩ | hc
        · refine ⟨by omega, fun hn => ?_⟩
          obtain ⟨g1, g2⟩ := f2 (by omega)
          refine ⟨by rw [c2]; exact g1, fun ho hn1 => ?_⟩
          obtain ⟨i1, i2⟩ := g2 ho hn1
          refine ⟨by rw [c2]; exact i1, fun f hf => ?_⟩
          have := c3 0
          rw [hf] at this
          cases hg : gs[0]? with
          | none => rw [hg] at this; cases this
          | some g =>
            rw [hg] at this
            simp at this
            rw [this]
            exact i2 g hg
        · exact ⟨by omega, fun hn => by omega⟩
  | loop r =>
    obtain ⟨q, h1, h2⟩ := h
    exact ⟨q, hs.trans h1, h2.mono k⟩

/-- The relation after a change. -/
theorem HR.next_step (h : HR P μ H w) (hst : Step μ w μ' w') (hn : ∀ N, μ' N = none ↔ H'.get N = none) (hd : ∀ N, μ' N = some .dead ↔ H'.get N = some .dead)
    (hl : ∀ N b off esz csz, μ' N = some (.live b off esz csz) → (μ N = some (.live b off esz csz) ∧ H'.get N = H.get N ∧ w'.heap[b]? = w.heap[b]?) ∨ ∃ o, H'.get N = some o ∧ OR P μ' w' b off esz csz o)
    (inj : ∀ N M b off esz csz off' esz' csz', μ' N = some (.live b off esz csz) → μ' M = some (.live b off' esz' csz') → N = M)
    (hx : ∀ N, H'.next ≤ N → H'.get N = none) (hz : H'.get 0 = some .dead) : HR P μ' H' w' where
  none_iff := hn
  dead_iff := hd
  live := fun N b off esz csz hN => by
    rcases hl N b off esz csz hN with ⟨h1, h2, h3⟩ | h1
    · obtain ⟨o, ho, hor⟩ := h.live N b off esz csz h1
      exact ⟨o, h2.trans ho, hor.mono hst.keep h3 hst.size hst.evo⟩
    · exact h1
  inj := inj
  next := hx
  zero := hz

/-- A live block lies in the model's memory. -/
theorem OR.lt {b off esz csz : Nat} {o : AObj} (h : OR P μ w b off esz csz o) : b < w.heap.size := by
  have : ∀ x : Obj, w.heap[b]? = some x → b < w.heap.size := fun x hx => (Array.getElem?_eq_some_iff.1 hx).1
  cases o with
  | dead => exact h.elim
  | cells c e ro => obtain ⟨h1, cs, ty, lo, hi, h2, _⟩ := h; exact this _ h2
  | map es => obtain ⟨fs, clock, h1, _⟩ := h; exact this _ h1
  | iter m n over => obtain ⟨h0, m', since, seen, stepped, h1, h2⟩ := h; exact this _ h1
  | loop r => obtain ⟨q, h1, h2⟩ := h; exact this _ h1

theorem HR.lt (h : HR P μ H w) {N b off esz csz : Nat} (hN : μ N = some (.live b off esz csz)) : b < w.heap.size := by
  obtain ⟨o, _, hor⟩ := h.live N b off esz csz hN
  exact hor.lt

end Go.Eng

/- Part EngQ. -/
namespace Go.Eng
open Go

variable {P : Program} {μ μ' : Mu} {H H' : AHeap} {w w' : World}

def putM (μ : Mu) (N : Nat) (s : BSt) : Mu := fun M => if M = N then some s else μ M

theorem putM_keep {N : Nat} {s : BSt} (h : μ N = none) : Keep μ (putM μ N s) := ⟨fun M t ht => by
  by_cases e : M = N
  · subst e; rw [h] at ht; cases ht
  · left; simp [putM, e, ht]⟩

theorem alloc_new (o : Obj) : (w.alloc o).heap[w.heap.size]? = some o := by
  show (w.heap.push o)[w.heap.size]? = some o
  simp
theorem alloc_old (o : Obj) {b : Nat} (h : b < w.heap.size) : (w.alloc o).heap[b]? = w.heap[b]? := by
  show (w.heap.push o)[b]? = _
  rw [Array.getElem?_push, if_neg (by omega)]

theorem step_alloc (h : HR P μ H w) {N : Nat} (hN : H.get N = none) (o : Obj) (esz csz : Nat) : Step μ w (putM μ N (.live w.heap.size 0 esz csz)) (w.alloc o) where
  keep := putM_keep ((h.none_iff N).2 hN)
  img := fun M b off e c hM => by
    by_cases e : M = N
    · simp [putM, e] at hM; exact .inr (by omega)
    · simp [putM, e] at hM; exact .inl ⟨_, _, _, _, hM⟩
  size := by simp
  evo := fun b hb => by rw [alloc_old o hb]; exact .same _
  frame := fun b hb _ => alloc_old o hb
  tape := rfl
  os := rfl
  output := rfl

theorem HR.alloc (h : HR P μ H w) {N : Nat} (hN : H.get N = none) {o : AObj} {ob : Obj} {esz csz n' : Nat} (hor : OR P (putM μ N (.live w.heap.size 0 esz csz)) (w.alloc ob) w.heap.size 0 esz csz o) (hod : o ≠ .dead)
    (hn' : N < n') (hle : H.next ≤ n') : HR P (putM μ N (.live w.heap.size 0 esz csz)) ⟨H.tr.set N (some o), n'⟩ (w.alloc ob) := by
  have hg : ∀ M, (⟨H.tr.set N (some o), n'⟩ : AHeap).get M = if M = N then some o else H.get M := fun M => Tr.get_set _ _ _ _
  refine h.next_step (step_alloc h hN ob esz csz) ?_ ?_ ?_ ?_ ?_ ?_
  · intro M; rw [hg]
    by_cases e : M = N
    · simp [putM, e]
    · simp [putM, e, h.none_iff]
  · intro M; rw [hg]
    by_cases e : M = N
    · simp [putM, e]; exact fun e' => hod e'
    · simp [putM, e, h.dead_iff]
  · intro M b off e c hM
    by_cases e' : M = N
    · subst e'
      simp [putM] at hM
      obtain ⟨rfl, rfl, rfl, rfl⟩ := hM
      exact .inr ⟨o, by rw [hg]; simp, hor⟩
    · simp [putM, e'] at hM
      exact .inl ⟨hM, by rw [hg]; simp [e'], alloc_old ob (h.lt hM)⟩
  · intro M M' b off e c off' e2 c' h1 h2
    by_cases a1 : M = N
    · by_cases a2 : M' = N
      · omega
      · simp [putM, a1] at h1; simp [putM, a2] at h2
        have := h.lt h2; omega
    · by_cases a2 : M' = N
      · simp [putM, a1] at h1; simp [putM, a2] at h2
        have := h.lt h1; omega
      · simp [putM, a1] at h1; simp [putM, a2] at h2
        exact h.inj _ _ _ _ _ _ _ _ _ h1 h2
  · intro M hM
    have hM : n' ≤ M := hM
    rw [hg, if_neg (by omega)]; exact h.next M (by omega)
  · rw [hg]
    by_cases e : 0 = N
    · subst e; rw [h.zero] at hN; cases hN
    · rw [if_neg e]; exact h.zero

theorem addrR_new {N n esz csz : Nat} : AddrR (putM μ N (.live n 0 esz csz)) ⟨N, 0, none⟩ ⟨n, 0, none⟩ :=
  ⟨rfl, rfl, .live n 0 esz csz, by simp [putM], fun b off e c h => by cases h; exact ⟨rfl, rfl⟩⟩

/-- A block of cells is laid. -/
theorem HR.allocCells (h : HR P μ H w) {N : Nat} (hN : H.get N = none) {c : List Value} {cs : Array Value} {ty : TypeId} {esz n' : Nat} (hl : c.length ≤ cs.size) (hr : VRs μ c (cs.toList.take c.length))
    (hn' : N < n') (hle : H.next ≤ n') : HR P (putM μ N (.live w.heap.size 0 esz cs.size)) ⟨H.tr.set N (some (.cells c esz false)), n'⟩ (w.alloc (.cells cs ty)) :=
  h.alloc hN (o := .cells c esz false) ⟨rfl, cs, ty, 0, 0, alloc_new _, rfl, fun _ => ⟨rfl, rfl⟩, by omega, by simpa using hr.mono (putM_keep ((h.none_iff N).2 hN))⟩ (by intro e; cases e) hn' hle

structure AllocR (P : Program) (μ : Mu) (H : AHeap) (w : World) (a : Act) (o : Oper) (N n' : Nat) (ob : AObj) (r : Ref) (μ' : Mu) (w' : World) (v' : Value) : Prop where
  run : (execOp a.eval o).run P w = .ok (.value v') w'
  val : VR μ' (r.at N) v'
  hr : HR P μ' ⟨H.tr.set N (some ob), n'⟩ w'
  step : Step μ w μ' w'
  mu : ∃ esz csz, μ' = putM μ N (.live w.heap.size 0 esz csz)
  old : ∀ b, b < w.heap.size → w'.heap[b]? = w.heap[b]?

theorem repl_eq (z : List Value) : ∀ (n : Nat), 1 ≤ z.length → repl n z = ((Array.range (n * z.length)).map fun i => z.toArray[i % z.toArray.size]!).toList
  | 0, _ => by simp [repl]
  | n + 1, h => by
    rw [repl, repl_eq z n h]
    apply List.ext_getElem
    · simp [Nat.add_mul]; omega
    · intro i h1 h2
      have hm : ∀ j, z.toArray[j % z.toArray.size]! = z[j % z.length]'(Nat.mod_lt _ (by omega)) := by
        intro j
        rw [getElem!_pos z.toArray (j % z.toArray.size) (by simp; exact Nat.mod_lt _ (by omega))]
        simp
      simp only [List.getElem_append, Array.getElem_toList, Array.getElem_map, Array.getElem_range, hm]
      by_cases hi : i < z.length
      · simp [hi, Nat.mod_eq_of_lt hi]
      · simp only [hi, dite_false]
        have hge : z.length ≤ i := by omega
        congr 1
        conv => rhs; rw [← Nat.sub_add_cancel hge, Nat.add_mod_right]

theorem repl_length (z : List Value) : ∀ n, (repl n z).length = n * z.length
  | 0 => by simp [repl]
  | n + 1 => by simp [repl, repl_length z n, Nat.add_mul]; omega

theorem repl_closed {z : List Value} (h : VRs μ z z) : ∀ n, VRs μ (repl n z) (repl n z)
  | 0 => .nil
  | n + 1 => h.append (repl_closed h n)

theorem cBin_kd {op : BinOp} {t : TypeId} {x y : Operand} {i : Ins} (hc : cBin P op t x y = some i) : i.kd = .pure ∨ i.kd = .read := by
  simp only [cBin, bind, Option.bind_eq_some_iff] at hc
  obtain ⟨rx, hx, ry, hy, hc⟩ := hc
  have iseq : ∀ neg : Bool,
      (match P.underlying t with
      | some (.int _) => some (Ins.bin op rx ry)
      | some .bool => some (.eqb neg rx ry)
      | some (.pointer e) => match szOf P e with | some (_ + 1) => some (.eqp neg rx ry) | _ => none
      | some (.slice _) => some (.eqn neg 0 rx ry)
      | some (.map ..) => some (.eqn neg 1 rx ry)
      | some (.func ..) => some (.eqn neg 2 rx ry)
      | some (.struct _) | some (.array ..) => bif flats P 50 t && !(P.eqGuardType P.depth t) then do pure (.eqa neg (← szOf P t) rx ry) else none
      | _ => none) = some i → i.kd = .pure ∨ i.kd = .read := by
    intro neg he
    have agg : (bif flats P 50 t && !(P.eqGuardType P.depth t) then (do pure (.eqa neg (← szOf P t) rx ry) : Option Ins) else none) = some i → i.kd = .pure ∨ i.kd = .read := by
      intro he
      cases hb : (flats P 50 t && !(P.eqGuardType P.depth t)) with
      | false => rw [hb] at he; cases he
      | true =>
        rw [hb] at he
        simp only [cond_true, bind, Option.bind_eq_some_iff, pure, Option.some.injEq] at he
        obtain ⟨n, hn, rfl⟩ := he
        exact .inl rfl
    split at he
    · cases he; exact .inl rfl
    · cases he; exact .inl rfl
    · split at he
      · cases he; exact .inr rfl
      · cases he
    · cases he; exact .inl rfl
    · cases he; exact .inl rfl
    · cases he; exact .inl rfl
    · exact agg he
    · exact agg he
    · cases he
  cases op
  case eql => exact iseq false hc
  case neq => exact iseq true hc
  all_goals (cases hc; exact .inl rfl)

theorem cBuiltin_kd {b : Builtin} {ts : Array TypeId} {args : List Rv} {i : Ins} (hc : cBuiltin P b ts args = some i) : i.kd ≠ .alloc := by
  unfold cBuiltin at hc
  split at hc
  · split at hc
    · cases hc; simp [Ins.kd]
    · cases hc; simp [Ins.kd]
    · cases hc; simp [Ins.kd]
    · split at hc
      · cases hc; simp [Ins.kd]
      · cases hc
    · cases hc
  · split at hc
    · cases hc; simp [Ins.kd]
    · cases hc
  · split at hc
    · simp only [bind, Option.bind_eq_some_iff, pure, Option.some.injEq] at hc
      obtain ⟨_, _, _, _, rfl⟩ := hc
      simp [Ins.kd]
    · cases hc
  · split at hc
    · simp only [bind, Option.bind_eq_some_iff, pure, Option.some.injEq] at hc
      obtain ⟨_, _, rfl⟩ := hc
      simp [Ins.kd]
    · cases hc
  · split at hc
    · simp only [bind, Option.bind_eq_some_iff, pure, Option.some.injEq] at hc
      obtain ⟨_, _, rfl⟩ := hc
      simp [Ins.kd]
    · cases hc
  · cases hc; simp [Ins.kd]
  · cases hc; simp [Ins.kd]
  · cases hc

theorem alloc_sim {a : Act} {σ : List Value} {o : Oper} {i : Ins} {ob : AObj} {r : Ref} (hc : cOp P o = some i) (hk : i.kd = .alloc) (hv : allocI σ i = some (ob, r)) (hσ : VRs μ σ a.tmps.toList) (hH : HR P μ H w)
    {N n' : Nat} (hN : H.get N = none) (hn' : N < n') (hle : H.next ≤ n') : ∃ μ' w' v', AllocR P μ H w a o N n' ob r μ' w' v' := by
  have hμN := (hH.none_iff N).2 hN
  cases hop : o.op <;> simp only [cOp, hop, bind, Option.bind_eq_some_iff, pure, Option.some.injEq] at hc
  case alloc t =>
    obtain ⟨z, hz, rfl⟩ := hc
    simp only [allocI, Option.some.injEq, Prod.mk.injEq] at hv
    obtain ⟨rfl, rfl⟩ := hv
    obtain ⟨it, zv, hit, hzv, hcl, rfl, hlen⟩ := zero_inv hz
    refine ⟨_, _, _, ⟨?_, .ptr addrR_new, hH.allocCells (cs := zv.cells) (ty := t) hN (by simp) (by rw [Array.length_toList, List.take_of_length_le (by simp)]; exact .closed hcl) hn' hle, step_alloc hH hN _ _ _, ⟨_, _, rfl⟩, fun b hb => alloc_old _ hb⟩⟩
    simp only [execOp, hop]
    refine ?_
    simp [Instr.alloc, run_zero hit hzv, newVar, newRow]
  case box t x =>
    obtain ⟨rx, hx, rfl⟩ := hc
    simp only [allocI, Option.some.injEq, Prod.mk.injEq] at hv
    obtain ⟨rfl, rfl⟩ := hv
    have hX := (rv_sim hx hσ).cells
    have hlx := hX.length
    refine ⟨_, _, _, ⟨?_, .ptr addrR_new, hH.allocCells (cs := (a.eval x).cells) (ty := t) hN (by simpa using Nat.le_of_eq hlx) (by rw [hlx, List.take_of_length_le (by simp)]; exact hX) hn' hle, step_alloc hH hN _ _ _, ⟨_, _, rfl⟩, fun b hb => alloc_old _ hb⟩⟩
    simp only [execOp, hop]
    simp [Instr.box, newVar, newRow]
  case buildSlice t len parts =>
    split at hc
    · rename_i e hu
      simp only [Option.bind_eq_some_iff] at hc
      obtain ⟨z, hz, ps, hps, hc⟩ := hc
      obtain ⟨hb, rfl⟩ := bif_some hc
      simp only [Bool.and_eq_true] at hb
      have hb1 := Nat.le_of_ble_eq_true hb.1
      have hb2 := Nat.le_of_ble_eq_true hb.2
      simp only [allocI, Option.map_eq_some_iff, Prod.mk.injEq] at hv
      obtain ⟨l, hl, rfl, rfl⟩ := hv
      obtain ⟨it, zv, hit, hzv, hcl, hzc, hlen⟩ := zero_inv hz
      have hzr : VRs μ z z := by rw [hzc]; exact .closed hcl
      have hsz : szOf P e = some z.length := by simp [szOf, hit, hlen]
      have hcells : ((Array.range (len * z.length)).map fun i => zv.cells[i % zv.cells.size]!) = (repl len z).toArray := by
        apply Array.ext'
        rw [repl_eq z len hb2, hzc]
      obtain ⟨l', hl', hr⟩ := fill_sim hσ (fun k => some (k * z.length, z.length)) parts.toList ps (repl len z) (repl len z).toArray l hps (by simpa using repl_closed hzr len) hl
      have hll := hr.length
      refine ⟨_, _, _, ⟨?_, .slice addrR_new (fun _ => rfl) (fun hB => ?_), hH.allocCells (cs := l') (ty := e) (esz := z.length) hN (by simpa using Nat.le_of_eq hll) (by rw [hll, List.take_of_length_le (by simp)]; exact hr) hn' hle, step_alloc hH hN _ _ _, ⟨_, _, rfl⟩, fun b hb => alloc_old _ hb⟩⟩
      · have hnz : ¬ (len * z.length > 2 ^ 24) := by omega
        have hl2 : Instr.fill (fun i => some (i * z.length, z.length)) (repl len z).toArray (parts.map fun p => (p.1, a.eval p.2)).toList = some l' := by simpa using hl'
        simp only [execOp, hop]
        by_cases h0 : len * z.length = 0
        · have hlen0 : len = 0 := by
            rcases Nat.mul_eq_zero.1 h0 with h | h
            · exact h
            · omega
          subst hlen0
          have h00 : ∀ f : Nat → Value, (Array.range (0 * z.length)).map f = (repl 0 z).toArray := fun f => by simp [repl]
          simp only [Instr.buildSlice, Sem.run_bind, run_underlying hu, Result.andThen_ok, run_size hsz, if_neg hnz, if_pos h0, Sem.run_pure, h00, hl2, newRow, run_newObj, World.alloc_eq]
        · simp only [Instr.buildSlice, Sem.run_bind, run_underlying hu, Result.andThen_ok, run_size hsz, if_neg hnz, if_neg h0, run_zero hit hzv, Sem.run_pure, hcells, hl2, newRow, run_newObj, World.alloc_eq]
      · exfalso
        have hle : len ≤ len * z.length := Nat.le_mul_of_pos_right _ (by omega)
        unfold BIG at hB; omega
    · cases hc
  case makeMap t q =>
    split at hc
    · cases hc
      simp only [allocI, Option.some.injEq, Prod.mk.injEq] at hv
      obtain ⟨rfl, rfl⟩ := hv
      refine ⟨putM μ N (.live w.heap.size 0 0 0), w.alloc (.map #[] 0), .map (some w.heap.size), ⟨?_, .map ⟨.live w.heap.size 0 0 0, by simp [putM], fun b off e c h => by cases h; rfl⟩, ?_, step_alloc hH hN _ _ _, ⟨_, _, rfl⟩, fun b hb => alloc_old _ hb⟩⟩
      · simp only [execOp, hop]
        simp [Instr.makeMap]
      · exact hH.alloc hN (o := .map []) ⟨#[], 0, alloc_new _, ⟨.nil, .nil⟩, fun f hf => by simp at hf⟩ (by intro e; cases e) hn' hle
    · cases hc
  case makeSlice t ol oc =>
    split at hc
    · rename_i e hu
      simp only [Option.bind_eq_some_iff] at hc
      obtain ⟨z, hz, it, hit, rl, hrl, rc, hrc, hc⟩ := hc
      obtain ⟨hb, rfl⟩ := bif_some hc
      have hb2 := Nat.le_of_ble_eq_true hb
      have hL := rv_sim hrl hσ
      have hC := rv_sim hrc hσ
      simp only [allocI] at hv
      split at hv
      · rename_i k1 l k2 c e1 e2
        rw [e1] at hL; rw [e2] at hC
        split at hv
        · rename_i hcond
          obtain ⟨c1, c2, c3, c4⟩ := hcond
          simp only [Option.some.injEq, Prod.mk.injEq] at hv
          obtain ⟨rfl, rfl⟩ := hv
          have hl' := hL.int_inv
          have hc' := hC.int_inv
          obtain ⟨it', zv, hit', hzv, hcl, hzc, hlen⟩ := zero_inv hz
          rw [hit] at hit'; cases hit'
          have hzr : VRs μ z z := by rw [hzc]; exact .closed hcl
          have hsz : szOf P e = some z.length := by simp [szOf, hit, hlen]
          have hcells : ((Array.range (c.toNat * z.length)).map fun i => zv.cells[i % zv.cells.size]!) = (repl c.toNat z).toArray := by
            apply Array.ext'
            rw [repl_eq z c.toNat hb2, hzc]
          have w1 : IntKind.i64.wrap l = l := by
            have h1 : l % (2 ^ 64 : Int) = l := Int.emod_eq_of_lt c1 (by omega)
            simp [IntKind.wrap, IntKind.bits, IntKind.signed]; omega
          have w2 : IntKind.i64.wrap c = c := by
            have h1 : c % (2 ^ 64 : Int) = c := Int.emod_eq_of_lt (by omega) (by omega)
            simp [IntKind.wrap, IntKind.bits, IntKind.signed]; omega
          refine ⟨_, _, .slice (some ⟨w.heap.size, 0, none⟩) l.toNat c.toNat, ⟨?_, .slice addrR_new (fun _ => rfl) (fun hB => ?_), hH.allocCells (cs := (repl c.toNat z).toArray) (ty := e) (esz := z.length) hN (by simp) (by rw [List.take_of_length_le (by simp)]; simpa using repl_closed hzr _) hn' hle, step_alloc hH hN _ _ _, ⟨_, _, rfl⟩, fun b hb => alloc_old _ hb⟩⟩
          · simp only [execOp, hop, hl', hc']
            have t1 : ¬ (c < 0 ∨ (it.bytes : Int) * c > 2 ^ 48) := by omega
            have hbig : (decide (c < 0 ∨ (it.bytes : Int) * c > 2 ^ 48) || decide (l < 0) || decide (l > c)) = false := by
              simp only [Bool.or_eq_false_iff, decide_eq_false_iff_not]
              refine ⟨⟨t1, by omega⟩, by omega⟩
            by_cases h0 : c.toNat * z.length = 0
            · have hc0 : c.toNat = 0 := by
                rcases Nat.mul_eq_zero.1 h0 with h | h
                · exact h
                · omega
              have : c = 0 := by omega
              subst this
              have : l = 0 := by omega
              subst this
              have h00 : ∀ f : Nat → Value, (Array.range 0).map f = #[] := fun f => by simp
              simp [Instr.makeSlice, run_underlying hu, asInt, asIntOf, typeInfo, hit, w1, run_size hsz, newRow, repl, h00]
            · simp only [Instr.makeSlice, Sem.run_bind, run_underlying hu, Result.andThen_ok, asInt, asIntOf, Sem.run_pure, typeInfo, run_program, hit, w1, w2, newRow]
              rw [if_neg (by simpa using hbig)]
              simp only [run_askRoom, Result.andThen_ok, Sem.run_pure, Sem.run_bind, run_size hsz, if_neg h0, run_zero hit hzv, hcells, run_newObj, World.alloc_eq]
          · exfalso
            unfold BIG at hB; omega
        · cases hv
      · cases hv
    · cases hc
  case move x => obtain ⟨r, hr, rfl⟩ := hc; cases hk
  case assign x => obtain ⟨r, hr, rfl⟩ := hc; cases hk
  case pick c x y => obtain ⟨rc, hrc, rx, hrx, ry, hry, rfl⟩ := hc; cases hk
  case build t parts => obtain ⟨z, hz, ps, hp, rfl⟩ := hc; cases hk
  case store t x y => obtain ⟨_, _, _, _, _, _, rfl⟩ := hc; cases hk
  case nilCheck x => obtain ⟨r, hr, rfl⟩ := hc; cases hk
  case unOp op t x => obtain ⟨r, hr, rfl⟩ := hc; cases hk
  case convert s d x =>
    split at hc
    · simp only [Option.bind_eq_some_iff, Option.some.injEq] at hc
      obtain ⟨r, hr, rfl⟩ := hc
      cases hk
    · cases hc
  case sliceToArrayPointer t x =>
    split at hc
    · simp only [Option.bind_eq_some_iff, Option.some.injEq] at hc
      obtain ⟨r, hr, rfl⟩ := hc
      cases hk
    · cases hc
  case makeFunc fn first cap =>
    split at hc
    · simp only [Option.bind_eq_some_iff, Option.some.injEq] at hc
      obtain ⟨r1, h1, r2, h2, rfl⟩ := hc
      cases hk
    · cases hc
  case fieldAddr t x k =>
    split at hc
    · simp only [Option.bind_eq_some_iff] at hc
      obtain ⟨f, hf, s, hs, hc⟩ := hc
      split at hc
      · cases hc
      · simp only [Option.bind_eq_some_iff, Option.some.injEq] at hc
        obtain ⟨r, hr, rfl⟩ := hc
        cases hk
    · cases hc
  case field t x k =>
    split at hc
    · simp only [Option.bind_eq_some_iff, Option.some.injEq] at hc
      obtain ⟨_, _, _, _, _, _, _, _, rfl⟩ := hc
      cases hk
    · cases hc
  case indexAddr t x k =>
    split at hc
    · simp only [Option.bind_eq_some_iff, Option.some.injEq] at hc
      obtain ⟨_, _, _, _, _, _, rfl⟩ := hc
      cases hk
    · simp only [Option.bind_eq_some_iff, Option.some.injEq] at hc
      obtain ⟨_, _, _, _, _, _, rfl⟩ := hc
      cases hk
    · cases hc
  case index t x k =>
    split at hc
    · simp only [Option.bind_eq_some_iff, Option.some.injEq] at hc
      obtain ⟨_, _, _, _, _, _, _, _, rfl⟩ := hc
      cases hk
    · split at hc
      · simp only [Option.bind_eq_some_iff, Option.some.injEq] at hc
        obtain ⟨_, _, rfl⟩ := hc
        cases hk
      · cases hc
    · cases hc
  case mapUpdate t x k y =>
    split at hc
    · simp only [Option.bind_eq_some_iff] at hc
      obtain ⟨_, _, _, _, _, _, _, _, hc⟩ := hc
      obtain ⟨_, rfl⟩ := bif_some hc
      cases hk
    · cases hc
  case range t x =>
    split at hc
    · simp only [Option.bind_eq_some_iff, Option.some.injEq] at hc
      obtain ⟨_, _, rfl⟩ := hc
      cases hk
    · cases hc
  case next x s =>
    cases s <;> simp only [cond_true, cond_false, Option.bind_eq_some_iff, Option.some.injEq, reduceCtorEq] at hc
    obtain ⟨_, _, rfl⟩ := hc
    cases hk
  case extract x k =>
    obtain ⟨r, hr, rfl⟩ := hc
    cases hk
  case load t x =>
    obtain ⟨r, hr, b, hb, n, hn, hc⟩ := hc
    cases b <;> simp only [cond_true, cond_false, Option.some.injEq] at hc <;> subst hc <;> cases hk
  case binOp op t x y yt =>
    rcases cBin_kd hc with h | h <;> rw [h] at hk <;> cases hk
  case slice t x lo hi mx =>
    cases hmx : (mx.isSome && hi.isNone) with
    | true => rw [hmx] at hc; cases hc
    | false =>
      rw [hmx] at hc
      simp only [cond_false] at hc
      split at hc
      · simp only [Option.bind_eq_some_iff, Option.some.injEq] at hc
        obtain ⟨_, _, _, _, _, _, _, _, _, _, rfl⟩ := hc
        cases hk
      · simp only [Option.bind_eq_some_iff, Option.some.injEq] at hc
        obtain ⟨_, _, _, _, _, _, _, _, _, _, rfl⟩ := hc
        cases hk
      · split at hc
        · simp only [Option.bind_eq_some_iff, Option.some.injEq] at hc
          obtain ⟨_, _, _, _, _, _, _, _, _, _, rfl⟩ := hc
          cases hk
        · cases hc
      · cases hc
  case lookup t x k ok =>
    split at hc
    · simp only [Option.bind_eq_some_iff] at hc
      obtain ⟨_, _, _, _, _, _, _, _, _, _, hc⟩ := hc
      obtain ⟨_, rfl⟩ := bif_some hc
      cases hk
    · cases hc
  case entry x => obtain ⟨r, hr, rfl⟩ := hc; cases hk
  case call c =>
    split at hc
    · simp only [Option.bind_eq_some_iff, Option.some.injEq] at hc
      obtain ⟨_, _, _, _, rfl⟩ := hc
      cases hk
    · simp only [Option.bind_eq_some_iff] at hc
      obtain ⟨args, hargs, hc⟩ := hc
      exact absurd hk (cBuiltin_kd hc)
    · cases hc
  all_goals cases hc

end Go.Eng

/- Part EngR. -/
namespace Go.Eng
open Go

variable {P : Program} {μ μ' : Mu} {H H' : AHeap} {w w' : World}

theorem splice_get {c xs : List Value} {o : Nat} (ho : o + xs.length ≤ c.length) (i : Nat) :
    (c.take o ++ xs ++ c.drop (o + xs.length))[i]? = if i < o then c[i]? else if i < o + xs.length then xs[i - o]? else c[i]? := by
  have h1 : (c.take o).length = o := by simp; omega
  by_cases a : i < o
  · simp only [a, if_true]
    rw [List.append_assoc, List.getElem?_append_left (by omega), List.getElem?_take_of_lt a]
  · simp only [a, if_false]
    by_cases b : i < o + xs.length
    · simp only [b, if_true]
      rw [List.getElem?_append_left (by simp; omega), List.getElem?_append_right (by omega), h1]
    · simp only [b, if_false]
      rw [List.getElem?_append_right (by simp; omega), List.getElem?_drop]
      congr 1; simp; omega

theorem HR.set_self (h : HR P μ H w) {N b off esz csz : Nat} {o : AObj} (hN : μ N = some (.live b off esz csz)) (hst : Step μ w μ w') (hor : OR P μ w' b off esz csz o) (hod : o ≠ .dead)
    (hot : ∀ c, c ≠ b → w'.heap[c]? = w.heap[c]?) : HR P μ (H.set N o) w' := by
  have hg : ∀ M, (H.set N o).get M = if M = N then some o else H.get M := fun M => AHeap.get_set _ _ _ _
  have hne : H.get N ≠ none := fun e => by rw [(h.none_iff N).2 e] at hN; cases hN
  refine h.next_step hst ?_ ?_ ?_ h.inj ?_ ?_
  · intro M; rw [hg]
    by_cases e : M = N
    · subst e; simp [hN]
    · simp [e, h.none_iff]
  · intro M; rw [hg]
    by_cases e : M = N
    · subst e; simp [hN]; exact hod
    · simp [e, h.dead_iff]
  · intro M b' off' e' c' hM
    by_cases e : M = N
    · subst e
      rw [hN] at hM; cases hM
      exact .inr ⟨o, by rw [hg]; simp, hor⟩
    · refine .inl ⟨hM, by rw [hg]; simp [e], hot b' fun eb => ?_⟩
      subst eb
      exact e (h.inj _ _ _ _ _ _ _ _ _ hM hN)
  · intro M hM
    rw [hg]
    by_cases e : M = N
    · subst e; exact absurd (h.next M hM) hne
    · rw [if_neg e]; exact h.next M hM
  · rw [hg]
    by_cases e : 0 = N
    · subst e; rw [(h.dead_iff 0).2 h.zero] at hN; cases hN
    · rw [if_neg e]; exact h.zero

theorem step_set {b : Nat} (hb : ∃ N off esz csz, μ N = some (.live b off esz csz)) (hs : w'.heap.size = w.heap.size) (hot : ∀ c, c ≠ b → w'.heap[c]? = w.heap[c]?) (he : Evo w.heap[b]? w'.heap[b]?)
    (ht : w'.tape = w.tape) (ho : w'.os = w.os) (hu : w'.output = w.output) : Step μ w μ w' where
  keep := .refl μ
  img := fun _ _ _ _ _ h => .inl ⟨_, _, _, _, h⟩
  size := by omega
  evo := fun c _ => by
    by_cases e : c = b
    · rw [e]; exact he
    · rw [hot c e]; exact .same _
  frame := fun c _ hn => by
    refine hot c fun e => ?_
    subst e
    obtain ⟨N, off, esz, csz, h⟩ := hb
    exact hn _ _ _ _ h
  tape := ht
  os := ho
  output := hu

theorem VRs.cells1 : ∀ {xs xs' : List Value}, VRs μ xs xs' → xs.all isCell = true → ∀ v ∈ xs', v.oneCell' = true
  | _, _, .nil, _, v, hv => by cases hv
  | _, _, .cons h t, hall, v, hv => by
    simp only [List.all_cons, Bool.and_eq_true] at hall
    rcases List.mem_cons.1 hv with rfl | hv
    · rw [h.isCell]; exact hall.1
    · exact t.cells1 hall.2 v hv

/-- Cells are written. -/
theorem store_sim (hH : HR P μ H w) {a a' : Addr} {xs xs' : List Value} (hs : storeAt H a xs = some H') (ha : AddrR μ a a') (hx : VRs μ xs xs') :
    ∃ w', (storeCells a' xs').run P w = .ok () w' ∧ HR P μ H' w' ∧ Step μ w μ w' := by
  unfold storeAt at hs
  split at hs
  · cases hs; cases hx
    exact ⟨w, by simp [storeCells], hH, .refl _ _⟩
  · split at hs
    · rename_i c esz ho
      cases hok : (okAddr a && xs.all isCell) with
      | false => rw [hok] at hs; cases hs
      | true =>
        rw [hok] at hs
        simp only [cond_true, Option.map_eq_some_iff] at hs
        obtain ⟨c', hc', rfl⟩ := hs
        simp only [Bool.and_eq_true] at hok
        obtain ⟨hle, rfl⟩ := splice_eq hc'
        obtain ⟨b, off, esz', csz, hm, he, cs, ty, lo, hi, hw, hsz, hro, hle2, hvs⟩ := hH.find ho (by intro e; cases e)
        obtain ⟨rfl, rfl⟩ := hro rfl
        obtain ⟨_, hsp, s, hs', hl⟩ := ha
        rw [hm] at hs'; cases hs'
        obtain ⟨hb, hoff⟩ := hl _ _ _ _ rfl
        have ha' : a' = ⟨b, off + a.off, none⟩ := by
          obtain ⟨p, q, r⟩ := a'; simp only at hsp hb hoff; subst hsp; subst hb; subst hoff; rfl
        subst ha'
        have hlx := hx.length
        have hrun := run_storeCells_at P b (off + a.off) ty xs' 0 cs w hw (by omega) (hx.cells1 hok.2)
        simp only [Nat.add_zero] at hrun
        have hnew := setRow_heap w b cs (cs.toList.take (off + a.off) ++ xs' ++ cs.toList.drop (off + a.off + xs'.length)).toArray ty (0, 0) hw
        have hst : Step μ w μ (w.setRow b (cs.toList.take (off + a.off) ++ xs' ++ cs.toList.drop (off + a.off + xs'.length)).toArray) :=
          step_set ⟨_, _, _, _, hm⟩ (by simp) (fun c hc => setRow_other w b c _ hc) (by rw [hnew, hw]; exact .cells ..) rfl rfl rfl
        refine ⟨_, hrun, ?_, hst⟩
        refine hH.set_self hm hst ⟨he, _, ty, 0, 0, hnew, ?_, fun _ => ⟨rfl, rfl⟩, ?_, ?_⟩ (by intro e; cases e) (fun c hc => setRow_other w b c _ hc)
        · simp; omega
        · simp; omega
        · refine .of_get (by simp; omega) fun i x y hxi hyi => ?_
          have hclen : (c.take a.off ++ xs ++ c.drop (a.off + xs.length)).length = c.length := by simp; omega
          have hi : i < c.length := by rw [← hclen]; exact (List.getElem?_eq_some_iff.1 hxi).1
          rw [splice_get hle] at hxi
          rw [hclen, List.getElem?_take_of_lt hi, List.getElem?_drop] at hyi
          rw [splice_get (by simp; omega)] at hyi
          by_cases c1 : i < a.off
          · rw [if_pos c1] at hxi
            rw [if_pos (by omega)] at hyi
            obtain ⟨y', h1, h2⟩ := hvs.get i hxi
            rw [List.getElem?_take_of_lt hi, List.getElem?_drop, hyi] at h1
            cases h1; exact h2
          · rw [if_neg c1] at hxi
            rw [if_neg (by omega)] at hyi
            by_cases c2 : i < a.off + xs.length
            · rw [if_pos c2] at hxi
              rw [if_pos (by omega), show off + i - (off + a.off) = i - a.off by omega] at hyi
              obtain ⟨y', h1, h2⟩ := hx.get _ hxi
              rw [hyi] at h1; cases h1; exact h2
            · rw [if_neg c2] at hxi
              rw [if_neg (by omega)] at hyi
              obtain ⟨y', h1, h2⟩ := hvs.get i hxi
              rw [List.getElem?_take_of_lt hi, List.getElem?_drop, hyi] at h1
              cases h1; exact h2
    · cases hs

/-- The cells of a source. -/
theorem src_sim (hH : HR P μ H w) {base : Option Addr} {n size len cap len' cap' : Nat} {xs : List Value} {base' : Option Addr} (hs : srcCells H base (n * size) = some xs) (hb : VR μ (.slice base len cap) (.slice base' len' cap')) :
    ∃ xs', VRs μ xs xs' ∧ xs'.length = n * size ∧ (Builtin.firstCells size n (.slice base' len' cap')).run P w = .ok xs'.toArray w := by
  unfold srcCells at hs
  cases base with
  | none =>
    obtain ⟨rfl, rfl, e⟩ := hb.nils_inv
    cases e
    simp only at hs
    obtain ⟨h0, rfl⟩ := bif_some hs
    have h0 := Nat.eq_of_beq_eq_true h0
    exact ⟨[], .nil, by simp [h0], by simp [Builtin.firstCells]⟩
  | some a =>
    obtain ⟨a', c', e, har, _⟩ := hb.slice_inv
    cases e
    simp only at hs
    cases h0 : Nat.beq (n * size) 0 with
    | true =>
      rw [h0] at hs; cases hs
      have h0 := Nat.eq_of_beq_eq_true h0
      exact ⟨[], .nil, by simp [h0], by simp [Builtin.firstCells, h0, loadCells, loadCellsFrom]⟩
    | false =>
      rw [h0] at hs
      obtain ⟨l', h1, h2, h3⟩ := hH.loadCells hs har
      exact ⟨l', h1, h2, by simp [Builtin.firstCells, h3]⟩

end Go.Eng

/- Part EngS. -/
namespace Go.Eng
open Go

variable {P : Program} {μ μ' : Mu} {H H' : AHeap} {w w' : World}

theorem growBy_le (need : Nat) : ∀ (r c : Nat), Builtin.growBy need r c ≤ max c (need + (need + 768) / 4)
  | 0, c => by simp [Builtin.growBy]; omega
  | r + 1, c => by
    unfold Builtin.growBy
    split
    · omega
    · have := growBy_le need r (c + (c + 768) / 4)
      omega

theorem nextcap_le {need c : Nat} (h : c < need) : Builtin.nextslicecap need c ≤ 2 * need + 1000 := by
  unfold Builtin.nextslicecap
  split
  · omega
  · split
    · omega
    · have := growBy_le need 4 c; omega

theorem HR.drew (h : HR P μ H w) : HR P μ H w.drew where
  none_iff := h.none_iff
  dead_iff := h.dead_iff
  live := fun N b off esz csz hN => by
    obtain ⟨o, ho, hor⟩ := h.live N b off esz csz hN
    exact ⟨o, ho, hor.mono (.refl _) rfl (Nat.le_refl _) fun _ _ => .same _⟩
  inj := h.inj
  next := h.next
  zero := h.zero

theorem Step.drew (μ : Mu) (w : World) : Step μ w μ w.drew :=
  ⟨.refl μ, fun _ _ _ _ _ h => .inl ⟨_, _, _, _, h⟩, Nat.le_refl _, fun _ _ => .same _, fun _ _ _ => rfl, rfl, rfl, rfl⟩

section
variable {t u e : TypeId} {us : TypeId} {ts : Array TypeId} {ty : TypeId} {i : TypeInfo} {z : Value} {size : Nat}

theorem run_app_in (ht : P.underlying t = some (.slice e)) (hu : P.underlying u = some (.slice us)) (hs : szOf P e = some size) {a : Addr} {len cap n : Nat} {x : Value} {new : List Value}
    (hl : (Builtin.lenOf x).run P w = .ok n w) (hf : (Builtin.firstCells size n x).run P w = .ok new.toArray w) (hst : (storeCells (a.add (len * size)) new).run P w = .ok () w') (hc : len + n ≤ cap) :
    (Builtin.append_ #[t, u] ty #[.slice (some a) len cap, x]).run P w = .ok (.slice (some a) (len + n) cap) w' := by
  simp [Builtin.append_, run_underlying ht, run_underlying hu, run_size hs, hl, hc, hf, hst]

theorem run_app_nil (ht : P.underlying t = some (.slice e)) (hu : P.underlying u = some (.slice us)) (hs : szOf P e = some size) {len cap n : Nat} {x : Value} {new : List Value}
    (hl : (Builtin.lenOf x).run P w = .ok n w) (hf : (Builtin.firstCells size n x).run P w = .ok new.toArray w) (hc : len + n ≤ cap) :
    (Builtin.append_ #[t, u] ty #[.slice none len cap, x]).run P w = .ok (.slice none (len + n) cap) w := by
  simp [Builtin.append_, run_underlying ht, run_underlying hu, run_size hs, hl, hc, hf]

theorem run_app_grow (ht : P.underlying t = some (.slice e)) (hu : P.underlying u = some (.slice us)) (hi : P.info? e = some i) (hz : i.zero = some z) (hzs : z.cells.size = i.size) {base : Option Addr} {len cap n : Nat} {x : Value} {old new : List Value}
    (hl : ∀ w, (Builtin.lenOf x).run P w = .ok n w) (hf : (Builtin.firstCells i.size n x).run P w.drew = .ok new.toArray w.drew) (hfo : (Builtin.firstCells i.size len (.slice base len cap)).run P w.drew = .ok old.toArray w.drew)
    (hc : cap < len + n) (hb : (2 * (len + n) + 1000) * i.bytes ≤ 281474976710656) (hn : len + n ≤ 1099511627776) :
    ∃ (nc : Nat) (rest : Array Value), len + n ≤ nc ∧ rest.size = (nc - (len + n)) * i.size ∧
      (Builtin.append_ #[t, u] ty #[.slice base len cap, x]).run P w = .ok (.slice (some ⟨w.heap.size, 0, none⟩) (len + n) nc) (w.drew.alloc (.cells (old.toArray ++ new.toArray ++ rest) e)) := by
  have hs : szOf P e = some i.size := by simp [szOf, hi]
  have hbig : ¬ (Builtin.nextslicecap (len + n) cap * i.bytes > 2 ^ 48) := by
    have h1 := nextcap_le hc
    have h2 := Nat.mul_le_mul_right i.bytes h1
    omega
  have hmax : ¬ (((len + n : Nat) : Int) > IntKind.i64.max ∧ i.bytes = 0) := by
    rintro ⟨h1, _⟩
    simp [IntKind.max, IntKind.signed, IntKind.bits] at h1
    omega
  refine ⟨(Question.appendCap (len + n) cap e).cut (w.tape w.drawn (Question.appendCap (len + n) cap e)), Builtin.zeroCells z.cells ((Question.appendCap (len + n) cap e).cut (w.tape w.drawn (Question.appendCap (len + n) cap e)) - (len + n)), ?_, ?_, ?_⟩
  · simp [Question.cut]
  · simp [Builtin.zeroCells, hzs]
  · have hti : ∀ w, (typeInfo e).run P w = .ok i w := fun w => by simp [typeInfo, hi]
    have hnc : ¬ (len + n ≤ cap) := by omega
    have hmax' : ¬ (IntKind.i64.max < ((len + n : Nat) : Int) ∧ i.bytes = 0) := hmax
    have hbig' : ¬ (2 ^ 48 < Builtin.nextslicecap (len + n) cap * i.bytes) := hbig
    simp only [Builtin.append_]
    simp only [List.getElem?_toArray, List.getElem?_cons_zero, List.getElem?_cons_succ, Sem.run_bind, run_underlying ht, run_underlying hu, run_size hs, Result.andThen_ok, Sem.run_pure, Bool.false_eq_true, if_false, hl, if_neg hnc, hti, false_or, gt_iff_lt]
    rw [if_neg hmax']
    simp only [Sem.run_bind, hti, Result.andThen_ok]
    rw [if_neg hbig']
    simp only [Sem.run_bind, hti, run_choose, Question.forced, Bool.false_eq_true, if_false, Result.andThen_ok, run_askRoom, World.drew_eq, hfo, hf, Bool.not_false, if_true, run_zero hi hz, newRow, run_newObj, World.alloc_eq, Sem.run_pure]
    rfl
end

end Go.Eng

/- Part EngT. -/
namespace Go.Eng
open Go

variable {P : Program} {μ μ' : Mu} {H H' : AHeap} {w w' : World}

/-- What an effect does in the model. -/
structure EffR (P : Program) (μ : Mu) (w : World) (a : Act) (o : Oper) (v : Value) (H' : AHeap) (μ' : Mu) (w' : World) (v' : Value) : Prop where
  run : (execOp a.eval o).run P w = .ok (.value v') w' ∨ ((execOp a.eval o).run P w = .ok .skip w' ∧ v' = undef)
  val : VR μ' v v'
  hr : HR P μ' H' w'
  step : Step μ w μ' w'

theorem add_mk {a : Addr} {b k : Nat} (h1 : a.spot = none) (h2 : a.block = b) (h3 : a.off = k) (n : Nat) : a.add n = ⟨b, k + n, none⟩ := by
  obtain ⟨p, q, r⟩ := a
  simp only at h1 h2 h3
  subst h1; subst h2; subst h3
  unfold Addr.add
  split
  · rename_i h; subst h; rfl
  · rfl

theorem skip_run {s : Sem Unit} {w w' : World} (h : s.run P w = .ok () w') : ((do s; pure .skip : Sem Next)).run P w = .ok .skip w' := by
  simp [h]

/-- A block dies, another takes its place: where append writes into what lies there already. -/
theorem HR.take (h : HR P μ H w) {N M b off esz csz n' : Nat} (hN : μ N = some (.live b off esz csz)) (hM : H.get M = none) {off2 : Nat} {o : AObj} (hst : Step μ w μ w')
    (hor : OR P μ w' b off2 esz csz o) (hod : o ≠ .dead) (hot : ∀ c, c ≠ b → w'.heap[c]? = w.heap[c]?) (hn' : M < n') (hle : H.next ≤ n') :
    HR P (putM (putM μ N .dead) M (.live b off2 esz csz)) ⟨((H.set N .dead).tr).set M (some o), n'⟩ w' ∧ Step μ w (putM (putM μ N .dead) M (.live b off2 esz csz)) w' := by
  have hMN : M ≠ N := fun e => by subst e; rw [(h.none_iff M).2 hM] at hN; cases hN
  have hg : ∀ K, (⟨((H.set N .dead).tr).set M (some o), n'⟩ : AHeap).get K = if K = M then some o else if K = N then some .dead else H.get K := by
    intro K
    show ((H.set N .dead).tr.set M (some o)).get K = _
    rw [Tr.get_set]
    by_cases e : K = M
    · simp [e]
    · simp only [e, if_false]; exact AHeap.get_set H N K .dead
  have hmu : ∀ K, putM (putM μ N .dead) M (.live b off2 esz csz) K = if K = M then some (.live b off2 esz csz) else if K = N then some .dead else μ K := fun K => by simp only [putM]
  have hkeep : Keep μ (putM (putM μ N .dead) M (.live b off2 esz csz)) := ⟨fun K s hK => by
    rw [hmu]
    by_cases e1 : K = M
    · subst e1; rw [(h.none_iff K).2 hM] at hK; cases hK
    · by_cases e2 : K = N
      · right; simp [e2, Ne.symm hMN]
      · left; simp [e1, e2, hK]⟩
  have hst' : Step μ w (putM (putM μ N .dead) M (.live b off2 esz csz)) w' :=
    { hst with
      keep := hkeep
      img := fun K b' o' e' c' hK => by
        rw [hmu] at hK
        by_cases e1 : K = M
        · simp [e1] at hK; obtain ⟨rfl, rfl, rfl, rfl⟩ := hK; exact .inl ⟨_, _, _, _, hN⟩
        · by_cases e2 : K = N
          · simp [e2, Ne.symm hMN] at hK
          · simp [e1, e2] at hK; exact .inl ⟨_, _, _, _, hK⟩ }
  refine ⟨h.next_step hst' ?_ ?_ ?_ ?_ ?_ ?_, hst'⟩
  · intro K; rw [hg, hmu]
    by_cases e1 : K = M
    · simp [e1]
    · by_cases e2 : K = N
      · simp [e2, Ne.symm hMN]
      · simp [e1, e2, h.none_iff]
  · intro K; rw [hg, hmu]
    by_cases e1 : K = M
    · simp [e1]; exact fun e => hod e
    · by_cases e2 : K = N
      · simp [e2, Ne.symm hMN]
      · simp [e1, e2, h.dead_iff]
  · intro K b' o' e' c' hK
    rw [hmu] at hK
    by_cases e1 : K = M
    · simp [e1] at hK; obtain ⟨rfl, rfl, rfl, rfl⟩ := hK
      exact .inr ⟨o, by rw [hg]; simp [e1], hor.mono hkeep rfl (Nat.le_refl _) fun _ _ => .same _⟩
    · by_cases e2 : K = N
      · simp [e2, Ne.symm hMN] at hK
      · simp [e1, e2] at hK
        refine .inl ⟨hK, by rw [hg]; simp [e1, e2], hot b' fun eb => ?_⟩
        subst eb
        exact e2 (h.inj _ _ _ _ _ _ _ _ _ hK hN)
  · intro K L b' o' e' c' o2 e2 c2 h1 h2
    rw [hmu] at h1 h2
    by_cases a1 : K = M
    · by_cases a2 : L = M
      · omega
      · simp [a1] at h1; obtain ⟨rfl, _⟩ := h1
        by_cases a3 : L = N
        · simp [a3, Ne.symm hMN] at h2
        · simp [a2, a3] at h2
          exact absurd (h.inj _ _ _ _ _ _ _ _ _ h2 hN) a3
    · by_cases a3 : K = N
      · simp [a3, Ne.symm hMN] at h1
      · simp [a1, a3] at h1
        by_cases a2 : L = M
        · simp [a2] at h2; obtain ⟨rfl, _⟩ := h2
          exact absurd (h.inj _ _ _ _ _ _ _ _ _ h1 hN) a3
        · by_cases a4 : L = N
          · simp [a4, Ne.symm hMN] at h2
          · simp [a2, a4] at h2
            exact h.inj _ _ _ _ _ _ _ _ _ h1 h2
  · intro K hK
    have hK : n' ≤ K := hK
    rw [hg, if_neg (by omega)]
    by_cases e2 : K = N
    · subst e2
      have := h.next K (by omega)
      rw [(h.none_iff K).2 this] at hN; cases hN
    · rw [if_neg e2]; exact h.next K (by omega)
  · rw [hg]
    by_cases e1 : 0 = M
    · subst e1; rw [h.zero] at hM; cases hM
    · rw [if_neg e1]
      by_cases e2 : 0 = N
      · simp [e2]
      · rw [if_neg e2]; exact h.zero

/-- A block dies. -/
theorem HR.kill (h : HR P μ H w) {N b off esz csz : Nat} (hN : μ N = some (.live b off esz csz)) : HR P (putM μ N .dead) (H.set N .dead) w ∧ Step μ w (putM μ N .dead) w := by
  have hg : ∀ K, (H.set N .dead).get K = if K = N then some .dead else H.get K := fun K => AHeap.get_set _ _ _ _
  have hkeep : Keep μ (putM μ N .dead) := ⟨fun K s hK => by
    by_cases e : K = N
    · right; simp [putM, e]
    · left; simp [putM, e, hK]⟩
  have hst : Step μ w (putM μ N .dead) w :=
    { Step.refl μ w with
      keep := hkeep
      img := fun K b' o' e' c' hK => by
        by_cases e : K = N
        · simp [putM, e] at hK
        · simp [putM, e] at hK; exact .inl ⟨_, _, _, _, hK⟩ }
  refine ⟨h.next_step hst ?_ ?_ ?_ ?_ ?_ ?_, hst⟩
  · intro K; rw [hg]
    by_cases e : K = N
    · simp [putM, e]
    · simp [putM, e, h.none_iff]
  · intro K; rw [hg]
    by_cases e : K = N
    · simp [putM, e]
    · simp [putM, e, h.dead_iff]
  · intro K b' o' e' c' hK
    by_cases e : K = N
    · simp [putM, e] at hK
    · simp [putM, e] at hK; exact .inl ⟨hK, by rw [hg]; simp [e], rfl⟩
  · intro K L b' o' e' c' o2 e2 c2 h1 h2
    by_cases a1 : K = N
    · simp [putM, a1] at h1
    · by_cases a2 : L = N
      · simp [putM, a2] at h2
      · simp [putM, a1] at h1; simp [putM, a2] at h2
        exact h.inj _ _ _ _ _ _ _ _ _ h1 h2
  · intro K hK
    rw [hg]
    by_cases e : K = N
    · subst e
      have := h.next K hK
      rw [(h.none_iff K).2 this] at hN; cases hN
    · rw [if_neg e]; exact h.next K hK
  · rw [hg]
    by_cases e : 0 = N
    · simp [e]
    · rw [if_neg e]; exact h.zero

theorem app_sim {a : Act} {σ : List Value} {o : Oper} {v : Value} {c : Call} {t u e us : TypeId} {i : TypeInfo} {z : List Value} {rs rx : Rv} (hop : o.op = .call c) (hcal : c.callee = .builtin .append)
    (hts : c.argTypes.toList = [t, u]) (ht : P.underlying t = some (.slice e)) (hu : P.underlying u = some (.slice us)) (hz : zeroOf P e = some z) (hi : P.info? e = some i)
    (hargs : c.args.toList.mapM cRv = some [rs, rx]) (hv : effI σ H (.app z.length i.bytes rs rx) = some (v, H')) (hσ : VRs μ σ a.tmps.toList) (hH : HR P μ H w) :
    ∃ μ' w' v', EffR P μ w a o v H' μ' w' v' := by
  have hA := rvs_sim hargs hσ
  have hts' : c.argTypes = #[t, u] := by apply Array.ext'; simpa using hts
  obtain ⟨i', zv, hi', hzv, hcl, hzc, hlen⟩ := zero_inv hz
  rw [hi] at hi'; cases hi'
  have hs : szOf P e = some z.length := by simp [szOf, hi, hlen]
  have hzs : zv.cells.size = i.size := by rw [← hlen, hzc]; simp
  obtain ⟨s', x', hargs', hS, hX⟩ : ∃ s' x', c.args.map a.eval = #[s', x'] ∧ VR μ (rs.ev σ) s' ∧ VR μ (rx.ev σ) x' := by
    generalize hl : c.args.toList.map a.eval = l at hA
    cases hA with
    | cons h1 hA =>
    cases hA with
    | cons h2 hA =>
    cases hA
    rename_i s' x'
    exact ⟨s', x', by apply Array.ext'; simpa using hl, h1, h2⟩
  have hrun : ∀ w, (execOp a.eval o).run P w = ((do pure (.value (← Builtin.append_ #[t, u] o.type #[s', x'])) : Sem Next)).run P w := by
    intro w
    simp [execOp, hop, resolve, hcal, hargs', invoke, builtin, hts']
  have fin : ∀ {v' w'}, (Builtin.append_ #[t, u] o.type #[s', x']).run P w = .ok v' w' → (execOp a.eval o).run P w = .ok (.value v') w' := by
    intro v' w' h
    rw [hrun]; exact val_run h
  simp only [effI] at hv
  split at hv
  · rename_i base len cap xb n xc e1 e2
    rw [e1] at hS; rw [e2] at hX
    simp only [Option.bind_eq_some_iff] at hv
    obtain ⟨new, hnew, hv⟩ := hv
    -- the source, as a slice of the model's
    have hX2 : ∃ xb' xc', x' = .slice xb' n xc' ∧ VR μ (.slice xb n xc) (.slice xb' n xc') := by
      cases xb with
      | none => obtain ⟨rfl, rfl, rfl⟩ := hX.nils_inv; exact ⟨none, 0, rfl, hX⟩
      | some p => obtain ⟨p', c', rfl, _⟩ := hX.slice_inv; exact ⟨some p', c', rfl, hX⟩
    obtain ⟨xb', xc', rfl, hX⟩ := hX2
    have hl : ∀ w, (Builtin.lenOf (.slice xb' n xc')).run P w = .ok n w := fun w => by simp [Builtin.lenOf]
    obtain ⟨new', hn1, hn2, hn3⟩ := src_sim hH hnew hX
    obtain ⟨new'', hn1', hn2', hn3'⟩ := src_sim hH.drew hnew hX
    by_cases hroom : len + n ≤ (if cap < BIG then cap else cap - BIG)
    · rw [if_pos hroom] at hv
      split at hv
      · rename_i ad
        simp only [Option.map_eq_some_iff, Prod.mk.injEq] at hv
        obtain ⟨H1, hst, rfl, rfl⟩ := hv
        obtain ⟨ad', cap', rfl, har, hk, hub⟩ := hS.slice_inv
        obtain ⟨w', hw', hH', hstep⟩ := store_sim hH hst (har.add _) hn1
        have hcap' : len + n ≤ cap' := by
          by_cases hb : cap < BIG
          · rw [if_pos hb] at hroom; rw [hk hb]; exact hroom
          · rw [if_neg hb] at hroom; have := (hub (by omega)).1; omega
        exact ⟨μ, w', _, .inl (fin (run_app_in ht hu hs (hl w) hn3 hw' hcap')), .slice har hk hub, hH', hstep⟩
      · obtain ⟨rfl, rfl, rfl⟩ := hS.nils_inv
        obtain ⟨hn0, hv⟩ := bif_some hv
        cases hv
        have hn0 := Nat.eq_of_beq_eq_true hn0
        subst hn0
        exact ⟨μ, w, .slice none 0 0, .inl (fin (run_app_nil ht hu hs (hl w) hn3 (by omega))), .atom _ rfl, hH, .refl _ _⟩
    · rw [if_neg hroom] at hv
      by_cases hb : (2 * (len + n) + 1000) * i.bytes ≤ 281474976710656 ∧ len + n ≤ 1099511627776
      · rw [if_pos hb] at hv
        obtain ⟨hb1, hb2⟩ := hb
        simp only [Option.bind_eq_some_iff] at hv
        obtain ⟨old, hold, hv⟩ := hv
        -- the slice itself, in the model
        have hS2 : ∃ base' cap', s' = .slice base' len cap' ∧ VR μ (.slice base len cap) (.slice base' len cap') := by
          cases base with
          | none => obtain ⟨rfl, rfl, rfl⟩ := hS.nils_inv; exact ⟨none, 0, rfl, hS⟩
          | some p => obtain ⟨p', c', rfl, _⟩ := hS.slice_inv; exact ⟨some p', c', rfl, hS⟩
        obtain ⟨base', cap', rfl, hS⟩ := hS2
        obtain ⟨old', ho1, ho2, ho3⟩ := src_sim hH hold hS
        obtain ⟨old'', ho1', ho2', ho3'⟩ := src_sim hH.drew hold hS
        have hfree : H.get H.next = none := hH.next _ (Nat.le_refl _)
        -- a new array
        have grow : ∀ {μ1 : Mu} {H1 : AHeap} (hH1 : HR P μ1 H1 w) (hst1 : Step μ w μ1 w), H1.next = H.next → cap' < len + n →
            ∃ (μ' : Mu) (w' : World) (v' : Value), EffR P μ w a o (.slice (some ⟨H.next, 0, none⟩) (len + n) (BIG + (len + n))) (H1.new (.cells (old ++ new) z.length false)) μ' w' v' := by
          intro μ1 H1 hH1 hst1 hnx hlt
          rw [hlen] at ho3' hn3'
          obtain ⟨nc, rest, hnc, hrest, happ⟩ := run_app_grow (ty := o.type) ht hu hi hzv hzs hl hn3' ho3' hlt hb1 hb2
          have hH2 := hH1.drew
          have hst2 : Step μ w μ1 w.drew := hst1.trans (.drew _ _)
          have hfree1 : H1.get H1.next = none := hH1.next _ (Nat.le_refl _)
          have hlen2 : (old ++ new).length = (old'' ++ new'').length := by
            rw [List.length_append, List.length_append, ho1'.length, hn1'.length]
          have hsize : (old ++ new).length ≤ (old''.toArray ++ new''.toArray ++ rest).size := by
            rw [hlen2]; simp
          have hrel : VRs μ1 (old ++ new) ((old''.toArray ++ new''.toArray ++ rest).toList.take (old ++ new).length) := by
            rw [hlen2]
            have : (old''.toArray ++ new''.toArray ++ rest).toList.take (old'' ++ new'').length = old'' ++ new'' := by
              simp only [Array.toList_append]
              exact List.take_left
            rw [this]
            exact (ho1'.append hn1').mono hst1.keep
          have hnew := hH2.allocCells (ty := e) (esz := z.length) (n' := H1.next + 1) hfree1 hsize hrel (by omega) (by omega)
          refine ⟨_, _, _, .inl (fin happ), ?_, hnew, hst2.trans (step_alloc hH2 hfree1 _ _ _)⟩
          rw [← hnx]
          refine .slice addrR_new (fun hB => by omega) (fun _ => ⟨by simp [World.size_drew] at *; omega, fun b off es cs hb' => ?_⟩)
          simp [putM] at hb'
          obtain ⟨_, _, rfl, rfl⟩ := hb'
          simp only [hrest, ho2', hn2']
          rw [← hlen, ← Nat.add_mul, ← Nat.add_mul]
          have : len + n + (nc - (len + n)) = nc := by omega
          rw [this]; omega
        split at hv
        · rename_i hcap
          cases hv
          refine grow hH (.refl _ _) rfl ?_
          rw [if_pos hcap] at hroom
          cases base with
          | none => obtain ⟨rfl, rfl, e⟩ := hS.nils_inv; cases e; omega
          | some p => obtain ⟨p', c', e, _, hk, _⟩ := hS.slice_inv; cases e; rw [hk hcap]; omega
        · rename_i hcap
          cases base with
          | none => simp at hv
          | some ad =>
            dsimp only at hv
            split at hv
            · rename_i cc es' hoo
              obtain ⟨hok, hv⟩ := bif_some hv
              cases hv
              simp only [Bool.and_eq_true] at hok
              have hes := Nat.eq_of_beq_eq_true hok.1.2
              subst hes
              obtain ⟨ad', c', e', har, _, hub⟩ := hS.slice_inv
              cases e'
              obtain ⟨hub1, hub2⟩ := hub (by omega)
              obtain ⟨b, off, esz', csz, hm, he, cs, ty', lo, hi', hw, hsz, hro, hle2, hvs⟩ := hH.find hoo (by intro e; cases e)
              subst he
              obtain ⟨rfl, rfl⟩ := hro rfl
              by_cases hlt : cap' < len + n
              · -- it grows
                obtain ⟨hHk, hstk⟩ := hH.kill hm
                exact grow hHk hstk rfl hlt
              · -- there is room
                have hroom2 := hub2 _ _ _ _ hm
                obtain ⟨_, hsp, s0, hs0, hl0⟩ := har
                rw [hm] at hs0; cases hs0
                obtain ⟨hb', hoff⟩ := hl0 _ _ _ _ rfl
                have hcsz : ad'.off + (len + n) * z.length ≤ cs.size := by
                  rw [hsz]
                  have : (len + n) * z.length ≤ cap' * z.length := Nat.mul_le_mul_right _ (by omega)
                  omega
                have hadd : ad'.add (len * z.length) = ⟨b, off + ad.off + len * z.length, none⟩ := add_mk hsp hb' hoff _
                have hnewlen : new'.length = n * z.length := hn2
                have hst := run_storeCells_at P b (off + ad.off + len * z.length) ty' new' 0 cs w hw (by rw [hnewlen]; rw [Nat.add_mul] at hcsz; omega) (hn1.cells1 hok.2)
                simp only [Nat.add_zero] at hst
                rw [← hadd] at hst
                generalize hcs' : (cs.toList.take (off + ad.off + len * z.length) ++ new' ++ cs.toList.drop (off + ad.off + len * z.length + new'.length)).toArray = cs' at hst
                have hnewh := setRow_heap w b cs cs' ty' (0, 0) hw
                have hstep : Step μ w μ (w.setRow b cs') := step_set ⟨_, _, _, _, hm⟩ (by simp) (fun c hc => setRow_other w b c _ hc) (by rw [hnewh, hw]; exact .cells ..) rfl rfl rfl
                have hcslen : cs'.size = csz := by
                  rw [← hcs']; simp; rw [hnewlen]; rw [Nat.add_mul] at hcsz; omega
                have holdlen : old.length = len * z.length := by rw [ho1.length, ho2]
                have hor : OR P μ (w.setRow b cs') b (off + ad.off) z.length csz (.cells (old ++ new) z.length false) := by
                  refine ⟨rfl, cs', ty', 0, 0, hnewh, hcslen, fun _ => ⟨rfl, rfl⟩, ?_, ?_⟩
                  · simp only [List.length_append, holdlen, hn1.length, hnewlen]; rw [← Nat.add_mul, ← hoff]; omega
                  · -- the old cells and the new ones
                    have hcells : ∀ j v, old'[j]? = some v → cs.toList[off + ad.off + j]? = some v := by
                      intro j v hj
                      have hlt : j < len * z.length := by rw [← ho2]; exact (List.getElem?_eq_some_iff.1 hj).1
                      have h1 := ho3
                      simp only [Builtin.firstCells] at h1
                      have h2 := run_loadCells (P := P) w ad' (len * z.length) (fun j => cs.toList.getD (off + ad.off + j) undef) (fun k hk => by
                        have hk2 : off + ad.off + k < cs.size := by rw [Nat.add_mul] at hcsz; omega
                        have : (ad'.add k) = ⟨b, off + ad.off + k, none⟩ := add_mk hsp hb' hoff _
                        rw [this]
                        simp [World.cell?, hw, List.getD, hk2])
                      rw [h2] at h1
                      have h3 : ((List.range (len * z.length)).map fun j => cs.toList.getD (off + ad.off + j) undef) = old' := by
                        injection h1 with h1; simpa using h1
                      rw [← h3] at hj
                      simp [hlt] at hj
                      have hk2 : off + ad.off + j < cs.size := by rw [Nat.add_mul] at hcsz; omega
                      rw [← hj]
                      simp [hk2]
                    refine .of_get (by simp only [List.length_take, List.length_drop, Array.length_toList, hcslen, List.length_append, holdlen, hn1.length, hnewlen]; rw [← hsz, ← Nat.add_mul]; omega) fun k x y hxi hyi => ?_
                    have hk : k < (old ++ new).length := (List.getElem?_eq_some_iff.1 hxi).1
                    rw [List.getElem?_take_of_lt hk, List.getElem?_drop, ← hcs'] at hyi
                    simp only at hyi
                    rw [splice_get (by simp; rw [hnewlen]; rw [Nat.add_mul] at hcsz; omega)] at hyi
                    by_cases c1 : k < old.length
                    · rw [List.getElem?_append_left c1] at hxi
                      rw [if_pos (by omega)] at hyi
                      obtain ⟨y', h1, h2⟩ := ho1.get k hxi
                      rw [hcells k y' h1] at hyi
                      cases hyi; exact h2
                    · rw [List.getElem?_append_right (by omega)] at hxi
                      rw [if_neg (by omega), if_pos (by simp only [List.length_append, hn1.length] at hk; omega)] at hyi
                      obtain ⟨y', h1, h2⟩ := hn1.get _ hxi
                      rw [show off + ad.off + k - (off + ad.off + len * z.length) = k - old.length by omega, h1] at hyi
                      cases hyi; exact h2
                obtain ⟨hHt, hstt⟩ := hH.take (M := H.next) (n' := H.next + 1) hm hfree hstep hor (by intro e; cases e) (fun c hc => setRow_other w b c _ hc) (by omega) (by omega)
                refine ⟨_, _, .slice (some ad') (len + n) cap', .inl (fin (run_app_in ht hu hs (hl w) hn3 hst (by omega))), ?_, hHt, hstt⟩
                refine .slice ⟨rfl, hsp, _, by simp [putM]; rfl, fun b2 o2 e2 c2 h => by cases h; exact ⟨hb', by simpa using hoff⟩⟩ (fun hB => by omega) (fun _ => ⟨by omega, fun b2 o2 e2 c2 h => ?_⟩)
                simp [putM] at h
                obtain ⟨_, _, rfl, rfl⟩ := h
                exact hroom2
            · cases hv
      · rw [if_neg hb] at hv; cases hv
  · cases hv

end Go.Eng

/- Part EngU. -/
namespace Go.Eng
open Go

variable {P : Program} {μ μ' : Mu} {H H' : AHeap} {w w' : World}

def Eff (P : Program) (μ : Mu) (w : World) (a : Act) (o : Oper) (v : Value) (H' : AHeap) : Prop := ∃ μ' w' v', EffR P μ w a o v H' μ' w' v'

theorem two_args {c : Call} {a : Act} {σ : List Value} {rs rx : Rv} (hA : VRs μ ([rs, rx].map (·.ev σ)) (c.args.toList.map a.eval)) : ∃ s' x', c.args.map a.eval = #[s', x'] ∧ VR μ (rs.ev σ) s' ∧ VR μ (rx.ev σ) x' := by
  generalize hl : c.args.toList.map a.eval = l at hA
  cases hA with
  | cons h1 hA =>
  cases hA with
  | cons h2 hA =>
  cases hA
  rename_i s' x'
  exact ⟨s', x', by apply Array.ext'; simpa using hl, h1, h2⟩

theorem one_arg {c : Call} {a : Act} {σ : List Value} {rs : Rv} (hA : VRs μ ([rs].map (·.ev σ)) (c.args.toList.map a.eval)) : ∃ s', c.args.map a.eval = #[s'] ∧ VR μ (rs.ev σ) s' := by
  generalize hl : c.args.toList.map a.eval = l at hA
  cases hA with
  | cons h1 hA =>
  cases hA
  rename_i s'
  exact ⟨s', by apply Array.ext'; simpa using hl, h1⟩

theorem slice_form {base : Option Addr} {len cap : Nat} {s' : Value} (hS : VR μ (.slice base len cap) s') : ∃ base' cap', s' = .slice base' len cap' ∧ VR μ (.slice base len cap) (.slice base' len cap') := by
  cases base with
  | none => obtain ⟨rfl, rfl, rfl⟩ := hS.nils_inv; exact ⟨none, 0, rfl, hS⟩
  | some p => obtain ⟨p', c', rfl, _⟩ := hS.slice_inv; exact ⟨some p', c', rfl, hS⟩

theorem builtin_eff {a : Act} {σ : List Value} {o : Oper} {i : Ins} {v : Value} {c : Call} {b : Builtin} {args : List Rv} (hop : o.op = .call c) (hcal : c.callee = .builtin b)
    (hargs : c.args.toList.mapM cRv = some args) (hc : cBuiltin P b c.argTypes args = some i) (hk : i.kd = .eff) (hv : effI σ H i = some (v, H')) (hσ : VRs μ σ a.tmps.toList) (hH : HR P μ H w) : Eff P μ w a o v H' := by
  have hA := rvs_sim hargs hσ
  unfold cBuiltin at hc
  split at hc
  · split at hc
    · cases hc; cases hk
    · cases hc; cases hk
    · cases hc; cases hk
    · split at hc
      · cases hc; cases hk
      · cases hc
    · cases hc
  · split at hc
    · cases hc; cases hk
    · cases hc
  · rename_i s x t u hts
    split at hc
    · rename_i e us ht hu
      simp only [bind, Option.bind_eq_some_iff, pure, Option.some.injEq] at hc
      obtain ⟨z, hz, it, hit, rfl⟩ := hc
      exact app_sim hop hcal hts ht hu hz hit hargs hv hσ hH
    · cases hc
  · rename_i s t hts
    split at hc
    · rename_i e hu
      simp only [bind, Option.bind_eq_some_iff, pure, Option.some.injEq] at hc
      obtain ⟨z, hz, rfl⟩ := hc
      obtain ⟨s', hy, hS⟩ := one_arg hA
      obtain ⟨it, zv, hit, hzv, hcl, hzc, hlen⟩ := zero_inv hz
      have ht : c.argTypes[0]? = some t := by
        have : c.argTypes = #[t] := by apply Array.ext'; simpa using hts
        simp [this]
      have hrun : ∀ {v' w'}, (Builtin.clear_ c.argTypes o.type #[s']).run P w = .ok v' w' → (execOp a.eval o).run P w = .ok (.value v') w' := by
        intro v' w' h
        have : (execOp a.eval o).run P w = ((do pure (.value (← Builtin.clear_ c.argTypes o.type #[s'])) : Sem Next)).run P w := by
          simp [execOp, hop, resolve, hcal, hy, invoke, builtin]
        rw [this]; exact val_run h
      simp only [effI] at hv
      split at hv
      · rename_i base n cap e1
        rw [e1] at hS
        obtain ⟨base', cap', rfl, hS⟩ := slice_form hS
        by_cases hn : n = 0
        · subst hn
          simp only [if_true, Option.some.injEq, Prod.mk.injEq] at hv
          obtain ⟨rfl, rfl⟩ := hv
          refine ⟨μ, w, .tuple #[], .inl (hrun ?_), .tuple .nil, hH, .refl _ _⟩
          cases base' <;> simp [Builtin.clear_, ht, run_underlying hu]
        · rw [if_neg hn] at hv
          cases base with
          | none => obtain ⟨rfl, _, _⟩ := hS.nils_inv; exact absurd rfl hn
          | some ad =>
            simp only [Option.map_eq_some_iff, Prod.mk.injEq] at hv
            obtain ⟨H1, hst, rfl, rfl⟩ := hv
            obtain ⟨ad', c', e', har, _⟩ := hS.slice_inv
            cases e'
            have hzr : VRs μ z z := by rw [hzc]; exact .closed hcl
            obtain ⟨w', hw', hH', hstep⟩ := store_sim hH hst har (repl_closed hzr n)
            refine ⟨μ, w', .tuple #[], .inl (hrun ?_), .tuple .nil, hH', hstep⟩
            have hzz : Builtin.zeroCells zv.cells n = (repl n z).toArray := by
              apply Array.ext'
              unfold Builtin.zeroCells
              by_cases hz1 : 1 ≤ z.length
              · rw [show zv.cells.size = z.length by rw [hzc]; simp]
                rw [repl_eq z n hz1, hzc]; simp
              · have hz0 : z = [] := List.eq_nil_of_length_eq_zero (by omega)
                have : zv.cells.size = 0 := by rw [hzc] at hz0; simpa using hz0
                have hr : ∀ k, repl k ([] : List Value) = [] := fun k => by induction k with
                  | zero => rfl
                  | succ k ih => simp [repl, ih]
                rw [hz0, hr]; simp [this]
            cases n with
            | zero => exact absurd rfl hn
            | succ m =>
              simp [Builtin.clear_, ht, run_underlying hu, run_zero hit hzv, hzz, hw']
      · cases hv
    · cases hc
  · rename_i d s t u hts
    split at hc
    · rename_i e us ht hu
      simp only [bind, Option.bind_eq_some_iff, pure, Option.some.injEq] at hc
      obtain ⟨n0, hn0, rfl⟩ := hc
      obtain ⟨d', s', hy, hD, hS⟩ := two_args hA
      have hts' : c.argTypes = #[t, u] := by apply Array.ext'; simpa using hts
      have hrun : ∀ {v' w'}, (Builtin.copy_ #[t, u] o.type #[d', s']).run P w = .ok v' w' → (execOp a.eval o).run P w = .ok (.value v') w' := by
        intro v' w' h
        have : (execOp a.eval o).run P w = ((do pure (.value (← Builtin.copy_ #[t, u] o.type #[d', s'])) : Sem Next)).run P w := by
          simp [execOp, hop, resolve, hcal, hy, invoke, builtin, hts']
        rw [this]; exact val_run h
      simp only [effI] at hv
      split at hv
      · rename_i base dl dc sb sl sc e1 e2
        rw [e1] at hD; rw [e2] at hS
        obtain ⟨base', dc', rfl, hD⟩ := slice_form hD
        obtain ⟨sb', sc', rfl, hS⟩ := slice_form hS
        simp only [Option.bind_eq_some_iff] at hv
        obtain ⟨xs, hxs, hv⟩ := hv
        obtain ⟨xs', hx1, hx2, hx3⟩ := src_sim hH hxs hS
        have hmin : Nat.min sl dl = min sl dl := rfl
        cases base with
        | none =>
          obtain ⟨rfl, rfl, e'⟩ := hD.nils_inv
          cases e'; cases hv
          refine ⟨μ, w, _, .inl (hrun ?_), .atom _ rfl, hH, .refl _ _⟩
          have hx4 : (Builtin.firstCells n0 0 (.slice sb' sl sc')).run P w = .ok xs'.toArray w := by simpa using hx3
          simp [Builtin.copy_, run_underlying ht, Builtin.lenOf, run_size hn0, hx4, goInt]
        | some ad =>
          simp only [Option.map_eq_some_iff, Prod.mk.injEq] at hv
          obtain ⟨H1, hst, rfl, rfl⟩ := hv
          obtain ⟨ad', c', e', har, _⟩ := hD.slice_inv
          cases e'
          obtain ⟨w', hw', hH', hstep⟩ := store_sim hH hst har hx1
          refine ⟨μ, w', _, .inl (hrun ?_), .atom _ rfl, hH', hstep⟩
          simp [Builtin.copy_, run_underlying ht, Builtin.lenOf, run_size hn0, hx3, hmin, goInt, hw']
      · cases hv
    · cases hc
  · cases hc; cases hk
  · cases hc; cases hk
  · cases hc


/-- A map's object is laid anew. -/
theorem HR.setMap (hH : HR P μ H w) {r r' : Nat} {es es2 : List (Value × Value)} {fs gs : Array MapEntry} {clock d : Nat} (ho : H.get r = some (.map es)) (hr : NumR μ r r') (hw : w.heap[r']? = some (.map fs clock))
    (hE : EntsR μ es2 gs.toList) (hb : ∀ f ∈ gs.toList, f.born < d)
    (hevo : (gs.size = fs.size ∧ d = clock ∧ ∀ j : Nat, (gs[j]?).map (·.born) = (fs[j]?).map (·.born)) ∨ fs.size < gs.size) :
    HR P μ (H.set r (.map es2)) { w with heap := w.heap.setIfInBounds r' (.map gs d) } ∧ Step μ w μ { w with heap := w.heap.setIfInBounds r' (.map gs d) } := by
  obtain ⟨b, off, esz', csz, hm, _⟩ := hH.find ho (by intro e; cases e)
  obtain ⟨s, hs, hl⟩ := hr
  rw [hm] at hs; cases hs
  have hrb := hl _ _ _ _ rfl
  subst hrb
  have hlt : r' < w.heap.size := (Array.getElem?_eq_some_iff.1 hw).1
  have hnew : (w.heap.setIfInBounds r' (.map gs d))[r']? = some (.map gs d) := by simp [hlt]
  have hot : ∀ c, c ≠ r' → (w.heap.setIfInBounds r' (.map gs d))[c]? = w.heap[c]? := fun c hc => by simp [Ne.symm hc]
  have hst : Step μ w μ { w with heap := w.heap.setIfInBounds r' (.map gs d) } :=
    step_set ⟨_, _, _, _, hm⟩ (by simp) hot (by rw [hw]; show Evo _ (w.heap.setIfInBounds r' (.map gs d))[r']?; rw [hnew]; exact .map _ _ _ _ hevo) rfl rfl rfl
  exact ⟨hH.set_self hm hst ⟨gs, d, hnew, hE, hb⟩ (by intro e; cases e) hot, hst⟩

theorem run_setMap {r : Nat} {fs : Array MapEntry} {clock : Nat} (o : Obj) (h : w.heap[r]? = some (.map fs clock)) : (setObj r o).run P w = .ok () { w with heap := w.heap.setIfInBounds r o } := by
  simp [setObj, Sem.run, h]

theorem findE_upd {kn : Option Nat} {k v : Value} : ∀ {es es2 : List (Value × Value)}, upd kn k v es = some es2 → ∃ r, findE kn k es = some r
  | [], _, _ => ⟨none, rfl⟩
  | (k0, v0) :: es, es2, h => by
    simp only [upd] at h
    simp only [findE]
    cases hq : keyEq kn k k0 with
    | none => rw [hq] at h; cases h
    | some b =>
      rw [hq] at h
      cases b with
      | true => exact ⟨_, rfl⟩
      | false =>
        simp only [Option.map_eq_some_iff] at h
        obtain ⟨es', h', _⟩ := h
        exact findE_upd h'

theorem mup_sim {a : Act} {σ : List Value} {o : Oper} {v : Value} {t kt et : TypeId} {m k x : Operand} {kn : Option Nat} {rm rk rx : Rv} (hrun : ∀ {w w'}, (Instr.mapUpdate t (a.eval m) (a.eval k) (a.eval x)).run P w = .ok () w' → (execOp a.eval o).run P w = .ok .skip w')
    (hu : P.underlying t = some (.map kt et)) (hf : flats P 50 kt = true) (hn : keyN P kt = some kn) (hm : cRv m = some rm) (hk : cRv k = some rk) (hx : cRv x = some rx)
    (hv : effI σ H (.mup kn rm rk rx) = some (v, H')) (hσ : VRs μ σ a.tmps.toList) (hH : HR P μ H w) : Eff P μ w a o v H' := by
  have hM := rv_sim hm hσ
  have hK := rv_sim hk hσ
  have hX := rv_sim hx hσ
  simp only [effI] at hv
  split at hv
  · rename_i r e1
    rw [e1] at hM
    obtain ⟨r', hm', hnr⟩ := hM.map_inv
    split at hv
    · rename_i es ho
      simp only [Option.map_eq_some_iff, Prod.mk.injEq] at hv
      obtain ⟨es2, hu2, rfl, rfl⟩ := hv
      cases hko : keyOK kn (rk.ev σ) with
      | false => rw [hko] at hu2; cases hu2
      | true =>
        rw [hko] at hu2
        simp only [cond_true] at hu2
        obtain ⟨fs, clock, hw, hE, hborn⟩ := hH.map ho hnr
        obtain ⟨q0, hfind⟩ := findE_upd hu2
        obtain ⟨hck, q, hq, hF⟩ := find_key (v := rx.ev σ) (w := w) hf hn hE hK hko hfind
        rcases hF with ⟨rfl, rfl, hup⟩ | ⟨j, v0, e, rfl, hj, hv0, hek, rfl, hjl, hup, hsb⟩
        · rw [hup] at hu2; cases hu2
          have hE2 : EntsR μ (es ++ [(rk.ev σ, rx.ev σ)]) (fs.push { key := a.eval k, val := a.eval x, born := clock }).toList := by
            refine ⟨?_, ?_⟩
            · simpa using hE.1.append (.cons hK .nil)
            · simpa using hE.2.append (.cons hX .nil)
          obtain ⟨h1, h2⟩ := hH.setMap (d := clock + 1) ho hnr hw hE2 (by
            intro f hf'
            simp only [Array.toList_push, List.mem_append, List.mem_singleton] at hf'
            rcases hf' with h | h
            · have := hborn f h; omega
            · subst h; exact Nat.lt_succ_self _) (.inr (by simp))
          refine ⟨μ, _, undef, .inr ⟨hrun ?_, rfl⟩, .undef μ, h1, h2⟩
          rw [hm']
          simp [Instr.mapUpdate, run_underlying hu, run_getMap hw, hck _ _ (show 50 ≤ 10000 by decide), hq, run_setMap _ hw]
        · rw [hup] at hu2; cases hu2
          have hj' : fs[j]? = some e := by simpa using hj
          have hjs : j < fs.size := (Array.getElem?_eq_some_iff.1 hj').1
          have hE2 : EntsR μ (es.set j (rk.ev σ, rx.ev σ)) (fs.modify j fun e => { e with key := a.eval k, val := a.eval x }).toList := by
            have ek : (fs.modify j fun e => { e with key := a.eval k, val := a.eval x }).toList.map (·.key) = (fs.toList.map (·.key)).set j (a.eval k) := by
              apply List.ext_getElem?
              intro i
              simp only [List.getElem?_map, Array.getElem?_toList, Array.getElem?_modify, List.getElem?_set, List.length_map, Array.length_toList]
              by_cases e' : j = i
              · subst e'; simp [hjs]
              · simp [e']
            have ev : (fs.modify j fun e => { e with key := a.eval k, val := a.eval x }).toList.map (·.val) = (fs.toList.map (·.val)).set j (a.eval x) := by
              apply List.ext_getElem?
              intro i
              simp only [List.getElem?_map, Array.getElem?_toList, Array.getElem?_modify, List.getElem?_set, List.length_map, Array.length_toList]
              by_cases e' : j = i
              · subst e'; simp [hjs]
              · simp [e']
            refine ⟨?_, ?_⟩
            · rw [ek, List.map_set]; exact hE.1.set j hK
            · rw [ev, List.map_set]; exact hE.2.set j hX
          obtain ⟨h1, h2⟩ := hH.setMap (d := clock) ho hnr hw hE2 (by
            intro f hf'
            rw [List.mem_iff_getElem?] at hf'
            obtain ⟨i, hi⟩ := hf'
            simp only [Array.getElem?_toList, Array.getElem?_modify] at hi
            by_cases e' : j = i
            · subst e'
              simp [hj'] at hi
              subst hi
              exact hborn e (by rw [List.mem_iff_getElem?]; exact ⟨j, hj⟩)
            · simp [e'] at hi
              exact hborn f (by rw [List.mem_iff_getElem?]; exact ⟨i, by simpa using hi⟩)) (.inl ⟨by simp, rfl, fun i => by
                simp only [Array.getElem?_modify]
                by_cases e' : j = i
                · subst e'; simp [hj']
                · simp [e']⟩)
          refine ⟨μ, _, undef, .inr ⟨hrun ?_, rfl⟩, .undef μ, h1, h2⟩
          rw [hm']
          have hstay : (Instr.keyThatStays e.key (a.eval k)).run P w = .ok (a.eval k) w := by
            simp [Instr.keyThatStays, hsb 9999]
          simp [Instr.mapUpdate, run_underlying hu, run_getMap hw, hck _ _ (show 50 ≤ 10000 by decide), hq, hj', hstay, run_setMap _ hw]
    · cases hv
  · cases hv

end Go.Eng

/- Part EngV. -/
namespace Go.Eng
open Go

variable {P : Program} {μ μ' : Mu} {H H' : AHeap} {w w' : World}

def isCall : Ins → Bool
  | .call .. => true
  | _ => false

theorem eff_sim {a : Act} {σ : List Value} {o : Oper} {i : Ins} {v : Value} (hc : cOp P o = some i) (hk : i.kd = .eff) (hv : effI σ H i = some (v, H')) (hσ : VRs μ σ a.tmps.toList) (hH : HR P μ H w) : Eff P μ w a o v H' := by
  have hfree : H.get H.next = none := hH.next _ (Nat.le_refl _)
  cases hop : o.op <;> simp only [cOp, hop, bind, Option.bind_eq_some_iff, pure, Option.some.injEq] at hc
  case move x => obtain ⟨r, hr, rfl⟩ := hc; cases hk
  case assign x => obtain ⟨r, hr, rfl⟩ := hc; cases hk
  case pick c x y => obtain ⟨rc, hrc, rx, hrx, ry, hry, rfl⟩ := hc; cases hk
  case alloc t => obtain ⟨_, _, rfl⟩ := hc; cases hk
  case box t x => obtain ⟨_, _, rfl⟩ := hc; cases hk
  case build t parts => obtain ⟨z, hz, ps, hp, rfl⟩ := hc; cases hk
  case buildSlice t n parts =>
    split at hc
    · simp only [Option.bind_eq_some_iff] at hc
      obtain ⟨z, _, ps, _, hc⟩ := hc
      obtain ⟨_, rfl⟩ := bif_some hc
      cases hk
    · cases hc
  case nilCheck x => obtain ⟨r, hr, rfl⟩ := hc; cases hk
  case unOp op t x => obtain ⟨r, hr, rfl⟩ := hc; cases hk
  case convert s d x =>
    split at hc
    · simp only [Option.bind_eq_some_iff, Option.some.injEq] at hc
      obtain ⟨r, hr, rfl⟩ := hc
      cases hk
    · cases hc
  case sliceToArrayPointer t x =>
    split at hc
    · simp only [Option.bind_eq_some_iff, Option.some.injEq] at hc
      obtain ⟨r, hr, rfl⟩ := hc
      cases hk
    · cases hc
  case makeFunc fn first cap =>
    split at hc
    · simp only [Option.bind_eq_some_iff, Option.some.injEq] at hc
      obtain ⟨r1, h1, r2, h2, rfl⟩ := hc
      cases hk
    · cases hc
  case makeMap t r =>
    split at hc
    · cases hc; cases hk
    · cases hc
  case makeSlice t l c =>
    split at hc
    · simp only [Option.bind_eq_some_iff] at hc
      obtain ⟨_, _, _, _, _, _, _, _, hc⟩ := hc
      obtain ⟨_, rfl⟩ := bif_some hc
      cases hk
    · cases hc
  case fieldAddr t x k =>
    split at hc
    · simp only [Option.bind_eq_some_iff] at hc
      obtain ⟨f, hf, s, hs, hc⟩ := hc
      split at hc
      · cases hc
      · simp only [Option.bind_eq_some_iff, Option.some.injEq] at hc
        obtain ⟨r, hr, rfl⟩ := hc
        cases hk
    · cases hc
  case field t x k =>
    split at hc
    · simp only [Option.bind_eq_some_iff, Option.some.injEq] at hc
      obtain ⟨_, _, _, _, _, _, _, _, rfl⟩ := hc
      cases hk
    · cases hc
  case indexAddr t x k =>
    split at hc
    · simp only [Option.bind_eq_some_iff, Option.some.injEq] at hc
      obtain ⟨_, _, _, _, _, _, rfl⟩ := hc
      cases hk
    · simp only [Option.bind_eq_some_iff, Option.some.injEq] at hc
      obtain ⟨_, _, _, _, _, _, rfl⟩ := hc
      cases hk
    · cases hc
  case index t x k =>
    split at hc
    · simp only [Option.bind_eq_some_iff, Option.some.injEq] at hc
      obtain ⟨_, _, _, _, _, _, _, _, rfl⟩ := hc
      cases hk
    · split at hc
      · simp only [Option.bind_eq_some_iff, Option.some.injEq] at hc
        obtain ⟨_, _, rfl⟩ := hc
        cases hk
      · cases hc
    · cases hc
  case extract x k =>
    obtain ⟨r, hr, rfl⟩ := hc
    cases hk
  case slice t x lo hi mx =>
    cases hmx : (mx.isSome && hi.isNone) with
    | true => rw [hmx] at hc; cases hc
    | false =>
      rw [hmx] at hc
      simp only [cond_false] at hc
      split at hc
      · simp only [Option.bind_eq_some_iff, Option.some.injEq] at hc
        obtain ⟨_, _, _, _, _, _, _, _, _, _, rfl⟩ := hc
        cases hk
      · simp only [Option.bind_eq_some_iff, Option.some.injEq] at hc
        obtain ⟨_, _, _, _, _, _, _, _, _, _, rfl⟩ := hc
        cases hk
      · split at hc
        · simp only [Option.bind_eq_some_iff, Option.some.injEq] at hc
          obtain ⟨_, _, _, _, _, _, _, _, _, _, rfl⟩ := hc
          cases hk
        · cases hc
      · cases hc
  case lookup t x k ok =>
    split at hc
    · simp only [Option.bind_eq_some_iff] at hc
      obtain ⟨_, _, _, _, _, _, _, _, _, _, hc⟩ := hc
      obtain ⟨_, rfl⟩ := bif_some hc
      cases hk
    · cases hc
  case entry x => obtain ⟨r, hr, rfl⟩ := hc; cases hk
  case load t x =>
    obtain ⟨r, hr, b, hb, n, hn, hc⟩ := hc
    cases b <;> simp only [cond_true, cond_false, Option.some.injEq] at hc <;> subst hc <;> cases hk
  case binOp op t x y yt => rcases cBin_kd hc with h | h <;> rw [h] at hk <;> cases hk
  case store t x y =>
    obtain ⟨n, hn, rx, hx, ry, hy, rfl⟩ := hc
    have hX := rv_sim hx hσ
    have hY := (rv_sim hy hσ).cells
    simp only [effI] at hv
    split at hv
    · rename_i ad e1
      rw [e1] at hX
      obtain ⟨ad', hx', har⟩ := hX.ptr_inv
      obtain ⟨hlen, hv⟩ : Nat.beq (ry.ev σ).cells.toList.length n = true ∧ (storeAt H ad (ry.ev σ).cells.toList).map (fun H => (undef, H)) = some (v, H') := by
        cases hb : Nat.beq (ry.ev σ).cells.toList.length n with
        | false => rw [hb] at hv; cases hv
        | true => rw [hb] at hv; exact ⟨rfl, hv⟩
      have hlen := Nat.eq_of_beq_eq_true hlen
      simp only [Option.map_eq_some_iff, Prod.mk.injEq] at hv
      obtain ⟨H1, hst, rfl, rfl⟩ := hv
      obtain ⟨w', hw', hH', hstep⟩ := store_sim hH hst har hY
      refine ⟨μ, w', undef, .inr ⟨?_, rfl⟩, .undef μ, hH', hstep⟩
      simp only [execOp, hop, hx']
      refine skip_run ?_
      have hsz : (a.eval y).cells.size = n := by rw [← hlen, hY.length]; simp
      simp [Instr.storeAt, Instr.sureAddr, storeVar, run_size hn, hsz, hw']
    · cases hv
  case mapUpdate t m k x =>
    split at hc
    · rename_i kt et hu
      simp only [Option.bind_eq_some_iff] at hc
      obtain ⟨kn, hkn, rm, hm, rk, hrk, rx, hx, hc⟩ := hc
      obtain ⟨hf, rfl⟩ := bif_some hc
      exact mup_sim (fun h => by simp only [execOp, hop]; exact skip_run h) hu hf hkn hm hrk hx hv hσ hH
    · cases hc
  case range t x =>
    split at hc
    · rename_i kt et hu
      simp only [Option.bind_eq_some_iff, Option.some.injEq] at hc
      obtain ⟨rx, hx, rfl⟩ := hc
      have hX := rv_sim hx hσ
      simp only [effI] at hv
      split at hv
      · rename_i e1
        rw [e1] at hX
        have hx' := hX.nilm_inv
        simp only [Option.some.injEq, Prod.mk.injEq] at hv
        obtain ⟨rfl, rfl⟩ := hv
        refine ⟨putM μ H.next (.live w.heap.size 0 0 0), w.alloc (.mapIter none 0 #[] 0), .pointer (some ⟨w.heap.size, 0, none⟩), .inl ?_, .ptr addrR_new, ?_, step_alloc hH hfree _ _ _⟩
        · simp only [execOp, hop, hx']
          refine val_run ?_
          simp [Instr.range, run_underlying hu]
        · exact hH.alloc (n' := H.next + 1) hfree (o := .iter none 0 false) ⟨rfl, none, 0, #[], 0, alloc_new _, rfl⟩ (by intro e; cases e) (by omega) (by omega)
      · rename_i r e1
        rw [e1] at hX
        obtain ⟨r', hx', hnr⟩ := hX.map_inv
        split at hv
        · rename_i es ho
          simp only [Option.some.injEq, Prod.mk.injEq] at hv
          obtain ⟨rfl, rfl⟩ := hv
          obtain ⟨fs, clock, hw, hE, hborn⟩ := hH.map ho hnr
          have hrlt : r' < w.heap.size := (Array.getElem?_eq_some_iff.1 hw).1
          refine ⟨putM μ H.next (.live w.heap.size 0 0 0), w.alloc (.mapIter (some r') clock #[] clock), .pointer (some ⟨w.heap.size, 0, none⟩), .inl ?_, .ptr addrR_new, ?_, step_alloc hH hfree _ _ _⟩
          · simp only [execOp, hop, hx']
            refine val_run ?_
            simp [Instr.range, run_underlying hu, run_getMap hw]
          · refine hH.alloc (n' := H.next + 1) hfree (o := .iter (some r) es.length false) ⟨rfl, some r', clock, #[], clock, alloc_new _, r', rfl, hnr.mono (putM_keep ((hH.none_iff _).2 hfree)), by simp; omega, fun _ => rfl, fun gs c2 hg => ?_⟩ (by intro e; cases e) (by omega) (by omega)
            rw [alloc_old _ hrlt, hw] at hg
            cases hg
            have hl : es.length = fs.size := by have := hE.1.length; simpa using this
            exact ⟨by omega, fun _ => ⟨rfl, fun h => by cases h⟩⟩
        · cases hv
      · cases hv
    · cases hc
  case next x s =>
    cases s <;> simp only [cond_true, cond_false, Option.bind_eq_some_iff, Option.some.injEq, reduceCtorEq] at hc
    obtain ⟨rx, hx, rfl⟩ := hc
    have hX := rv_sim hx hσ
    simp only [effI] at hv
    split at hv
    · rename_i ad e1
      rw [e1] at hX
      obtain ⟨ad', hx', har⟩ := hX.ptr_inv
      cases hz : Nat.beq ad.off 0 with
      | false => rw [hz] at hv; cases hv
      | true =>
      rw [hz] at hv
      simp only [Bool.not_true, cond_false] at hv
      have hz := Nat.eq_of_beq_eq_true hz
      split at hv
      · rename_i n0 fin0 ho
        cases hv
        obtain ⟨b, off, esz', csz, hm, hoz, m', since, seen, stepped, hw, hm'⟩ := hH.find ho (by intro e; cases e)
        simp only at hm'; subst hm'
        obtain ⟨_, hsp, s, hs, hl⟩ := har
        rw [hm] at hs; cases hs
        obtain ⟨hb, hoff⟩ := hl _ _ _ _ rfl
        obtain ⟨ab, ao, as⟩ := ad'
        simp only at hb hoff hsp
        have : ao = 0 := by omega
        subst this; subst hb; subst hsp
        refine ⟨μ, w, .tuple #[.bool false], .inl ?_, .tuple (.cons (.atom _ rfl) .nil), hH, .refl _ _⟩
        simp only [execOp, hop, hx']
        refine val_run ?_
        simp [Instr.next, getObj, Sem.run, hw]
      · rename_i m n0 fin0 ho
        obtain ⟨b, off, esz', csz, hm, hoz, m', since, seen, stepped, hw, r', rfl, hnr, hrlt, hseen, hfacts⟩ := hH.find ho (by intro e; cases e)
        obtain ⟨_, hsp, s, hs, hl⟩ := har
        rw [hm] at hs; cases hs
        obtain ⟨hb, hoff⟩ := hl _ _ _ _ rfl
        obtain ⟨ab, ao, as⟩ := ad'
        simp only at hb hoff hsp
        have : ao = 0 := by omega
        subst this; subst hb; subst hsp
        split at hv
        · rename_i hmm
          cases fin0 with
          | true => cases hv
          | false =>
            simp only [cond_false, Option.some.injEq, Prod.mk.injEq] at hv
            obtain ⟨rfl, rfl⟩ := hv
            obtain ⟨fs, clock, hwm, hE, hborn⟩ := hH.map hmm hnr
            have hfs : fs = #[] := by
              have := hE.1.length
              apply Array.ext'; exact List.eq_nil_of_length_eq_zero (by simpa using this.symm)
            subst hfs
            refine ⟨μ, w, .tuple #[.bool false], .inl ?_, .tuple (.cons (.atom _ rfl) .nil), hH, .refl _ _⟩
            simp only [execOp, hop, hx']
            refine val_run ?_
            have hs0 := hseen rfl
            subst hs0
            simp [Instr.next, getObj, Sem.run, hw, hwm, Question.forced, choose]
        · rename_i k0 v0 hmm
          cases hn1 : Nat.beq n0 1 with
          | false => rw [hn1] at hv; cases hv
          | true =>
            rw [hn1] at hv
            have hn1 := Nat.eq_of_beq_eq_true hn1
            subst hn1
            simp only [cond_true] at hv
            obtain ⟨fs, clock, hwm, hE, hborn⟩ := hH.map hmm hnr
            obtain ⟨f, hfl, hk0, hv0⟩ : ∃ f, fs.toList = [f] ∧ VR μ k0 f.key ∧ VR μ v0 f.val := by
              obtain ⟨hE1, hE2⟩ := hE
              cases hfl : fs.toList with
              | nil => rw [hfl] at hE1; cases hE1
              | cons f rest =>
                rw [hfl] at hE1 hE2
                cases hE1 with
                | cons h1 t1 =>
                cases hE2 with
                | cons h2 t2 =>
                cases rest with
                | nil => exact ⟨f, rfl, h1, h2⟩
                | cons _ _ => cases t1
            have hfs : fs = #[f] := Array.ext' (by simpa using hfl)
            subst hfs
            obtain ⟨_, hst⟩ := hfacts _ _ hwm
            obtain ⟨hcl, hst2⟩ := hst rfl
            subst hcl
            have hbf : f.born < clock := hborn f (by simp)
            cases fin0 with
            | true =>
              simp only [cond_true, Option.some.injEq, Prod.mk.injEq] at hv
              obtain ⟨rfl, rfl⟩ := hv
              obtain ⟨hstep, hsn⟩ := hst2 rfl rfl
              have hsn := hsn f rfl
              subst hstep
              refine ⟨μ, w, .tuple #[.bool false], .inl ?_, .tuple (.cons (.atom _ rfl) .nil), hH, .refl _ _⟩
              simp only [execOp, hop, hx']
              refine val_run ?_
              have hnb : ¬ (stepped ≤ f.born) := by omega
              simp [Instr.next, getObj, Sem.run, hw, hwm, hsn, hnb, Question.forced, choose]
            | false =>
              simp only [cond_false, Option.some.injEq, Prod.mk.injEq] at hv
              obtain ⟨rfl, rfl⟩ := hv
              have hs0 := hseen rfl
              subst hs0
              have hlt : ab < w.heap.size := (Array.getElem?_eq_some_iff.1 hw).1
              have hot : ∀ c, c ≠ ab → (w.heap.setIfInBounds ab (.mapIter (some r') clock #[f.born] clock))[c]? = w.heap[c]? := fun c hc => by simp [Ne.symm hc]
              have hnew : (w.heap.setIfInBounds ab (.mapIter (some r') clock #[f.born] clock))[ab]? = some (.mapIter (some r') clock #[f.born] clock) := by simp [hlt]
              have hstp : Step μ w μ { w with heap := w.heap.setIfInBounds ab (.mapIter (some r') clock #[f.born] clock) } :=
                step_set ⟨_, _, _, _, hm⟩ (by simp) hot (by rw [hw]; show Evo _ (w.heap.setIfInBounds ab _)[ab]?; rw [hnew]; exact .iter ..) rfl rfl rfl
              have hrne : r' ≠ ab := fun e => by rw [e, hw] at hwm; cases hwm
              refine ⟨μ, _, .tuple #[.bool true, f.key, f.val], .inl ?_, .tuple (.cons (.atom _ rfl) (.cons hk0 (.cons hv0 .nil))), hH.set_self hm hstp (o := .iter (some m) 1 true) ⟨hoz, some r', clock, #[f.born], clock, hnew, r', rfl, hnr, by simpa using hrlt, (fun h => by cases h), fun gs c2 hg => ?_⟩ (by intro e; cases e) hot, hstp⟩
              · simp only [execOp, hop, hx']
                refine val_run ?_
                have hnb : ¬ (clock ≤ f.born) := by omega
                have hso : (Sem.setObj ab (Obj.mapIter (some r') clock #[f.born] clock) (Sem.pure ())).run P w = .ok () { w with heap := w.heap.setIfInBounds ab (.mapIter (some r') clock #[f.born] clock) } := by simp [Sem.run, hw]
                simp [Instr.next, getObj, setObj, Sem.run, hw, hwm, hbf, hnb, Question.forced, choose, hso]
              · have hg' : (w.heap.setIfInBounds ab (.mapIter (some r') clock #[f.born] clock))[r']? = some (.map gs c2) := hg
                rw [hot r' hrne, hwm] at hg'
                cases hg'
                exact ⟨Nat.le_refl _, fun _ => ⟨rfl, fun _ _ => ⟨rfl, fun f' hf' => by simp at hf'; rw [hf']⟩⟩⟩
        · cases hv
      · cases hv
    · cases hv
  case call c =>
    split at hc
    · simp only [Option.bind_eq_some_iff, Option.some.injEq] at hc
      obtain ⟨_, _, _, _, rfl⟩ := hc
      simp [effI] at hv
    · rename_i b hcal
      simp only [Option.bind_eq_some_iff] at hc
      obtain ⟨args, hargs, hc⟩ := hc
      exact builtin_eff hop hcal hargs hc hk hv hσ hH
    · cases hc
  all_goals cases hc

end Go.Eng

/- Part EngW. -/
namespace Go.Eng
open Go

variable {P : Program} {μ μ' : Mu} {H H' : AHeap} {w w' : World}

/-- What a call leaves. -/
def RPost (P : Program) (μ : Mu) (w : World) (Q : Value → AHeap → Prop) : Ending → World → Prop
  | .returned v', w' => ∃ v H' μ', Q v H' ∧ VR μ' v v' ∧ HR P μ' H' w' ∧ Step μ w μ' w'
  | _, _ => False

/-- The function has a body. -/
def Ent (P : Program) (f : FuncId) : Prop := ∃ fn, P.funcs[f]? = some fn ∧ fn.body.isSome = true ∧ (fn.name == "runtime.NumGoroutine") = false

/-- The function called with these arguments in this memory returns, and what it returns and leaves is as Q says. -/
def Runs (P : Program) (f : FuncId) (args : List Value) (H : AHeap) (Q : Value → AHeap → Prop) : Prop :=
  Ent P f ∧ ∀ (μ : Mu) (w : World) (args' : Array Value), HR P μ H w → VRs μ args args'.toList → Calls P f args' w (RPost P μ w Q)

def FW (ro : Option Nat) : Fence := { Fence.wide with round := ro }

theorem FW_fn (ro : Option Nat) (f : FuncId) : (FW ro).fn f := trivial
theorem FW_depth (ro : Option Nat) : (FW ro).depth.isSome = true → ∀ {p : Prop}, p := fun h => by cases h

theorem callsFW {ro : Option Nat} {n : Nat} {f : FuncId} {args : Array Value} {R : Ending → World → Prop} (h : Calls P f args w R) : CallsIn (FW ro) n P f args w R := by
  have := (callsIn_wide (n := n)).2 h
  cases ro with
  | none => exact this
  | some l => exact this.inRound l

/-- A round of the loop l, asked for by yield with these arguments. -/
def Yields (P : Program) (l : Nat) (args : List Value) (H : AHeap) (Q : Value → AHeap → Prop) : Prop :=
  ∀ (μ : Mu) (w : World) (l' : Nat) (args' : Array Value) (ro : Option Nat) (n : Nat), HR P μ H w → NumR μ l l' → VRs μ args args'.toList →
    ∃ (f : FuncId) (tmps : Array Value) (as bd : Code), (Instr.yield l' args').run P w = .ok (.round l' f tmps as bd) w ∧ RoundIn (FW ro) n P l' f tmps as bd w (RPost P μ w Q)

def WCall (P : Program) (f : Value) (args : List Value) (H : AHeap) (Q : Value → AHeap → Prop) : Prop :=
  match f with
  | .func (.func g) fs cs => Runs P g (fs.toList ++ args ++ cs.toList) H Q
  | .func (.yield l) _ _ => Yields P l args H Q
  | _ => False

def wpI (P : Program) (σ : List Value) (H : AHeap) (i : Ins) (K : Value → AHeap → Prop) : Prop :=
  match i with
  | .call f args => WCall P (f.ev σ) (args.map (·.ev σ)) H K
  | i =>
    match i.kd with
    | .pure => ∃ v, pureI σ i = some v ∧ K v H
    | .read => ∃ v, readI σ H i = some v ∧ K v H
    | .alloc => ∃ p, allocI σ i = some p ∧ K (p.2.at H.next) (H.new p.1)
    | .eff => ∃ p, effI σ H i = some p ∧ K p.1 p.2

def wpR (P : Program) : List ROp → List Value → AHeap → (List Value → AHeap → Prop) → Prop
  | [], σ, H, K => K σ H
  | o :: ops, σ, H, K =>
    match wantG σ o.g with
    | true => wpI P σ H o.i fun v H => wpR P ops (setT σ o.d v) H K
    | false => wpR P ops (setT σ o.d undef) H K

/-- Marks of loops over functions, as they lie among a frame's deferred calls. -/
def Marks (n0 : Nat) (w : World) : List Deferred → Prop
  | [] => n0 ≤ w.heap.size
  | d :: ds => (∃ b, d = { target := .collected b, args := #[] } ∧ n0 ≤ b ∧ w.heap[b]? = some (.deferred (some [])) ∧ ∀ e ∈ ds, ∀ c, e.target = .collected c → c < b) ∧ Marks n0 w ds

theorem Marks.step {n0 : Nat} {ds : List Deferred} (h : Marks n0 w ds) (hs : Step μ w μ' w') : Marks n0 w' ds := by
  induction ds with
  | nil => exact Nat.le_trans h hs.size
  | cons d ds ih =>
    obtain ⟨⟨b, h1, h0, h2, h3⟩, h4⟩ := h
    refine ⟨⟨b, h1, h0, ?_, h3⟩, ih h4⟩
    have hlt : b < w.heap.size := (Array.getElem?_eq_some_iff.1 h2).1
    have := hs.evo b hlt
    rw [h2] at this
    generalize w'.heap[b]? = z at this
    cases this
    rfl

/-- The model's frame stands for the abstract one. -/
structure AR (n0 : Nat) (μ : Mu) (σ : List Value) (w : World) (a : Act) : Prop where
  tmps : VRs μ σ a.tmps.toList
  marks : Marks n0 w a.defers

theorem AR.put {n0 : Nat} {σ : List Value} {a : Act} (h : AR n0 μ σ w a) (hs : Step μ w μ' w') (d : Option Tmp) {v v' : Value} (hv : VR μ' v v') : AR n0 μ' (setT σ d v) w' (a.put d v') := by
  cases d with
  | none => exact ⟨h.tmps.mono hs.keep, h.marks.step hs⟩
  | some d => exact ⟨by simp only [setT, Act.put, Array.toList_setIfInBounds]; exact (h.tmps.mono hs.keep).set d hv, h.marks.step hs⟩

theorem want_sim' {ops : Array Oper} {o : Oper} {g : Option (Nat × Bool)} {σ : List Value} {a : Act} (hg : cGuard ops.toList o.guard = some g) (hσ : ∀ t b, g = some (t, b) → VR μ (σ.getD t undef) (a.tmps.toList.getD t undef)) :
    Region.wanted o (yielded ops a.tmps) = wantG σ g := by
  cases hq : o.guard with
  | none => rw [hq] at hg; simp [cGuard] at hg; subst hg; simp [Region.wanted, hq, wantG]
  | some jw =>
    obtain ⟨j, want⟩ := jw
    rw [hq] at hg
    simp only [cGuard, bind, Option.bind_eq_some_iff, pure, Option.some.injEq] at hg
    obtain ⟨p, hp, d, hd, rfl⟩ := hg
    have hp' : ops[j]? = some p := by simpa using hp
    simp only [Region.wanted, hq, yielded, hp', Option.bind_some, hd, wantG]
    have hr := hσ d _ rfl
    have e1 : a.tmps.toList.getD d undef = (a.tmps[d]?).getD undef := by simp [List.getD]
    rw [e1] at hr
    cases ht : a.tmps[d]? with
    | none =>
      rw [ht] at hr
      simp only [Option.getD_none] at hr
      generalize σ.getD d undef = x at hr ⊢
      generalize hu : undef = y at hr
      cases hr with
      | tuple h => simp
      | atom h => subst hu; simp [undef]
      | _ => cases hu
    | some y =>
      rw [ht] at hr
      simp only [Option.getD_some] at hr
      generalize σ.getD d undef = x at hr ⊢
      cases hr with
      | atom h => cases y <;> simp
      | _ => simp

theorem want_sim {ops : Array Oper} {o : Oper} {g : Option (Nat × Bool)} {σ : List Value} {a : Act} (hg : cGuard ops.toList o.guard = some g) (hσ : VRs μ σ a.tmps.toList) :
    Region.wanted o (yielded ops a.tmps) = wantG σ g := want_sim' hg fun t _ _ => hσ.getD t

theorem VR.yield_inv {l : Nat} {fs cs : Array Value} {v' : Value} (h : VR μ (.func (.yield l) fs cs) v') : ∃ l', v' = .func (.yield l') #[] #[] ∧ NumR μ l l' := by
  cases h with
  | atom _ h => cases h
  | yield h => exact ⟨_, rfl, h⟩

theorem not_defer {o : Oper} {i : Ins} (h : cOp P o = some i) : ∀ c, o.op ≠ .defer c := by
  intro c hc
  simp [cOp, hc] at h

def isCl : Ins → Bool
  | .call .. => true
  | _ => false

theorem cBuiltin_call {b : Builtin} {ts : Array TypeId} {args : List Rv} {i : Ins} (hc : cBuiltin P b ts args = some i) : isCl i = false := by
  unfold cBuiltin at hc
  split at hc
  · split at hc
    · cases hc; rfl
    · cases hc; rfl
    · cases hc; rfl
    · split at hc
      · cases hc; rfl
      · cases hc
    · cases hc
  · split at hc
    · cases hc; rfl
    · cases hc
  · split at hc
    · simp only [bind, Option.bind_eq_some_iff, pure, Option.some.injEq] at hc
      obtain ⟨_, _, _, _, rfl⟩ := hc
      rfl
    · cases hc
  · split at hc
    · simp only [bind, Option.bind_eq_some_iff, pure, Option.some.injEq] at hc
      obtain ⟨_, _, rfl⟩ := hc
      rfl
    · cases hc
  · split at hc
    · simp only [bind, Option.bind_eq_some_iff, pure, Option.some.injEq] at hc
      obtain ⟨_, _, rfl⟩ := hc
      rfl
    · cases hc
  · cases hc; rfl
  · cases hc; rfl
  · cases hc

set_option maxHeartbeats 2000000 in
theorem call_inv {o : Oper} {f : Rv} {args : List Rv} (hc : cOp P o = some (.call f args)) : ∃ c fo, o.op = .call c ∧ c.callee = .value fo ∧ cRv fo = some f ∧ c.args.toList.mapM cRv = some args := by
  cases hop : o.op <;> simp only [cOp, hop, bind, Option.bind_eq_some_iff, pure, Option.some.injEq] at hc
  case call c =>
    split at hc
    · rename_i fo hcal
      simp only [Option.bind_eq_some_iff, Option.some.injEq] at hc
      obtain ⟨f', hf', args', hargs', e⟩ := hc
      cases e
      exact ⟨c, fo, rfl, hcal, hf', hargs'⟩
    · simp only [Option.bind_eq_some_iff] at hc
      obtain ⟨args', hargs', hc⟩ := hc
      exact absurd (cBuiltin_call hc) (by simp [isCl])
    · cases hc
  case move => obtain ⟨_, _, e⟩ := hc; cases e
  case assign => obtain ⟨_, _, e⟩ := hc; cases e
  case pick => obtain ⟨_, _, _, _, _, _, e⟩ := hc; cases e
  case alloc => obtain ⟨_, _, e⟩ := hc; cases e
  case box => obtain ⟨_, _, e⟩ := hc; cases e
  case build => obtain ⟨_, _, _, _, e⟩ := hc; cases e
  case buildSlice =>
    split at hc
    · simp only [Option.bind_eq_some_iff] at hc
      obtain ⟨z, _, ps, _, hc⟩ := hc
      obtain ⟨_, e⟩ := bif_some hc
      cases e
    · cases hc
  case load =>
    obtain ⟨r, hr, b, hb, n, hn, hc⟩ := hc
    cases b <;> simp only [cond_true, cond_false, Option.some.injEq] at hc <;> cases hc
  case store => obtain ⟨_, _, _, _, _, _, e⟩ := hc; cases e
  case nilCheck => obtain ⟨_, _, e⟩ := hc; cases e
  case binOp op t x y yt =>
    exfalso
    rcases cBin_kd hc with h | h <;> cases h
  case unOp => obtain ⟨_, _, e⟩ := hc; cases e
  case convert =>
    split at hc
    · simp only [Option.bind_eq_some_iff, Option.some.injEq] at hc
      obtain ⟨_, _, e⟩ := hc; cases e
    · cases hc
  case sliceToArrayPointer =>
    split at hc
    · simp only [Option.bind_eq_some_iff, Option.some.injEq] at hc
      obtain ⟨_, _, e⟩ := hc; cases e
    · cases hc
  case makeFunc =>
    split at hc
    · simp only [Option.bind_eq_some_iff, Option.some.injEq] at hc
      obtain ⟨_, _, _, _, e⟩ := hc; cases e
    · cases hc
  case makeMap =>
    split at hc <;> cases hc
  case makeSlice =>
    split at hc
    · simp only [Option.bind_eq_some_iff] at hc
      obtain ⟨_, _, _, _, _, _, _, _, hc⟩ := hc
      obtain ⟨_, e⟩ := bif_some hc
      cases e
    · cases hc
  case slice t x lo hi mx =>
    cases hmx : (mx.isSome && hi.isNone) with
    | true => rw [hmx] at hc; cases hc
    | false =>
      rw [hmx] at hc
      simp only [cond_false] at hc
      split at hc
      · simp only [Option.bind_eq_some_iff, Option.some.injEq] at hc
        obtain ⟨_, _, _, _, _, _, _, _, _, _, e⟩ := hc
        cases e
      · simp only [Option.bind_eq_some_iff, Option.some.injEq] at hc
        obtain ⟨_, _, _, _, _, _, _, _, _, _, e⟩ := hc
        cases e
      · split at hc
        · simp only [Option.bind_eq_some_iff, Option.some.injEq] at hc
          obtain ⟨_, _, _, _, _, _, _, _, _, _, e⟩ := hc
          cases e
        · cases hc
      · cases hc
  case fieldAddr =>
    split at hc
    · simp only [Option.bind_eq_some_iff] at hc
      obtain ⟨f, hf, s, hs, hc⟩ := hc
      split at hc
      · cases hc
      · simp only [Option.bind_eq_some_iff, Option.some.injEq] at hc
        obtain ⟨_, _, e⟩ := hc
        cases e
    · cases hc
  case field =>
    split at hc
    · simp only [Option.bind_eq_some_iff, Option.some.injEq] at hc
      obtain ⟨_, _, _, _, _, _, _, _, e⟩ := hc
      cases e
    · cases hc
  case indexAddr =>
    split at hc
    · simp only [Option.bind_eq_some_iff, Option.some.injEq] at hc
      obtain ⟨_, _, _, _, _, _, e⟩ := hc
      cases e
    · simp only [Option.bind_eq_some_iff, Option.some.injEq] at hc
      obtain ⟨_, _, _, _, _, _, e⟩ := hc
      cases e
    · cases hc
  case index =>
    split at hc
    · simp only [Option.bind_eq_some_iff, Option.some.injEq] at hc
      obtain ⟨_, _, _, _, _, _, _, _, e⟩ := hc
      cases e
    · split at hc
      · simp only [Option.bind_eq_some_iff, Option.some.injEq] at hc
        obtain ⟨_, _, e⟩ := hc
        cases e
      · cases hc
    · cases hc
  case lookup =>
    split at hc
    · simp only [Option.bind_eq_some_iff] at hc
      obtain ⟨_, _, _, _, _, _, _, _, _, _, hc⟩ := hc
      obtain ⟨_, e⟩ := bif_some hc
      cases e
    · cases hc
  case mapUpdate =>
    split at hc
    · simp only [Option.bind_eq_some_iff] at hc
      obtain ⟨_, _, _, _, _, _, _, _, hc⟩ := hc
      obtain ⟨_, e⟩ := bif_some hc
      cases e
    · cases hc
  case range =>
    split at hc
    · simp only [Option.bind_eq_some_iff, Option.some.injEq] at hc
      obtain ⟨_, _, e⟩ := hc
      cases e
    · cases hc
  case next x s =>
    cases s <;> simp only [cond_true, cond_false, Option.bind_eq_some_iff, Option.some.injEq, reduceCtorEq] at hc
    obtain ⟨_, _, e⟩ := hc
    cases e
  case entry => obtain ⟨_, _, e⟩ := hc; cases e
  case extract => obtain ⟨_, _, e⟩ := hc; cases e
  all_goals cases hc

/-- One operation: what the abstract one leaves, the model's leaves. -/
theorem op_sim {o : Oper} {i : Ins} {σ : List Value} {a b : Act} {K : Value → AHeap → Prop} {next : Act → World → Prop} {Q : Exit → Act → World → Prop} {ro : Option Nat} {n : Nat} (hc : cOp P o = some i) (he : execOp b.eval o = execOp a.eval o)
    (hw : wpI P σ H i K) (hσ : VRs μ σ a.tmps.toList) (hH : HR P μ H w)
    (hn : ∀ v v' H' μ' w', K v H' → VR μ' v v' → HR P μ' H' w' → Step μ w μ' w' → next (b.put o.dst v') w') : o.wpIn (FW ro) n P b w next Q := by
  refine ⟨fun _ _ => trivial, ?_⟩
  rw [Oper.semAt_eq _ _ _ (not_defer hc), he]
  have plain : (∃ v v' H' μ' w', K v H' ∧ VR μ' v v' ∧ HR P μ' H' w' ∧ Step μ w μ' w' ∧ ((execOp a.eval o).run P w = .ok (.value v') w' ∨ ((execOp a.eval o).run P w = .ok .skip w' ∧ v' = undef))) → o.uponIn (FW ro) n P b next Q ((execOp a.eval o).run P w) := by
    rintro ⟨v, v', H', μ', w', h1, h2, h3, h4, h5 | ⟨h5, rfl⟩⟩
    · rw [h5]; exact hn v v' H' μ' w' h1 h2 h3 h4
    · rw [h5]; exact hn v _ H' μ' w' h1 h2 h3 h4
  by_cases hcall : ∃ f args, i = .call f args
  · obtain ⟨f, args, rfl⟩ := hcall
    simp only [wpI] at hw
    obtain ⟨c, fo, hop, hcal, hfo, hargs⟩ := call_inv hc
    have hF := rv_sim hfo hσ
    have hA := rvs_sim hargs hσ
    have hres : (execOp a.eval o).run P w = ((do let d ← Deferred.ofValue (a.eval fo) (c.args.map a.eval); invoke d.target d.args) : Sem Next).run P w := by
      simp [execOp, hop, resolve, hcal]
    have hpost : ∀ e w', RPost P μ w K e w' → (match e, w' with
        | .returned v, w'' => next (b.put o.dst v) w''
        | .panicked chain, w'' => Q (.panic chain) b w''
        | .outgrown, _ => LetsOut Q : Prop) := by
      intro e w' h
      cases e with
      | returned v' => obtain ⟨v, H', μ', h1, h2, h3, h4⟩ := h; exact hn v v' H' μ' w' h1 h2 h3 h4
      | panicked => exact h.elim
      | outgrown => exact h.elim
    unfold WCall at hw
    split at hw
    · rename_i g fs cs e
      rw [e] at hF
      obtain ⟨ys, ds, hfv, h1, h2⟩ := hF.func_inv
      have hargs' : VRs μ (fs.toList ++ args.map (·.ev σ) ++ cs.toList) (ys ++ c.args.map a.eval ++ ds).toList := by
        simp only [Array.toList_append, Array.toList_map]
        exact (h1.append hA).append h2
      obtain ⟨⟨fn, hfn, hbs, hnm⟩, hw⟩ := hw
      have hcalls := hw μ w _ hH hargs'
      have hbn : fn.body.isNone = false := by cases h : fn.body <;> simp_all
      have : (execOp a.eval o).run P w = .ok (.enter g (ys ++ c.args.map a.eval ++ ds)) w := by
        rw [hres, hfv]
        have hnm' : fn.name ≠ "runtime.NumGoroutine" := by simpa using hnm
        have hbn' : fn.body ≠ none := by intro h; rw [h] at hbn; cases hbn
        simp [Deferred.ofValue, invoke, callFunc, hfn, hnm', hbn', Array.append_assoc]
      rw [this, Oper.uponIn_enter]
      exact ⟨(by cases ro <;> simp [FW, Fence.wide]), (callsFW hcalls).mono hpost⟩
    · rename_i l fs cs e
      rw [e] at hF
      obtain ⟨l', hfv, hl⟩ := hF.yield_inv
      obtain ⟨f', tmps, as, bd, hr, hround⟩ := hw μ w l' (c.args.map a.eval) ro (n - 1) hH hl (by simpa using hA)
      have : (execOp a.eval o).run P w = .ok (.round l' f' tmps as bd) w := by
        rw [hres, hfv]
        simpa [Deferred.ofValue, invoke] using hr
      rw [this, Oper.uponIn_round]
      exact ⟨(by cases ro <;> simp [FW, Fence.wide]), hround.mono hpost⟩
    · exact hw.elim
  · have hi : match i.kd with
      | .pure => ∃ v, pureI σ i = some v ∧ K v H
      | .read => ∃ v, readI σ H i = some v ∧ K v H
      | .alloc => ∃ p, allocI σ i = some p ∧ K (p.2.at H.next) (H.new p.1)
      | .eff => ∃ p, effI σ H i = some p ∧ K p.1 p.2 := by
      cases i <;> first | exact hw | exact absurd ⟨_, _, rfl⟩ hcall
    apply plain
    cases hk : i.kd with
    | pure =>
      rw [hk] at hi
      obtain ⟨v, h1, h2⟩ := hi
      obtain ⟨v', hv', hr⟩ := pure_sim hc hk h1 hσ
      exact ⟨v, v', H, μ, w, h2, hv', hH, .refl _ _, .inl (hr w)⟩
    | read =>
      rw [hk] at hi
      obtain ⟨v, h1, h2⟩ := hi
      obtain ⟨v', hv', hr⟩ := read_sim hc hk h1 hσ hH
      exact ⟨v, v', H, μ, w, h2, hv', hH, .refl _ _, .inl hr⟩
    | alloc =>
      rw [hk] at hi
      obtain ⟨⟨ob, r⟩, h1, h2⟩ := hi
      obtain ⟨μ', w', v', h⟩ := alloc_sim hc hk h1 hσ hH (N := H.next) (n' := H.next + 1) (hH.next _ (Nat.le_refl _)) (by omega) (by omega)
      exact ⟨_, v', _, μ', w', h2, h.val, h.hr, h.step, .inl h.run⟩
    | eff =>
      rw [hk] at hi
      obtain ⟨⟨v, H'⟩, h1, h2⟩ := hi
      obtain ⟨μ', w', v', h⟩ := eff_sim hc hk h1 hσ hH
      exact ⟨v, v', H', μ', w', h2, h.val, h.hr, h.step, h.run⟩

end Go.Eng

/- Part EngX. -/
namespace Go.Eng
open Go

variable {P : Program} {μ μ' : Mu} {H H' : AHeap} {w w' : World}

theorem ev_congr {V W : List Value} {r : Rv} (h : ∀ t ∈ rvTmps r, V.getD t undef = W.getD t undef) : r.ev V = r.ev W := by
  cases r with
  | t n => exact h n (by simp [rvTmps])
  | c v => rfl

theorem evs_congr {V W : List Value} {rs : List Rv} (h : ∀ t ∈ rs.flatMap rvTmps, V.getD t undef = W.getD t undef) : ∀ r ∈ rs, r.ev V = r.ev W :=
  fun r hr => ev_congr fun t ht => h t (List.mem_flatMap.2 ⟨r, hr, ht⟩)

theorem map_congr {V W : List Value} : ∀ {rs : List Rv}, (∀ r ∈ rs, r.ev V = r.ev W) → rs.map (·.ev V) = rs.map (·.ev W)
  | [], _ => rfl
  | r :: rs, h => by simp [h r (by simp), map_congr (rs := rs) fun r hr => h r (by simp [hr])]

theorem boundO_congr {V W : List Value} {x : Option Rv} {l d : Nat} (h : ∀ r ∈ x.toList, r.ev V = r.ev W) : aBoundO V x l d = aBoundO W x l d := by
  cases x with
  | none => rfl
  | some r => simp [aBoundO, h r (by simp)]

theorem fillL_congr {V W : List Value} : ∀ (ps : List (Nat × Nat × Rv)) (z : List Value), (∀ r ∈ ps.map (·.2.2), r.ev V = r.ev W) → fillL V z ps = fillL W z ps
  | [], _, _ => rfl
  | (o, s, x) :: ps, z, h => by
    simp only [fillL]
    rw [h x (by simp)]
    simp only [fillL_congr ps _ fun r hr => h r (by simp only [List.map_cons, List.mem_cons]; exact .inr hr)]

theorem pureI_congr {V W : List Value} {i : Ins} (h : ∀ r ∈ i.rvs, r.ev V = r.ev W) : pureI V i = pureI W i := by
  cases i <;> simp only [Ins.rvs, List.mem_cons, List.not_mem_nil, or_false, forall_eq_or_imp, forall_eq, List.mem_append] at h <;> simp only [pureI] <;>
    first
    | rfl
    | (simp only [h]; done)
    | (rw [fillL_congr _ _ h]; done)
    | (rw [map_congr fun r hr => h r (.inl hr), map_congr fun r hr => h r (.inr hr)]; done)
    | (obtain ⟨h1, h2⟩ := h
       simp only [h1, boundO_congr fun r hr => h2 r (.inl (.inl hr)), boundO_congr fun r hr => h2 r (.inl (.inr hr)), boundO_congr fun r hr => h2 r (.inr hr)])

theorem readI_congr {V W : List Value} {i : Ins} (h : ∀ r ∈ i.rvs, r.ev V = r.ev W) : readI V H i = readI W H i := by
  cases i <;> simp only [Ins.rvs, List.mem_cons, List.not_mem_nil, or_false, forall_eq_or_imp, forall_eq, List.mem_append] at h <;> simp only [readI] <;>
    first
    | rfl
    | (simp only [h]; done)
    | (obtain ⟨h1, h2⟩ := h
       rename_i esz x lo hi mx
       cases mx with
       | none => simp only [h1, boundO_congr fun r hr => h2 r (.inl (.inl hr)), boundO_congr fun r hr => h2 r (.inl (.inr hr)), boundO_congr fun r hr => h2 r (.inr hr)]
       | some m => simp only [h1, h2 m (.inr (by simp)), boundO_congr fun r hr => h2 r (.inl (.inl hr)), boundO_congr fun r hr => h2 r (.inl (.inr hr)), boundO_congr fun r hr => h2 r (.inr hr)])

theorem allocI_congr {V W : List Value} {i : Ins} (h : ∀ r ∈ i.rvs, r.ev V = r.ev W) : allocI V i = allocI W i := by
  cases i <;> simp only [Ins.rvs, List.mem_cons, List.not_mem_nil, or_false, forall_eq_or_imp, forall_eq, List.mem_append] at h <;> simp only [allocI] <;>
    first
    | rfl
    | (simp only [h]; done)
    | (rw [fillL_congr _ _ h]; done)

theorem effI_congr {V W : List Value} {i : Ins} (h : ∀ r ∈ i.rvs, r.ev V = r.ev W) : effI V H i = effI W H i := by
  cases i <;> simp only [Ins.rvs, List.mem_cons, List.not_mem_nil, or_false, forall_eq_or_imp, forall_eq, List.mem_append] at h <;> simp only [effI] <;>
    first
    | rfl
    | (simp only [h]; done)

theorem wpI_congr {V W : List Value} {i : Ins} {K : Value → AHeap → Prop} (h : ∀ r ∈ i.rvs, r.ev V = r.ev W) : wpI P V H i K = wpI P W H i K := by
  by_cases hc : ∃ f args, i = .call f args
  · obtain ⟨f, args, rfl⟩ := hc
    simp only [Ins.rvs, List.mem_cons, forall_eq_or_imp] at h
    simp only [wpI, h.1, map_congr h.2]
  · have e : ∀ U, wpI P U H i K = (match i.kd with
      | .pure => ∃ v, pureI U i = some v ∧ K v H
      | .read => ∃ v, readI U H i = some v ∧ K v H
      | .alloc => ∃ p, allocI U i = some p ∧ K (p.2.at H.next) (H.new p.1)
      | .eff => ∃ p, effI U H i = some p ∧ K p.1 p.2) := by
      intro U
      cases i <;> first | rfl | exact absurd ⟨_, _, rfl⟩ hc
    rw [e, e, pureI_congr h, readI_congr h, allocI_congr h, effI_congr h]

theorem getCells_mono {a : Addr} {n : Nat} {l : List Value} (hm : ∀ N o, H.get N = some o → H'.get N = some o) (h : getCells H a n = some l) : getCells H' a n = some l := by
  unfold getCells at *
  split at h
  · rename_i c e r hg
    simp only [hm _ _ hg]
    exact h
  · cases h

theorem eszOf_mono {a : Option Addr} {n : Nat} (hm : ∀ N o, H.get N = some o → H'.get N = some o) (h : eszOf H a n = true) : eszOf H' a n = true := by
  unfold eszOf at *
  split at h
  · split at h
    · rename_i hg
      simp only [hm _ _ hg]
      exact h
    · rename_i hg
      simp only [hm _ _ hg]
    · cases h
  · cases h

/-- A read finds the same where there is more memory. -/
theorem readI_mono {V : List Value} {i : Ins} {v : Value} (hm : ∀ N o, H.get N = some o → H'.get N = some o) (h : readI V H i = some v) : readI V H' i = some v := by
  cases i <;> simp only [readI] at h ⊢
  case ld =>
    split at h
    · split at h
      · rename_i hg
        simp only [hm _ _ hg]
        exact h
      · cases h
    · cases h
  case lda =>
    split at h
    · simp only [Option.map_eq_some_iff] at h ⊢
      obtain ⟨l, h1, h2⟩ := h
      exact ⟨l, getCells_mono hm h1, h2⟩
    · cases h
  case eqp neg x y =>
    simp only [Option.map_eq_some_iff] at h ⊢
    obtain ⟨r, h1, h2⟩ := h
    refine ⟨r, ?_, h2⟩
    split at h1
    · exact h1
    · exact h1
    · split at h1
      · rename_i hg hg'
        simp only [hm _ _ hg, hm _ _ hg']
        exact h1
      · cases h1
    · cases h1
  case sls esz x lo hi mx =>
    split at h
    · split at h
      · rename_i hc
        rw [if_pos hc]
        exact h
      · rename_i hc
        rw [if_neg hc]
        cases mx with
        | some m => exact h
        | none =>
          simp only at h ⊢
          cases he : eszOf H _ esz with
          | false => rw [he] at h; cases h
          | true =>
            rw [he] at h
            rw [eszOf_mono hm he]
            exact h
    · cases h
  case lk kn zero ok m k =>
    cases hk : keyOK kn (k.ev V) with
    | false => rw [hk] at h; cases h
    | true =>
      rw [hk] at h
      simp only [Bool.not_true, cond_false, Option.bind_eq_some_iff] at h ⊢
      obtain ⟨es, h1, h2⟩ := h
      refine ⟨es, ?_, h2⟩
      split at h1
      · exact h1
      · split at h1
        · rename_i hg
          simp only [hm _ _ hg]
          exact h1
        · cases h1
      · cases h1
  case lenm =>
    split at h
    · exact h
    · split at h
      · rename_i hg
        simp only [hm _ _ hg]
        exact h
      · cases h
    · cases h
  case ent =>
    split at h
    · split at h
      · rename_i hg
        simp only [hm _ _ hg]
        split at h
        · rename_i hg2
          simp only [hm _ _ hg2]
          exact h
        · cases h
      · cases h
    · cases h
  all_goals cases h

theorem oaddr_eq {a b : Option Addr} (h : (a == b) = true) : a = b := by simpa using h

theorem valEq_eq {x y : Value} (h : valEq x y = true) : x = y := by
  unfold valEq at h
  split at h <;> simp_all

theorem valsEq_eq : ∀ {xs ys : List Value}, valsEq xs ys = true → xs = ys
  | [], [], _ => rfl
  | x :: xs, y :: ys, h => by
    simp only [valsEq, Bool.and_eq_true] at h
    rw [valEq_eq h.1, valsEq_eq h.2]
  | [], _ :: _, h => by cases h
  | _ :: _, [], h => by cases h

theorem fnEq_eq {f g : Fn} (h : fnEq f g = true) : f = g := by
  unfold fnEq at h
  split at h <;> simp_all

theorem valEq1_eq {x y : Value} (h : valEq1 x y = true) : x = y := by
  unfold valEq1 at h
  split at h
  · simp only [Bool.and_eq_true] at h
    rw [fnEq_eq h.1.1, Array.toList_inj.1 (valsEq_eq h.1.2), Array.toList_inj.1 (valsEq_eq h.2)]
  · rw [Array.toList_inj.1 (valsEq_eq h)]
  · rw [Array.toList_inj.1 (valsEq_eq h)]
  · exact valEq_eq h

end Go.Eng
