/- Symbolic values and the evaluator: the code of a function as a tree of what is left to be shown. Closed data: no value of a run stands in it. -/
import Derived.Test.YtjfhdhplmibnfaaAmBase
import Derived.CheckFast
namespace Go.AM

inductive IOp where
  | add | sub | mul | quo | rem | and | or | xor | andNot | shl | shr | min | max
  deriving DecidableEq, Repr

inductive COp where
  | eql | neq | lss | leq | gtr | geq
  deriving DecidableEq, Repr

mutual
inductive IE where
  | var (n : Nat)
  | lit (z : Int)
  | bin (op : IOp) (k : IntKind) (a b : IE)
  | conv (k : IntKind) (a : IE)
  | len (l : LE)
  | slen (s : SE)
  | getc (s : SE) (i : IE)
inductive BE where
  | var (n : Nat)
  | lit (b : Bool)
  | cmp (op : COp) (a b : IE)
  | beq (a b : BE)
  | seq (a b : SE)
  | and (a b : BE)
  | not (a : BE)
inductive SE where
  | var (n : Nat)
  | lit (s : ByteArray)
  | bytes (l : LE)
inductive LE where
  | var (n : Nat)
  | nil
  | snoc (l : LE) (e : CE)
  | app (a b : LE)
  | take (l : LE) (i : IE)
  | drop (l : LE) (i : IE)
  | rep (i : IE) (e : CE)
  | setAt (l : LE) (i : IE) (o : Nat) (e : CE)
  | spl (l a : LE)
inductive CE where
  | nil
  | cons (c : SC) (r : CE)
inductive SC where
  | int (k : IntKind) (e : IE)
  | bool (b : BE)
  | str (s : SE)
  | slice (full : Bool) (s : Nat) (l : LE)
end

inductive TC where
  | c (x : SC)
  | agg (cs : List SC)
  | own (e : TypeId) (l : LE)

inductive BC where
  | c (x : SC)
  | own (e : TypeId) (l : LE)
  | row (e : TypeId) (n cap : IE) (l : LE)

inductive SV where
  | dead
  | gone
  | c (x : SC)
  | agg (cs : List SC)
  | tuple (vs : List TC)
  | own (e : TypeId) (l : LE)
  | box (cs : List BC)
  | ptr (d off : Nat)
  | eptr (cs : List SC)
  | mref (d : Nat)
  | rptr (d : Nat) (i : IE) (s o : Nat)

/-- The slots of an activation, as a tree of ten levels. -/
inductive Tr where
  | leaf (v : SV)
  | node (l r : Tr)

def Tr.get : Tr → Nat → SV
  | .leaf v, _ => v
  | .node l r, n => match n % 2 with | 0 => l.get (n / 2) | _ => r.get (n / 2)

def Tr.set : Nat → Tr → Nat → SV → Tr
  | 0, _, _, v => .leaf v
  | d + 1, .node l r, n, v => match n % 2 with | 0 => .node (Tr.set d l (n / 2) v) r | _ => .node l (Tr.set d r (n / 2) v)
  | d + 1, .leaf x, n, v => match n % 2 with | 0 => .node (Tr.set d (.leaf x) (n / 2) v) (.leaf x) | _ => .node (.leaf x) (Tr.set d (.leaf x) (n / 2) v)

def depth : Nat := 10

/-- The shape of a cell that is not known yet. -/
inductive Sh where
  | int (k : IntKind)
  | bool
  | str
  | slice (s : Nat)
  | own (e : TypeId)

inductive RSh where
  | c (s : Sh)
  | agg (l : List Sh)

/-- A requirement. -/
inductive PE where
  | le (a b : IE)
  | lt (a b : IE)
  | make (a : IE) (bytes : Nat)
  | ne0 (a : IE)
  | bytes (l : LE)
  | room (a b : LE) (bytes : Nat)
  | cons (l : LE)

/-- What is havocked at a loop's head. -/
inductive VE where
  | i (e : IE)
  | b (e : BE)
  | s (e : SE)
  | l (e : LE)

inductive STree where
  | stuck (why : Nat)
  | branch (b : BE) (t e : STree)
  | req (p : PE) (t : STree)
  | elem (l : LE) (i : IE) (sh : List Sh) (n : Nat) (t : STree)
  | nilq (l : LE) (n : Nat) (t : STree)
  | call (f : FuncId) (args : List SV) (res : SV) (outs : List SV) (n : Nat) (sh : List Sh) (t : STree)
  | loop (lv : Nat) (init : List VE) (n : Nat) (t : STree)
  | again (lv : Nat) (vals : List VE)
  | ret (res : SV) (outs : List SV)

/-- A branch; none where the test is known. -/
def mkBranch (b : BE) (t e : STree) : STree :=
  match b with
  | .lit true => t
  | .lit false => e
  | b => .branch b t e

def mkNot : BE → BE
  | .lit b => .lit (!b)
  | b => .not b

def ofC : Value → Option SC
  | .slice none 0 0 => some (.slice true 0 .nil)
  | .bool b => some (.bool (.lit b))
  | .int k n => some (.int k (.lit n))
  | .string s => some (.str (.lit s))
  | _ => none

def ofCs : List Value → Option (List SC)
  | [] => some []
  | v :: vs =>
    match ofC v, ofCs vs with
    | some c, some cs => some (c :: cs)
    | _, _ => none

def ofV : Value → SV
  | .agg cs => match ofCs cs.toList with | some l => .agg l | none => .dead
  | v => match ofC v with | some c => .c c | none => .dead

/-- A box, as an operand: the pointer to it, or the slice that it is. -/
def boxO (t : Nat) (cs : List BC) : SV :=
  match cs with
  | [.row _ _ _ _] => .mref t
  | _ => .ptr t 0

def getO (P : Program) (g : Nat → SV) : Operand → SV
  | .tmp t =>
    match g t with
    | .box cs => boxO t cs
    | .own e xs => .c (.slice false (P.cellsOf e) xs)
    | .tuple _ => .dead
    | x => x
  | .const v => ofV v
  | _ => .dead

/-- The cells of a value that is stored, or built into another; none for a pointer and the like. -/
def SV.cells : SV → Option (List SC)
  | .c x => some [x]
  | .agg cs => some cs
  | _ => none

abbrev Ups := List (Nat × SV)
/-- What comes behind an operation: its value, the other slots that it writes, the slots that it has read beyond its operands, the next free variable. -/
abbrev K := SV → Ups → List Nat → Nat → STree

def isAggT (P : Program) (T : TypeId) : Option Bool :=
  match P.underlying T with
  | some (.struct _) => some true
  | some (.array _ _) => some true
  | some _ => some false
  | none => none

/-- The field's offset in cells; none where it has no cells. -/
def fieldOff (P : Program) (T : TypeId) (f : Nat) : Option Nat :=
  match P.underlying T with
  | some (.struct fs) =>
    match fs[f]? with
    | some fd => if P.cellsOf fd.type = 0 then none else some fd.offset
    | none => none
  | _ => none

/-- The leaves of a type: what its cells hold. -/
def leafs (P : Program) : Nat → TypeId → Option (List Sh)
  | 0, _ => none
  | d + 1, T =>
    match P.underlying T with
    | some (.struct fs) => fs.toList.foldr (fun f acc => match leafs P d f.type, acc with | some a, some b => some (a ++ b) | _, _ => none) (some [])
    | some (.array n e) => (leafs P d e).map fun l => (List.replicate n l).flatten
    | some (.slice e) => some [.slice (P.cellsOf e)]
    | some (.int k) => some [.int k]
    | some .bool => some [.bool]
    | some .string => some [.str]
    | _ => none

/-- The element types of the slices among a type's leaves. -/
def sliceElems (P : Program) : Nat → TypeId → List (Option TypeId)
  | 0, _ => []
  | d + 1, T =>
    match P.underlying T with
    | some (.struct fs) => fs.toList.flatMap fun f => sliceElems P d f.type
    | some (.array n e) => (List.replicate n (sliceElems P d e)).flatten
    | some (.slice e) => [some e]
    | _ => [none]

def shapeAt : Sh → Nat → SC
  | .int k, n => .int k (.var n)
  | .bool, n => .bool (.var n)
  | .str, n => .str (.var n)
  | .slice s, n => .slice false s (.var n)
  | .own _, n => .slice false 0 (.var n)

def shapesAt : List Sh → Nat → List SC
  | [], _ => []
  | s :: ss, n => shapeAt s n :: shapesAt ss (n + 1)

def zeroCell (e : Option TypeId) (c : SC) : BC :=
  match e, c with
  | some e, .slice true _ .nil => .own e .nil
  | _, c => .c c

/-- The cells of a new variable. -/
def zeroB (P : Program) (T : TypeId) : Option (List BC) :=
  match P.info? T with
  | some i =>
    match i.zero with
    | some z =>
      match ofCs z.cells.toList with
      | some cs => if (sliceElems P 8 T).length = cs.length then some (List.zipWith zeroCell (sliceElems P 8 T) cs) else none
      | none => none
    | none => none
  | none => none

def stripB (P : Program) : BC → SC
  | .c x => x
  | .own e l => .slice false (P.cellsOf e) l
  | .row e _ _ l => .slice false (P.cellsOf e) l

def plainB (cs : List BC) : Bool := cs.all fun c => match c with | .row _ _ _ _ => false | _ => true

/-- Fills parts into cells. -/
def fillA (place : Nat → Option (Nat × Nat)) : List SC → List (Nat × SV) → Option (List SC)
  | cells, [] => some cells
  | cells, (i, v) :: rest =>
    match place i, v.cells with
    | some (off, size), some vc =>
      if vc.length = size ∧ off + size ≤ cells.length then fillA place (cells.take off ++ vc ++ cells.drop (off + size)) rest else none
    | _, _ => none

def ceOf : List SC → CE
  | [] => .nil
  | c :: cs => .cons c (ceOf cs)

/-- A list of elements, out of all their cells. -/
def lOf (size : Nat) (cs : List SC) : Nat → LE
  | 0 => .nil
  | n + 1 => .snoc (lOf size cs n) (ceOf ((cs.drop (n * size)).take size))

/-- A cell as the elements of its type have it. -/
def normC (s : Sh) (c : SC) : Option SC :=
  match s, c with
  | .slice s, .slice _ s' l => if s' = s then some (.slice false s l) else (match l with | .nil => some (.slice false s .nil) | _ => none)
  | _, c => some c

def normCs : List Sh → List SC → Option (List SC)
  | [], [] => some []
  | s :: ss, c :: cs => match normC s c, normCs ss cs with | some v, some vs => some (v :: vs) | _, _ => none
  | _, _ => none

def cellEq : SC → SC → Option BE
  | .int k a, .int k' b => if k = k' then some (.cmp .eql a b) else none
  | .bool a, .bool b => some (.beq a b)
  | _, _ => none

def aggEq : List SC → List SC → Option BE
  | [], [] => some (.lit true)
  | a :: as, b :: bs =>
    match cellEq a b, aggEq as bs with
    | some x, some y => some (.and x y)
    | _, _ => none
  | _, _ => none

def kindOk (sh : Sh) (c : SC) : Bool :=
  match sh, c with
  | .int k, .int k' _ => decide (k = k')
  | .bool, .bool _ => true
  | _, _ => false

def kindsOk : List Sh → List SC → Bool
  | [], [] => true
  | s :: ss, c :: cs => kindOk s c && kindsOk ss cs
  | _, _ => false

def isPlain (P : Program) (plain : List TypeId) (T : TypeId) (xs ys : List SC) : Bool :=
  plain.contains T && match leafs P 8 T with | some l => kindsOk l xs && kindsOk l ys | none => false

def bin (P : Program) (plain : List TypeId) (op : BinOp) (T : TypeId) (x y : SV) (k : SV → STree) : STree :=
  match x, y with
  | .c (.int kx a), .c (.int ky b) =>
    match op with
    | .shl => .req (.le (.lit 0) b) (k (.c (.int kx (.bin .shl kx a b))))
    | .shr => .req (.le (.lit 0) b) (k (.c (.int kx (.bin .shr kx a b))))
    | _ =>
      if kx = ky then
        match op with
        | .add => k (.c (.int kx (.bin .add kx a b)))
        | .sub => k (.c (.int kx (.bin .sub kx a b)))
        | .mul => k (.c (.int kx (.bin .mul kx a b)))
        | .quo => .req (.ne0 b) (k (.c (.int kx (.bin .quo kx a b))))
        | .rem => .req (.ne0 b) (k (.c (.int kx (.bin .rem kx a b))))
        | .and => k (.c (.int kx (.bin .and kx a b)))
        | .or => k (.c (.int kx (.bin .or kx a b)))
        | .xor => k (.c (.int kx (.bin .xor kx a b)))
        | .andNot => k (.c (.int kx (.bin .andNot kx a b)))
        | .eql => k (.c (.bool (.cmp .eql a b)))
        | .neq => k (.c (.bool (.cmp .neq a b)))
        | .lss => k (.c (.bool (.cmp .lss a b)))
        | .leq => k (.c (.bool (.cmp .leq a b)))
        | .gtr => k (.c (.bool (.cmp .gtr a b)))
        | .geq => k (.c (.bool (.cmp .geq a b)))
        | _ => .stuck 1
      else .stuck 2
  | .c (.str a), .c (.str b) =>
    match op with
    | .eql => k (.c (.bool (.seq a b)))
    | .neq => k (.c (.bool (.not (.seq a b))))
    | _ => .stuck 3
  | .c (.bool a), .c (.bool b) =>
    match P.underlying T with
    | some .bool =>
      match op with
      | .eql => k (.c (.bool (.beq a b)))
      | .neq => k (.c (.bool (.not (.beq a b))))
      | _ => .stuck 4
    | _ => .stuck 5
  | .agg xs, .agg ys =>
    match isPlain P plain T xs ys, aggEq xs ys with
    | true, some e =>
      match op with
      | .eql => k (.c (.bool e))
      | .neq => k (.c (.bool (.not e)))
      | _ => .stuck 6
    | _, _ => .stuck 7
  | _, _ => .stuck 8

def sliceOp (full : Bool) (s : Nat) (xs : LE) (lo hi mx : Option SV) (k : SV → STree) : STree :=
  match lo, hi, mx with
  | none, some (.c (.int _ (.lit 0))), some (.c (.int _ (.lit 0))) => k (.c (.slice true s .nil))
  | none, none, none => k (.c (.slice full s xs))
  | some (.c (.int _ l)), none, none => .req (.le (.lit 0) l) (.req (.le l (.len xs)) (k (.c (.slice full s (.drop xs l)))))
  | none, some (.c (.int _ h)), none => .req (.le (.lit 0) h) (.req (.le h (.len xs)) (k (.c (.slice false s (.take xs h)))))
  | some (.c (.int _ l)), some (.c (.int _ h)), none =>
    .req (.le (.lit 0) l) (.req (.le l h) (.req (.le h (.len xs)) (k (.c (.slice false s (.drop (.take xs h) l))))))
  | _, _, _ => .stuck 10

def lenOp (P : Program) (T : TypeId) (x : SV) (k : SV → STree) : STree :=
  match P.underlying T, x with
  | some (.slice _), .c (.slice _ _ xs) => k (.c (.int .i64 (.len xs)))
  | some .string, .c (.str s) => k (.c (.int .i64 (.slen s)))
  | _, _ => .stuck 11

/-- 'append(x, y...)': x must be a slice of one's own, or be full. 'src': the slot of x, if it has one. -/
def appendOp (P : Program) (T : TypeId) (src : Option Nat) (x y : SV) (k : SV → Ups → STree) : STree :=
  match P.underlying T with
  | some (.slice e) =>
    match P.info? e with
    | some i =>
      match i.zero with
      | some z =>
        if z.cells.size = i.size ∧ 0 < i.size then
          match x, y with
          | .own e' xs, .c (.slice _ s ys) =>
            match src with
            | some t => if e' = e ∧ s = i.size then .req (.room xs ys i.bytes) (k (.own e (.app xs ys)) [(t, .c (.slice false i.size xs))]) else .stuck 20
            | none => .stuck 21
          | .c (.slice true _ .nil), .c (.slice _ s ys) =>
            if s = i.size then .req (.room .nil ys i.bytes) (k (.own e ys) []) else .stuck 22
          | _, _ => .stuck 24
        else .stuck 25
      | none => .stuck 26
    | none => .stuck 27
  | _ => .stuck 28

def slotOf : Operand → Option Nat
  | .tmp t => some t
  | _ => none

/-- How an argument is handed over. -/
inductive SAK where
  | imm (x : SV)
  | own (t : Nat) (e : TypeId) (l : LE)
  | box (d : Nat) (cs : List BC)

def SAK.sv : SAK → SV
  | .imm x => x
  | .own _ e l => .own e l
  | .box _ cs => .box cs

def SAK.slot : SAK → Option Nat
  | .imm _ => none
  | .own t _ _ => some t
  | .box d _ => some d

def argOf (P : Program) (g : Nat → SV) (x : Operand) : Option SAK :=
  match slotOf x, (slotOf x).map g with
  | some t, some (.own e l) => some (.own t e l)
  | _, _ =>
    match getO P g x with
    | .c v => some (.imm (.c v))
    | .agg cs => some (.imm (.agg cs))
    | .ptr d 0 =>
      match g d with
      | .box cs => if plainB cs = true then some (.box d cs) else none
      | _ => none
    | _ => none

def argsOf (P : Program) (g : Nat → SV) : List Operand → Option (List SAK)
  | [] => some []
  | x :: rest =>
    match argOf P g x, argsOf P g rest with
    | some a, some as => some (a :: as)
    | _, _ => none

def nodupB : List Nat → Bool
  | [] => true
  | x :: xs => !xs.contains x && nodupB xs

/-- What becomes of the slots that are handed over. -/
def upsOf : List SAK → List SV → Ups
  | .own t _ _ :: as, _ :: os => (t, .gone) :: upsOf as os
  | .box d _ :: as, o :: os => (d, o) :: upsOf as os
  | .imm _ :: as, _ :: os => upsOf as os
  | _, _ => []

/-- The shape of a box's cell. -/
def shOfB : BC → Sh
  | .c (.int k _) => .int k
  | .c (.bool _) => .bool
  | .c (.str _) => .str
  | .c (.slice _ s _) => .slice s
  | .own e _ => .own e
  | .row e _ _ _ => .own e

def boxAt : Sh → Nat → BC
  | .own e, n => .own e (.var n)
  | s, n => .c (shapeAt s n)

def boxesAt : List Sh → Nat → List BC
  | [], _ => []
  | s :: ss, n => boxAt s n :: boxesAt ss (n + 1)

/-- What the boxes hold that come back: their cells anew. -/
def outsOf : List SV → Nat → List SV × List Sh × Nat
  | [], n => ([], [], n)
  | .box cs :: as, n =>
    let sh := cs.map shOfB
    let r := outsOf as (n + sh.length)
    (.box (boxesAt sh n) :: r.1, sh ++ r.2.1, r.2.2)
  | _ :: as, n =>
    let r := outsOf as n
    (.dead :: r.1, r.2.1, r.2.2)

/-- The result of one type, 'fresh': its slices are the caller's own. -/
def resShape (P : Program) (fresh : Bool) (T : TypeId) : Option RSh :=
  match P.underlying T with
  | some (.struct _) => (leafs P 8 T).map .agg
  | some (.array _ _) => (leafs P 8 T).map .agg
  | some (.slice e) => some (.c (if fresh = true then .own e else .slice (P.cellsOf e)))
  | some (.int k) => some (.c (.int k))
  | some .bool => some (.c .bool)
  | some .string => some (.c .str)
  | _ => none

def rshTC (r : RSh) (n : Nat) : TC × List Sh :=
  match r with
  | .c (.own e) => (.own e (.var n), [.own e])
  | .c s => (.c (shapeAt s n), [s])
  | .agg l => (.agg (shapesAt l n), l)

def resTuple (P : Program) (fresh : Bool) : List TypeId → Nat → Option (List TC × List Sh × Nat)
  | [], n => some ([], [], n)
  | T :: Ts, n =>
    match resShape P fresh T with
    | some r =>
      let x := rshTC r n
      match resTuple P fresh Ts (n + x.2.length) with
      | some (vs, sh, n') => some (x.1 :: vs, x.2 ++ sh, n')
      | none => none
    | none => none

def tcSV : TC → SV
  | .c x => .c x
  | .agg cs => .agg cs
  | .own e l => .own e l

def resultAt (P : Program) (fresh : Bool) (Ts : List TypeId) (n : Nat) : Option (SV × List Sh × Nat) :=
  match resTuple P fresh Ts n with
  | some ([x], sh, n') => some (tcSV x, sh, n')
  | some (vs, sh, n') => some (.tuple vs, sh, n')
  | none => none

/-- What a slot is told to hold at a loop's head. -/
inductive HP where
  | c (s : Sh)
  | agg (l : List Sh)
  | box (l : List Sh)
  | row (e : TypeId)
  | mref (d : Nat)
  | ptr (d off : Nat)
  | dead

/-- What an evaluation is told: how many slots there are; which arguments a callee takes for its own; whose results are the caller's own; the types
that '==' compares cell by cell; the slots of results; the slots that are kept at a loop's head (by its first region). -/
structure Env where
  nt : Nat
  cons : FuncId → Nat → Bool
  fresh : FuncId → Bool
  plain : List TypeId
  res : List Nat
  keep : Nat → List (Nat × HP)
  pins : List Nat

/-- The slots, as an activation has them. -/
def gE (E : Env) (s : Tr) : Nat → SV := fun d => if d < E.nt then s.get d else .dead

/-- One operation. 'tk': a 'move', 'assign', 'load' that takes what is one's own. -/
def evOp (P : Program) (E : Env) (tk : Bool) (g : Nat → SV) (o : Oper) (n : Nat) (k : K) : STree :=
  match o.op with
  | .move x =>
    match x with
    | .tmp t =>
      match g t with
      | .tuple vs => k (.tuple vs) [(t, .gone)] [] n
      | .own e xs => if tk = true then k (.own e xs) [(t, .c (.slice false (P.cellsOf e) xs))] [] n else k (.c (.slice false (P.cellsOf e) xs)) [] [] n
      | _ => k (getO P g x) [] [] n
    | x => k (getO P g x) [] [] n
  | .assign x =>
    match x with
    | .tmp t =>
      match g t with
      | .tuple _ => .stuck 30
      | .own e xs => if tk = true then k (.own e xs) [(t, .c (.slice false (P.cellsOf e) xs))] [] n else k (.c (.slice false (P.cellsOf e) xs)) [] [] n
      | _ => k (getO P g x) [] [] n
    | .const (.slice none 0 0) =>
      match P.underlying o.type with
      | some (.slice e) => k (.own e .nil) [] [] n
      | _ => .stuck 31
    | x => k (getO P g x) [] [] n
  | .pick c a b =>
    match getO P g c with
    | .c (.bool v) => mkBranch v (k (getO P g a) [] [] n) (k (getO P g b) [] [] n)
    | _ => .stuck 32
  | .alloc T =>
    match zeroB P T with
    | some cs => k (.box cs) [] [] n
    | none => .stuck 33
  | .box _ x =>
    match (getO P g x).cells with
    | some cs => k (.box (cs.map .c)) [] [] n
    | none => .stuck 34
  | .build T parts =>
    match P.underlying T, P.info? T with
    | some (.struct fs), some i =>
      if (fs.toList.all fun f => (P.info? f.type).isSome) = true then
      match i.zero with
      | some z =>
        match ofCs z.cells.toList with
        | some zc =>
          match fillA (fun i => (fs[i]?).map fun f => (f.offset, P.cellsOf f.type)) zc (parts.toList.map fun p => (p.1, getO P g p.2)) with
          | some cs => k (.agg cs) [] [] n
          | none => .stuck 35
        | none => .stuck 36
      | none => .stuck 37
      else .stuck 39
    | _, _ => .stuck 38
  | .buildSlice T len parts =>
    match P.underlying T with
    | some (.slice e) =>
      match P.info? e with
      | some i =>
        match i.zero with
        | some z =>
          match ofCs z.cells.toList with
          | some zc =>
            if z.cells.size = i.size ∧ 0 < i.size ∧ len * i.size ≤ 1048576 then
              match fillA (fun j => some (j * i.size, i.size)) ((List.replicate len zc).flatten) (parts.toList.map fun p => (p.1, getO P g p.2)), leafs P 8 e with
              | some cs, some sh =>
                match normCs ((List.replicate len sh).flatten) cs with
                | some cs' => k (.own e (lOf i.size cs' len)) [] [] n
                | none => .stuck 46
              | _, _ => .stuck 40
            else .stuck 41
          | none => .stuck 42
        | none => .stuck 43
      | none => .stuck 44
    | _ => .stuck 45
  | .load T a =>
    match isAggT P T, getO P g a with
    | some true, .ptr d off =>
      match g d with
      | .box cs => if off + P.cellsOf T ≤ cs.length ∧ plainB cs = true then k (.agg (((cs.drop off).take (P.cellsOf T)).map (stripB P))) [] [d] n else .stuck 50
      | _ => .stuck 51
    | some false, .ptr d off =>
      match g d with
      | .box cs =>
        if plainB cs = true then
        match cs[off]? with
        | some (.own e xs) =>
          if tk = true then k (.own e xs) [(d, .box (cs.set off (.c (.slice false (P.cellsOf e) xs))))] [d] n else k (.c (.slice false (P.cellsOf e) xs)) [] [d] n
        | some (.c x) => k (.c x) [] [d] n
        | some (.row _ _ _ _) => .stuck 57
        | none => .stuck 52
        else .stuck 58
      | _ => .stuck 53
    | some true, .eptr cs => if P.cellsOf T ≤ cs.length then k (.agg (cs.take (P.cellsOf T))) [] [] n else .stuck 54
    | some false, .eptr cs =>
      match cs with
      | x :: _ => k (.c x) [] [] n
      | [] => .stuck 55
    | _, _ => .stuck 56
  | .store T a x =>
    match getO P g a with
    | .ptr d off =>
      match g d with
      | .box cs =>
        match slotOf x, (slotOf x).map g with
        | some t, some (.own e xs) =>
          if P.cellsOf T = 1 ∧ off < cs.length ∧ plainB cs = true then
            k .dead [(t, .c (.slice false (P.cellsOf e) xs)), (d, .box (cs.set off (.own e xs)))] [d] n
          else .stuck 60
        | _, _ =>
          match (getO P g x).cells with
          | some vc =>
            if vc.length = P.cellsOf T ∧ 0 < P.cellsOf T ∧ off + P.cellsOf T ≤ cs.length ∧ plainB cs = true then
              k .dead [(d, .box (cs.take off ++ vc.map .c ++ cs.drop (off + P.cellsOf T)))] [d] n
            else .stuck 61
          | none => .stuck 62
      | _ => .stuck 63
    | .rptr d i s off =>
      match g d, (getO P g x).cells with
      | .box [.row e m cp l], some vc =>
        match leafs P 8 T with
        | some sh =>
          match normCs sh vc with
          | some vc' =>
            if s = P.cellsOf e ∧ vc.length = P.cellsOf T ∧ 0 < P.cellsOf T ∧ off + P.cellsOf T ≤ P.cellsOf e then
              .req (.le (.lit 0) i) (.req (.lt i m) (k .dead [(d, .box [.row e m cp (.setAt l i off (ceOf vc'))])] [d] n))
            else .stuck 160
          | none => .stuck 161
        | none => .stuck 162
      | _, _ => .stuck 163
    | _ => .stuck 64
  | .nilCheck x =>
    match getO P g x with
    | .ptr d off => k (.ptr d off) [] [] n
    | .eptr cs => k (.eptr cs) [] [] n
    | .rptr d i s off => k (.rptr d i s off) [] [] n
    | _ => .stuck 65
  | .binOp op T x y _ => bin P E.plain op T (getO P g x) (getO P g y) fun v => k v [] [] n
  | .unOp op _ x =>
    match op, getO P g x with
    | .not, .c (.bool b) => k (.c (.bool (mkNot b))) [] [] n
    | .neg, .c (.int kd e) => k (.c (.int kd (.bin .sub kd (.lit 0) e))) [] [] n
    | _, _ => .stuck 66
  | .convert src dst x =>
    match P.underlying src, P.underlying dst, getO P g x with
    | some (.int _), some (.int kd), .c (.int _ e) => k (.c (.int kd (.conv kd e))) [] [] n
    | some (.slice e), some .string, .c (.slice _ s xs) =>
      match P.underlying e with
      | some (.int .u8) => if s = 1 then .req (.bytes xs) (k (.c (.str (.bytes xs))) [] [] n) else .stuck 67
      | _ => .stuck 68
    | _, _, _ => .stuck 69
  | .fieldAddr T x f =>
    match fieldOff P T f, getO P g x with
    | some off, .ptr d o => k (.ptr d (o + off)) [] [] n
    | some off, .eptr cs => k (.eptr (cs.drop off)) [] [] n
    | some off, .rptr d i s o => k (.rptr d i s (o + off)) [] [] n
    | _, _ => .stuck 70
  | .indexAddr T x i =>
    match P.underlying T, getO P g x, getO P g i with
    | some (.slice e), .c (.slice _ s xs), .c (.int _ ix) =>
      match leafs P 8 e with
      | some sh => if s = P.cellsOf e ∧ sh.length = s ∧ 0 < s then .elem xs ix sh n (k (.eptr (shapesAt sh n)) [] [] (n + sh.length)) else .stuck 71
      | none => .stuck 72
    | some (.slice e), .mref d, .c (.int _ ix) =>
      match g d with
      | .box [.row e' m _ _] => if e' = e ∧ 0 < P.cellsOf e then .req (.le (.lit 0) ix) (.req (.lt ix m) (k (.rptr d ix (P.cellsOf e) 0) [] [d] n)) else .stuck 164
      | _ => .stuck 165
    | _, _, _ => .stuck 73
  | .makeSlice T a b =>
    match slotOf a, slotOf b with
    | some t, some t' =>
      match P.underlying T, getO P g a with
      | some (.slice e), .c (.int _ m) =>
        match P.info? e with
        | some i =>
          match i.zero with
          | some z =>
            match ofCs z.cells.toList, leafs P 8 e with
            | some zc, some sh =>
              match normCs sh zc with
              | some zc' => if t' = t ∧ z.cells.size = i.size then .req (.make m i.bytes) (k (.box [.row e m m (.rep m (ceOf zc'))]) [] [] n) else .stuck 166
              | none => .stuck 167
            | _, _ => .stuck 168
          | none => .stuck 169
        | none => .stuck 170
      | _, _ => .stuck 171
    | _, _ => .stuck 172
  | .slice T x lo hi mx =>
    match P.underlying T, getO P g x with
    | some (.slice e), .c (.slice full s xs) => if s = P.cellsOf e ∧ 0 < s then sliceOp full s xs (lo.map (getO P g)) (hi.map (getO P g)) (mx.map (getO P g)) fun v => k v [] [] n else .stuck 75
    | _, _ => .stuck 76
  | .extract x i =>
    match slotOf x, (slotOf x).map g with
    | some t, some (.tuple vs) =>
      match vs[i]? with
      | some (.own e xs) => k (.own e xs) [(t, .tuple (vs.set i (.c (.slice false (P.cellsOf e) xs))))] [] n
      | some (.c x) => k (.c x) [] [] n
      | some (.agg cs) => k (.agg cs) [] [] n
      | none => .stuck 77
    | _, _ => .stuck 78
  | .call c =>
    match c.callee with
    | .builtin .len =>
      match c.args.toList, c.argTypes.toList with
      | [x], [T] =>
        match getO P g x with
        | .mref d =>
          match P.underlying T, g d with
          | some (.slice _), .box [.row _ _ _ l] => k (.c (.int .i64 (.len l))) [] [d] n
          | _, _ => .stuck 173
        | v => lenOp P T v fun v => k v [] [] n
      | _, _ => .stuck 80
    | .builtin .copy =>
      match c.args.toList, c.argTypes.toList with
      | [x, y], [T, _] =>
        match P.underlying T, getO P g x, getO P g y with
        | some (.slice e), .mref d, .c (.slice _ s ys) =>
          match g d with
          | .box [.row e' m cp l] => if e' = e ∧ P.cellsOf e = 1 ∧ s = 1 then k .dead [(d, .box [.row e m cp (.spl l ys)])] [d] n else .stuck 174
          | _ => .stuck 175
        | _, _, _ => .stuck 176
      | _, _ => .stuck 177
    | .builtin .append =>
      match c.args.toList, c.argTypes.toList with
      | [x, y], [T, T'] =>
        if T = T' then
          match slotOf x with
          | some t => appendOp P T (some t) (g t) (getO P g y) fun v us => k v us [] n
          | none => appendOp P T none (getO P g x) (getO P g y) fun v us => k v us [] n
        else .stuck 81
      | _, _ => .stuck 82
    | .builtin .min =>
      match c.args.toList.map (getO P g) with
      | [.c (.int ka a), .c (.int kb b)] => if ka = kb then k (.c (.int ka (.bin .min ka a b))) [] [] n else .stuck 83
      | _ => .stuck 84
    | .builtin .max =>
      match c.args.toList.map (getO P g) with
      | [.c (.int ka a), .c (.int kb b)] => if ka = kb then k (.c (.int ka (.bin .max ka a b))) [] [] n else .stuck 85
      | _ => .stuck 86
    | .value (.func f) =>
      match argsOf P g c.args.toList, (P.funcs[f]?).map (·.resultTypes) with
      | some saks, some Ts =>
        if nodupB (saks.filterMap SAK.slot) = true then
          match resultAt P (E.fresh f) Ts.toList n with
          | some (res, sh, n') =>
            let r := outsOf (saks.map SAK.sv) n'
            .call f (saks.map SAK.sv) res r.1 n (sh ++ r.2.1) (k res (upsOf saks r.1) (saks.filterMap SAK.slot) r.2.2)
          | none => .stuck 87
        else .stuck 86
      | _, _ => .stuck 88
    | _ => .stuck 89
  | _ => .stuck 90

/-- Where a slot is written: what it holds must not be a box; a box is laid only into a slot that is dead. -/
def mayPut (old new : SV) : Bool :=
  match old, new with
  | .box _, _ => false
  | .dead, .box _ => true
  | _, .box _ => false
  | _, _ => true

def applyU : Ups → Tr → Tr
  | [], s => s
  | (d, x) :: us, s => applyU us (s.set depth d x)

def usesOf (o : Oper) : List Nat := o.op.operands.toList.filterMap slotOf

structure Log where
  i : Nat
  F : List Nat
  D : List Nat

/-- One operation that is done. -/
def evRun (P : Program) (E : Env) (tk : Bool) (o : Oper) (i : Nat) (s : Tr) (gs : List Nat) (n : Nat) (cont : Tr → Nat → Log → STree) : STree :=
  evOp P E tk (gE E s) o n fun x us fp n' =>
    if us.all (fun u => decide (u.1 < E.nt)) = true then
      match o.dst with
      | some d =>
        if d < E.nt ∧ mayPut (gE E (applyU us s) d) x = true then
          cont ((applyU us s).set depth d x) n' ⟨i, usesOf o ++ gs ++ fp ++ us.map (·.1) ++ [d], us.map (·.1) ++ [d]⟩
        else .stuck 100
      | none => cont (applyU us s) n' ⟨i, usesOf o ++ gs ++ fp ++ us.map (·.1), us.map (·.1)⟩
    else .stuck 104

/-- One operation that is passed by. -/
def evSkip (E : Env) (o : Oper) (i : Nat) (s : Tr) (gs : List Nat) (n : Nat) (cont : Tr → Nat → Log → STree) : STree :=
  match o.dst with
  | some d => if d < E.nt ∧ mayPut (gE E s d) .dead = true then cont (s.set depth d (.tuple [])) n ⟨i, gs ++ [d], [d]⟩ else .stuck 101
  | none => cont s n ⟨i, gs, []⟩

def evStep (P : Program) (E : Env) (tk : Bool) (ops : Array Oper) (o : Oper) (i : Nat) (s : Tr) (n : Nat) (cont : Tr → Nat → Log → STree) : STree :=
  match o.guard with
  | none => evRun P E tk o i s [] n cont
  | some (j, want) =>
    match (ops[j]?).bind (·.dst) with
    | none => .stuck 102
    | some gd =>
      match gE E s gd with
      | .tuple [] => evSkip E o i s [gd] n cont
      | .c (.bool (.lit b)) => if want = b then evRun P E tk o i s [gd] n cont else evSkip E o i s [gd] n cont
      | .c (.bool b) =>
        .branch b (if want = true then evRun P E tk o i (s.set depth gd (.c (.bool (.lit true)))) [gd] n cont else evSkip E o i (s.set depth gd (.c (.bool (.lit true)))) [gd] n cont)
          (if want = false then evRun P E tk o i (s.set depth gd (.c (.bool (.lit false)))) [gd] n cont else evSkip E o i (s.set depth gd (.c (.bool (.lit false)))) [gd] n cont)
      | _ => .stuck 103

/-- Operations in the order of the text. 'tk i': does operation i take? -/
def evOps (P : Program) (E : Env) (tk : Nat → Bool) (ops : Array Oper) : List Oper → Nat → Tr → Nat → List Log → (Tr → Nat → List Log → STree) → STree
  | [], _, s, n, logs, k => k s n logs
  | o :: rest, i, s, n, logs, k => evStep P E (tk i) ops o i s n fun s' n' lg => evOps P E tk ops rest (i + 1) s' n' (lg :: logs) k

def slotIs (t : Nat) (x : Operand) : Bool :=
  match x with
  | .tmp t' => t' == t
  | _ => false

def takes (E : Env) (t : Nat) (o : Oper) : Bool :=
  match o.op with
  | .call c =>
    match c.callee with
    | .builtin .append => match c.args.toList with | x :: _ => slotIs t x | [] => false
    | .value (.func f) => c.args.toList.zipIdx.any fun p => slotIs t p.1 && E.cons f p.2
    | _ => false
  | .assign x => slotIs t x && (match o.dst with | some d => E.res.contains d | none => false)
  | _ => false

def tkOf (E : Env) (ops : Array Oper) (i : Nat) : Bool :=
  match ops[i]? with
  | some o =>
    match o.op with
    | .assign _ => true
    | .move _ => match o.dst with | some t => ops.toList.any (takes E t) | none => false
    | .load _ _ => match o.dst with | some t => ops.toList.any (takes E t) | none => false
    | _ => false
  | none => false

def disj (a b : List Nat) : Bool := a.all fun x => !b.contains x

/-- Operations of which neither must come first touch nothing in common. -/
def indepOk (ops : Array Oper) (logs : List Log) : Bool :=
  let B := CheckFast.beforeF ops
  (ops.toList.zipIdx.all fun p => p.1.after.all fun e => !Region.binds .any e || decide (e.on < p.2)) && logs.all fun a => logs.all fun b => !(decide (b.i < a.i)) || (B.getD a.i 0).testBit b.i || (disj b.D a.F && disj a.D b.F)

def firstRegion : Code → Nat
  | .region id _ _ => id
  | .seq a _ => firstRegion a
  | .block _ c => firstRegion c
  | .loop c => firstRegion c
  | .scope c => firstRegion c
  | .cond _ a _ => firstRegion a
  | _ => 0

/-! what is told to stand somewhere, and what stands there -/
def Sh.imm : Sh → Bool
  | .own _ => false
  | _ => true

def retC (s : Sh) (x : SC) : Option VE :=
  match s, x with
  | .int k, .int k' e => if k' = k then some (.i e) else none
  | .bool, .bool e => some (.b e)
  | .str, .str e => some (.s e)
  | .slice s, .slice _ s' l => if s' = s then some (.l l) else (match l with | .nil => some (.l .nil) | _ => none)
  | .own _, .slice true _ l => (match l with | .nil => some (.l .nil) | _ => none)
  | _, _ => none

def retCs : List Sh → List SC → Option (List VE)
  | [], [] => some []
  | s :: ss, c :: cs => match retC s c, retCs ss cs with | some v, some vs => some (v :: vs) | _, _ => none
  | _, _ => none

def retOwn (P : Program) (s : Sh) (e : TypeId) (l : LE) : Option VE :=
  match s with
  | .own e' => if e = e' then some (.l l) else none
  | .slice s => if P.cellsOf e = s then some (.l l) else none
  | _ => none

def retB (P : Program) (s : Sh) (x : BC) : Option VE :=
  match x with
  | .c x => retC s x
  | .own e l => retOwn P s e l
  | .row _ _ _ _ => none

def retBs (P : Program) : List Sh → List BC → Option (List VE)
  | [], [] => some []
  | s :: ss, c :: cs => match retB P s c, retBs P ss cs with | some v, some vs => some (v :: vs) | _, _ => none
  | _, _ => none

def hpVals (P : Program) (h : HP) (x : SV) : Option (List VE) :=
  match h, x with
  | .c s, .c x => (retC s x).map fun v => [v]
  | .c s, .own e l => (retOwn P s e l).map fun v => [v]
  | .agg l, .agg cs => if l.all Sh.imm = true then retCs l cs else none
  | .box l, .box cs => retBs P l cs
  | .row e, .box [.row e' n cap l] => if e' = e then some [.i n, .i cap, .l l] else none
  | .mref d, .mref d' => if d' = d then some [] else none
  | .ptr d o, .ptr d' o' => if d' = d ∧ o' = o then some [] else none
  | .dead, _ => some []
  | _, _ => none

def hpAt (h : HP) (n : Nat) : SV :=
  match h with
  | .c (.own e) => .own e (.var n)
  | .c s => .c (shapeAt s n)
  | .agg l => .agg (shapesAt l n)
  | .box l => .box (boxesAt l n)
  | .row e => .box [.row e (.var n) (.var (n + 1)) (.var (n + 2))]
  | .mref d => .mref d
  | .ptr d o => .ptr d o
  | .dead => .dead

def HP.n : HP → Nat
  | .c _ => 1
  | .agg l => l.length
  | .box l => l.length
  | .row _ => 3
  | .mref _ => 0
  | .ptr _ _ => 0
  | .dead => 0

def headVals (P : Program) (g : Nat → SV) : List (Nat × HP) → Option (List VE)
  | [] => some []
  | p :: r => match hpVals P p.2 (g p.1), headVals P g r with | some v, some vs => some (v ++ vs) | _, _ => none

def headUps : List (Nat × HP) → Nat → Ups × Nat
  | [], n => ([], n)
  | p :: r, n => let x := headUps r (n + p.2.n); ((p.1, hpAt p.2 n) :: x.1, x.2)

def HP.isBox : HP → Bool
  | .box _ => true
  | .row _ => true
  | _ => false

/-- What is told of a loop's head is sound: its slots are, each is told once, what is pinned or pointed to is a box there. -/
def headOk (E : Env) (hs : List (Nat × HP)) : Bool :=
  nodupB (hs.map (·.1)) && hs.all (fun p => decide (p.1 < E.nt) && match p.2 with | .ptr d _ => hs.any (fun q => decide (q.1 = d) && q.2.isBox) | .mref d => hs.any (fun q => decide (q.1 = d) && q.2.isBox) | _ => true) &&
    E.pins.all fun d => hs.any fun q => decide (q.1 = d) && q.2.isBox

def headBad (P : Program) (g : Nat → SV) : List (Nat × HP) → Nat
  | [] => 3000
  | p :: r => match hpVals P p.2 (g p.1) with | some _ => headBad P g r | none => 2000 + p.1

/-- A region that asks whether a slice is nil: the slot, what the slots get, the type, 'is not'. -/
def nilTest (ops : Array Oper) : Option (Nat × Nat × Nat × TypeId × Bool) :=
  match ops.toList with
  | [o, p] =>
    if o.guard.isNone = true ∧ p.guard.isNone = true then
      match o.op, o.dst, p.op, p.dst with
      | .move (.tmp x), some a, .binOp .eql T (.tmp b) (.const (.slice none 0 0)) _, some d => if b = a then some (x, a, d, T, false) else none
      | .move (.tmp x), some a, .binOp .neq T (.tmp b) (.const (.slice none 0 0)) _, some d => if b = a then some (x, a, d, T, true) else none
      | _, _, _, _ => none
    else none
  | _ => none

def nilLst (x : SV) : Option LE :=
  match x with
  | .c (.slice _ _ l) => some l
  | .own _ l => some l
  | _ => none

/-- The code, 'lv' loops deep, under the heads of these loops; 'kn': what comes behind it, 'kx': what comes behind an exit. -/
def ev (P : Program) (E : Env) : Nat → Code → Tr → Nat → (Tr → Nat → STree) → (Nat → Tr → Nat → STree) → (Tr → Nat → STree) → STree
  | _, .skip, s, n, kn, _, _ => kn s n
  | _, .label _, s, n, kn, _, _ => kn s n
  | lv, .seq a b, s, n, kn, kx, kr => ev P E lv a s n (fun s' n' => ev P E lv b s' n' kn kx kr) kx kr
  | lv, .cond c a b, s, n, kn, kx, kr =>
    match slotOf c with
    | some t =>
      match gE E s t with
      | .c (.bool (.lit v)) => if v = true then ev P E lv a s n kn kx kr else ev P E lv b s n kn kx kr
      | .c (.bool v) => .branch v (ev P E lv a (s.set depth t (.c (.bool (.lit true)))) n kn kx kr) (ev P E lv b (s.set depth t (.c (.bool (.lit false)))) n kn kx kr)
      | _ => .stuck 110
    | none => .stuck 111
  | lv, .block id c, s, n, kn, kx, kr => ev P E lv c s n kn (fun i s' n' => if i = id then kn s' n' else kx i s' n') kr
  | lv, .scope c, s, n, kn, kx, kr => ev P E lv c s n kn kx kr
  | lv, .loop c, s, _, _, kx, kr =>
    let hs := E.keep (firstRegion c)
    if headOk E hs = true then
      match headVals P (gE E s) hs with
      | some init => .loop lv init 0 (ev P E (lv + 1) c (applyU (headUps hs 0).1 (.leaf .dead)) (headUps hs 0).2 (fun s' _ => match headVals P (gE E s') hs with | some vals => .again lv vals | none => .stuck (headBad P (gE E s') hs)) kx kr)
      | none => .stuck (headBad P (gE E s) hs)
    else .stuck 113
  | _, .exit id, s, n, _, kx, _ => kx id s n
  | _, .ret, s, n, _, _, kr => kr s n
  | _, .region _ ops draw, s, n, kn, _, _ =>
    match draw, nilTest ops with
    | false, some (x, a, d, T, neg) =>
      match P.underlying T, nilLst (gE E s x) with
      | some (.slice _), some l =>
        if a < E.nt ∧ d < E.nt ∧ mayPut (gE E s a) .dead = true ∧ mayPut (gE E s d) .dead = true ∧ a ≠ d ∧ x ≠ a then
          .nilq l n (kn ((s.set depth a .dead).set depth d (.c (.bool (if neg = true then .not (.var n) else .var n)))) (n + 1))
        else .stuck 116
      | _, _ => .stuck 117
    | _, _ =>
      evOps P E (tkOf E ops) ops ops.toList 0 s n [] fun s' n' logs => if draw = true then (if indepOk ops logs = true then kn s' n' else .stuck 114) else kn s' n'
  | _, _, _, _, _, _, _ => .stuck 115

/-- The result of a function, as its results' slots give it. -/
def resOne (P : Program) (g : Nat → SV) : ResultVar → Option TC
  | .tmp t =>
    match g t with
    | .c x => some (.c x)
    | .agg cs => some (.agg cs)
    | .own e xs => some (.own e xs)
    | _ => none
  | .cell t T =>
    match isAggT P T, g t with
    | some true, .box cs => if cs.length = P.cellsOf T ∧ plainB cs = true then some (.agg (cs.map (stripB P))) else none
    | some false, .box [.own e xs] => some (.own e xs)
    | some false, .box [.c x] => some (.c x)
    | _, _ => none

def resAll (P : Program) (g : Nat → SV) : List ResultVar → Option (List TC)
  | [] => some []
  | r :: rs =>
    match resOne P g r, resAll P g rs with
    | some x, some xs => some (x :: xs)
    | _, _ => none

def resOf (P : Program) (g : Nat → SV) (rs : List ResultVar) : Option SV :=
  match rs with
  | [r] => (resOne P g r).map tcSV
  | rs => (resAll P g rs).map .tuple

def outOf (g : Nat → SV) : List SV → Nat → List SV
  | [], _ => []
  | .box _ :: as, i => g i :: outOf g as (i + 1)
  | _ :: as, i => .dead :: outOf g as (i + 1)

def argUps : List SV → Nat → Ups
  | [], _ => []
  | a :: as, i => (i, a) :: argUps as (i + 1)

/-- The arguments that are boxes are pinned; and nothing stands in for an argument that could not. -/
def argsFine (E : Env) : List SV → Nat → Bool
  | [], _ => true
  | .box _ :: as, i => E.pins.contains i && argsFine E as (i + 1)
  | .c _ :: as, i => argsFine E as (i + 1)
  | .agg _ :: as, i => argsFine E as (i + 1)
  | .own _ _ :: as, i => argsFine E as (i + 1)
  | _, _ => false

def resSlot : ResultVar → Nat
  | .tmp t => t
  | .cell t _ => t

/-- No two results stand in one slot, and none in an argument's box. -/
def resFine (args : List SV) (rs : List ResultVar) : Bool :=
  nodupB (rs.map resSlot) && rs.all fun r => match args[resSlot r]? with | some (.box _) => false | _ => true

def refsTo (d : Nat) (x : SV) : Bool :=
  match x with
  | .ptr d' _ => d' == d
  | .mref d' => d' == d
  | .rptr d' _ _ _ => d' == d
  | _ => false

def dropUps (g : Nat → SV) (d t : Nat) : Nat → Ups
  | 0 => []
  | i + 1 => if i ≠ t ∧ refsTo d (g i) = true then (i, .dead) :: dropUps g d t i else dropUps g d t i

/-- A slice that was written in place is handed over. -/
def giveOne (E : Env) (s : Tr) (t : Nat) : Tr :=
  match gE E s t with
  | .mref d =>
    match gE E s d with
    | .box [.row e _ _ l] =>
      if t ≠ d ∧ t < E.nt ∧ d < E.nt ∧ E.pins.contains d = false then applyU [(t, .own e l), (d, .dead)] (applyU (dropUps (gE E s) d t E.nt) s) else s
    | _ => s
  | _ => s

def giveAll (E : Env) : Tr → List ResultVar → Tr
  | s, [] => s
  | s, .tmp t :: rs => giveAll E (giveOne E s t) rs
  | s, _ :: rs => giveAll E s rs

/-- The whole function, on these arguments. -/
def evFn (P : Program) (E : Env) (fn : Func) (args : List SV) (n : Nat) : STree :=
  match fn.body with
  | some c =>
    let fin : Tr → Nat → STree := fun s _ =>
      match resOf P (gE E (giveAll E s fn.results.toList)) fn.results.toList with
      | some r => if resFine args fn.results.toList = true then .ret r (outOf (gE E (giveAll E s fn.results.toList)) args 0) else .stuck 124
      | none => .stuck 120
    if E.nt ≤ 1024 ∧ fn.ntmps = E.nt ∧ args.length ≤ E.nt ∧ argsFine E args 0 = true then ev P E 0 c (applyU (argUps args 0) (.leaf .dead)) n fin (fun _ _ _ => .stuck 121) fin else .stuck 123
  | none => .stuck 122

end Go.AM
