/- One abstract machine over plain data, an evaluator of the program's code; what its values stand for in the model; operations that look are as it says. Conditions: each theorem bears its own. -/
import GoSem.Step
import Derived.Orders
import Derived.Defers
import Derived.Recover
import Derived.Below
import Derived.Laws.World
import Derived.Laws.Cells
import Derived.Laws.Append
import Derived.Laws.Tables
import Derived.Laws.BytesString
import Derived.Laws.BytesArg
import Derived.Laws.IdiomStrings
import Derived.Laws.Cover4
set_option linter.all false
set_option linter.unnecessarySimpa false
set_option linter.unusedSectionVars false
set_option linter.unusedSimpArgs false
set_option linter.unusedVariables false
namespace Go.Am

/-- Data without an address of a thing that changes: what a cell of an immutable slice holds. A slice bears its element's number of cells (0: not known, it is empty then). -/
inductive PV where
  | at (v : Value)
  /-- a value that is given by its name alone -/
  | sym (i : Nat)
  | vals (sz : Nat) (xs : List (List PV))
  | agg (cs : List PV)
  | ifc (t : TypeId) (x : PV)
  deriving Inhabited

/-- What a slot holds. -/
inductive AV where
  | p (x : PV)
  | fresh (sz : Nat) (xs : List (List PV))
  | uniq (sz : Nat) (xs : List (List PV))
  | ptr (k off : Nat)
  | eptr (k i off n : Nat)
  | elem (cs : List PV) (off : Nat)
  | row (k off len : Nat)
  | mp (k : Nat)
  | fn (f : FuncId) (cap : List AV)
  | ifc (t : TypeId) (x : AV)
  | agg (cs : List AV)
  | tup (vs : List AV)
  | undef
  deriving Inhabited

inductive Obj where
  | cells (cs : List AV)
  | row (sz : Nat) (xs : List (List PV)) (lo : Nat) (sh : Bool)
  | map (es : List (PV × AV))
  | iter (s : ByteArray) (pos : Nat)
  deriving Inhabited

/-- things of one's own, by their keys: unit * 64 + place (place 0: the thing; 1 + j: the row of its cell j) -/
abbrev OS := List (Nat × Obj)

/-- a tree of values: place p = 1 is the root, 2p and 2p + 1 are below p -/
inductive Sl where
  | e
  | n (v : AV) (l r : Sl)
  deriving Inhabited
def Sl.look : Sl → Nat → Option AV
  | .e, _ => none
  | .n v l r, p => match Nat.beq p 1 with
    | true => some v
    | false => match Nat.beq (p % 2) 0 with
      | true => l.look (p / 2)
      | false => r.look (p / 2)
def Sl.lay : Sl → Nat → AV → Sl
  | .e, _, _ => .e
  | .n v l r, p, x => match Nat.beq p 1 with
    | true => .n x l r
    | false => match Nat.beq (p % 2) 0 with
      | true => .n v (l.lay (p / 2) x) r
      | false => .n v l (r.lay (p / 2) x)
def Sl.full : Nat → Sl
  | 0 => .e
  | d + 1 => .n (.tup []) (Sl.full d) (Sl.full d)
/-- a function's slots -/
structure Slots where
  n : Nat
  t : Sl
  deriving Inhabited
def Slots.get (s : Slots) (t : Nat) : Option AV := match Nat.blt t s.n with
  | true => s.t.look (t + 1)
  | false => none
def Slots.set (s : Slots) (t : Nat) (v : AV) : Slots := ⟨s.n, s.t.lay (t + 1) v⟩
def Slots.fill : List AV → Nat → Slots → Slots
  | [], _, s => s
  | v :: vs, t, s => Slots.fill vs (t + 1) (s.set t v)

structure St where
  slots : Slots
  os : OS
  dfr : List (AV × List AV)
  deriving Inhabited

structure Hints where
  /-- how a function is called: 0 shares nothing, 1 its arguments' things are lent, 3 they are looked at alone -/
  mode : FuncId → Nat
  /-- which slots (slot * 64) and cells of boxes (slot * 64 + 1 + cell) are rows -/
  rows : FuncId → Nat → Bool
  /-- slots that nobody reads again at the end of a round (by the loop's first region) -/
  dead : FuncId → Nat → List Tmp

structure Cx where
  f : FuncId
  /-- units below this one came in -/
  ub : Nat
  deriving Inhabited

inductive Out where
  | norm (s : St)
  | exit (id : Nat) (s : St)
  | ret (s : St)
  | pan (v : AV) (s : St)
  deriving Inhabited

/-- what a call comes to -/
inductive Res where
  | ret (v : AV) (os : OS)
  | pan (v : AV) (os : OS)
  deriving Inhabited

inductive R1 where
  | ok (s : St)
  | pan (v : AV) (s : St)
  deriving Inhabited

/-! ### things of one's own -/
def getObj : OS → Nat → Option Obj
  | [], _ => none
  | (j, o) :: m, k => if j == k then some o else getObj m k
def setObj : OS → Nat → Obj → OS
  | [], _, _ => []
  | (j, x) :: m, k, o => if j == k then (j, o) :: m else (j, x) :: setObj m k o
def addObj (os : OS) (k : Nat) (o : Obj) : Option OS :=
  match getObj os k with
  | some _ => none
  | none => some ((k, o) :: os)

/-! ### values -/
/-- (the kit's 'oneCell'') -/
def _root_.Go.Value.oneCell'' : Value → Bool
  | .agg _ | .tuple _ => false
  | _ => true
def ofAtom : Value → AV
  | .slice none 0 0 => .fresh 0 []
  | .agg _ => .undef
  | .tuple _ => .undef
  | v => .p (.at v)
def ofAtoms : List Value → List AV
  | [] => []
  | v :: vs => ofAtom v :: ofAtoms vs
def ofValue : Value → AV
  | .agg cs => if cs.toList.all (·.oneCell'') then .agg (ofAtoms cs.toList) else .undef
  | .iface t v => .ifc t (ofAtom v)
  | v => ofAtom v

def cellsOf : AV → List AV
  | .agg cs => cs
  | v => [v]

/-- a copy in another place: what is a slot's alone stays behind -/
def cp : AV → AV
  | .fresh sz xs => .p (.vals sz xs)
  | .uniq _ _ => .undef
  | v => v
def cps : List AV → List AV
  | [] => []
  | v :: vs => cp v :: cps vs

/-- fit for a cell -/
def stor : AV → Bool
  | .undef | .tup _ | .agg _ | .fresh _ _ | .uniq _ _ | .p (.agg _) => false
  | _ => true

mutual
def thaw : PV → AV
  | .agg cs => .agg (thaws cs)
  | .ifc t x => .ifc t (thaw x)
  | .at v => .p (.at v)
  | .sym i => .p (.sym i)
  | .vals sz xs => .p (.vals sz xs)
def thaws : List PV → List AV
  | [] => []
  | x :: xs => thaw x :: thaws xs
end

/-- a row's elements, as a reference sees them -/
def rowAt (os : OS) (k off len : Nat) : Option (Nat × List (List PV)) :=
  match getObj os k with
  | some (.row sz xs lo _) => if off + len ≤ xs.length ∧ (len = 0 ∨ lo ≤ off + len) then some (sz, (xs.drop off).take len) else none
  | _ => none
def share (os : OS) (k : Nat) : OS :=
  match getObj os k with
  | some (.row sz xs lo _) => setObj os k (.row sz xs lo true)
  | _ => os

mutual
/-- plain data, rows of one's own told as they stand (they are shared then) -/
def frz (os : OS) : AV → Option (PV × OS)
  | .p x => some (x, os)
  | .fresh sz xs => some (.vals sz xs, os)
  | .row k off len => match rowAt os k off len with
    | some (sz, xs) => some (.vals sz xs, share os k)
    | none => none
  | .agg cs => match frzs os cs with
    | some (xs, os) => some (.agg xs, os)
    | none => none
  | .ifc t x => match frz os x with
    | some (x, os) => some (.ifc t x, os)
    | none => none
  | .fn f [] => some (.at (.func (.func f) #[] #[]), os)
  | _ => none
def frzs (os : OS) : List AV → Option (List PV × OS)
  | [] => some ([], os)
  | x :: xs => match frz os x with
    | some (y, os) => match frzs os xs with
      | some (ys, os) => some (y :: ys, os)
      | none => none
    | none => none
end

mutual
/-- the keys that a value leads to -/
def refs : AV → List Nat
  | .ptr k _ => [k]
  | .eptr k _ _ _ => [k]
  | .row k _ _ => [k]
  | .mp k => [k]
  | .fn _ cap => refss cap
  | .ifc _ x => refs x
  | .agg cs => refss cs
  | .tup cs => refss cs
  | _ => []
def refss : List AV → List Nat
  | [] => []
  | x :: xs => refs x ++ refss xs
end
def refT : Sl → List Nat
  | .e => []
  | .n v l r => refs v ++ (refT l ++ refT r)
def refEs : List (PV × AV) → List Nat
  | [] => []
  | (_, v) :: es => refs v ++ refEs es
def refO : Obj → List Nat
  | .cells cs => refss cs
  | .map es => refEs es
  | _ => []

mutual
/-- the same value, its keys renamed -/
def ren (f : Nat → Option Nat) : AV → Option AV
  | .ptr k o => match f k with | some k => some (.ptr k o) | none => none
  | .eptr k i o n => match f k with | some k => some (.eptr k i o n) | none => none
  | .row k o n => match f k with | some k => some (.row k o n) | none => none
  | .mp k => match f k with | some k => some (.mp k) | none => none
  | .fn g cap => match rens f cap with | some cap => some (.fn g cap) | none => none
  | .ifc t x => match ren f x with | some x => some (.ifc t x) | none => none
  | .agg cs => match rens f cs with | some cs => some (.agg cs) | none => none
  | .tup cs => match rens f cs with | some cs => some (.tup cs) | none => none
  | v => some v
def rens (f : Nat → Option Nat) : List AV → Option (List AV)
  | [] => some []
  | x :: xs => match ren f x, rens f xs with
    | some x, some xs => some (x :: xs)
    | _, _ => none
end
def renEs (f : Nat → Option Nat) : List (PV × AV) → Option (List (PV × AV))
  | [] => some []
  | (k, v) :: es => match ren f v, renEs f es with
    | some v, some es => some ((k, v) :: es)
    | _, _ => none
def renO (f : Nat → Option Nat) : Obj → Option Obj
  | .cells cs => match rens f cs with | some cs => some (.cells cs) | none => none
  | .map es => match renEs f es with | some es => some (.map es) | none => none
  | o => some o

def asN : AV → Option Nat
  | .p (.at (.int _ n)) => if 0 ≤ n then some n.toNat else none
  | _ => none
def asB : AV → Option Bool
  | .p (.at (.bool b)) => some b
  | _ => none
def int (n : Int) : AV := .p (.at (.int .i64 n))
def bool (b : Bool) : AV := .p (.at (.bool b))

def put (s : St) (d : Option Tmp) (v : AV) : St :=
  match d with
  | some d => { s with slots := s.slots.set d v }
  | none => s
/-- what is a slot's alone is taken out of it -/
def took (s : St) (x : Operand) (v : AV) : St :=
  match x, v with
  | .tmp t, .fresh _ _ => { s with slots := s.slots.set t .undef }
  | .tmp t, .uniq _ _ => { s with slots := s.slots.set t .undef }
  | _, _ => s

def ev1 (s : St) : Operand → Option AV
  | .tmp t => s.slots.get t
  | .const v => some (ofValue v)
  | .global g => some (.p (.at (.pointer (some ⟨g, 0, none⟩))))
  | .func f => some (.fn f [])
def evs (s : St) : List Operand → Option (List AV)
  | [] => some []
  | x :: xs => match ev1 s x with
    | some v => match evs s xs with
      | some vs => some (v :: vs)
      | none => none
    | none => none
def evps (s : St) : List (Nat × Operand) → Option (List (Nat × AV))
  | [] => some []
  | (i, x) :: xs => match ev1 s x with
    | some v => match evps s xs with
      | some vs => some ((i, v) :: vs)
      | none => none
    | none => none
def evO (s : St) : Option Operand → Option (Option AV)
  | none => some none
  | some x => match ev1 s x with
    | some v => some (some v)
    | none => none

def byteElems : List UInt8 → List (List PV)
  | [] => []
  | c :: cs => [.at (.int .u8 c.toNat)] :: byteElems cs

/-- a slice's elements, with their size -/
def elems (os : OS) : AV → Option (Nat × List (List PV))
  | .p (.vals sz xs) => some (sz, xs)
  | .fresh sz xs => some (sz, xs)
  | .row k off len => rowAt os k off len
  | .p (.at (.string b)) => some (1, byteElems b.data.toList)
  | _ => none
def lenOf : AV → Option Nat
  | .p (.vals _ xs) => some xs.length
  | .fresh _ xs => some xs.length
  | .row _ _ len => some len
  | .p (.at (.string b)) => some b.size
  | _ => none

section
variable (P : Program) (H : Hints)

def szT (t : TypeId) : Nat := match P.info? t with | some i => i.size | none => 0
def bytesT (t : TypeId) : Nat := match P.info? t with | some i => i.bytes | none => 0
def aggT (t : TypeId) : Bool := match P.underlying t with | some (.struct _) => true | some (.array _ _) => true | _ => false
def shT (t : TypeId) : Option (Nat × Bool) := match P.info? t with
  | some i => match P.underlying t with
    | some (.struct _) => some (i.size, true)
    | some (.array _ _) => some (i.size, true)
    | some _ => some (i.size, false)
    | none => none
  | none => none
def zeroT (t : TypeId) : Option AV := match P.info? t with
  | some i => match i.zero with
    | some v => some (ofValue v)
    | none => none
  | none => none
def elemT (t : TypeId) : Option TypeId := match P.underlying t with | some (.slice e) => some e | _ => none
def fieldT (t : TypeId) (f : Nat) : Option Field := match P.underlying t with | some (.struct fs) => fs[f]? | _ => none

/-! ### memory -/
def takeCs (n : Nat) (isAgg : Bool) (off : Nat) (cs : List AV) : Option AV :=
  if isAgg then
    if off + n ≤ cs.length then some (.agg (cps ((cs.drop off).take n))) else none
  else match cs[off]? with
    | some v => some (cp v)
    | none => none

/-- the cells behind a pointer -/
def loadN (os : OS) (n : Nat) (isAgg : Bool) : AV → Option AV
  | .ptr k off => match getObj os k with
    | some (.cells cs) => takeCs n isAgg off cs
    | _ => none
  | .elem cs off => takeCs n isAgg off (thaws cs)
  | .eptr k i off m => match getObj os k with
    | some (.row _ xs _ _) => match xs[i]? with
      | some cs => if m = xs.length then takeCs n isAgg off (thaws cs) else none
      | none => none
    | _ => none
  | _ => none

def setRange {α : Type} (cs : List α) (off : Nat) : List α → List α
  | [] => cs
  | v :: vs => setRange (cs.set off v) (off + 1) vs

/-- a store of cells; where a row waits, 'nil' is that row -/
def storeCs (k : Nat) (os : OS) (cs : List AV) (off : Nat) : List AV → Option (List AV)
  | [] => some cs
  | v :: vs =>
    if off < cs.length then
      match v with
      | .fresh 0 [] => match getObj os (k + 1 + off) with
        | some (.row 0 [] _ _) => storeCs k os (cs.set off (.row (k + 1 + off) 0 0)) (off + 1) vs
        | _ => storeCs k os (cs.set off (.p (.vals 0 []))) (off + 1) vs
      | v => if stor v then storeCs k os (cs.set off v) (off + 1) vs else none
    else none
/-- what is a slot's alone fills the row that waits in its place -/
def storeOwn (k : Nat) (os : OS) (cs : List AV) (off sz : Nat) (xs : List (List PV)) (sh : Bool) : Option OS :=
  if off < cs.length then
    match getObj os (k + 1 + off) with
    | some (.row 0 [] _ _) =>
      if xs.isEmpty then
        if sz = 0 then some (setObj os k (.cells (cs.set off (.row (k + 1 + off) 0 0)))) else some (setObj os k (.cells (cs.set off (.p (.vals sz xs)))))
      else some (setObj (setObj os (k + 1 + off) (.row sz xs 0 sh)) k (.cells (cs.set off (.row (k + 1 + off) 0 xs.length))))
    | _ => some (setObj os k (.cells (cs.set off (.p (.vals sz xs)))))
  else none

def storeN (os : OS) (v : AV) : AV → Option OS
  | .ptr k off => match getObj os k with
    | some (.cells cs) => match v with
      | .fresh sz xs => storeOwn k os cs off sz xs (!xs.isEmpty)
      | .uniq sz xs => storeOwn k os cs off sz xs false
      | v => match storeCs k os cs off (cellsOf v) with
        | some cs => some (setObj os k (.cells cs))
        | none => none
    | _ => none
  | .eptr k i off m => match frzs os (cellsOf v) with
    | some (ps, os) => match getObj os k with
      | some (.row sz xs _ false) => match xs[i]? with
        | some cs => if off + ps.length ≤ cs.length ∧ m = xs.length ∧ (cps (cellsOf v)).all stor then some (setObj os k (.row sz (xs.set i (setRange cs off ps)) xs.length false)) else none
        | none => none
      | _ => none
    | none => none
  | _ => none

def fillOne (cells : List AV) (off size : Nat) (v : AV) : Option (List AV) :=
  let cs := cps (cellsOf v)
  if cs.length = size ∧ off + size ≤ cells.length ∧ cs.all stor then some (setRange cells off cs) else none
def buildF (place : Nat → Option (Nat × Nat)) : List AV → List (Nat × AV) → Option (List AV)
  | cells, [] => some cells
  | cells, (i, v) :: rest => match place i with
    | some (off, size) => match fillOne cells off size v with
      | some cells => buildF place cells rest
      | none => none
    | none => none
def placesT (t : TypeId) : Option (Nat → Option (Nat × Nat)) :=
  match P.underlying t with
  | some (.struct fs) => match fs.toList.mapM (fun f => (P.info? f.type).map fun i => (f.offset, i.size)) with
    | some ps => some (ps.toArray[·]?)
    | none => none
  | some (.array _ e) => match P.info? e with
    | some i => some fun j => some (j * i.size, i.size)
    | none => none
  | _ => none

/-- a literal's elements: each place is told once, one behind the other -/
def litElems (size : Nat) : Nat → List (Nat × AV) → OS → Option (List (List PV) × OS)
  | _, [], os => some ([], os)
  | i, (j, v) :: ps, os =>
    match cps (cellsOf v) with
    | cs => if j = i ∧ cs.length = size ∧ cs.all stor then
        match frzs os cs with
        | some (ys, os) => match litElems size (i + 1) ps os with
          | some (xs, os) => some (ys :: xs, os)
          | none => none
        | none => none
      else none

/-- '==' on what needs no look at memory -/
def eqA (d : Option TypeDesc) (lit : Bool) : AV → AV → Option Bool
  | .p (.at a), .p (.at b) => match a, b with
    | .int k x, .int j y => if k = j then some (x == y) else none
    | .string x, .string y => some (x.toList == y.toList)
    | .bool x, .bool y => match d with | some .bool => some (x == y) | _ => none
    | .nilIface, .nilIface => match d with | some (.interface _) => if lit then some true else none | _ => none
    | .pointer none, .pointer none => match d with | some (.pointer _) => some true | _ => none
    | _, _ => none
  | .ifc _ _, .p (.at .nilIface) => match d with | some (.interface _) => some false | _ => none
  | .p (.at .nilIface), .ifc _ _ => match d with | some (.interface _) => some false | _ => none
  | .ptr .., .p (.at (.pointer none)) => match d with | some (.pointer _) => some false | _ => none
  | .p (.at (.pointer none)), .ptr .. => match d with | some (.pointer _) => some false | _ => none
  | _, _ => none

def pureOf {α : Type} : Sem α → Option α
  | .pure a => some a
  | _ => none
def atOf : Option Value → Option AV
  | some v => some (.p (.at v))
  | none => none

def isLit : Operand → Bool
  | .const _ => true
  | _ => false
def binV (op : BinOp) (d : Option TypeDesc) (lit : Bool) (x y : AV) : Option AV :=
  match op with
  | .eql => match eqA d lit x y with | some b => some (bool b) | none => none
  | .neq => match eqA d lit x y with | some b => some (bool !b) | none => none
  | op => match x, y with
    | .p (.at (.int k a)), .p (.at (.int k' b)) =>
      match op with
      | .shl | .shr => if 0 ≤ b then atOf (pureOf (Op.shift op k a k' b)) else none
      | .add | .sub | .mul => if k = k' then atOf (pureOf (Op.intArith op k a b)) else none
      | .quo | .rem => if k = k' ∧ b ≠ 0 then atOf (pureOf (Op.intDiv op k a b)) else none
      | .and | .or | .xor | .andNot => if k = k' then atOf (pureOf (Op.intBits op k a b)) else none
      | _ => if k = k' then atOf (pureOf (Op.intCmp op a b)) else none
    | .p (.at (.string a)), .p (.at (.string b)) =>
      if a.size + b.size ≤ 2 ^ 62 then atOf (pureOf (Op.stringOp op a b)) else none
    | _, _ => none

def unV (op : UnOp) : AV → Option AV
  | .p (.at v) => atOf (pureOf (Op.unary op v))
  | _ => none

def bytesOf : List (List PV) → Option (List UInt8)
  | [] => some []
  | [.at (.int .u8 n)] :: xs => match bytesOf xs with
    | some l => some (UInt8.ofNat n.toNat :: l)
    | none => none
  | _ => none
def runesOf : List (List PV) → ByteArray → Option ByteArray
  | [], b => some b
  | [.at (.int .i32 n)] :: xs, b => runesOf xs (b ++ Utf8.encode n)
  | _, _ => none
def runeElems : List Value → List (List PV)
  | [] => []
  | v :: vs => [.at v] :: runeElems vs

def convV (os : OS) (src dst : TypeId) (x : AV) : Option AV :=
  match P.underlying src, P.underlying dst with
  | some _, some (.int k) => match x with
    | .p (.at (.int _ n)) => some (.p (.at (.int k (k.wrap n))))
    | _ => none
  | some sd, some .string => match x with
    | .p (.at (.int _ n)) => some (.p (.at (.string (Utf8.encode n))))
    | .p (.at (.string b)) => some (.p (.at (.string b)))
    | x => match sd with
      | .slice e => match elems os x with
        | some (sz, xs) => if sz = 1 ∨ xs = [] then match P.underlying e with
            | some (.int .u8) => match bytesOf xs with
              | some l => some (.p (.at (.string ⟨l.toArray⟩)))
              | none => none
            | some (.int .i32) => match runesOf xs ByteArray.empty with
              | some b => some (.p (.at (.string b)))
              | none => none
            | _ => none
          else none
        | none => none
      | _ => none
  | _, _ => none
/-- a text's bytes, or runes, as a slice -/
def convS (src dst : TypeId) (x : AV) : Option (List (List PV)) :=
  match P.underlying src, P.underlying dst with
  | some .string, some (.slice e) => match x with
    | .p (.at (.string b)) => match P.underlying e with
      | some (.int .u8) => some (byteElems b.data.toList)
      | some (.int .i32) => if b.size ≤ 70368744177664 then some (runeElems (Conv.runesFrom b b.size 0 #[]).toList) else none
      | _ => none
    | _ => none
  | _, _ => none

/-- map keys: whole numbers and texts -/
def sameK : Value → Value → Option Bool
  | .int j a, .int k b => if j = k then some (a == b) else none
  | .string a, .string b => some (a == b)
  | _, _ => none
def findKey (k : Value) : List (PV × AV) → Option (Option AV)
  | [] => some none
  | (.at j, v) :: es => match sameK k j with
    | some true => some (some v)
    | some false => findKey k es
    | none => none
  | _ => none
def findK (d : Option TypeDesc) (k : Value) (es : List (PV × AV)) : Option (Option AV) :=
  match d, k with
  | some (.int _), .int _ _ => findKey k es
  | some .string, .string _ => findKey k es
  | _, _ => none
def updKey (k : Value) (v : AV) : List (PV × AV) → List (PV × AV)
  | [] => [(.at k, v)]
  | (.at j, w) :: es => match sameK k j with
    | some true => (.at k, v) :: es
    | _ => (.at j, w) :: updKey k v es
  | e :: es => e :: updKey k v es

def asNO : Option AV → Nat → Option Nat
  | none, d => some d
  | some v, _ => asN v
def sliceBounds (n : Nat) (lo hi : Option AV) : Option (Nat × Nat) :=
  match asNO hi n, asNO lo 0 with
  | some h, some l => if l ≤ h ∧ h ≤ n then some (l, h) else none
  | _, _ => none

def sliceV (os : OS) (t : TypeId) (v : AV) (lo hi mx : Option AV) : Option AV :=
  match P.underlying t with
  | some .string => match v, mx with
    | .p (.at (.string b)), none => match sliceBounds b.size lo hi with
      | some (l, h) => some (.p (.at (.string (b.extract l h))))
      | none => none
    | _, _ => none
  | some (.slice e) => if szT P e = 0 then none else
    match v with
    | .p (.vals sz xs) | .fresh sz xs => if sz = szT P e ∨ xs = [] then
        match sliceBounds xs.length lo hi with
        | some (l, h) => match mx with
          | none => some (.p (.vals sz ((xs.drop l).take (h - l))))
          | some m => match asN m with
            | some m => if hi.isSome ∧ m = h ∧ l = h then some (.fresh 0 []) else none
            | none => none
        | none => none
      else none
    | .row k off len => match sliceBounds len lo hi with
      | some (l, h) => match mx with
        | none => match getObj os k with
          | some (.row sz xs _ _) => if sz = szT P e ∨ xs = [] then some (.row k (off + l) (h - l)) else none
          | _ => none
        | some m => match asN m with
          | some m => if hi.isSome ∧ m = h ∧ l = h then some (.fresh 0 []) else none
          | none => none
      | none => none
    | _ => none
  | _ => none

def indexAddrV (os : OS) (t : TypeId) (x : AV) (i : Nat) : Option AV :=
  match x with
  | .p (.vals sz xs) | .fresh sz xs => match elemT P t with
    | some e => if szT P e ≠ 0 ∧ szT P e = sz then match xs[i]? with
        | some c => some (.elem c 0)
        | none => none
      else none
    | none => none
  | .row k off len => match elemT P t, getObj os k with
    | some e, some (.row sz xs lo _) => if szT P e ≠ 0 ∧ szT P e = sz ∧ off + len ≤ xs.length ∧ lo ≤ off + len ∧ i < len then
        if off + len = xs.length then some (.eptr k (off + i) 0 xs.length) else none
      else none
    | _, _ => none
  | .ptr k o => match P.underlying t with
    | some (.array n e) => if szT P e ≠ 0 ∧ i < n then some (.ptr k (o + i * szT P e)) else none
    | _ => none
  | .elem c o => match P.underlying t with
    | some (.array n e) => if szT P e ≠ 0 ∧ i < n then some (.elem c (o + i * szT P e)) else none
    | _ => none
  | _ => none

def indexV (t : TypeId) (x : AV) (i : Nat) : Option AV :=
  match P.underlying t, x with
  | some .string, .p (.at (.string b)) => match b[i]? with
    | some c => some (.p (.at (.int .u8 c.toNat)))
    | none => none
  | some (.array n e), .agg cs => if i < n then match shT P e with
      | some (m, isAgg) => takeCs m isAgg (i * m) cs
      | none => none
    else none
  | _, _ => none

def typeAssertV (x : AV) (u : TypeId) (ok : Bool) : Option AV :=
  let fails : Option AV := if ok then match zeroT P u with | some z => some (.tup [cp z, bool false]) | none => none else none
  let holds (v : AV) : Option AV := some (if ok then .tup [v, bool true] else v)
  match P.underlying u with
  | some (.interface want) => match x with
    | .p (.at .nilIface) => fails
    | .ifc t v => match P.info? t with
      | some i => match Instr.missingMethod want i.methods with
        | none => holds (.ifc t v)
        | some _ => fails
      | none => none
    | _ => none
  | some _ => match x with
    | .p (.at .nilIface) => fails
    | .ifc t v => if t = u then holds v else fails
    | _ => none
  | none => none

def lookupV (os : OS) (t : TypeId) (m i : AV) (ok : Bool) : Option AV :=
  match P.underlying t with
  | some (.map kt e) =>
    match i, (match m with
      | .p (.at (.map none)) => some []
      | .mp k => match getObj os k with | some (.map es) => some es | _ => none
      | _ => none) with
    | .p (.at i), some es => match (findK (P.underlying kt) i es) with
      | some (some v) => some (if ok then .tup [v, bool true] else v)
      | some none => match zeroT P e with
        | some z => some (if ok then .tup [cp z, bool false] else cp z)
        | none => none
      | none => none
    | _, _ => none
  | _ => none

def max2 : AV → AV → Option AV
  | .p (.at (.int k x)), .p (.at (.int j y)) => if k = j then some (.p (.at (.int k (if y > x then y else x)))) else none
  | _, _ => none
def min2 : AV → AV → Option AV
  | .p (.at (.int k x)), .p (.at (.int j y)) => if k = j then some (.p (.at (.int k (if y < x then y else x)))) else none
  | _, _ => none
def foldA (f : AV → AV → Option AV) : AV → List AV → Option AV
  | v, [] => some v
  | v, w :: ws => match f v w with
    | some u => foldA f u ws
    | none => none

def sizeIs (t : TypeId) (n : Nat) : Bool := match P.info? t with
  | some i => i.size == n && n != 0
  | none => false
def lenV (os : OS) (t : TypeId) (v : AV) : Option AV :=
  match P.underlying t, v with
  | some (.map _ _), .mp k => match getObj os k with | some (.map es) => some (int es.length) | _ => none
  | some (.map _ _), .p (.at (.map none)) => some (int 0)
  | some (.slice _), .p (.vals _ xs) => some (int xs.length)
  | some (.slice _), .fresh _ xs => some (int xs.length)
  | some (.slice _), .row _ _ len => some (int len)
  | some .string, .p (.at (.string b)) => some (int b.size)
  | _, _ => none
def partV (t : TypeId) (f : Nat) : AV → Option AV
  | .agg cs => match fieldT P t f with
    | some f => match shT P f.type with
      | some (n, isAgg) => takeCs n isAgg f.offset cs
      | none => none
    | none => none
  | _ => none
def fieldV (t : TypeId) (f : Nat) (v : AV) : Option AV :=
  match fieldT P t f with
  | some f => if szT P f.type = 0 then none else match v with
      | .ptr k o => some (.ptr k (o + f.offset))
      | .elem c o => some (.elem c (o + f.offset))
      | .eptr k i o n => some (.eptr k i (o + f.offset) n)
      | _ => none
  | none => none
def nilV : AV → Option AV
  | .ptr k o => some (.ptr k o)
  | .elem c o => some (.elem c o)
  | .eptr k i o n => some (.eptr k i o n)
  | .fn f c => some (.fn f c)
  | .ifc t v => some (.ifc t v)
  | _ => none
def buildV (t : TypeId) (ps : List (Nat × AV)) : Option AV :=
  match zeroT P t, placesT P t with
  | some z, some place => if (cps (cellsOf z)).all stor then match buildF place (cps (cellsOf z)) ps with
      | some cs => some (.agg cs)
      | none => none
    else none
  | _, _ => none

/-- a slice that has elements, and 'nil' -/
def nilCmp (op : BinOp) (d : Option TypeDesc) (x : Option AV) (y : Operand) : Option AV :=
  match op, y, x, d with
  | .eql, .const (.slice none 0 0), some (.p (.vals _ (_ :: _))), some (.slice _) => some (bool false)
  | .neq, .const (.slice none 0 0), some (.p (.vals _ (_ :: _))), some (.slice _) => some (bool true)
  | _, _, _, _ => none
/-- what an operation yields that touches no memory but to read it -/
def stepV (s : St) : Op → Option AV
  | .move x => match ev1 s x with | some v => some (cp v) | none => none
  | .pick c a b => match ev1 s c with
    | some c => match asB c with
      | some true => match ev1 s a with | some v => some (cp v) | none => none
      | some false => match ev1 s b with | some v => some (cp v) | none => none
      | none => none
    | none => none
  | .load t a => match ev1 s a, shT P t with
    | some v, some (n, isAgg) => loadN s.os n isAgg v
    | _, _ => none
  | .nilCheck x => match ev1 s x with
    | some v => nilV v
    | none => none
  | .binOp op t x y _ => match nilCmp op (P.underlying t) (ev1 s x) y with
    | some v => some v
    | none => match ev1 s x, ev1 s y with
      | some v, some u => binV op (P.underlying t) (isLit x || isLit y) v u
      | _, _ => none
  | .unOp op _ x => match ev1 s x with
    | some x => unV op x
    | none => none
  | .makeInterface t x => match ev1 s x, P.underlying t with
    | some _, some (.interface _) => none
    | some x, some _ => some (.ifc t (cp x))
    | _, _ => none
  | .makeFunc (.func f) first cap => if first.isEmpty then match evs s cap.toList with
      | some c => some (.fn f (cps c))
      | none => none
    else none
  | .fieldAddr t x f => match ev1 s x with
    | some v => fieldV P t f v
    | none => none
  | .field t x f => match ev1 s x with
    | some v => partV P t f v
    | none => none
  | .indexAddr t x i => match ev1 s x, ev1 s i with
    | some x, some i => match asN i with
      | some i => indexAddrV P s.os t x i
      | none => none
    | _, _ => none
  | .index t x i => match ev1 s x, ev1 s i with
    | some x, some i => match asN i with
      | some i => indexV P t x i
      | none => none
    | _, _ => none
  | .slice t x lo hi mx => match ev1 s x, evO s lo, evO s hi, evO s mx with
    | some v, some lo, some hi, some mx => sliceV P s.os t v lo hi mx
    | _, _, _, _ => none
  | .lookup t x i ok => match ev1 s x, ev1 s i with
    | some m, some i => lookupV P s.os t m i ok
    | _, _ => none
  | .typeAssert x _ u ok => match ev1 s x with
    | some x => typeAssertV P x u ok
    | none => none
  | .extract t i => match ev1 s t with
    | some (.tup vs) => match vs[i]? with | some v => some (cp v) | none => none
    | _ => none
  | .build t parts => match evps s parts.toList with
    | some ps => buildV P t ps
    | none => none
  | .call { callee := .builtin .len, args, argTypes } => match evs s args.toList, argTypes[0]? with
    | some [v], some t => lenV P s.os t v
    | _, _ => none
  | .call { callee := .builtin .max, args, .. } => match evs s args.toList with
    | some (v :: u :: vs) => foldA max2 v (u :: vs)
    | _ => none
  | .call { callee := .builtin .min, args, .. } => match evs s args.toList with
    | some (v :: u :: vs) => foldA min2 v (u :: vs)
    | _ => none
  | _ => none

/-! ### calls -/
/-- who is called, with what, with which things, units that came in -/
abbrev CallFn := FuncId → List AV → OS → Nat → Option Res

/-- arguments of a call that shares nothing: told as they stand -/
def frzArg (os : OS) : AV → Option (AV × OS)
  | .fn f [] => some (.fn f [], os)
  | .elem cs off => some (.elem cs off, os)
  | x => match frz os x with
    | some (y, os) => some (thaw y, os)
    | none => none
def frzArgs (os : OS) : List AV → Option (List AV × OS)
  | [] => some ([], os)
  | x :: xs => match frzArg os x with
    | some (y, os) => match frzArgs os xs with
      | some (ys, os) => some (y :: ys, os)
      | none => none
    | none => none

/-- what a call of its own memory hands back -/
def out1 (os : OS) : AV → Option (AV × OS)
  | .row k off len => match getObj os k with
    | some (.row sz xs _ _) => if off = 0 ∧ len = xs.length then some (.fresh sz xs, share os k) else match rowAt os k off len with
      | some (sz, ys) => some (.p (.vals sz ys), share os k)
      | none => none
    | _ => none
  | .fresh sz xs => some (.fresh sz xs, os)
  | .uniq sz xs => some (.uniq sz xs, os)
  | v => match frz os v with
    | some (y, os) => some (thaw y, os)
    | none => none
def outs (os : OS) : List AV → Option (List AV × OS)
  | [] => some ([], os)
  | v :: vs => match out1 os v with
    | some (v, os) => match outs os vs with
      | some (vs, os) => some (cp v :: vs, os)
      | none => none
    | none => none
/-- a row that nobody else looks at -/
def outU (os : OS) : AV → Option (AV × OS)
  | .row k off len => match getObj os k with
    | some (.row sz xs _ false) => if off = 0 ∧ len = xs.length then some (.uniq sz xs, os) else none
    | _ => none
  | .fresh 0 [] => some (.uniq 0 [], os)
  | .uniq sz xs => some (.uniq sz xs, os)
  | _ => none
def outV (os : OS) : AV → Option (AV × OS)
  | .tup vs => match outs os vs with | some (vs, os) => some (.tup vs, os) | none => none
  | v => out1 os v
def outM (b : Bool) (os : OS) (v : AV) : Option (AV × OS) := if b then outU os v else outV os v
mutual
def flat : AV → Bool
  | .p (.at _) => true
  | .ifc _ x => flat x
  | .agg cs => flats cs
  | .tup cs => flats cs
  | _ => false
def flats : List AV → Bool
  | [] => true
  | x :: xs => flat x && flats xs
end

def addU (us : List Nat) : List Nat → List Nat
  | [] => us
  | k :: ks => if us.contains (k / 64) then addU us ks else addU (us ++ [k / 64]) ks
/-- what the things of these units lead to -/
def refU (os : OS) (u : Nat) : List Nat :=
  match os with
  | [] => []
  | (k, o) :: m => if k / 64 == u then refO o ++ refU m u else refU m u
/-- the units that one is led to, in the order in which they are met -/
def reachU (os : OS) : Nat → Nat → List Nat → List Nat
  | 0, _, us => us
  | n + 1, i, us => match us[i]? with
    | some u => reachU os n (i + 1) (addU us (refU os u))
    | none => us
def idxU (us : List Nat) (u : Nat) : Option Nat := us.idxOf? u
/-- a key, its unit renamed by its place in a list -/
def toIdx (us : List Nat) (b : Nat) (k : Nat) : Option Nat :=
  match us.idxOf? (k / 64) with
  | some i => some ((b + i) * 64 + k % 64)
  | none => none
/-- and back -/
def ofIdx (us : List Nat) (b : Nat) (k : Nat) : Option Nat :=
  if k / 64 < b then none else
  match us[k / 64 - b]? with
  | some u => some (u * 64 + k % 64)
  | none => none
/-- the things of some units, renamed -/
def lend (f : Nat → Option Nat) (us : List Nat) : OS → Option OS
  | [] => some []
  | (k, o) :: m => match lend f us m with
    | some m' => if us.contains (k / 64) then match f k, renO f o with
        | some k, some o => some ((k, o) :: m')
        | _, _ => none
      else some m'
    | none => none
def dropU (us : List Nat) : OS → OS
  | [] => []
  | (k, o) :: m => if us.contains (k / 64) then dropU us m else (k, o) :: dropU us m
/-- the highest unit in use -/
def maxU : OS → Nat
  | [] => 0
  | (k, _) :: m => max (k / 64) (maxU m)
def maxL : List Nat → Nat
  | [] => 0
  | u :: us => max u (maxL us)
/-- a unit that is free: u, if it is -/
def freeU (os : OS) (u : Nat) : Nat := if os.any (fun e => e.1 / 64 == u) then maxU os + 1 else u
def countU (b : Nat) : Nat → List Nat
  | 0 => []
  | n + 1 => b :: countU (b + 1) n
/-- units for things that come back: free ones, one behind the other -/
def freeUs (os : OS) (us : List Nat) (u n : Nat) : List Nat := countU (max u (max (maxU os) (maxL us) + 1)) n

/-- a row of the callee's own is handed back as data; the rest as it is -/
def outB (nb : Nat) (os : OS) : AV → Option (AV × OS)
  | .row k off len => if k / 64 < nb then some (.row k off len, os) else out1 os (.row k off len)
  | v => some (v, os)
def outBs (nb : Nat) (os : OS) : List AV → Option (List AV × OS)
  | [] => some ([], os)
  | v :: vs => match outB nb os v with
    | some (v, os) => match outBs nb os vs with
      | some (vs, os) => some (cp v :: vs, os)
      | none => none
    | none => none
def outW (nb : Nat) (os : OS) : AV → Option (AV × OS)
  | .tup vs => match outBs nb os vs with | some (vs, os) => some (.tup vs, os) | none => none
  | .agg vs => match outBs nb os vs with | some (vs, os) => some (.agg vs, os) | none => none
  | v => outB nb os v

def backIdx (all names : List Nat) (k : Nat) : Option Nat := match toIdx all 0 k with
  | some k => ofIdx names 0 k
  | none => none
/-- what was lent comes back, and with it what the answer leads to -/
def nf : AV → Bool
  | .fresh _ _ | .uniq _ _ => false
  | _ => true
def ownIn (all : List Nat) : AV → Bool
  | .row k _ _ => all.contains (k / 64)
  | _ => false
def back (os : OS) (us : List Nat) (u : Nat) (v0 : AV) (os' : OS) : Option (AV × OS) :=
  match outW us.length os' v0 with
  | some (v, os') =>
    let all := reachU os' (os'.length + us.length + 1) 0 (addU (List.range us.length) (refs v))
    let names := us ++ freeUs os us u (all.length - us.length)
    let h := backIdx all names
    if all.take us.length == List.range us.length && (nf v || !ownIn all v0) then
      match ren h v, lend h all os' with
      | some v, some os' => some (v, os' ++ dropU us os)
      | _, _ => none
    else none
  | none => none

def modeCall (call : CallFn) (u : Nat) (os : OS) (f : FuncId) (args : List AV) : Option Res :=
  match H.mode f with
  | 0 => match frzArgs os args with
    | some (args, os) => match call f args [] 0 with
      | some (.ret v os') => match outM (H.rows f 1) os' v with
        | some (v, _) => some (.ret v os)
        | none => none
      | some (.pan v os') => match frz os' v with
        | some (x, _) => some (.pan (thaw x) os)
        | none => none
      | none => none
    | none => none
  | _ =>
    let us := reachU os (os.length + args.length + 1) 0 (addU [] (refss args))
    match rens (toIdx us 0) (cps args), lend (toIdx us 0) us os with
    | some args, some os0 => match call f args os0 us.length with
      | some (.ret v os') => match back os us u v os' with
        | some (v, os) => some (.ret v os)
        | none => none
      | some (.pan (.ifc t v) os') => match back os us u (.ifc t v) os' with
        | some (v, os) => some (.pan v os)
        | none => none
      | _ => none
    | _, _ => none

def methodOf (t : TypeId) (name : String) : Option FuncId :=
  match P.info? t with
  | some i => match i.methods.find? (·.name == name) with
    | some m => if m.path.isEmpty then match m.func, P.underlying t with
        | some (_, false), some (.pointer _) => none
        | some (f, false), some _ => some f
        | some (f, true), some (.pointer _) => some f
        | _, _ => none
      else none
    | none => none
  | none => none

/-- who is called, with what -/
def calleeOf (s : St) (c : Call) : Option (FuncId × List AV) :=
  match c.callee with
  | .value f => match ev1 s f, evs s c.args.toList with
    | some (.fn f cap), some a => some (f, a ++ cap)
    | _, _ => none
  | .invoke r name => match ev1 s r, evs s c.args.toList with
    | some (.ifc t v), some a => match methodOf P t name with
      | some f => some (f, v :: a)
      | none => none
    | _, _ => none
  | .builtin _ => none

def fin (s : St) (d : Option Tmp) : Res → R1
  | .ret v os => .ok (put { s with os } d v)
  | .pan v os => .pan v { s with os }

/-! ### operations that write, or make memory -/
/-- the unit that a slot's things begin with -/
def unitOf (cx : Cx) (d : Tmp) : Nat := cx.ub + d * 16384
/-- a free unit for a slot's new thing -/
def newUnit (cx : Cx) (os : OS) (d : Tmp) : Nat := freeU os (unitOf cx d)

/-- rows that an object's cells call for -/
def rowCells (f k d : Nat) : Nat → List AV → OS → List AV × OS
  | _, [], os => ([], os)
  | j, c :: cs, os =>
    match rowCells f k d (j + 1) cs os with
    | (cs, os) => if H.rows f (d * 64 + 1 + j) then
        ((match c with | .fresh 0 [] => .row (k + 1 + j) 0 0 | c => cp c) :: cs, (k + 1 + j, .row 0 [] 0 false) :: os)
      else (cp c :: cs, os)
def newCells (cx : Cx) (s : St) (d : Tmp) (cs : List AV) : Option St :=
  let u := newUnit cx s.os d
  match rowCells H cx.f (u * 64) d 0 cs s.os with
  | (cs, os) => if cs.all stor ∧ cs.length < 63 then some { s with slots := s.slots.set d (.ptr (u * 64) 0), os := (u * 64, .cells cs) :: os } else none

/-- a value comes into a variable's slot: where the slot is a row's, the row is made -/
def newRowS (cx : Cx) (s : St) (d : Tmp) (sz : Nat) (xs : List (List PV)) (sh : Bool) : St :=
  let u := newUnit cx s.os d
  { s with slots := s.slots.set d (.row (u * 64) 0 xs.length), os := (u * 64, .row sz xs 0 sh) :: s.os }
def newSlice (cx : Cx) (s : St) (d : Tmp) (v : AV) : St :=
  match v with
  | .fresh sz xs =>
    if H.rows cx.f (d * 64) then newRowS cx s d sz xs (!xs.isEmpty)
    else { s with slots := s.slots.set d (.p (.vals sz xs)) }
  | .uniq sz xs =>
    if H.rows cx.f (d * 64) then newRowS cx s d sz xs false
    else { s with slots := s.slots.set d (.p (.vals sz xs)) }
  | v => { s with slots := s.slots.set d v }

def isSeq (t : Option TypeId) : Bool := match t with
  | some t => match P.underlying t with
    | some (.slice _) => true
    | some .string => true
    | _ => false
  | none => false
def zeroOK (e : TypeId) : Bool := match zeroT P e with
  | some z => (cps (cellsOf z)).all stor && (cellsOf z).length == szT P e
  | none => false
def appendA (s : St) (dst : Option Tmp) (x : Operand) (a b : AV) (e : TypeId) : Option St :=
  match elems s.os b with
  | some (sz', ys) =>
    if szT P e = 0 then none else
    if ys.isEmpty then
      match a with
      | .row k off len => some (put s dst (.row k off len))
      | .fresh sz xs => some (put (took s x a) dst (.fresh sz xs))
      | _ => none
    else if zeroOK P e ∧ szT P e ≠ 0 ∧ sz' = szT P e then
      match a with
      | .row k off len => match getObj s.os k with
        | some (.row sz xs lo sh) =>
          if off = 0 ∧ len = xs.length ∧ (sz = szT P e ∨ sz = 0) ∧ (xs.length + ys.length) * bytesT P e ≤ 2 ^ 47 ∧ xs.length + ys.length ≤ 2 ^ 47 then
            some (put { s with os := setObj s.os k (.row (szT P e) (xs ++ ys) lo sh) } dst (.row k 0 (xs.length + ys.length))) else none
        | _ => none
      | .fresh sz xs => if (sz = szT P e ∨ sz = 0) ∧ (xs.length + ys.length) * bytesT P e ≤ 2 ^ 47 ∧ xs.length + ys.length ≤ 2 ^ 47 then
          some (put (took s x a) dst (.fresh (szT P e) (xs ++ ys))) else none
      | _ => none
    else none
  | none => none

def stepO (call : CallFn) (cx : Cx) (o : Oper) (s : St) : Option R1 :=
  match o.op with
  | .assign x => match ev1 s x, o.dst with
    | some v, some d => some (.ok (newSlice H cx (took s x v) d v))
    | _, _ => none
  | .convert src dst x => match ev1 s x with
    | some x => match convS P src dst x with
      | some xs => some (.ok (put s o.dst (.fresh 1 xs)))
      | none => match convV P s.os src dst x with
        | some v => some (.ok (put s o.dst v))
        | none => none
    | none => none
  | .alloc t => match zeroT P t, o.dst with
    | some z, some d => match newCells H cx s d (cellsOf z) with
      | some s => some (.ok s)
      | none => none
    | _, _ => none
  | .box _ x => match ev1 s x, o.dst with
    | some v, some d => match newCells H cx s d (cps (cellsOf v)) with
      | some s => some (.ok s)
      | none => none
    | _, _ => none
  | .buildSlice t n parts => match evps s parts.toList, elemT P t, o.dst with
    | some ps, some e, some d => match zeroT P e with
      | some _ => match litElems (szT P e) 0 ps s.os with
        | some (xs, os) => if xs.length = n ∧ szT P e ≠ 0 ∧ n * szT P e ≤ 2 ^ 24 then
            if H.rows cx.f (d * 64) then some (.ok (newRowS cx { s with os } d (szT P e) xs false))
            else some (.ok (put { s with os } o.dst (.fresh (szT P e) xs)))
          else none
        | none => none
      | none => none
    | _, _, _ => none
  | .store t a x => match ev1 s a, ev1 s x with
    | some a, some v => if sizeIs P t (cellsOf v).length then match storeN s.os v a with
        | some os => some (.ok { put (took s x v) o.dst .undef with os })
        | none => none
      else none
    | _, _ => none
  | .makeMap _ none => match o.dst with
    | some d => let u := newUnit cx s.os d
      some (.ok (put { s with os := (u * 64, .map []) :: s.os } o.dst (.mp (u * 64))))
    | none => none
  | .mapUpdate t m k v => match ev1 s m, ev1 s k, ev1 s v with
    | some (.mp i), some (.p (.at k)), some v => match getObj s.os i, P.underlying t with
      | some (.map es), some (.map kt _) => match (findK (P.underlying kt) k es) with
        | some _ => if stor (cp v) then some (.ok (put { s with os := setObj s.os i (.map (updKey k (cp v) es)) } o.dst .undef)) else none
        | none => none
      | _, _ => none
    | _, _, _ => none
  | .range t x => match ev1 s x, o.dst, P.underlying t with
    | some (.p (.at (.string b))), some d, some .string => let u := newUnit cx s.os d
      some (.ok (put { s with os := (u * 64, .iter b 0) :: s.os } o.dst (.ptr (u * 64) 0)))
    | _, _, _ => none
  | .next it true => match ev1 s it with
    | some (.ptr k 0) => match getObj s.os k with
      | some (.iter b pos) =>
        if pos < b.size then
          some (.ok (put { s with os := setObj s.os k (.iter b (pos + (Utf8.decode b pos).2)) } o.dst (.tup [bool true, int pos, .p (.at (.int .i32 (Utf8.decode b pos).1))])))
        else some (.ok (put s o.dst (.tup [bool false])))
      | _ => none
    | _ => none
  | .panic x => match ev1 s x with
    | some (.ifc t v) => some (.pan (.ifc t v) s)
    | _ => none
  | .call { callee := .builtin .append, args, argTypes } => match args.toList, argTypes[0]?, isSeq P argTypes[1]? with
    | [x, y], some t, true => match elemT P t, ev1 s x, ev1 s y with
      | some e, some a, some b => match appendA P s o.dst x a b e with
        | some s => some (.ok s)
        | none => none
      | _, _, _ => none
    | _, _, _ => none
  | .call { callee := .builtin .recover, .. } => none
  | .call { callee := .builtin b, args, argTypes } => match stepV P s (.call { callee := .builtin b, args, argTypes }) with
    | some v => some (.ok (put s o.dst v))
    | none => none
  | .call c => match calleeOf P s c with
    | some (f, args) => match modeCall H call (match o.dst with | some d => unitOf cx d | none => unitOf cx 0) s.os f args with
      | some r => some (fin s o.dst r)
      | none => none
    | none => none
  | .defer c => match c.callee with
    | .value f => match ev1 s f, evs s c.args.toList with
      | some (.fn f cap), some a => some (.ok (put { s with dfr := (.fn f cap, cps a) :: s.dfr } o.dst .undef))
      | _, _ => none
    | _ => none
  | op => match stepV P s op with
    | some v => some (.ok (put s o.dst v))
    | none => none

def wantedA (ops : Array Oper) (s : St) (o : Oper) : Option Bool :=
  match o.guard with
  | none => some true
  | some (j, want) => match (ops[j]?).bind (·.dst) with
    | some d => match s.slots.get d with
      | some (.p (.at (.bool b))) => some (b == want)
      | some (.tup _) => some false
      | _ => none
    | none => none

/-- a region's operations, one behind the other -/
def runOps (st : Oper → St → Option R1) (ops : Array Oper) : List Oper → St → Option Out
  | [], s => some (.norm s)
  | o :: rest, s => match wantedA ops s o with
    | some true => match st o s with
      | some (.ok s) => runOps st ops rest s
      | some (.pan v s) => some (.pan v s)
      | none => none
    | some false => runOps st ops rest (put s o.dst (.tup []))
    | none => none

/-! ### loops -/
def firstRegion : Code → Nat
  | .region id _ _ => id
  | .seq a _ => firstRegion a
  | .cond _ a _ => firstRegion a
  | .block _ b => firstRegion b
  | .loop b => firstRegion b
  | .scope b => firstRegion b
  | _ => 0
def wipe (slots : Slots) : List Tmp → Slots
  | [] => slots
  | t :: ts => wipe (slots.set t .undef) ts
def subU (us : List Nat) : List Nat → Bool
  | [] => true
  | k :: ks => us.contains (k / 64) && subU us ks
def closedU (us : List Nat) : OS → Bool
  | [] => true
  | (k, o) :: m => (!us.contains (k / 64) || subU us (refO o)) && closedU us m
def keepU (us : List Nat) : OS → OS
  | [] => []
  | (k, o) :: m => if us.contains (k / 64) then (k, o) :: keepU us m else keepU us m
def refD : List (AV × List AV) → List Nat
  | [] => []
  | (f, a) :: ds => refs f ++ refss a ++ refD ds
/-- the end of a round: what nobody reads again is forgotten, and what nobody leads to any more -/
def sweep (cx : Cx) (dead : List Tmp) (s : St) : St :=
  if s.os.length ≤ 16 then s else
  let slots := wipe s.slots dead
  let us := reachU s.os (s.os.length + 1) 0 (addU (addU (List.range cx.ub) (refT slots.t)) (refD s.dfr))
  if subU us (refT slots.t) && subU us (refD s.dfr) && closedU us s.os then
    { s with slots, os := keepU us s.os }
  else { s with slots }

def iter (body : St → Option Out) (sw : St → St) : Nat → St → Option Out
  | 0, _ => none
  | n + 1, s => match body s with
    | some (.norm s) => iter body sw n (sw s)
    | r => r

abbrev StepFn := CallFn → Cx → Oper → St → Option R1
/-- a region that draws its order -/
abbrev DrawnFn := CallFn → Cx → Nat → Array Oper → St → Option Out
def evC (st : StepFn) (dr : DrawnFn) (call : CallFn) (n : Nat) (cx : Cx) : Code → St → Option Out
  | .skip, s => some (.norm s)
  | .label _, s => some (.norm s)
  | .region _ ops false, s => runOps (st call cx) ops ops.toList s
  | .region id ops true, s => dr call cx id ops s
  | .seq a b, s => match evC st dr call n cx a s with
    | some (.norm s) => evC st dr call n cx b s
    | r => r
  | .cond c a b, s => match ev1 s c with
    | some v => match asB v with
      | some true => evC st dr call n cx a s
      | some false => evC st dr call n cx b s
      | none => none
    | none => none
  | .block id b, s => match evC st dr call n cx b s with
    | some (.exit id' s) => if id' = id then some (.norm s) else some (.exit id' s)
    | r => r
  | .loop b, s => iter (evC st dr call n cx b) (sweep cx (H.dead cx.f (firstRegion b))) n s
  | .exit id, s => some (.exit id s)
  | .ret, s => some (.ret s)
  | _, _ => none

def resOf (s : St) : List ResultVar → Option (List AV)
  | [] => some []
  | .tmp t :: rs => match s.slots.get t, resOf s rs with
    | some v, some vs => some (v :: vs)
    | _, _ => none
  | .cell a t :: rs => match s.slots.get a, shT P t with
    | some p, some (n, isAgg) => match loadN s.os n isAgg p, resOf s rs with
      | some v, some vs => some (v :: vs)
      | _, _ => none
    | _, _ => none
def result (fn : Func) (s : St) : Option AV :=
  match resOf P s fn.results.toList with
  | some [v] => some v
  | some vs => some (.tup (cps vs))
  | none => none

/-- a deferred call: with the panic on its way; what is left of that -/
abbrev CallD := FuncId → List AV → OS → Nat → Option AV → Option (Res × Option AV)

/-- a panic's value that leads nowhere -/
def flatP : Option AV → Bool
  | none => true
  | some (.ifc _ w) => flat w
  | some _ => false

/-- the deferred calls, the last one first: a panic on its way, or none -/
def leave (call : CallD) (cx : Cx) (fn : Func) : List (AV × List AV) → St → Option AV → Option Res
  | [], s, none => match result P fn s with
    | some v => some (.ret v s.os)
    | none => none
  | [], s, some v => some (.pan v s.os)
  | (.fn f cap, args) :: ds, s, v =>
    let us := reachU s.os (s.os.length + args.length + cap.length + 1) 0 (addU [] (refss (args ++ cap)))
    if flatP v then
      match rens (toIdx us 0) (args ++ cap), lend (toIdx us 0) us s.os with
      | some a, some os0 => match call f a os0 us.length v with
        | some (.ret _ os', v') => match back s.os us (unitOf cx fn.ntmps) (.tup []) os' with
          | some (_, os) => leave call cx fn ds { s with os } v'
          | none => none
        | some (.pan (.ifc t x) os', _) => if v.isNone && flat x then
            match back s.os us (unitOf cx fn.ntmps) (.tup []) os' with
            | some (_, os) => leave call cx fn ds { s with os } (some (.ifc t x))
            | none => none
          else none
        | _ => none
      | _, _ => none
    else none
  | _, _, _ => none

/-- a deferred function's own body, where a panic may be caught -/
def runOpsS (st : Oper → St → Option R1) (ops : Array Oper) : List Oper → St → Option AV → Option (Out × Option AV)
  | [], s, pn => some (.norm s, pn)
  | o :: rest, s, pn => match wantedA ops s o with
    | some true => match o.op with
      | .call { callee := .builtin .recover, .. } => match pn with
        | some v => runOpsS st ops rest (put s o.dst v) none
        | none => runOpsS st ops rest (put s o.dst (.p (.at .nilIface))) none
      | _ => match st o s with
        | some (.ok s) => runOpsS st ops rest s pn
        | some (.pan v s) => some (.pan v s, pn)
        | none => none
    | some false => runOpsS st ops rest (put s o.dst (.tup [])) pn
    | none => none
def withP (pn : Option AV) : Option Out → Option (Out × Option AV)
  | some r => some (r, pn)
  | none => none
def evS (st : StepFn) (dr : DrawnFn) (call : CallFn) (n : Nat) (cx : Cx) : Code → St → Option AV → Option (Out × Option AV)
  | .region _ ops false, s, pn => runOpsS (st call cx) ops ops.toList s pn
  | .seq a b, s, pn => match evS st dr call n cx a s pn with
    | some (.norm s, pn) => evS st dr call n cx b s pn
    | r => r
  | c, s, pn => withP pn (evC H st dr call n cx c s)

/-- a function's first state -/
def first (fn : Func) (args : List AV) (os : OS) : St := { slots := Slots.fill args 0 ⟨fn.ntmps, Sl.full (Nat.log2 fn.ntmps + 1)⟩, os, dfr := [] }

def resOnly : Option (Res × Option AV) → Option Res
  | some (r, _) => some r
  | none => none
/-- what is told by hand -/
def primE (prim : FuncId → Option CallFn) : CallFn := fun f args os ub => match prim f with
  | some g => g f args os ub
  | none => none
/-- calls: none, a plain call; some, a deferred one, with the panic on its way -/
def evG (st : StepFn) (dr : DrawnFn) (prim : FuncId → Option CallFn) : Nat → FuncId → List AV → OS → Nat → Option (Option AV) → Option (Res × Option AV)
  | 0 => fun _ _ _ _ _ => none
  | n + 1 => fun f args os ub d =>
    match P.funcs[f]? with
    | some fn => match fn.body with
      | some c =>
        match d with
        | none => match primE prim f args os ub with
          | some r => some (r, none)
          | none =>
            match evC H st dr (fun f args os ub => resOnly (evG st dr prim n f args os ub none)) n ⟨f, ub⟩ c (first fn args os) with
            | some (.norm s) | some (.ret s) => match leave P (fun f args os ub pn => evG st dr prim n f args os ub (some pn)) ⟨f, ub⟩ fn s.dfr s none with
              | some r => some (r, none)
              | none => none
            | some (.pan v s) => match leave P (fun f args os ub pn => evG st dr prim n f args os ub (some pn)) ⟨f, ub⟩ fn s.dfr s (some v) with
              | some r => some (r, none)
              | none => none
            | _ => none
        | some pn =>
          match evS H st dr (fun f args os ub => resOnly (evG st dr prim n f args os ub none)) n ⟨f, ub⟩ c (first fn args os) pn with
          | some (.norm s, pn) | some (.ret s, pn) => if s.dfr.isEmpty then match result P fn s with
              | some v => some (.ret v s.os, pn)
              | none => none
            else none
          | some (.pan v s, pn) => if s.dfr.isEmpty then some (.pan v s.os, pn) else none
          | _ => none
      | none => none
    | none => none
def evF (st : StepFn) (dr : DrawnFn) (prim : FuncId → Option CallFn) (n : Nat) : CallFn := fun f args os ub => resOnly (evG P H st dr prim n f args os ub none)
end
end Go.Am
namespace Go.Am
theorem Sl.look_lay {v : AV} : ∀ (t : Sl) (p q : Nat), 1 ≤ p → 1 ≤ q → (t.lay p v).look q = if p = q then (match t.look q with | some _ => some v | none => none) else t.look q
  | .e, p, q, _, _ => by simp [Sl.lay, Sl.look]
  | .n x l r, p, q, hp, hq => by
    have ihl := fun a b h1 h2 => Sl.look_lay (v := v) l a b h1 h2
    have ihr := fun a b h1 h2 => Sl.look_lay (v := v) r a b h1 h2
    have bq : ∀ a b : Nat, Nat.beq a b = decide (a = b) := fun a b => by
      by_cases h : a = b
      · subst h; simp
      · rw [decide_eq_false h]
        cases e : Nat.beq a b with
        | false => rfl
        | true => exact absurd (Nat.eq_of_beq_eq_true e) h
    by_cases h1 : p = 1
    · subst h1
      by_cases h2 : q = 1
      · subst h2; simp [Sl.lay, Sl.look]
      · have : Nat.beq q 1 = false := by rw [bq]; simp [h2]
        simp [Sl.lay, Sl.look, this, Ne.symm h2]
    · have e1 : Nat.beq p 1 = false := by rw [bq]; simp [h1]
      by_cases h2 : q = 1
      · subst h2
        by_cases h3 : p % 2 = 0
        · simp [Sl.lay, Sl.look, e1, h3, h1]
        · have e3 : Nat.beq (p % 2) 0 = false := by rw [bq]; simp [h3]
          simp [Sl.lay, Sl.look, e1, e3, h1]
      · have e2 : Nat.beq q 1 = false := by rw [bq]; simp [h2]
        by_cases h3 : p % 2 = 0
        · have e3 : Nat.beq (p % 2) 0 = true := by rw [bq]; simp [h3]
          by_cases h4 : q % 2 = 0
          · have e4 : Nat.beq (q % 2) 0 = true := by rw [bq]; simp [h4]
            simp only [Sl.lay, Sl.look, e1, e2, e3, e4]
            rw [ihl _ _ (by omega) (by omega)]
            by_cases h5 : p = q
            · subst h5; simp
            · rw [if_neg h5, if_neg (by omega)]
          · have e4 : Nat.beq (q % 2) 0 = false := by rw [bq]; simp [h4]
            simp only [Sl.lay, Sl.look, e1, e2, e3, e4]
            rw [if_neg (by omega)]
        · have e3 : Nat.beq (p % 2) 0 = false := by rw [bq]; simp [h3]
          by_cases h4 : q % 2 = 0
          · have e4 : Nat.beq (q % 2) 0 = true := by rw [bq]; simp [h4]
            simp only [Sl.lay, Sl.look, e1, e2, e3, e4]
            rw [if_neg (by omega)]
          · have e4 : Nat.beq (q % 2) 0 = false := by rw [bq]; simp [h4]
            simp only [Sl.lay, Sl.look, e1, e2, e3, e4]
            rw [ihr _ _ (by omega) (by omega)]
            by_cases h5 : p = q
            · subst h5; simp
            · rw [if_neg h5, if_neg (by omega)]

theorem Sl.lay_lay (v u : AV) : ∀ (t : Sl) (p : Nat), (t.lay p u).lay p v = t.lay p v
  | .e, p => rfl
  | .n x l r, p => by
    cases h1 : Nat.beq p 1 with
    | true => simp only [Sl.lay, h1]
    | false =>
      cases h3 : Nat.beq (p % 2) 0 with
      | true => simp only [Sl.lay, h1, h3, Sl.lay_lay v u l]
      | false => simp only [Sl.lay, h1, h3, Sl.lay_lay v u r]
theorem Slots.set_set (s : Slots) (d : Nat) (u v : AV) : (s.set d u).set d v = s.set d v := by
  unfold Slots.set; simp only [Sl.lay_lay]
theorem Sl.lay_comm (v u : AV) : ∀ (t : Sl) (p q : Nat), p ≠ q → 1 ≤ p → 1 ≤ q → (t.lay p u).lay q v = (t.lay q v).lay p u
  | .e, p, q, _, _, _ => rfl
  | .n x l r, p, q, hne, hp, hq => by
    cases h1 : Nat.beq p 1 with
    | true =>
      cases h2 : Nat.beq q 1 with
      | true => exact absurd ((Nat.eq_of_beq_eq_true h1).trans (Nat.eq_of_beq_eq_true h2).symm) hne
      | false => cases h4 : Nat.beq (q % 2) 0 with
        | true => simp only [Sl.lay, h1, h2, h4]
        | false => simp only [Sl.lay, h1, h2, h4]
    | false =>
      cases h2 : Nat.beq q 1 with
      | true => cases h3 : Nat.beq (p % 2) 0 with
        | true => simp only [Sl.lay, h1, h2, h3]
        | false => simp only [Sl.lay, h1, h2, h3]
      | false =>
        have n1 := Nat.ne_of_beq_eq_false h1
        have n2 := Nat.ne_of_beq_eq_false h2
        cases h3 : Nat.beq (p % 2) 0 with
        | true =>
          have := Nat.eq_of_beq_eq_true h3
          cases h4 : Nat.beq (q % 2) 0 with
          | true =>
            have := Nat.eq_of_beq_eq_true h4
            simp only [Sl.lay, h1, h2, h3, h4, Sl.lay_comm v u l (p / 2) (q / 2) (by omega) (by omega) (by omega)]
          | false => simp only [Sl.lay, h1, h2, h3, h4]
        | false =>
          have := Nat.ne_of_beq_eq_false h3
          cases h4 : Nat.beq (q % 2) 0 with
          | true => simp only [Sl.lay, h1, h2, h3, h4]
          | false =>
            have := Nat.ne_of_beq_eq_false h4
            simp only [Sl.lay, h1, h2, h3, h4, Sl.lay_comm v u r (p / 2) (q / 2) (by omega) (by omega) (by omega)]
theorem Slots.set_comm (s : Slots) {d e : Nat} (u v : AV) (h : d ≠ e) : (s.set d u).set e v = (s.set e v).set d u := by
  unfold Slots.set; simp only [Sl.lay_comm v u s.t (d + 1) (e + 1) (by omega) (by omega) (by omega)]

theorem Slots.get_set (s : Slots) (d t : Nat) (v : AV) : (s.set d v).get t = if t = d then (match s.get t with | some _ => some v | none => none) else s.get t := by
  unfold Slots.get Slots.set
  simp only
  cases h : Nat.blt t s.n with
  | false => simp
  | true =>
    simp only
    rw [Sl.look_lay _ _ _ (by omega) (by omega)]
    by_cases e : t = d
    · subst e; simp
    · rw [if_neg e, if_neg (by omega)]
theorem slots_set_get {l : Slots} {t d : Nat} {v x : AV} (h : (l.set d v).get t = some x) : (t = d ∧ x = v ∧ ∃ u, l.get d = some u) ∨ (t ≠ d ∧ l.get t = some x) := by
  rw [Slots.get_set] at h
  split at h
  · rename_i e
    subst e
    split at h
    · rename_i u hu; cases h; exact .inl ⟨rfl, rfl, u, hu⟩
    · cases h
  · rename_i e; exact .inr ⟨e, h⟩
theorem full_look {x : AV} : ∀ (d p : Nat), (Sl.full d).look p = some x → x = .tup []
  | 0, p, h => by simp [Sl.full, Sl.look] at h
  | d + 1, p, h => by
    simp only [Sl.full, Sl.look] at h
    split at h
    · cases h; rfl
    · split at h
      · exact full_look d _ h
      · exact full_look d _ h
theorem fill_get : ∀ (vs : List AV) (i : Nat) (s : Slots) (t : Nat) (x : AV), (Slots.fill vs i s).get t = some x → (i ≤ t ∧ vs[t - i]? = some x) ∨ ((t < i ∨ i + vs.length ≤ t) ∧ s.get t = some x)
  | [], i, s, t, x, h => .inr ⟨by simp; omega, h⟩
  | v :: vs, i, s, t, x, h => by
    rcases fill_get vs (i + 1) (s.set i v) t x h with ⟨h1, h2⟩ | ⟨h1, h2⟩
    · left
      refine ⟨by omega, ?_⟩
      rw [show t - i = (t - (i + 1)) + 1 by omega]
      simpa using h2
    · rcases slots_set_get h2 with ⟨rfl, rfl, _⟩ | ⟨h3, h4⟩
      · left; simp
      · right
        refine ⟨?_, h4⟩
        simp only [List.length_cons]
        omega
theorem fill_n : ∀ (vs : List AV) (i : Nat) (s : Slots), (Slots.fill vs i s).n = s.n
  | [], _, _ => rfl
  | v :: vs, i, s => by rw [Slots.fill, fill_n]; rfl
theorem get_lt {s : Slots} {t : Nat} {x : AV} (h : s.get t = some x) : t < s.n := by
  unfold Slots.get at h
  split at h
  · rename_i hb
    simpa using hb
  · cases h
theorem refT_mem : ∀ {t : Sl} {p : Nat} {c : AV}, t.look p = some c → ∀ k ∈ refs c, k ∈ refT t
  | .e, p, c, h, k, hk => by simp [Sl.look] at h
  | .n v l r, p, c, h, k, hk => by
    simp only [Sl.look] at h
    simp only [refT, List.mem_append]
    split at h
    · cases h; exact .inl hk
    · split at h
      · exact .inr (.inl (refT_mem h k hk))
      · exact .inr (.inr (refT_mem h k hk))
theorem refS_mem {s : Slots} {t : Nat} {c : AV} (h : s.get t = some c) : ∀ k ∈ refs c, k ∈ refT s.t := by
  unfold Slots.get at h
  split at h
  · exact refT_mem h
  · cases h
end Go.Am
namespace Go.Am

/-- who owns a block -/
inductive Loc where
  | obj (k : Nat)
  | slot (t : Nat)
  deriving DecidableEq

/-- where things lie; the cells that nobody writes any more -/
structure Gh where
  bk : Loc → Option Nat
  I : Nat → Nat → Prop
  /-- values that are watched: what they stand for stays so -/
  W : AV → Value → Prop

/-- what the names stand for -/
class Env where
  val : Nat → Value
variable [Env]
inductive PVR (w : World) (I : Nat → Nat → Prop) : PV → Value → Prop
  | at {v : Value} (h : v.oneCell' = true) : PVR w I (.at v) v
  | sym {i : Nat} (h : (Env.val i).oneCell' = true) : PVR w I (.sym i) (Env.val i)
  | vnil {sz : Nat} {a : Option Addr} {cap : Nat} : PVR w I (.vals sz []) (.slice a 0 cap)
  | vals {sz : Nat} {xs : List (List PV)} {b o cap n : Nat} (vs : Nat → Value) (hn : n = xs.length) (hcap : n ≤ cap) (hsz : ∀ x ∈ xs, x.length = sz)
      (hI : ∀ (i : Nat) (x : List PV) (j : Nat) (y : PV), xs[i]? = some x → x[j]? = some y → I b (o + (i * sz + j)))
      (hc : ∀ (i : Nat) (x : List PV) (j : Nat) (y : PV), xs[i]? = some x → x[j]? = some y → w.cell? ⟨b, o + (i * sz + j), none⟩ = some (vs (i * sz + j)))
      (h1 : ∀ (i : Nat) (x : List PV) (j : Nat) (y : PV), xs[i]? = some x → x[j]? = some y → (vs (i * sz + j)).oneCell' = true)
      (hv : ∀ (i : Nat) (x : List PV) (j : Nat) (y : PV), xs[i]? = some x → x[j]? = some y → PVR w I y (vs (i * sz + j))) : PVR w I (.vals sz xs) (.slice (some ⟨b, o, none⟩) n cap)
  | agg {cs : List PV} {vs : Array Value} (hs : vs.size = cs.length) (h1 : ∀ (j : Nat) (v : Value), vs[j]? = some v → v.oneCell' = true)
      (hv : ∀ (j : Nat) (c : PV) (v : Value), cs[j]? = some c → vs[j]? = some v → PVR w I c v) : PVR w I (.agg cs) (.agg vs)
  | ifc {t : TypeId} {x : PV} {v : Value} (h : PVR w I x v) : PVR w I (.ifc t x) (.iface t v)

theorem PVR.mono {w w' : World} {I I' : Nat → Nat → Prop} (hI : ∀ b o, I b o → I' b o ∧ w'.cell? ⟨b, o, none⟩ = w.cell? ⟨b, o, none⟩) {x : PV} {v : Value} (h : PVR w I x v) : PVR w' I' x v := by
  induction h with
  | «at» h => exact .at h
  | sym h => exact .sym h
  | vnil => exact .vnil
  | vals vs hn hcap hsz hi hc h1 _ ih =>
    exact .vals vs hn hcap hsz (fun i x j y a b => (hI _ _ (hi i x j y a b)).1) (fun i x j y a b => by rw [(hI _ _ (hi i x j y a b)).2]; exact hc i x j y a b) h1 ih
  | agg hs h1 _ ih => exact .agg hs h1 ih
  | ifc _ ih => exact .ifc ih

theorem drop_take_get {α : Type} {xs : List α} {off len i : Nat} {x : α} (h : ((xs.drop off).take len)[i]? = some x) : i < len ∧ xs[off + i]? = some x := by
  rw [List.getElem?_take] at h
  split at h
  · rename_i hl
    exact ⟨hl, by rw [List.getElem?_drop] at h; exact h⟩
  · cases h

theorem PVR.sub {w : World} {I : Nat → Nat → Prop} {sz n cap : Nat} {xs : List (List PV)} {b o : Nat} (h : PVR w I (.vals sz xs) (.slice (some ⟨b, o, none⟩) n cap)) (off len c' : Nat) (hl : off + len ≤ xs.length) (hc' : len ≤ c') :
    PVR w I (.vals sz ((xs.drop off).take len)) (.slice (some ⟨b, o + off * sz, none⟩) len c') := by
  cases h with
  | vnil =>
    have : len = 0 := by simp at hl; omega
    subst this
    simp only [List.drop_nil, List.take_nil]
    exact .vnil
  | vals vs hn hcap hsz hI hc h1 hv =>
    have hlen : ((xs.drop off).take len).length = len := by rw [List.length_take, List.length_drop]; omega
    have e : ∀ i j, o + off * sz + (i * sz + j) = o + ((off + i) * sz + j) := fun i j => by rw [Nat.add_mul]; omega
    have e2 : ∀ i j, off * sz + (i * sz + j) = (off + i) * sz + j := fun i j => by rw [Nat.add_mul]; omega
    refine .vals (fun m => vs (off * sz + m)) hlen.symm hc' (fun x hx => hsz x (List.mem_of_mem_drop (List.mem_of_mem_take hx))) ?_ ?_ ?_ ?_
    · intro i x j y hx hy; rw [e]; exact hI _ _ _ _ (drop_take_get hx).2 hy
    · intro i x j y hx hy; rw [e]; simp only [e2]; exact hc _ _ _ _ (drop_take_get hx).2 hy
    · intro i x j y hx hy; simp only [e2]; exact h1 _ _ _ _ (drop_take_get hx).2 hy
    · intro i x j y hx hy; simp only [e2]; exact hv _ _ _ _ (drop_take_get hx).2 hy

/-- a reference is the row's newest -/
def Cur (w : World) (b : Option Nat) (sz off cap : Nat) (a : Option Addr) : Prop :=
  (b = none ∧ cap = 0) ∨ ∃ bb vs el fr, b = some bb ∧ a = some ⟨bb, off * sz, none⟩ ∧ w.heap[bb]? = some (.cells vs el fr) ∧ vs.size = (off + cap) * sz

inductive AVR (w : World) (g : Gh) (os : OS) : AV → Value → Prop
  | p {x : PV} {v : Value} (h : PVR w g.I x v) : AVR w g os (.p x) v
  | ptr {k off b : Nat} (h : (∃ cs, getObj os k = some (.cells cs)) ∨ ∃ s n, getObj os k = some (.iter s n)) (hb : g.bk (.obj k) = some b) : AVR w g os (.ptr k off) (.pointer (some ⟨b, off, none⟩))
  | eptr {k i off n sz lo : Nat} {xs : List (List PV)} {sh : Bool} {v : Value} (h : getObj os k = some (.row sz xs lo sh)) (hi : i < n) (hn : n ≤ xs.length) (h1 : ∃ b o, v = .pointer (some ⟨b, o, none⟩))
      (hv : n = xs.length → ∃ b, g.bk (.obj k) = some b ∧ v = .pointer (some ⟨b, i * sz + off, none⟩)) : AVR w g os (.eptr k i off n) v
  | elem {cs : List PV} {off b o : Nat} (vs : Nat → Value) (hI : ∀ (j : Nat) (y : PV), cs[j]? = some y → g.I b (o + j)) (hc : ∀ (j : Nat) (y : PV), cs[j]? = some y → w.cell? ⟨b, o + j, none⟩ = some (vs j))
      (h1 : ∀ (j : Nat) (y : PV), cs[j]? = some y → (vs j).oneCell' = true) (hv : ∀ (j : Nat) (y : PV), cs[j]? = some y → PVR w g.I y (vs j)) : AVR w g os (.elem cs off) (.pointer (some ⟨b, o + off, none⟩))
  | row {k off len sz lo cap : Nat} {xs : List (List PV)} {sh : Bool} {a : Option Addr} (h : getObj os k = some (.row sz xs lo sh)) (hl : off + len ≤ xs.length) (hcap : len ≤ cap)
      (hcur : off + len = xs.length → (0 < len ∨ off = 0) → Cur w (g.bk (.obj k)) sz off cap a)
      (hc : len = 0 ∨ off + len < lo ∨ (∃ b, g.bk (.obj k) = some b ∧ a = some ⟨b, off * sz, none⟩) ∨ PVR w g.I (.vals sz ((xs.drop off).take len)) (.slice a len cap)) :
      AVR w g os (.row k off len) (.slice a len cap)
  | mp {k b : Nat} {es : List (PV × AV)} (h : getObj os k = some (.map es)) (hb : g.bk (.obj k) = some b) : AVR w g os (.mp k) (.map (some b))
  | fn {f : FuncId} {cap : List AV} {vs : Array Value} (hs : vs.size = cap.length) (hv : ∀ (j : Nat) (c : AV) (v : Value), cap[j]? = some c → vs[j]? = some v → AVR w g os c v) : AVR w g os (.fn f cap) (.func (.func f) #[] vs)
  | ifc {t : TypeId} {x : AV} {v : Value} (h : AVR w g os x v) : AVR w g os (.ifc t x) (.iface t v)
  | agg {cs : List AV} {vs : Array Value} (hs : vs.size = cs.length) (h1 : ∀ (j : Nat) (v : Value), vs[j]? = some v → v.oneCell' = true)
      (hv : ∀ (j : Nat) (c : AV) (v : Value), cs[j]? = some c → vs[j]? = some v → AVR w g os c v) : AVR w g os (.agg cs) (.agg vs)
  | tup {cs : List AV} {vs : Array Value} (hs : vs.size = cs.length) (hv : ∀ (j : Nat) (c : AV) (v : Value), cs[j]? = some c → vs[j]? = some v → AVR w g os c v) : AVR w g os (.tup cs) (.tuple vs)
  | nilf {a : Option Addr} : AVR w g os (.fresh 0 []) (.slice a 0 0)
  | undef {v : Value} : AVR w g os .undef v

/-- what may become of a thing: it stays where it is, but a row's array, which may be left for another one (the old cells are immutable then) -/
def OEv (b b' : Option Nat) (w w' : World) (I' : Nat → Nat → Prop) : Obj → Obj → Prop
  | .row sz xs lo _, .row sz' xs' lo' _ =>
    xs.length ≤ xs'.length ∧ ((xs ≠ [] ∨ b ≠ none) → sz' = sz) ∧ lo ≤ lo' ∧ (xs'.length = xs.length → b' = b) ∧
    (∀ bb, b = some bb → ∀ vs el fr, w.heap[bb]? = some (.cells vs el fr) → ∃ vs', w'.heap[bb]? = some (.cells vs' el fr) ∧ vs'.size = vs.size) ∧
    (∀ off len, off + len ≤ xs.length → lo' ≤ off + len → (off + len = xs.length ∧ xs'.length = xs.length) ∨ (xs'.drop off).take len = (xs.drop off).take len) ∧
    (b' = b ∨ ∀ bb, b = some bb → PVR w' I' (.vals sz xs) (.slice (some ⟨bb, 0, none⟩) xs.length xs.length))
  | .map _, .map _ => b' = b
  | .cells _, .cells _ => b' = b
  | .iter _ _, .iter _ _ => b' = b
  | _, _ => False

/-- a state's things, seen from another one, renamed -/
structure Tr (f : Nat → Option Nat) (w : World) (g : Gh) (os : OS) (w' : World) (g' : Gh) (os' : OS) : Prop where
  imm : ∀ b o, g.I b o → g'.I b o ∧ w'.cell? ⟨b, o, none⟩ = w.cell? ⟨b, o, none⟩
  obj : ∀ k k' o, getObj os k = some o → f k = some k' → ∃ o', getObj os' k' = some o' ∧ OEv (g.bk (.obj k)) (g'.bk (.obj k')) w w' g'.I o o'

theorem rens_get {f : Nat → Option Nat} : ∀ {cs ds : List AV}, rens f cs = some ds → ds.length = cs.length ∧ ∀ (j : Nat) (c : AV), cs[j]? = some c → ∃ d, ds[j]? = some d ∧ ren f c = some d
  | [], ds, h => by cases h; exact ⟨rfl, fun j c hc => by simp at hc⟩
  | x :: xs, ds, h => by
    simp only [rens] at h
    split at h
    · rename_i y ys hy hys
      cases h
      obtain ⟨hl, hg⟩ := rens_get hys
      refine ⟨by simp [hl], fun j c hc => ?_⟩
      cases j with
      | zero => simp at hc; subst hc; exact ⟨y, rfl, hy⟩
      | succ j => exact hg j c (by simpa using hc)
    · cases h

theorem AVR.tr {f : Nat → Option Nat} {w w' : World} {g g' : Gh} {os os' : OS} (T : Tr f w g os w' g' os') {v : AV} {c : Value} (h : AVR w g os v c) : ∀ v', ren f v = some v' → AVR w' g' os' v' c := by
  induction h with
  | p h => intro v' hr; cases hr; exact .p (h.mono T.imm)
  | undef => intro v' hr; cases hr; exact .undef
  | nilf => intro v' hr; cases hr; exact .nilf
  | @ptr k off b h hb =>
    intro v' hr
    simp only [ren] at hr
    split at hr
    · rename_i k' hk
      cases hr
      rcases h with ⟨cs, h⟩ | ⟨s, n, h⟩
      · obtain ⟨o', ho', he⟩ := T.obj k k' _ h hk
        cases o' with
        | cells cs' => exact .ptr (.inl ⟨_, ho'⟩) (by rw [show g'.bk (.obj k') = g.bk (.obj k) from he]; exact hb)
        | _ => exact absurd he id
      · obtain ⟨o', ho', he⟩ := T.obj k k' _ h hk
        cases o' with
        | iter s' n' => exact .ptr (.inr ⟨_, _, ho'⟩) (by rw [show g'.bk (.obj k') = g.bk (.obj k) from he]; exact hb)
        | _ => exact absurd he id
    · cases hr
  | @mp k b es h hb =>
    intro v' hr
    simp only [ren] at hr
    split at hr
    · rename_i k' hk
      cases hr
      obtain ⟨o', ho', he⟩ := T.obj k k' _ h hk
      cases o' with
      | map es' => exact .mp ho' (by rw [show g'.bk (.obj k') = g.bk (.obj k) from he]; exact hb)
      | _ => exact absurd he id
    · cases hr
  | @eptr k i off n sz lo xs sh v h hi hn h1 hv =>
    intro v' hr
    simp only [ren] at hr
    split at hr
    · rename_i k' hk
      cases hr
      obtain ⟨o', ho', he⟩ := T.obj k k' _ h hk
      cases o' with
      | row sz' xs' lo' sh' =>
        obtain ⟨e1, e2, _, e4, _⟩ := he
        refine .eptr ho' hi (Nat.le_trans hn e1) h1 fun hn' => ?_
        have hl : xs'.length = xs.length := by omega
        obtain ⟨b, hb, rfl⟩ := hv (by omega)
        have hne : xs ≠ [] := by rintro rfl; simp at hn; omega
        exact ⟨b, by rw [e4 hl]; exact hb, by rw [e2 (.inl hne)]⟩
      | _ => exact absurd he id
    · cases hr
  | elem vs hI hc h1 hv =>
    intro v' hr
    cases hr
    exact .elem vs (fun j y hy => (T.imm _ _ (hI j y hy)).1) (fun j y hy => by rw [(T.imm _ _ (hI j y hy)).2]; exact hc j y hy) h1 (fun j y hy => (hv j y hy).mono T.imm)
  | @row k off len sz lo cap xs sh a h hl hcap hcur hc =>
    intro v' hr
    simp only [ren] at hr
    split at hr
    · rename_i k' hk
      cases hr
      obtain ⟨o', ho', he⟩ := T.obj k k' _ h hk
      cases o' with
      | row sz' xs' lo' sh' =>
        obtain ⟨e1, e2, e3, e4, e5, e6, e7⟩ := he
        refine .row ho' (Nat.le_trans hl e1) hcap (fun hl' hz => ?_) ?_
        · have hlen : xs'.length = xs.length := by omega
          rw [e4 hlen]
          rcases hcur (by omega) hz with ⟨hb, hc0⟩ | ⟨bb, vs, el, fr, hb, ha, hh, hs⟩
          · exact .inl ⟨hb, hc0⟩
          · obtain ⟨vs', hh', hs'⟩ := e5 bb hb vs el fr hh
            have hsz : sz' = sz := e2 (.inr (by simp [hb]))
            exact .inr ⟨bb, vs', el, fr, hb, by rw [hsz]; exact ha, hh', by rw [hs', hs, hsz]⟩
        · rcases hc with hc | hc | ⟨b, hb, ha⟩ | hc
          · exact .inl hc
          · exact .inr (.inl (by omega))
          · rcases Nat.eq_zero_or_pos len with h0 | h0
            · exact .inl h0
            have hne : xs ≠ [] := by rintro rfl; simp at hl; omega
            rcases e7 with e7 | e7
            · exact .inr (.inr (.inl ⟨b, by rw [e7]; exact hb, by rw [e2 (.inl hne)]; exact ha⟩))
            · rcases Nat.lt_or_ge (off + len) lo' with hlo | hlo
              · exact .inr (.inl hlo)
              · rcases e6 off len hl hlo with ⟨h1, h2⟩ | h1
                · exact .inr (.inr (.inl ⟨b, by rw [e4 h2]; exact hb, by rw [e2 (.inl hne)]; exact ha⟩))
                · refine .inr (.inr (.inr ?_))
                  rw [h1, e2 (.inl hne), ha]
                  have := (e7 b hb).sub off len cap hl hcap
                  simpa using this
          · rcases Nat.eq_zero_or_pos len with h0 | h0
            · exact .inl h0
            have hne : xs ≠ [] := by rintro rfl; simp at hl; omega
            rcases Nat.lt_or_ge (off + len) lo' with hlo | hlo
            · exact .inr (.inl hlo)
            · rcases e6 off len hl hlo with ⟨h1, h2⟩ | h1
              · rcases hcur h1 (.inl h0) with ⟨hb, hc0⟩ | ⟨bb, vs, el, fr, hb, ha, hh, hs⟩
                · omega
                · exact .inr (.inr (.inl ⟨bb, by rw [e4 h2]; exact hb, by rw [e2 (.inl hne)]; exact ha⟩))
              · exact .inr (.inr (.inr (by rw [h1, e2 (.inl hne)]; exact hc.mono T.imm)))
      | _ => exact absurd he id
    · cases hr
  | fn hs hv ih =>
    intro v' hr
    simp only [ren] at hr
    split at hr
    · rename_i ds hd
      cases hr
      obtain ⟨hl, hg⟩ := rens_get hd
      refine .fn (by rw [hs, hl]) fun j c v hc hv => ?_
      have : j < ds.length := (List.getElem?_eq_some_iff.1 hc).1
      obtain ⟨d, hd, hrd⟩ := hg j _ (List.getElem?_eq_getElem (by omega))
      rw [hc] at hd; cases hd
      exact ih j _ v (List.getElem?_eq_getElem (by omega)) hv c hrd
    · cases hr
  | ifc h ih =>
    intro v' hr
    simp only [ren] at hr
    split at hr
    · rename_i x hx
      cases hr
      exact .ifc (ih x hx)
    · cases hr
  | agg hs h1 hv ih =>
    intro v' hr
    simp only [ren] at hr
    split at hr
    · rename_i ds hd
      cases hr
      obtain ⟨hl, hg⟩ := rens_get hd
      refine .agg (by rw [hs, hl]) h1 fun j c v hc hv => ?_
      have : j < ds.length := (List.getElem?_eq_some_iff.1 hc).1
      obtain ⟨d, hd, hrd⟩ := hg j _ (List.getElem?_eq_getElem (by omega))
      rw [hc] at hd; cases hd
      exact ih j _ v (List.getElem?_eq_getElem (by omega)) hv c hrd
    · cases hr
  | tup hs hv ih =>
    intro v' hr
    simp only [ren] at hr
    split at hr
    · rename_i ds hd
      cases hr
      obtain ⟨hl, hg⟩ := rens_get hd
      refine .tup (by rw [hs, hl]) fun j c v hc hv => ?_
      have : j < ds.length := (List.getElem?_eq_some_iff.1 hc).1
      obtain ⟨d, hd, hrd⟩ := hg j _ (List.getElem?_eq_getElem (by omega))
      rw [hc] at hd; cases hd
      exact ih j _ v (List.getElem?_eq_getElem (by omega)) hv c hrd
    · cases hr
end Go.Am
namespace Go.Am
variable [Env]

theorem ren_some : ∀ v : AV, ren some v = some v
  | .p _ => rfl
  | .fresh _ _ => rfl
  | .uniq _ _ => rfl
  | .ptr _ _ => rfl
  | .eptr _ _ _ _ => rfl
  | .elem _ _ => rfl
  | .row _ _ _ => rfl
  | .mp _ => rfl
  | .fn _ cap => by simp only [ren]; rw [go cap]
  | .ifc _ x => by simp only [ren]; rw [ren_some x]
  | .agg cs => by simp only [ren]; rw [go cs]
  | .tup cs => by simp only [ren]; rw [go cs]
  | .undef => rfl
where go : ∀ cs : List AV, rens some cs = some cs
  | [] => rfl
  | x :: xs => by simp only [rens]; rw [ren_some x, go xs]

theorem AVR.ev {w w' : World} {g g' : Gh} {os os' : OS} (T : Tr some w g os w' g' os') {v : AV} {c : Value} (h : AVR w g os v c) : AVR w' g' os' v c := h.tr T v (ren_some v)

def frok (fr : Nat × Nat) (n sz : Nat) : Prop := sz ≠ 0 ∧ ∀ o, o < n → ¬ (fr.1 ≤ o ∧ o < fr.2)
theorem frok_zero (n : Nat) {sz : Nat} (h : sz ≠ 0) : frok (0, 0) n sz := ⟨h, fun o _ h => by have := h.2; simp at this⟩

/-- what a row's cells hold -/
def Holds (w : World) (I : Nat → Nat → Prop) (vs : Array Value) (sz : Nat) (xs : List (List PV)) : Prop :=
  (∀ x ∈ xs, x.length = sz) ∧ ∀ (i : Nat) (x : List PV) (j : Nat) (y : PV), xs[i]? = some x → x[j]? = some y → ∃ v, vs[i * sz + j]? = some v ∧ v.oneCell' = true ∧ PVR w I y v

def OR (w : World) (g : Gh) (os : OS) (k : Nat) : Obj → Prop
  | .cells cs => ∃ b vs el, g.bk (.obj k) = some b ∧ w.heap[b]? = some (.cells vs el (0, 0)) ∧ vs.size = cs.length ∧
      (∀ (j : Nat) (c : AV) (v : Value), cs[j]? = some c → vs[j]? = some v → AVR w g os c v ∧ v.oneCell' = true) ∧ ∀ o, ¬ g.I b o
  | .map es => ∃ b mes clk, g.bk (.obj k) = some b ∧ w.heap[b]? = some (.map mes clk) ∧ mes.size = es.length ∧
      (∀ (j : Nat) (e : PV × AV) (m : MapEntry), es[j]? = some e → mes[j]? = some m → PVR w g.I e.1 m.key ∧ AVR w g os e.2 m.val) ∧ ∀ o, ¬ g.I b o
  | .iter s n => ∃ b, g.bk (.obj k) = some b ∧ w.heap[b]? = some (.stringIter s n)
  | .row sz xs lo sh => lo ≤ xs.length ∧ ((g.bk (.obj k) = none ∧ xs = []) ∨ ∃ b vs el fr cap, g.bk (.obj k) = some b ∧ w.heap[b]? = some (.cells vs el fr) ∧ frok fr vs.size sz ∧
      vs.size = cap * sz ∧ xs.length ≤ cap ∧ Holds w g.I vs sz xs ∧ ∀ o, g.I b o → sh = true ∧ o < xs.length * sz)

/-- what holds of the world from the beginning: package-level tables, below all that is made -/
class Base where
  ok : World → Prop
  top : Nat
  keep : ∀ w w' : World, w.heap.size ≤ w'.heap.size → (∀ b, b < top → w'.heap[b]? = w.heap[b]?) → ok w → ok w'
def Based [Base] (B : Nat) (w : World) : Prop := Base.ok w ∧ Base.top ≤ B ∧ Base.top ≤ w.heap.size

structure RelO [Base] (B : Nat) (w : World) (g : Gh) (os : OS) : Prop where
  obj : ∀ k o, getObj os k = some o → OR w g os k o
  dom : ∀ k b, g.bk (.obj k) = some b → ∃ o, getObj os k = some o
  inj : ∀ x y b, g.bk x = some b → g.bk y = some b → x = y
  lt : ∀ x b, g.bk x = some b → B ≤ b ∧ b < w.heap.size
  ilt : ∀ b o, g.I b o → b < w.heap.size
  watch : ∀ v c, g.W v c → AVR w g os v c
  base : Based B w

/-- what a piece of code may do -/
structure Fr (w : World) (g : Gh) (w' : World) (g' : Gh) : Prop where
  size : w.heap.size ≤ w'.heap.size
  tape : w'.tape = w.tape
  os : w'.os = w.os
  output : w'.output = w.output
  imm : ∀ b o, g.I b o → g'.I b o ∧ w'.cell? ⟨b, o, none⟩ = w.cell? ⟨b, o, none⟩
  rest : ∀ b, b < w.heap.size → (∀ x, g.bk x ≠ some b) → w'.heap[b]? = w.heap[b]?
  own : ∀ x b, g'.bk x = some b → b < w.heap.size → ∃ y, g.bk y = some b
  inew : ∀ b o, g'.I b o → b < w.heap.size → g.I b o ∨ ∃ y, g.bk y = some b
  watch : ∀ v c, g.W v c → g'.W v c

theorem Fr.refl (w : World) (g : Gh) : Fr w g w g :=
  ⟨Nat.le_refl _, rfl, rfl, rfl, fun _ _ h => ⟨h, rfl⟩, fun _ _ _ => rfl, fun x _ h _ => ⟨x, h⟩, fun _ _ h _ => .inl h, fun _ _ h => h⟩

theorem Fr.trans {w w' w'' : World} {g g' g'' : Gh} (h : Fr w g w' g') (h' : Fr w' g' w'' g'') : Fr w g w'' g'' where
  size := Nat.le_trans h.size h'.size
  tape := h'.tape.trans h.tape
  os := h'.os.trans h.os
  output := h'.output.trans h.output
  imm b o hi := ⟨(h'.imm b o (h.imm b o hi).1).1, (h'.imm b o (h.imm b o hi).1).2.trans (h.imm b o hi).2⟩
  rest b hb hn := by
    rw [h'.rest b (Nat.lt_of_lt_of_le hb h.size) (fun x hx => ?_), h.rest b hb hn]
    obtain ⟨y, hy⟩ := h.own x b hx hb
    exact hn y hy
  own x b hx hb := by
    obtain ⟨y, hy⟩ := h'.own x b hx (Nat.lt_of_lt_of_le hb h.size)
    exact h.own y b hy hb
  inew b o hi hb := by
    rcases h'.inew b o hi (Nat.lt_of_lt_of_le hb h.size) with h1 | ⟨y, hy⟩
    · exact h.inew b o h1 hb
    · exact .inr (h.own y b hy hb)
  watch v c h0 := h'.watch v c (h.watch v c h0)

theorem OEv.refl {b : Option Nat} {w w' : World} {I' : Nat → Nat → Prop} (hb : ∀ bb, b = some bb → ∀ vs el fr, w.heap[bb]? = some (.cells vs el fr) → ∃ vs', w'.heap[bb]? = some (.cells vs' el fr) ∧ vs'.size = vs.size) :
    ∀ o : Obj, OEv b b w w' I' o o
  | .cells _ => rfl
  | .map _ => rfl
  | .iter _ _ => rfl
  | .row _ _ _ _ => ⟨Nat.le_refl _, fun _ => rfl, Nat.le_refl _, fun _ => rfl, hb, fun _ _ _ _ => .inr rfl, .inl rfl⟩

/-- nothing changes but the world, and that not where things lie -/
theorem Tr.world {w w' : World} {g g' : Gh} {os : OS} (hbk : ∀ k, g'.bk (.obj k) = g.bk (.obj k)) (hI : ∀ b o, g.I b o → g'.I b o ∧ w'.cell? ⟨b, o, none⟩ = w.cell? ⟨b, o, none⟩)
    (hh : ∀ k b, g.bk (.obj k) = some b → ∀ vs el fr, w.heap[b]? = some (.cells vs el fr) → ∃ vs', w'.heap[b]? = some (.cells vs' el fr) ∧ vs'.size = vs.size) : Tr some w g os w' g' os where
  imm := hI
  obj k k' o h hk := by
    cases hk
    exact ⟨o, h, by rw [hbk]; exact OEv.refl (fun bb hb => hh k bb hb) o⟩

theorem Holds.mono {w w' : World} {I I' : Nat → Nat → Prop} (hI : ∀ b o, I b o → I' b o ∧ w'.cell? ⟨b, o, none⟩ = w.cell? ⟨b, o, none⟩) {vs : Array Value} {sz : Nat} {xs : List (List PV)} (h : Holds w I vs sz xs) : Holds w' I' vs sz xs :=
  ⟨h.1, fun i x j y a b => let ⟨v, h1, h2, h3⟩ := h.2 i x j y a b; ⟨v, h1, h2, h3.mono hI⟩⟩

/-- a thing that nobody touched -/
theorem OR.ev {w w' : World} {g g' : Gh} {os os' : OS} {k k' : Nat} (T : Tr some w g os w' g' os') {o : Obj} (h : OR w g os k o) (hbk : g'.bk (.obj k') = g.bk (.obj k))
    (hh : ∀ b, g.bk (.obj k) = some b → w'.heap[b]? = w.heap[b]? ∧ ∀ o, g'.I b o → g.I b o) : OR w' g' os' k' o := by
  cases o with
  | cells cs =>
    obtain ⟨b, vs, el, h1, h2, h3, h4, h5⟩ := h
    obtain ⟨e1, e2⟩ := hh b h1
    exact ⟨b, vs, el, hbk.trans h1, e1.trans h2, h3, fun j c v hc hv => ⟨(h4 j c v hc hv).1.ev T, (h4 j c v hc hv).2⟩, fun o ho => h5 o (e2 o ho)⟩
  | map es =>
    obtain ⟨b, mes, clk, h1, h2, h3, h4, h5⟩ := h
    obtain ⟨e1, e2⟩ := hh b h1
    exact ⟨b, mes, clk, hbk.trans h1, e1.trans h2, h3, fun j c v hc hv => ⟨(h4 j c v hc hv).1.mono T.imm, (h4 j c v hc hv).2.ev T⟩, fun o ho => h5 o (e2 o ho)⟩
  | iter s n =>
    obtain ⟨b, h1, h2⟩ := h
    exact ⟨b, hbk.trans h1, (hh b h1).1.trans h2⟩
  | row sz xs lo sh =>
    obtain ⟨h0, h⟩ := h
    refine ⟨h0, ?_⟩
    rcases h with ⟨h1, h2⟩ | ⟨b, vs, el, fr, cap, h1, h2, h3, h4, h5, h6, h7⟩
    · exact .inl ⟨hbk.trans h1, h2⟩
    · obtain ⟨e1, e2⟩ := hh b h1
      exact .inr ⟨b, vs, el, fr, cap, hbk.trans h1, e1.trans h2, h3, h4, h5, h6.mono T.imm, fun o ho => h7 o (e2 o ho)⟩

theorem cell_heap {w w' : World} {b : Nat} (h : w'.heap[b]? = w.heap[b]?) (o : Nat) : w'.cell? ⟨b, o, none⟩ = w.cell? ⟨b, o, none⟩ := by
  simp only [World.cell?, h]

/-- the world has grown; whatever lay in it lies there still -/
structure Grew (w w' : World) : Prop where
  size : w.heap.size ≤ w'.heap.size
  tape : w'.tape = w.tape
  os : w'.os = w.os
  output : w'.output = w.output
  old : ∀ b, b < w.heap.size → w'.heap[b]? = w.heap[b]?

theorem Based.grew [Base] {B : Nat} {w w' : World} (h : Based B w) (G : Grew w w') : Based B w' :=
  ⟨Base.keep w w' G.size (fun b hb => G.old b (Nat.lt_of_lt_of_le hb h.2.2)) h.1, h.2.1, Nat.le_trans h.2.2 G.size⟩
variable [Base]
theorem Grew.refl (w : World) : Grew w w := ⟨Nat.le_refl _, rfl, rfl, rfl, fun _ _ => rfl⟩
theorem Grew.trans {w w' w'' : World} (h : Grew w w') (h' : Grew w' w'') : Grew w w'' :=
  ⟨Nat.le_trans h.size h'.size, h'.tape.trans h.tape, h'.os.trans h.os, h'.output.trans h.output, fun b hb => (h'.old b (Nat.lt_of_lt_of_le hb h.size)).trans (h.old b hb)⟩
theorem Grew.alloc (w : World) (o : Go.Obj) : Grew w (w.alloc o) :=
  ⟨by simp, rfl, rfl, rfl, fun b hb => by show (w.heap.push o)[b]? = _; rw [Array.getElem?_push, if_neg (Nat.ne_of_lt hb)]⟩
theorem Grew.drew (w : World) : Grew w w.drew := ⟨Nat.le_refl _, rfl, rfl, rfl, fun _ _ => rfl⟩

theorem Grew.tr {B : Nat} {w w' : World} {g g' : Gh} {os : OS} (h : Grew w w') (R : RelO B w g os) (hbk : ∀ k, g'.bk (.obj k) = g.bk (.obj k)) (hI : ∀ b o, g.I b o → g'.I b o) : Tr some w g os w' g' os :=
  Tr.world hbk (fun b o hi => ⟨hI b o hi, cell_heap (h.old b (R.ilt b o hi)) o⟩) fun k b hb vs el fr hv => ⟨vs, by rw [h.old b (R.lt _ b hb).2]; exact hv, rfl⟩

/-- the world has grown, a slot's right is let go, or taken at a new block; cells of new blocks, or of such a slot's, are immutable now -/
theorem RelO.grew {B : Nat} {w w' : World} {g g' : Gh} {os : OS} (h : Grew w w') (R : RelO B w g os) (hbk : ∀ k, g'.bk (.obj k) = g.bk (.obj k)) (hI : ∀ b o, g.I b o → g'.I b o)
    (hnew : ∀ b o, g'.I b o → g.I b o ∨ (b < w'.heap.size ∧ ∀ k, g.bk (.obj k) ≠ some b)) (hinj : ∀ x y b, g'.bk x = some b → g'.bk y = some b → x = y) (hlt : ∀ x b, g'.bk x = some b → B ≤ b ∧ b < w'.heap.size) (hW : ∀ v c, g'.W v c → g.W v c := by intro _ _ h; exact h) : RelO B w' g' os where
  obj k o hk := (R.obj k o hk).ev (h.tr R hbk hI) (hbk k) fun b hb => ⟨h.old b (R.lt _ b hb).2, fun o ho => by
    rcases hnew b o ho with h1 | ⟨_, h2⟩
    · exact h1
    · exact absurd hb (h2 k)⟩
  dom k b hb := R.dom k b (by rw [← hbk]; exact hb)
  inj := hinj
  lt := hlt
  ilt b o ho := by
    rcases hnew b o ho with h1 | ⟨h1, _⟩
    · exact Nat.lt_of_lt_of_le (R.ilt b o h1) h.size
    · exact h1
  watch v c hv := (R.watch v c (hW v c hv)).ev (h.tr R hbk hI)
  base := R.base.grew h
end Go.Am
namespace Go.Am
variable [Env]

def FR (w : World) (g : Gh) (t sz : Nat) (xs : List (List PV)) (c : Value) : Prop :=
  (xs = [] ∧ ∃ a, c = .slice a 0 0) ∨
  ∃ b vs el fr cap, g.bk (.slot t) = some b ∧ c = .slice (some ⟨b, 0, none⟩) xs.length cap ∧ w.heap[b]? = some (.cells vs el fr) ∧ frok fr vs.size sz ∧ vs.size = cap * sz ∧
    xs.length ≤ cap ∧ PVR w g.I (.vals sz xs) c ∧ ∀ o, g.I b o → o < xs.length * sz
def UR (w : World) (g : Gh) (t sz : Nat) (xs : List (List PV)) (c : Value) : Prop :=
  (xs = [] ∧ ∃ a, c = .slice a 0 0) ∨
  ∃ b vs el fr cap, g.bk (.slot t) = some b ∧ c = .slice (some ⟨b, 0, none⟩) xs.length cap ∧ w.heap[b]? = some (.cells vs el fr) ∧ frok fr vs.size sz ∧ vs.size = cap * sz ∧
    xs.length ≤ cap ∧ Holds w g.I vs sz xs ∧ ∀ o, ¬ g.I b o
/-- what a slot's value stands for -/
def SVR (w : World) (g : Gh) (os : OS) (t : Nat) : AV → Value → Prop
  | .fresh sz xs, c => FR w g t sz xs c
  | .uniq sz xs, c => UR w g t sz xs c
  | v, c => AVR w g os v c

theorem SVR.of {w : World} {g : Gh} {os : OS} {v : AV} {c : Value} (t : Nat) (h : AVR w g os v c) : SVR w g os t v c := by
  cases h with
  | nilf => exact .inl ⟨rfl, _, rfl⟩
  | p h => exact .p h
  | ptr h hb => exact .ptr h hb
  | eptr h hi hn h1 hv => exact .eptr h hi hn h1 hv
  | elem vs hI hc h1 hv => exact .elem vs hI hc h1 hv
  | row h hl hcap hcur hc => exact .row h hl hcap hcur hc
  | mp h hb => exact .mp h hb
  | fn hs hv => exact .fn hs hv
  | ifc h => exact .ifc h
  | agg hs h1 hv => exact .agg hs h1 hv
  | tup hs hv => exact .tup hs hv
  | undef => exact .undef

theorem SVR.cp {w : World} {g : Gh} {os : OS} {t : Nat} {v : AV} {c : Value} (h : SVR w g os t v c) : AVR w g os (cp v) c := by
  cases v with
  | fresh sz xs =>
    rcases h with ⟨rfl, a, rfl⟩ | ⟨b, vs, el, fr, cap, _, _, _, _, _, _, h, _⟩
    · exact .p .vnil
    · exact .p h
  | uniq sz xs => exact .undef
  | _ => exact h

theorem AVR.cp {w : World} {g : Gh} {os : OS} {v : AV} {c : Value} (h : AVR w g os v c) : AVR w g os (cp v) c := (SVR.of 0 h).cp

/-- values, one by one -/
def AVRs (w : World) (g : Gh) (os : OS) (cs : List AV) (vs : Array Value) : Prop :=
  vs.size = cs.length ∧ ∀ (j : Nat) (c : AV) (v : Value), cs[j]? = some c → vs[j]? = some v → AVR w g os c v

variable [Base]
structure Rel (B : Nat) (w : World) (g : Gh) (s : St) (a : Act) : Prop where
  mem : RelO B w g s.os
  size : ∀ t v, s.slots.get t = some v → t < a.tmps.size
  slots : ∀ t v, s.slots.get t = some v → SVR w g s.os t v (a.tmps.getD t undef)
  dlen : a.defers.length = s.dfr.length
  dfr : ∀ (j : Nat) (x : AV × List AV) (d : Deferred), s.dfr[j]? = some x → a.defers[j]? = some d →
    ∃ f cap vs, x.1 = .fn f cap ∧ d.target = .fn (.func f) vs ∧ AVRs w g s.os cap vs ∧ AVRs w g s.os x.2 d.args

theorem oneCell_ofAtom {v : Value} (w : World) (g : Gh) (os : OS) : AVR w g os (ofAtom v) v := by
  cases v with
  | slice a l c =>
    cases a with
    | none =>
      cases l with
      | zero => cases c with
        | zero => exact .nilf
        | succ c => exact .p (.at rfl)
      | succ l => exact .p (.at rfl)
    | some a => exact .p (.at rfl)
  | func fn first cap =>
    exact .p (.at rfl)
  | agg cs => exact .undef
  | tuple cs => exact .undef
  | _ => exact .p (.at rfl)

theorem ofAtoms_length : ∀ l : List Value, (ofAtoms l).length = l.length
  | [] => rfl
  | _ :: l => by simp [ofAtoms, ofAtoms_length l]
theorem ofAtoms_get : ∀ (l : List Value) (j : Nat) (c : AV), (ofAtoms l)[j]? = some c → ∃ v, l[j]? = some v ∧ c = ofAtom v
  | [], j, c, h => by simp [ofAtoms] at h
  | v :: l, 0, c, h => ⟨v, rfl, by simp [ofAtoms] at h; exact h.symm⟩
  | v :: l, j + 1, c, h => by simpa using ofAtoms_get l j c (by simpa [ofAtoms] using h)
theorem oneCell_eq (v : Value) : v.oneCell'' = v.oneCell' := by cases v <;> rfl

theorem ofValue_rel {v : Value} (w : World) (g : Gh) (os : OS) : AVR w g os (ofValue v) v := by
  cases v with
  | agg cs =>
    simp only [ofValue]
    split
    · rename_i h
      refine .agg (by simp [ofAtoms_length]) (fun j v hv => ?_) fun j c v hc hv => ?_
      · have := List.all_eq_true.1 h v (List.mem_of_getElem? (by simpa using hv))
        rwa [oneCell_eq] at this
      · obtain ⟨u, hu, rfl⟩ := ofAtoms_get _ j c hc
        have : u = v := by
          have h2 : cs.toList[j]? = some v := by simpa using hv
          rw [hu] at h2; exact Option.some.inj h2
        subst this
        exact oneCell_ofAtom w g os
    · exact .undef
  | iface t v => exact .ifc (oneCell_ofAtom w g os)
  | _ => simp only [ofValue]; exact oneCell_ofAtom w g os

def opLoc : Operand → Nat
  | .tmp t => t
  | _ => 0

section
variable {P : Program} {H : Hints} {B : Nat} {w : World} {g : Gh} {s : St} {a : Act}

theorem ev1_rel (R : Rel B w g s a) {x : Operand} {v : AV} (h : ev1 s x = some v) : SVR w g s.os (opLoc x) v (a.eval x) := by
  cases x with
  | tmp t => exact R.slots t v h
  | const c => cases h; exact .of 0 (ofValue_rel w g s.os)
  | global n => cases h; exact SVR.of 0 (.p (.at rfl))
  | func f => cases h; exact SVR.of 0 (.fn rfl fun j c v hc => by simp at hc)

theorem evs_rel (R : Rel B w g s a) : ∀ {xs : List Operand} {vs : List AV}, evs s xs = some vs → vs.length = xs.length ∧ ∀ (j : Nat) (v : AV), vs[j]? = some v → ∃ x, xs[j]? = some x ∧ ev1 s x = some v
  | [], vs, h => by cases h; exact ⟨rfl, fun j v hv => by simp at hv⟩
  | x :: xs, vs, h => by
    simp only [evs] at h
    split at h
    · rename_i v hv
      split at h
      · rename_i us hus
        cases h
        obtain ⟨h1, h2⟩ := evs_rel R hus
        refine ⟨by simp [h1], fun j u hu => ?_⟩
        cases j with
        | zero => simp at hu; subst hu; exact ⟨x, rfl, hv⟩
        | succ j => simpa using h2 j u (by simpa using hu)
      · cases h
    · cases h

theorem cps_length : ∀ l : List AV, (cps l).length = l.length
  | [] => rfl
  | _ :: l => by simp [cps, cps_length l]
theorem cps_get : ∀ (l : List AV) (j : Nat) (c : AV), (cps l)[j]? = some c → ∃ v, l[j]? = some v ∧ c = cp v
  | [], j, c, h => by simp [cps] at h
  | v :: l, 0, c, h => ⟨v, rfl, by simp [cps] at h; exact h.symm⟩
  | v :: l, j + 1, c, h => by simpa using cps_get l j c (by simpa [cps] using h)

/-- operands, evaluated for a call, or to be caught -/
theorem evs_cps (R : Rel B w g s a) {xs : List Operand} {vs : List AV} (h : evs s xs = some vs) : AVRs w g s.os (cps vs) (xs.map a.eval).toArray := by
  obtain ⟨h1, h2⟩ := evs_rel R h
  refine ⟨by simp [cps_length, h1], fun j c v hc hv => ?_⟩
  obtain ⟨u, hu, rfl⟩ := cps_get _ j c hc
  obtain ⟨x, hx, he⟩ := h2 j u hu
  have : v = a.eval x := by simp [hx] at hv; exact hv.symm
  subst this
  exact (ev1_rel R he).cp

mutual
theorem thaw_rel {w : World} {g : Gh} {os : OS} : ∀ {x : PV} {v : Value}, PVR w g.I x v → AVR w g os (thaw x) v
  | .at _, _, h => .p h
  | .sym _, _, h => .p h
  | .vals _ _, _, h => .p h
  | .agg cs, _, .agg hs h1 hv => .agg (by rw [hs, thaws_length]) h1 fun j c v hc hw => by
      obtain ⟨x, hx, rfl⟩ := thaws_get cs j c hc
      exact thaw_rel_mem cs j x v hx (hv j x v hx hw)
  | .ifc _ _, _, .ifc h => .ifc (thaw_rel h)
theorem thaw_rel_mem {w : World} {g : Gh} {os : OS} : ∀ (cs : List PV) (j : Nat) (x : PV) (v : Value), cs[j]? = some x → PVR w g.I x v → AVR w g os (thaw x) v
  | [], j, x, v, h, _ => by simp at h
  | c :: cs, 0, x, v, h, hp => by
    have : c = x := by simpa using h
    subst this
    exact thaw_rel hp
  | c :: cs, j + 1, x, v, h, hp => thaw_rel_mem cs j x v (by simpa using h) hp
theorem thaws_length : ∀ l : List PV, (thaws l).length = l.length
  | [] => rfl
  | _ :: l => by simp [thaws, thaws_length l]
theorem thaws_get : ∀ (l : List PV) (j : Nat) (c : AV), (thaws l)[j]? = some c → ∃ v, l[j]? = some v ∧ c = thaw v
  | [], j, c, h => by simp [thaws] at h
  | v :: l, 0, c, h => ⟨v, rfl, by simp [thaws] at h; exact h.symm⟩
  | v :: l, j + 1, c, h => by simpa using thaws_get l j c (by simpa [thaws] using h)
end

theorem add_plain (b o j : Nat) : (⟨b, o, none⟩ : Addr).add j = ⟨b, o + j, none⟩ := by unfold Addr.add; split <;> simp_all

theorem drop_take_get' {α : Type} {xs : List α} {off len i : Nat} {x : α} (h : ((xs.drop off).take len)[i]? = some x) : i < len ∧ xs[off + i]? = some x := drop_take_get h
theorem range_map_get {α : Type} {n : Nat} {f : Nat → α} {j : Nat} {u : α} (h : ((List.range n).map f).toArray[j]? = some u) : j < n ∧ u = f j := by
  simp only [List.getElem?_toArray, List.getElem?_map] at h
  rcases Nat.lt_or_ge j n with hj | hj
  · rw [List.getElem?_range hj] at h
    exact ⟨hj, by simpa using h.symm⟩
  · rw [List.getElem?_eq_none (by simpa using hj)] at h
    simp at h

/-- cells, one behind the other, told as a value -/
theorem takeCs_rel {w : World} {g : Gh} {os : OS} {n off : Nat} {isAgg : Bool} {cs : List AV} {v : AV} (h : takeCs n isAgg off cs = some v) (t : TypeId) (b o : Nat)
    (hsh : shT P t = some (n, isAgg)) (vs : Nat → Value) (hc : ∀ (j : Nat) (c : AV), cs[j]? = some c → w.cell? ⟨b, o + j, none⟩ = some (vs j))
    (hv : ∀ (j : Nat) (c : AV), cs[j]? = some c → AVR w g os c (vs j) ∧ (vs j).oneCell' = true) :
    ∃ c, (loadVar t ⟨b, o + off, none⟩).run P w = .ok c w ∧ AVR w g os v c := by
  unfold shT at hsh
  split at hsh
  case h_2 => cases hsh
  rename_i i hi
  have hsize : (sizeOf t).run P w = .ok i.size w := by simp [sizeOf, typeInfo, hi]
  have key : ∀ d, P.underlying t = some d → (isAgg = true ↔ (∃ fs, d = .struct fs) ∨ ∃ m e, d = .array m e) → n = i.size → ∃ c, (loadVar t ⟨b, o + off, none⟩).run P w = .ok c w ∧ AVR w g os v c := by
    intro d hd hag hn
    subst hn
    have hrun : (Go.isAgg t).run P w = .ok isAgg w := by
      simp only [Go.isAgg, Sem.run_bind, run_underlying hd, Result.andThen_ok]
      cases isAgg with
      | true =>
        rcases hag.1 rfl with ⟨fs, rfl⟩ | ⟨m, e, rfl⟩ <;> rfl
      | false =>
        cases d with
        | struct fs => exact absurd (hag.2 (.inl ⟨fs, rfl⟩)) (by simp)
        | array m e => exact absurd (hag.2 (.inr ⟨m, e, rfl⟩)) (by simp)
        | _ => rfl
    unfold takeCs at h
    cases isAgg with
    | true =>
      simp only [if_true] at h
      split at h
      · rename_i hle
        cases h
        have hl := run_loadCells (P := P) (w := w) ⟨b, o + off, none⟩ i.size (fun j => vs (off + j)) (fun j hj => by
          rw [add_plain, Nat.add_assoc]
          exact hc (off + j) _ (List.getElem?_eq_getElem (by omega)))
        refine ⟨.agg ((List.range i.size).map fun j => vs (off + j)).toArray, by simp only [loadVar, Sem.run_bind, hrun, Result.andThen_ok, hsize, hl, if_true, Sem.run_pure], ?_⟩
        refine .agg ?_ ?_ ?_
        · simp [cps_length]; omega
        · intro j u hu
          obtain ⟨hj, rfl⟩ := range_map_get hu
          exact (hv (off + j) _ (List.getElem?_eq_getElem (by omega))).2
        · intro j c u hcj hu
          obtain ⟨hj, rfl⟩ := range_map_get hu
          obtain ⟨z, hz, rfl⟩ := cps_get _ j c hcj
          have hz' : cs[off + j]? = some z := (drop_take_get' hz).2
          exact (hv (off + j) z hz').1.cp
      · cases h
    | false =>
      simp only [Bool.false_eq_true, if_false] at h
      split at h
      · rename_i z hz
        cases h
        refine ⟨vs off, ?_, (hv off z hz).1.cp⟩
        simp [loadVar, hrun, hc off z hz]
      · cases h
  split at hsh <;> first | (cases hsh; done) | skip
  · rename_i fs hd; cases hsh; exact key _ hd (by simp) rfl
  · rename_i m e hd; cases hsh; exact key _ hd (by simp) rfl
  · rename_i d h1 h2 hd
    cases hsh
    refine key _ hd ?_ rfl
    constructor
    · intro h; cases h
    · rintro (⟨fs, rfl⟩ | ⟨m, e, rfl⟩)
      · exact absurd rfl (h1 fs)
      · exact absurd rfl (h2 m e)
end
end Go.Am
namespace Go.Am
variable [Env]
section
variable [Base]
variable {P : Program} {H : Hints} {B : Nat} {w : World} {g : Gh} {os : OS}

theorem cell_of_heap {b : Nat} {vs : Array Value} {el : TypeId} {fr : Nat × Nat} (h : w.heap[b]? = some (.cells vs el fr)) (o : Nat) : w.cell? ⟨b, o, none⟩ = vs[o]? := by
  simp [World.cell?, h]

theorem getElem?_getD {vs : Array Value} {j : Nat} (h : j < vs.size) : vs[j]? = some (vs.getD j undef) := by
  simp [Array.getD, h]

theorem loadN_rel (R : RelO B w g os) {n : Nat} {isAgg : Bool} {v r : AV} {c : Value} {t : TypeId} (h : loadN os n isAgg v = some r) (hv : AVR w g os v c) (hsh : shT P t = some (n, isAgg)) :
    ∃ c', (Instr.loadAt t c).run P w = .ok c' w ∧ AVR w g os r c' := by
  unfold loadN at h
  split at h
  · rename_i k off
    split at h
    · rename_i cs hk
      cases hv with
      | ptr _ hb =>
        obtain ⟨b', vs, el, h1, h2, h3, h4, _⟩ := R.obj k _ hk
        rw [hb] at h1; cases h1
        obtain ⟨c', hr, hc'⟩ := takeCs_rel (P := P) (g := g) (os := os) h t _ 0 hsh (fun j => vs.getD j undef) (fun j c hc => by
            have hj : j < vs.size := by rw [h3]; exact (List.getElem?_eq_some_iff.1 hc).1
            rw [Nat.zero_add, cell_of_heap h2, getElem?_getD hj]) (fun j c hc => by
            have hj : j < vs.size := by rw [h3]; exact (List.getElem?_eq_some_iff.1 hc).1
            exact h4 j c _ hc (getElem?_getD hj))
        refine ⟨c', ?_, hc'⟩
        simpa [Instr.loadAt, Instr.sureAddr] using hr
    · cases h
  · rename_i cs off
    cases hv with
    | @elem _ _ b o vs hI hc h1 hv =>
      obtain ⟨c', hr, hc'⟩ := takeCs_rel (P := P) (g := g) (os := os) h t b o hsh vs (fun j c hcj => by
          obtain ⟨x, hx, rfl⟩ := thaws_get _ j c hcj
          exact hc j x hx) (fun j c hcj => by
          obtain ⟨x, hx, rfl⟩ := thaws_get _ j c hcj
          exact ⟨thaw_rel (hv j x hx), h1 j x hx⟩)
      refine ⟨c', ?_, hc'⟩
      simpa [Instr.loadAt, Instr.sureAddr] using hr
  · rename_i k i off m
    split at h
    · rename_i sz xs lo sh hk
      split at h
      · rename_i cs hi
        split at h
        · rename_i hm
          cases hv with
          | eptr hk' _ _ _ hvv =>
            rw [hk] at hk'; cases hk'
            obtain ⟨b, hb, rfl⟩ := hvv hm
            obtain ⟨_, hrow⟩ := R.obj k _ hk
            rcases hrow with ⟨hn, rfl⟩ | ⟨b', vs, el, fr, cap, h1, h2, h3, h4, h5, h6, h7⟩
            · simp at hi
            · rw [hb] at h1; cases h1
              obtain ⟨c', hr, hc'⟩ := takeCs_rel (P := P) (g := g) (os := os) h t b (i * sz) hsh (fun j => vs.getD (i * sz + j) undef) (fun j c hcj => by
                  obtain ⟨x, hx, rfl⟩ := thaws_get _ j c hcj
                  obtain ⟨v, hv, _⟩ := h6.2 i cs j x hi hx
                  rw [cell_of_heap h2, hv]
                  simp [Array.getD, (Array.getElem?_eq_some_iff.1 hv).1, (Array.getElem?_eq_some_iff.1 hv).2]) (fun j c hcj => by
                  obtain ⟨x, hx, rfl⟩ := thaws_get _ j c hcj
                  obtain ⟨v, hv, ho, hp⟩ := h6.2 i cs j x hi hx
                  have : vs.getD (i * sz + j) undef = v := by simp [Array.getD, (Array.getElem?_eq_some_iff.1 hv).1, (Array.getElem?_eq_some_iff.1 hv).2]
                  rw [this]
                  exact ⟨thaw_rel hp, ho⟩)
              refine ⟨c', ?_, hc'⟩
              simpa [Instr.loadAt, Instr.sureAddr] using hr
        · cases h
      · cases h
    · cases h
  · cases h

theorem asB_rel {v : AV} {b : Bool} {c : Value} (h : asB v = some b) (hv : AVR w g os v c) : c = .bool b := by
  unfold asB at h
  split at h
  · cases h; cases hv with | p h => cases h with | «at» h => rfl
  · cases h
theorem asN_rel {v : AV} {n : Nat} {c : Value} (h : asN v = some n) (hv : AVR w g os v c) : ∃ k, c = .int k (n : Int) := by
  unfold asN at h
  split at h
  · rename_i k m
    split at h
    · rename_i hm
      cases h
      cases hv with
      | p h => cases h with
        | «at» h => exact ⟨k, by rw [Int.toNat_of_nonneg hm]⟩
    · cases h
  · cases h

theorem pureOf_run {α : Type} {x : Sem α} {a : α} (h : pureOf x = some a) (w : World) : x.run P w = .ok a w := by
  cases x with
  | pure b => cases h; rfl
  | _ => cases h
theorem atOf_rel {x : Option Value} {v : AV} (h : atOf x = some v) : ∃ c, x = some c ∧ v = .p (.at c) := by
  unfold atOf at h
  split at h
  · cases h; exact ⟨_, rfl, rfl⟩
  · cases h

/-- the pure operators answer with one cell -/
theorem intOp_one {k : IntKind} {a b : Int} {c : Value} : (∀ op, pureOf (Op.intArith op k a b) = some c → c.oneCell' = true) ∧ (∀ op, pureOf (Op.intDiv op k a b) = some c → c.oneCell' = true) ∧
    (∀ op, pureOf (Op.intBits op k a b) = some c → c.oneCell' = true) ∧ (∀ op, pureOf (Op.intCmp op a b) = some c → c.oneCell' = true) ∧ (∀ op k', pureOf (Op.shift op k a k' b) = some c → c.oneCell' = true) := by
  refine ⟨fun op h => ?_, fun op h => ?_, fun op h => ?_, fun op h => ?_, fun op k' h => ?_⟩
  · cases op <;> simp only [Op.intArith] at h <;> cases h <;> rfl
  · unfold Op.intDiv at h
    split at h
    · simp [runtimePanic, bind, Sem.bind, program, pureOf, goPanic] at h
    · cases op <;> cases h <;> rfl
  · cases op <;> simp only [Op.intBits] at h <;> cases h <;> rfl
  · cases op <;> simp only [Op.intCmp] at h <;> cases h <;> rfl
  · unfold Op.shift at h
    split at h
    · simp [runtimePanic, bind, Sem.bind, program, pureOf, goPanic] at h
    · cases op <;> cases h <;> rfl
theorem strOp_one {a b : ByteArray} {c : Value} {op : BinOp} (h : pureOf (Op.stringOp op a b) = some c) : c.oneCell' = true := by
  unfold Op.stringOp at h
  cases op <;> first
    | (cases h; done)
    | (cases h; rfl; done)
    | (simp only at h; split at h <;> cases h; rfl)

variable {s : St} {a : Act}

theorem bin_equal {t : TypeId} {x y : Value} {r : Bool} (he : (Op.equalIn (9999 + 1) t x y).run P w = .ok r w) (h1 : binOp .eql t x y = (Op.equal t x y >>= fun b => pure (.bool b)))
    (h2 : binOp .neq t x y = (Op.equal t x y >>= fun b => pure (.bool !b))) : (binOp .eql t x y).run P w = .ok (.bool r) w ∧ (binOp .neq t x y).run P w = .ok (.bool !r) w := by
  have he' : (Op.equal t x y).run P w = .ok r w := he
  rw [h1, h2]
  simp only [Sem.run_bind, he', Result.andThen_ok, Sem.run_pure, and_self]

theorem eqIn_bool {t : TypeId} (hd : P.underlying t = some .bool) (d : Nat) (a b : Bool) : (Op.equalIn (d + 1) t (.bool a) (.bool b)).run P w = .ok (a == b) w := by
  rw [Op.equalIn]; simp only [Sem.run_bind, run_underlying hd, Result.andThen_ok, Sem.run_pure]
theorem eqIn_nilI {t : TypeId} {ms : Array (String × TypeId)} (hd : P.underlying t = some (.interface ms)) (d : Nat) : (Op.equalIn (d + 1) t .nilIface .nilIface).run P w = .ok true w := by
  rw [Op.equalIn]; simp only [Sem.run_bind, run_underlying hd, Result.andThen_ok, Sem.run_pure]
theorem eqIn_iN {t : TypeId} {ms : Array (String × TypeId)} (hd : P.underlying t = some (.interface ms)) (d : Nat) (u : TypeId) (v : Value) : (Op.equalIn (d + 1) t (.iface u v) .nilIface).run P w = .ok false w := by
  rw [Op.equalIn]; simp only [Sem.run_bind, run_underlying hd, Result.andThen_ok, Sem.run_pure]
theorem eqIn_Ni {t : TypeId} {ms : Array (String × TypeId)} (hd : P.underlying t = some (.interface ms)) (d : Nat) (u : TypeId) (v : Value) : (Op.equalIn (d + 1) t .nilIface (.iface u v)).run P w = .ok false w := by
  rw [Op.equalIn]; simp only [Sem.run_bind, run_underlying hd, Result.andThen_ok, Sem.run_pure]
theorem eqIn_NN {t e : TypeId} (hd : P.underlying t = some (.pointer e)) (d : Nat) : (Op.equalIn (d + 1) t (.pointer none) (.pointer none)).run P w = .ok true w := by
  rw [Op.equalIn]; simp only [Sem.run_bind, run_underlying hd, Result.andThen_ok, Sem.run_pure]; rfl
theorem eqIn_pN {t e : TypeId} (hd : P.underlying t = some (.pointer e)) (d : Nat) (a : Addr) : (Op.equalIn (d + 1) t (.pointer (some a)) (.pointer none)).run P w = .ok false w := by
  rw [Op.equalIn]; simp only [Sem.run_bind, run_underlying hd, Result.andThen_ok, Sem.run_pure]
theorem eqIn_Np {t e : TypeId} (hd : P.underlying t = some (.pointer e)) (d : Nat) (a : Addr) : (Op.equalIn (d + 1) t (.pointer none) (.pointer (some a))).run P w = .ok false w := by
  rw [Op.equalIn]; simp only [Sem.run_bind, run_underlying hd, Result.andThen_ok, Sem.run_pure]; rfl

theorem eqA_rel {d : Option TypeDesc} {lit : Bool} {x y : AV} {r : Bool} {cx cy : Value} {t : TypeId} (h : eqA d lit x y = some r) (hd : P.underlying t = d) (hx : AVR w g os x cx) (hy : AVR w g os y cy)
    (ox oy : Operand) (hlit : lit = (isLit ox || isLit oy)) :
    (∀ op, op = .eql ∨ op = .neq → (eqGuard op t ox oy cx cy).run P w = .ok () w) ∧ (binOp .eql t cx cy).run P w = .ok (.bool r) w ∧ (binOp .neq t cx cy).run P w = .ok (.bool !r) w := by
  unfold eqA at h
  split at h
  · cases hx with | p hx => cases hx with | «at» ox1 => cases hy with | p hy => cases hy with | «at» oy1 =>
    split at h
    · split at h
      · rename_i hk; subst hk; cases h
        exact ⟨fun op hop => by rcases hop with rfl | rfl <;> rfl, by simp [binOp, Op.intCmp], by simp [binOp, Op.intCmp, bne]⟩
      · cases h
    · cases h
      exact ⟨fun op hop => by rcases hop with rfl | rfl <;> rfl, by simp [binOp, Op.stringOp], by simp [binOp, Op.stringOp]⟩
    · split at h
      · cases h
        exact ⟨fun op hop => by rcases hop with rfl | rfl <;> rfl, bin_equal (eqIn_bool hd _ _ _) rfl rfl⟩
      · cases h
    · split at h
      · split at h
        · rename_i ms hl
          cases h
          rw [hlit] at hl
          refine ⟨fun op hop => ?_, bin_equal (eqIn_nilI hd _) rfl rfl⟩
          rcases hop with rfl | rfl <;> cases ox <;> cases oy <;> first | (simp [isLit] at hl; done) | rfl
        · cases h
      · cases h
    · split at h
      · cases h
        exact ⟨fun op hop => by rcases hop with rfl | rfl <;> rfl, bin_equal (eqIn_NN hd _) rfl rfl⟩
      · cases h
    · cases h
  · cases hx with | ifc hx => cases hy with | p hy => cases hy with | «at» oy1 =>
    split at h
    · cases h
      exact ⟨fun op hop => by rcases hop with rfl | rfl <;> rfl, bin_equal (eqIn_iN hd _ _ _) rfl rfl⟩
    · cases h
  · cases hy with | ifc hy => cases hx with | p hx => cases hx with | «at» ox1 =>
    split at h
    · cases h
      exact ⟨fun op hop => by rcases hop with rfl | rfl <;> rfl, bin_equal (eqIn_Ni hd _ _ _) rfl rfl⟩
    · cases h
  · cases hx with | ptr hx => cases hy with | p hy => cases hy with | «at» oy1 =>
    split at h
    · cases h
      exact ⟨fun op hop => by rcases hop with rfl | rfl <;> rfl, bin_equal (eqIn_pN hd _ _) rfl rfl⟩
    · cases h
  · cases hy with | ptr hy => cases hx with | p hx => cases hx with | «at» ox1 =>
    split at h
    · cases h
      exact ⟨fun op hop => by rcases hop with rfl | rfl <;> rfl, bin_equal (eqIn_Np hd _ _) rfl rfl⟩
    · cases h
  · cases h

theorem SVR.avr {t : Nat} {v : AV} {c : Value} (h : SVR w g os t v c) (hn : nf v = true) : AVR w g os v c := by
  cases v <;> first | exact h | cases hn

theorem eqA_nf {d : Option TypeDesc} {lit : Bool} {x y : AV} {r : Bool} (h : eqA d lit x y = some r) : nf x = true ∧ nf y = true := by
  unfold eqA at h
  split at h <;> first | exact ⟨rfl, rfl⟩ | cases h

theorem binV_rel {op : BinOp} {d : Option TypeDesc} {lit : Bool} {x y r : AV} {cx cy : Value} {t : TypeId} {lx ly : Nat} (h : binV op d lit x y = some r) (hd : P.underlying t = d)
    (hx : SVR w g os lx x cx) (hy : SVR w g os ly y cy) (ox oy : Operand) (hlit : lit = (isLit ox || isLit oy)) :
    ∃ c, (do eqGuard op t ox oy cx cy; binOp op t cx cy : Sem Value).run P w = .ok c w ∧ AVR w g os r c := by
  unfold binV at h
  split at h
  · split at h
    · rename_i b hb
      cases h
      obtain ⟨n1, n2⟩ := eqA_nf hb
      obtain ⟨h1, h2, _⟩ := eqA_rel hb hd (hx.avr n1) (hy.avr n2) ox oy hlit
      exact ⟨.bool b, by simp only [Sem.run_bind, h1 .eql (.inl rfl), Result.andThen_ok, h2], .p (.at rfl)⟩
    · cases h
  · split at h
    · rename_i b hb
      cases h
      obtain ⟨n1, n2⟩ := eqA_nf hb
      obtain ⟨h1, _, h2⟩ := eqA_rel hb hd (hx.avr n1) (hy.avr n2) ox oy hlit
      exact ⟨.bool !b, by simp only [Sem.run_bind, h1 .neq (.inr rfl), Result.andThen_ok, h2], .p (.at rfl)⟩
    · cases h
  · rename_i ne nn
    have hg : (eqGuard op t ox oy cx cy).run P w = .ok () w := by
      cases op <;> first | rfl | exact absurd rfl ne | exact absurd rfl nn
    split at h
    · rename_i k a k' b
      have ex : cx = .int k a := by cases hx with | p hx => cases hx with | «at» _ => rfl
      have ey : cy = .int k' b := by cases hy with | p hy => cases hy with | «at» _ => rfl
      subst ex; subst ey
      have fin : ∀ {s : Sem Value} {v : Value}, binOp op t (.int k a) (.int k' b) = s → pureOf s = some v → v.oneCell' = true → r = .p (.at v) →
          ∃ c, (do eqGuard op t ox oy (.int k a) (.int k' b); binOp op t (.int k a) (.int k' b) : Sem Value).run P w = .ok c w ∧ AVR w g os r c := by
        intro s v hs hp h1 hr
        subst hr
        exact ⟨v, by simp only [Sem.run_bind, hg, Result.andThen_ok, hs, pureOf_run hp], .p (.at h1)⟩
      cases op <;> simp only at h <;> first | exact absurd rfl ne | exact absurd rfl nn | skip
      all_goals
        split at h
        case isFalse => cases h
        case isTrue hc =>
          obtain ⟨v, hv, rfl⟩ := atOf_rel h
          first
            | (obtain ⟨rfl, _⟩ := hc; exact fin (by simp [binOp]) hv ((intOp_one (k := k) (a := a) (b := b)).2.1 _ hv) rfl)
            | (subst hc; exact fin (by simp [binOp]) hv ((intOp_one (k := k) (a := a) (b := b)).1 _ hv) rfl)
            | (subst hc; exact fin (by simp [binOp]) hv ((intOp_one (k := k) (a := a) (b := b)).2.2.1 _ hv) rfl)
            | (subst hc; exact fin (by simp [binOp]) hv ((intOp_one (k := k) (a := a) (b := b)).2.2.2.1 _ hv) rfl)
            | exact fin rfl hv ((intOp_one (k := k) (a := a) (b := b)).2.2.2.2 _ _ hv) rfl
    · rename_i a b
      have ex : cx = .string a := by cases hx with | p hx => cases hx with | «at» _ => rfl
      have ey : cy = .string b := by cases hy with | p hy => cases hy with | «at» _ => rfl
      subst ex; subst ey
      split at h
      · obtain ⟨v, hv, rfl⟩ := atOf_rel h
        exact ⟨v, by simp only [Sem.run_bind, hg, Result.andThen_ok, show binOp op t (.string a) (.string b) = Op.stringOp op a b from by cases op <;> rfl, pureOf_run hv], .p (.at (strOp_one hv))⟩
      · cases h
    · cases h

theorem unV_rel {op : UnOp} {x r : AV} {cx : Value} {lx : Nat} (h : unV op x = some r) (hx : SVR w g os lx x cx) : ∃ c, (Op.unary op cx).run P w = .ok c w ∧ AVR w g os r c := by
  unfold unV at h
  split at h
  · rename_i v
    obtain ⟨u, hu, rfl⟩ := atOf_rel h
    have : cx = v := by cases hx with | p hx => cases hx with | «at» _ => rfl
    subst this
    refine ⟨u, pureOf_run hu w, .p (.at ?_)⟩
    unfold Op.unary at hu
    split at hu <;> first
      | (cases hu; done)
      | (cases hu; rfl)
      | exact (intOp_one (k := _) (a := _) (b := _)).1 _ hu
      | exact (intOp_one (k := _) (a := _) (b := _)).2.2.1 _ hu
  · cases h
theorem nilCmp_const {op : BinOp} {d : Option TypeDesc} {X : Option AV} {y : Operand} {v : AV} (h : nilCmp op d X y = some v) : ∃ c, y = .const c := by
  unfold nilCmp at h
  split at h
  · exact ⟨_, rfl⟩
  · exact ⟨_, rfl⟩
  · cases h
theorem eqIn_sN {t e : TypeId} (hd : P.underlying t = some (.slice e)) (d : Nat) (a : Addr) (n c : Nat) : (Op.equalIn (d + 1) t (.slice (some a) n c) (.slice none 0 0)).run P w = .ok false w := by
  simp [Op.equalIn, run_underlying hd]
theorem nilCmp_rel {op : BinOp} {x y : Operand} {t : TypeId} {v : AV} {X : Option AV} {cx : Value} {l : Nat} (h : nilCmp op (P.underlying t) X y = some v) (hx : ∀ u, X = some u → SVR w g os l u cx) :
    ∃ c, (do eqGuard op t x y cx (match y with | .const c => c | _ => cx); binOp op t cx (match y with | .const c => c | _ => cx) : Sem Value).run P w = .ok c w ∧ AVR w g os v c := by
  unfold nilCmp at h
  have key : ∀ (sz : Nat) (q : List PV) (qs : List (List PV)), AVR w g os (.p (.vals sz (q :: qs))) cx → ∃ a n cap, cx = .slice (some a) n cap := by
    intro sz q qs hv
    cases hv with | p hp => cases hp with | vals => exact ⟨_, _, _, rfl⟩
  split at h
  · rename_i sz q qs e hd
    obtain ⟨a, n, cap, rfl⟩ := key sz q qs (hx _ rfl)
    cases h
    have hg : (eqGuard .eql t x (.const (.slice none 0 0)) (.slice (some a) n cap) (.slice none 0 0)).run P w = .ok () w := by
      cases x <;> rfl
    exact ⟨.bool false, by simp only [Sem.run_bind, hg, Result.andThen_ok]; exact (bin_equal (eqIn_sN hd _ _ _ _) rfl rfl).1, .p (.at rfl)⟩
  · rename_i sz q qs e hd
    obtain ⟨a, n, cap, rfl⟩ := key sz q qs (hx _ rfl)
    cases h
    have hg : (eqGuard .neq t x (.const (.slice none 0 0)) (.slice (some a) n cap) (.slice none 0 0)).run P w = .ok () w := by
      cases x <;> rfl
    exact ⟨.bool true, by simp only [Sem.run_bind, hg, Result.andThen_ok]; exact (bin_equal (eqIn_sN hd _ _ _ _) rfl rfl).2, .p (.at rfl)⟩
  · cases h
end
end Go.Am
namespace Go.Am
variable [Env]
section
variable [Base]
variable {P : Program} {H : Hints} {B : Nat} {w : World} {g : Gh} {os : OS} {s : St} {a : Act}

/-- what is fit for a cell takes one -/
theorem stor_one {v : AV} {c : Value} (h : stor v = true) (hv : AVR w g os v c) : c.oneCell' = true := by
  cases hv with
  | p hp => cases hp with
    | «at» h1 => exact h1
    | sym h1 => exact h1
    | vnil => rfl
    | vals => rfl
    | agg => cases h
    | ifc => rfl
  | eptr _ _ _ h1 _ => obtain ⟨_, _, rfl⟩ := h1; rfl
  | agg => cases h
  | tup => cases h
  | undef => cases h
  | _ => rfl

theorem cells_of_one {c : Value} (h : c.oneCell' = true) : c.cells = #[c] := by
  cases c <;> first | rfl | cases h

/-- a value's cells, to be caught -/
theorem cells_rel {v : AV} {c : Value} {t : Nat} (h : SVR w g os t v c) (hs : (cps (cellsOf v)).all stor = true) :
    AVRs w g os (cps (cellsOf v)) c.cells ∧ ∀ (j : Nat) (u : Value), c.cells[j]? = some u → u.oneCell' = true := by
  have one : ∀ x : AV, cellsOf v = [x] → AVR w g os (cp x) c → stor (cp x) = true → AVRs w g os (cps (cellsOf v)) c.cells ∧ ∀ (j : Nat) (u : Value), c.cells[j]? = some u → u.oneCell' = true := by
    intro x hx hr hst
    have h1 := stor_one hst hr
    rw [hx, cells_of_one h1]
    refine ⟨⟨rfl, fun j y u hy hu => ?_⟩, fun j u hu => ?_⟩
    · cases j with
      | zero => simp [cps] at hy hu; subst hy; subst hu; exact hr
      | succ j => simp [cps] at hy
    · cases j with
      | zero => simp at hu; subst hu; exact h1
      | succ j => simp at hu
  cases v with
  | agg cs =>
    cases (h : AVR w g os (.agg cs) c) with
    | agg hsz h1 hv =>
      refine ⟨⟨by rw [cps_length]; exact hsz, fun j y u hy hu => ?_⟩, h1⟩
      obtain ⟨z, hz, rfl⟩ := cps_get _ j y hy
      exact (hv j z u hz hu).cp
  | _ => exact one _ rfl h.cp (by simpa [cellsOf, cps] using hs)

theorem zipIdx_fold_set (vs : List Value) : ∀ (cells : Array Value) (off k : Nat), off + k + vs.length ≤ cells.size →
    (vs.zipIdx k).foldl (fun cs (c, j) => cs.setIfInBounds (off + j) c) cells = (setRange cells.toList (off + k) vs).toArray := by
  induction vs with
  | nil => intro cells off k _; simp [setRange]
  | cons v vs ih =>
    intro cells off k h
    simp only [List.zipIdx_cons, List.foldl_cons, setRange]
    rw [ih _ off (k + 1) (by simp at h ⊢; omega)]
    simp [Nat.add_assoc]

theorem setRange_length {α : Type} : ∀ (vs cs : List α) (off : Nat), (setRange cs off vs).length = cs.length
  | [], _, _ => rfl
  | v :: vs, cs, off => by simp only [setRange]; rw [setRange_length vs]; simp
theorem setRange_get {α : Type} : ∀ (vs cs : List α) (off j : Nat), off + vs.length ≤ cs.length → (setRange cs off vs)[j]? = if off ≤ j ∧ j < off + vs.length then vs[j - off]? else cs[j]?
  | [], cs, off, j, _ => by simp [setRange]; omega
  | v :: vs, cs, off, j, h => by
    simp only [setRange]
    simp at h
    rw [setRange_get vs (cs.set off v) (off + 1) j (by simp; omega)]
    simp only [List.length_cons]
    by_cases h1 : off = j
    · subst h1
      rw [if_neg (by omega), if_pos (by omega), List.getElem?_set_self (by omega)]
      simp
    · by_cases h2 : off + 1 ≤ j ∧ j < off + 1 + vs.length
      · rw [if_pos h2, if_pos (by omega)]
        obtain ⟨m, hm⟩ : ∃ m, j - off = m + 1 := ⟨j - off - 1, by omega⟩
        rw [hm, List.getElem?_cons_succ]
        congr 1; omega
      · rw [if_neg h2, if_neg (by omega), List.getElem?_set_ne h1]

/-- cells that stand for cells -/
def CR (w : World) (g : Gh) (os : OS) (cs : List AV) (vs : Array Value) : Prop := AVRs w g os cs vs ∧ ∀ (j : Nat) (u : Value), vs[j]? = some u → u.oneCell' = true

theorem CR.setRange {cs ds : List AV} {vs us : Array Value} (h : CR w g os cs vs) (h' : CR w g os ds us) {off : Nat} (hl : off + ds.length ≤ cs.length) :
    CR w g os (setRange cs off ds) (setRange vs.toList off us.toList).toArray := by
  have hs := h.1.1
  have hs' := h'.1.1
  have hl' : off + us.toList.length ≤ vs.toList.length := by simp; omega
  refine ⟨⟨by simp [setRange_length, hs], fun j c v hc hv => ?_⟩, fun j u hu => ?_⟩
  · rw [setRange_get _ _ _ _ hl] at hc
    simp only [List.getElem?_toArray] at hv
    rw [setRange_get _ _ _ _ hl'] at hv
    have hlen : us.toList.length = ds.length := by simp [hs']
    rw [hlen] at hv
    split at hc
    · rename_i hj
      rw [if_pos hj] at hv
      exact h'.1.2 _ c v hc (by simpa using hv)
    · rename_i hj
      rw [if_neg hj] at hv
      exact h.1.2 _ c v hc (by simpa using hv)
  · simp only [List.getElem?_toArray] at hu
    rw [setRange_get _ _ _ _ hl'] at hu
    split at hu
    · exact h'.2 _ u (by simpa using hu)
    · exact h.2 _ u (by simpa using hu)

theorem evps_rel (R : Rel B w g s a) : ∀ {xs : List (Nat × Operand)} {ps : List (Nat × AV)}, evps s xs = some ps →
    ps.length = xs.length ∧ ∀ (j : Nat) (p : Nat × AV), ps[j]? = some p → ∃ x, xs[j]? = some (p.1, x) ∧ ev1 s x = some p.2
  | [], ps, h => by cases h; exact ⟨rfl, fun j v hv => by simp at hv⟩
  | (i, x) :: xs, ps, h => by
    simp only [evps] at h
    split at h
    · rename_i v hv
      split at h
      · rename_i us hus
        cases h
        obtain ⟨h1, h2⟩ := evps_rel R hus
        refine ⟨by simp [h1], fun j u hu => ?_⟩
        cases j with
        | zero => simp at hu; subst hu; exact ⟨x, rfl, hv⟩
        | succ j => simpa using h2 j u (by simpa using hu)
      · cases h
    · cases h

theorem buildF_rel (R : Rel B w g s a) {place : Nat → Option (Nat × Nat)} : ∀ (xs : List (Nat × Operand)) (ps : List (Nat × AV)) (cs ds : List AV) (vs : Array Value), evps s xs = some ps → buildF place cs ps = some ds →
    CR w g s.os cs vs → ∃ us, Instr.fill place vs (xs.map fun (i, x) => (i, a.eval x)) = some us ∧ CR w g s.os ds us
  | [], ps, cs, ds, vs, he, hb, hc => by cases he; cases hb; exact ⟨vs, rfl, hc⟩
  | (i, x) :: xs, ps, cs, ds, vs, he, hb, hc => by
    simp only [evps] at he
    split at he
    · rename_i v hv
      split at he
      · rename_i us hus
        cases he
        simp only [buildF] at hb
        split at hb
        · rename_i off size hp
          split at hb
          · rename_i cells hf
            unfold fillOne at hf
            simp only at hf
            split at hf
            · rename_i hcond
              cases hf
              obtain ⟨e1, e2, e3⟩ := hcond
              have hcv := cells_rel (ev1_rel R hv) e3
              have hsz : (a.eval x).cells.size = size := by rw [hcv.1.1, e1]
              have hvs := hc.1.1
              simp only [List.map_cons, Instr.fill, hp]
              rw [if_neg (by simp [hsz]; omega)]
              have hfold : ((a.eval x).cells.zipIdx.foldl (fun cs (c, j) => cs.setIfInBounds (off + j) c) vs) = (setRange vs.toList off (a.eval x).cells.toList).toArray := by
                rw [← Array.foldl_toList, Array.toList_zipIdx]
                exact zipIdx_fold_set _ vs off 0 (by simp; omega)
              rw [hfold]
              exact buildF_rel R xs us _ ds _ hus hb (hc.setRange hcv (by omega))
            · cases hf
          · cases hb
        · cases hb
      · cases he
    · cases he
end
end Go.Am
namespace Go.Am
variable [Env]
section
variable [Base]
variable {P : Program} {H : Hints} {B : Nat} {w : World} {g : Gh} {os : OS} {s : St} {a : Act}

theorem szT_run {t : TypeId} {i : TypeInfo} (h : P.info? t = some i) : (sizeOf t).run P w = .ok i.size w := by simp [sizeOf, typeInfo, h]
theorem szT_of {t : TypeId} (h : szT P t ≠ 0) : ∃ i, P.info? t = some i ∧ szT P t = i.size := by
  unfold szT at *
  split at h
  · rename_i i hi; exact ⟨i, hi, rfl⟩
  · exact absurd rfl h

theorem elemT_und {t e : TypeId} (h : elemT P t = some e) : P.underlying t = some (.slice e) := by
  unfold elemT at h
  split at h
  · cases h; assumption
  · cases h

theorem fieldT_und {t : TypeId} {f : Nat} {fd : Field} (h : fieldT P t f = some fd) : ∃ fs, P.underlying t = some (.struct fs) ∧ fs[f]? = some fd := by
  unfold fieldT at h
  split at h
  · rename_i fs hu; exact ⟨fs, hu, h⟩
  · cases h

theorem fieldAt_run {t : TypeId} {f : Nat} {fd : Field} (h : fieldT P t f = some fd) (hz : szT P fd.type ≠ 0) (b o : Nat) :
    (Instr.fieldAt t (.pointer (some ⟨b, o, none⟩)) f).run P w = .ok (.pointer (some ⟨b, o + fd.offset, none⟩)) w := by
  obtain ⟨fs, hu, hf⟩ := fieldT_und h
  obtain ⟨i, hi, hs⟩ := szT_of hz
  have hi0 : i.size ≠ 0 := by omega
  simp [Instr.fieldAt, run_underlying hu, hf, Instr.sureAddr, fieldPlace, szT_run hi, hi0, add_plain]

theorem indexAt_run {t e : TypeId} (h : elemT P t = some e) (hz : szT P e ≠ 0) {b o len cap i : Nat} (hi : i < len) (k : IntKind) :
    (Instr.indexAt t (.slice (some ⟨b, o, none⟩) len cap) (.int k (i : Int))).run P w = .ok (.pointer (some ⟨b, o + i * szT P e, none⟩)) w := by
  obtain ⟨inf, hinf, hs⟩ := szT_of hz
  have h0 : (0 : Int) ≤ i ∧ (i : Int) < len := by omega
  simp [Instr.indexAt, asIntOf, run_underlying (elemT_und h), szT_run hinf, hi, add_plain, hs]

theorem indexAtA_run {t e : TypeId} {n : Nat} (h : P.underlying t = some (.array n e)) (hz : szT P e ≠ 0) {b o i : Nat} (hi : i < n) (k : IntKind) :
    (Instr.indexAt t (.pointer (some ⟨b, o, none⟩)) (.int k (i : Int))).run P w = .ok (.pointer (some ⟨b, o + i * szT P e, none⟩)) w := by
  obtain ⟨inf, hinf, hs⟩ := szT_of hz
  simp [Instr.indexAt, asIntOf, run_underlying h, szT_run hinf, hi, add_plain, hs, Instr.sureAddr]

/-- an element of an immutable slice -/
theorem elem_rel {sz : Nat} {xs : List (List PV)} {c : Value} (h : PVR w g.I (.vals sz xs) c) {i : Nat} {x : List PV} (hx : xs[i]? = some x) :
    ∃ b o cap, c = .slice (some ⟨b, o, none⟩) xs.length cap ∧ i < xs.length ∧ AVR w g os (.elem x 0) (.pointer (some ⟨b, o + i * sz, none⟩)) := by
  have hi : i < xs.length := (List.getElem?_eq_some_iff.1 hx).1
  cases h with
  | vnil => simp at hx
  | @vals _ _ b o cap' _ vs hn hcap hsz hI hc h1 hv =>
    subst hn
    refine ⟨b, o, cap', rfl, hi, ?_⟩
    have := @AVR.elem _ w g os x 0 b (o + i * sz) (fun j => vs (i * sz + j)) (fun j y hy => by rw [Nat.add_assoc]; exact hI i x j y hx hy) (fun j y hy => by rw [Nat.add_assoc]; exact hc i x j y hx hy)
      (fun j y hy => h1 i x j y hx hy) (fun j y hy => hv i x j y hx hy)
    simpa using this

theorem indexAddrV_rel {t : TypeId} {x v : AV} {i l : Nat} {c : Value} (h : indexAddrV P os t x i = some v) (hx : SVR w g os l x c) (k : IntKind) :
    ∃ c', (Instr.indexAt t c (.int k (i : Int))).run P w = .ok c' w ∧ AVR w g os v c' := by
  have vals : ∀ sz xs, PVR w g.I (.vals sz xs) c → (match elemT P t with
    | some e => if szT P e ≠ 0 ∧ szT P e = sz then match xs[i]? with
        | some c => some (AV.elem c 0)
        | none => none
      else none
    | none => none) = some v → ∃ c', (Instr.indexAt t c (.int k (i : Int))).run P w = .ok c' w ∧ AVR w g os v c' := by
    intro sz xs hp h
    split at h
    · rename_i e he
      split at h
      · rename_i hz
        split at h
        · rename_i y hy
          cases h
          obtain ⟨b, o, cap, rfl, hi, hv⟩ := elem_rel (os := os) hp hy
          refine ⟨_, indexAt_run he hz.1 hi k, ?_⟩
          rw [hz.2]; exact hv
        · cases h
      · cases h
    · cases h
  unfold indexAddrV at h
  split at h
  · rename_i sz xs
    cases hx with
    | p hp => exact vals sz xs hp h
  · rename_i sz xs
    rcases hx with ⟨rfl, a, rfl⟩ | ⟨b, vs, el, fr, cap, _, _, _, _, _, _, hp, _⟩
    · exact vals sz [] .vnil h
    · exact vals sz xs hp h
  · rename_i k' off len
    split at h
    · rename_i e sz xs lo sh he hk
      split at h
      · rename_i hcond
        obtain ⟨z0, z1, z2, z3, z4⟩ := hcond
        cases hx with
        | @row _ _ _ _ _ cap _ _ a hk' hl hcap hcur hc =>
          rw [hk] at hk'; cases hk'
          split at h
          · rename_i hend
            cases h
            rcases hcur hend (.inl (by omega)) with ⟨hb, hc0⟩ | ⟨bb, vs, el, fr, hb, ha, hh, hs⟩
            · omega
            · subst ha
              refine ⟨_, indexAt_run he z0 z4 k, .eptr hk (by omega) (Nat.le_refl _) ⟨_, _, rfl⟩ fun _ => ⟨bb, hb, ?_⟩⟩
              rw [z1, Nat.add_mul]; rfl
          · cases h
      · cases h
    · cases h
  · rename_i k' o
    split at h
    · rename_i n e hu
      split at h
      · rename_i hi
        cases h
        cases hx with
        | ptr h1 hb => exact ⟨_, indexAtA_run hu hi.1 hi.2 k, .ptr h1 hb⟩
      · cases h
    · cases h
  · rename_i cs o
    split at h
    · rename_i n e hu
      split at h
      · rename_i hi
        cases h
        cases hx with
        | elem vs hI hc h1 hv =>
          refine ⟨_, indexAtA_run hu hi.1 hi.2 k, ?_⟩
          rw [Nat.add_assoc]
          exact .elem vs hI hc h1 hv
      · cases h
    · cases h
  · cases h

theorem bound_rel {v : AV} {n y : Nat} {c : Value} (h : asN v = some n) (hv : AVR w g os v c) (hy : n ≤ y) (code : BoundsCode) : (Instr.sliceBound c y code).run P w = .ok n w := by
  obtain ⟨k, rfl⟩ := asN_rel h hv
  simp [Instr.sliceBound, asIntOf]
  omega

/-- an operand that may lack -/
def OpR (w : World) (g : Gh) (os : OS) : Option AV → Option Value → Prop
  | none, none => True
  | some v, some c => ∃ t, SVR w g os t v c
  | _, _ => False

theorem asN_nf {v : AV} {n : Nat} (h : asN v = some n) : nf v = true := by
  unfold asN at h
  split at h
  · rfl
  · cases h

theorem bounds_rel {isSlice : Bool} {n cap l h : Nat} {lo hi : Option AV} {clo chi : Option Value} (hb : sliceBounds n lo hi = some (l, h)) (hlo : OpR w g os lo clo) (hhi : OpR w g os hi chi) (hc : n ≤ cap) :
    l ≤ h ∧ h ≤ n ∧ (Instr.sliceBounds isSlice n cap clo chi none).run P w = .ok (l, h, cap) w := by
  unfold sliceBounds at hb
  split at hb
  · rename_i h' l' h1 h2
    split at hb
    · rename_i hle
      cases hb
      refine ⟨hle.1, hle.2, ?_⟩
      cases hi with
      | none => cases chi with
        | some c => exact hhi.elim
        | none =>
          simp only [asNO] at h1; cases h1
          cases lo with
          | none => cases clo with
            | some c => exact hlo.elim
            | none => simp only [asNO] at h2; cases h2; simp [Instr.sliceBounds]
          | some v => cases clo with
            | none => exact hlo.elim
            | some c =>
              obtain ⟨t, hv⟩ := hlo
              simp only [asNO] at h2
              have := bound_rel (P := P) h2 (hv.avr (asN_nf h2)) hle.1 .sliceB
              simp [Instr.sliceBounds, this]
      | some u => cases chi with
        | none => exact hhi.elim
        | some c =>
          obtain ⟨t, hu⟩ := hhi
          simp only [asNO] at h1
          have e1 := bound_rel (P := P) h1 (hu.avr (asN_nf h1)) (Nat.le_trans hle.2 hc) (if isSlice then .sliceAcap else .sliceAlen)
          cases lo with
          | none => cases clo with
            | some c => exact hlo.elim
            | none => simp only [asNO] at h2; cases h2; simp [Instr.sliceBounds, e1]
          | some v => cases clo with
            | none => exact hlo.elim
            | some c =>
              obtain ⟨t, hv⟩ := hlo
              simp only [asNO] at h2
              have e2 := bound_rel (P := P) h2 (hv.avr (asN_nf h2)) hle.1 .sliceB
              simp [Instr.sliceBounds, e1, e2]
    · cases hb
  · cases hb

theorem bounds3_rel {n cap l h m : Nat} {lo hi : Option AV} {mx : AV} {clo chi : Option Value} {cmx : Value} (hb : sliceBounds n lo hi = some (l, h)) (hm : asN mx = some m) (hmh : m = h ∧ l = h) (hlo : OpR w g os lo clo) (hhi : OpR w g os hi chi)
    (hmx : ∃ t, SVR w g os t mx cmx) (hc : n ≤ cap) (hih : hi.isSome = true) : (Instr.sliceBounds true n cap clo chi (some cmx)).run P w = .ok (l, h, m) w := by
  unfold sliceBounds at hb
  split at hb
  · rename_i h' l' h1 h2
    split at hb
    · rename_i hle
      cases hb
      obtain ⟨rfl, rfl⟩ := hmh
      obtain ⟨t, hmx⟩ := hmx
      have e0 := bound_rel (P := P) hm (hmx.avr (asN_nf hm)) (Nat.le_trans hle.2 hc) .slice3Acap
      cases hi with
      | none => cases hih
      | some u => cases chi with
        | none => exact hhi.elim
        | some c =>
          obtain ⟨t, hu⟩ := hhi
          simp only [asNO] at h1
          have e1 := bound_rel (P := P) h1 (hu.avr (asN_nf h1)) (Nat.le_refl _) .slice3B
          cases lo with
          | none => cases clo with
            | some c => exact hlo.elim
            | none => simp only [asNO] at h2; cases h2; simp [Instr.sliceBounds, e0, e1]
          | some v => cases clo with
            | none => exact hlo.elim
            | some c =>
              obtain ⟨t, hv⟩ := hlo
              simp only [asNO] at h2
              have e2 := bound_rel (P := P) h2 (hv.avr (asN_nf h2)) hle.1 .slice3C
              simp [Instr.sliceBounds, e0, e1, e2]
    · cases hb
  · cases hb

theorem take_zero_sub {α : Type} {l h : Nat} {xs : List α} (e : h = l) : (xs.drop l).take (h - l) = [] := by subst e; simp

/-- a cut of immutable data -/
theorem cut_rel {sz : Nat} {xs : List (List PV)} {c : Value} (hp : PVR w g.I (.vals sz xs) c) {e : TypeId} (hz : szT P e ≠ 0) (hsz : sz = szT P e ∨ xs = []) {t : TypeId} (hu : P.underlying t = some (.slice e))
    {l h : Nat} {lo hi : Option AV} {clo chi : Option Value} (hb : sliceBounds xs.length lo hi = some (l, h)) (hlo : OpR w g os lo clo) (hhi : OpR w g os hi chi) :
    ∃ c', (Instr.slice t c clo chi none).run P w = .ok c' w ∧ PVR w g.I (.vals sz ((xs.drop l).take (h - l))) c' := by
  obtain ⟨i, hi', hs⟩ := szT_of hz
  cases hp with
  | @vnil _ a cap =>
    have hb : sliceBounds 0 lo hi = some (l, h) := hb
    obtain ⟨h1, h2, h3⟩ := bounds_rel (P := P) (isSlice := true) (cap := cap) hb hlo hhi (Nat.zero_le _)
    have h2 : h = 0 := by omega
    subst h2
    have : l = 0 := by omega
    subst this
    refine ⟨_, by simp only [Instr.slice, Sem.run_bind, run_underlying hu, Result.andThen_ok]; simp only [h3, Result.andThen_ok, szT_run hi', Sem.run_pure]; rfl, ?_⟩
    simp only [List.drop_nil, List.take_nil]
    exact .vnil
  | @vals _ _ b o cap _ vs hn hcap hsz' hI hc h1 hv =>
    subst hn
    obtain ⟨h1', h2', h3⟩ := bounds_rel (P := P) (isSlice := true) (cap := cap) hb hlo hhi hcap
    refine ⟨_, by simp only [Instr.slice, Sem.run_bind, run_underlying hu, Result.andThen_ok]; simp only [h3, Result.andThen_ok, szT_run hi', Sem.run_pure]; rfl, ?_⟩
    rcases Nat.eq_zero_or_pos (h - l) with h0 | h0
    · rw [h0]; simp only [List.take_zero]; exact .vnil
    · have hne : xs ≠ [] := by rintro rfl; simp at h2'; omega
      have hcl : ¬ cap = l := by omega
      rw [if_neg hcl]
      simp only [Option.map_some, add_plain]
      have := (PVR.vals vs rfl hcap hsz' hI hc h1 hv).sub l (h - l) (cap - l) (by omega) (by omega)
      rw [hsz.resolve_right hne] at this ⊢
      rw [← hs]
      exact this

theorem sliceV_rel {t : TypeId} {x v : AV} {lx : Nat} {c : Value} {lo hi mx : Option AV} {clo chi cmx : Option Value} (h : sliceV P os t x lo hi mx = some v) (hx : SVR w g os lx x c)
    (hlo : OpR w g os lo clo) (hhi : OpR w g os hi chi) (hmx : OpR w g os mx cmx) (d : Nat) : ∃ c', (Instr.sliceAt t c clo chi cmx).run P w = .ok c' w ∧ SVR w g os d v c' := by
  have at_ : ∀ e, P.underlying t = some (.slice e) → (Instr.sliceAt t c clo chi cmx).run P w = (Instr.slice t c clo chi cmx).run P w := fun e hu => by
    simp only [Instr.sliceAt, Sem.run_bind, run_underlying hu, Result.andThen_ok]
  unfold sliceV at h
  split at h
  · rename_i hu
    split at h
    · rename_i b
      split at h
      · rename_i l h' hb
        cases h
        cases hx with
        | p hp => cases hp with
          | «at» _ =>
            cases cmx with
            | some _ => exact hmx.elim
            | none =>
              obtain ⟨_, _, h3⟩ := bounds_rel (P := P) (isSlice := false) (cap := b.size) hb hlo hhi (Nat.le_refl _)
              refine ⟨.string (b.extract l h'), ?_, .p (.at rfl)⟩
              simp only [Instr.sliceAt, Sem.run_bind, run_underlying hu, Result.andThen_ok]
              simp only [Instr.slice, Sem.run_bind, run_underlying hu, Result.andThen_ok]
              simp [h3]
      · cases h
    · cases h
  · rename_i e hu
    split at h
    · cases h
    · rename_i hz
      have body : ∀ sz xs, PVR w g.I (.vals sz xs) c → (if sz = szT P e ∨ xs = [] then
          match sliceBounds xs.length lo hi with
          | some (l, h) => match mx with
            | none => some (AV.p (.vals sz ((xs.drop l).take (h - l))))
            | some m => match asN m with
              | some m => if hi.isSome ∧ m = h ∧ l = h then some (.fresh 0 []) else none
              | none => none
          | none => none
        else none) = some v → ∃ c', (Instr.sliceAt t c clo chi cmx).run P w = .ok c' w ∧ SVR w g os d v c' := by
        intro sz xs hp h
        split at h
        · rename_i hsz
          split at h
          · rename_i l h' hb
            split at h
            · cases h
              cases cmx with
              | some _ => exact hmx.elim
              | none =>
                obtain ⟨c', h1, h2⟩ := cut_rel hp hz hsz hu hb hlo hhi
                exact ⟨c', by rw [at_ e hu]; exact h1, .p h2⟩
            · rename_i m
              split at h
              · rename_i m' hm
                split at h
                · rename_i hcond
                  cases h
                  cases cmx with
                  | none => exact hmx.elim
                  | some cm =>
                    obtain ⟨i, hi', hs⟩ := szT_of hz
                    have fin : ∀ a cap, c = .slice a xs.length cap → xs.length ≤ cap → ∃ c', (Instr.sliceAt t c clo chi (some cm)).run P w = .ok c' w ∧ SVR w g os d (.fresh 0 []) c' := by
                      intro a cap hc hcap
                      subst hc
                      have h3 := bounds3_rel (P := P) (cap := cap) hb hm hcond.2 hlo hhi hmx hcap hcond.1
                      refine ⟨_, by rw [at_ e hu]; simp only [Instr.slice, Sem.run_bind, run_underlying hu, Result.andThen_ok]; simp only [h3, Result.andThen_ok, szT_run hi', Sem.run_pure]; rfl, ?_⟩
                      obtain ⟨_, rfl, rfl⟩ := hcond
                      exact .inl ⟨rfl, a, by simp⟩
                    cases hp with
                    | @vnil _ a cap => exact fin a cap rfl (by simp)
                    | @vals _ _ b o cap _ vs hn hcap _ _ _ _ _ => subst hn; exact fin _ cap rfl hcap
                · cases h
              · cases h
          · cases h
        · cases h
      split at h
      · rename_i sz xs
        cases hx with | p hp => exact body sz xs hp h
      · rename_i sz xs
        rcases hx with ⟨rfl, a, rfl⟩ | ⟨b, vs, el, fr, cap, _, _, _, _, _, _, hp, _⟩
        · exact body sz [] .vnil h
        · exact body sz xs hp h
      · rename_i k off len
        split at h
        · rename_i l h' hb
          cases hx with
          | @row _ _ _ sz lo' cap xs sh a hk hl hcap hcur hc =>
            obtain ⟨i, hi', hs⟩ := szT_of hz
            split at h
            · split at h
              · rename_i hk'
                rw [hk] at hk'; cases hk'
                split at h
                · rename_i hsz
                  cases h
                  cases cmx with
                  | some _ => exact hmx.elim
                  | none =>
                    obtain ⟨h1, h2, h3⟩ := bounds_rel (P := P) (isSlice := true) (cap := cap) hb hlo hhi hcap
                    refine ⟨_, by rw [at_ e hu]; simp only [Instr.slice, Sem.run_bind, run_underlying hu, Result.andThen_ok]; simp only [h3, Result.andThen_ok, szT_run hi', Sem.run_pure]; rfl, ?_⟩
                    refine SVR.of d (.row hk (by omega) (by omega) (fun he hz' => ?_) ?_)
                    · rcases hcur (by omega) (by omega) with ⟨hb0, hc0⟩ | ⟨bb, vs, el, fr, hbb, ha, hh, hvs⟩
                      · exact .inl ⟨hb0, by omega⟩
                      · refine .inr ⟨bb, vs, el, fr, hbb, ?_, hh, by rw [hvs]; congr 1; omega⟩
                        subst ha
                        rcases Nat.eq_zero_or_pos (h' - l) with h0 | h0
                        · have : l = 0 ∧ off = 0 := by omega
                          obtain ⟨rfl, rfl⟩ := this
                          split <;> simp [add_plain]
                        · have hne : xs ≠ [] := by rintro rfl; simp at hl; omega
                          rw [if_neg (by omega)]
                          simp only [Option.map_some, add_plain]
                          rw [← hs, ← hsz.resolve_right hne, Nat.add_mul]
                    · rcases Nat.eq_zero_or_pos (h' - l) with h0 | h0
                      · exact .inl h0
                      · have hne : xs ≠ [] := by rintro rfl; simp at hl; omega
                        rw [if_neg (by omega)]
                        rcases hc with hc | hc | ⟨bb, hbb, ha⟩ | hc
                        · omega
                        · exact .inr (.inl (by omega))
                        · subst ha
                          refine .inr (.inr (.inl ⟨bb, hbb, ?_⟩))
                          simp only [Option.map_some, add_plain]
                          rw [← hs, ← hsz.resolve_right hne, Nat.add_mul]
                        · refine .inr (.inr (.inr ?_))
                          have hlen : ((xs.drop off).take len).length = len := by rw [List.length_take, List.length_drop]; omega
                          have e1 : (xs.drop (off + l)).take (h' - l) = (((xs.drop off).take len).drop l).take (h' - l) := by
                            rw [List.drop_take, List.take_take, List.drop_drop]; congr 1; omega
                          rw [e1]
                          cases a with
                          | none =>
                            generalize hys : (xs.drop off).take len = ys at hc hlen
                            cases hc with
                            | vnil => simp at hlen; omega
                          | some ad =>
                            generalize hys : (xs.drop off).take len = ys at hc hlen
                            cases hc with
                            | vnil => simp at hlen; omega
                            | vals vs hn hcap' hsz' hI hcc h1' hv' =>
                              have := (PVR.vals vs hn hcap' hsz' hI hcc h1' hv').sub l (h' - l) (cap - l) (by omega) (by omega)
                              simp only [Option.map_some, add_plain]
                              rw [← hs, ← hsz.resolve_right hne]
                              exact this
                · cases h
              · cases h
            · rename_i m
              split at h
              · rename_i m' hm
                split at h
                · rename_i hcond
                  cases h
                  cases cmx with
                  | none => exact hmx.elim
                  | some cm =>
                    have h3 := bounds3_rel (P := P) (cap := cap) hb hm hcond.2 hlo hhi hmx hcap hcond.1
                    refine ⟨_, by rw [at_ e hu]; simp only [Instr.slice, Sem.run_bind, run_underlying hu, Result.andThen_ok]; simp only [h3, Result.andThen_ok, szT_run hi', Sem.run_pure]; rfl, ?_⟩
                    obtain ⟨_, rfl, rfl⟩ := hcond
                    exact .inl ⟨rfl, a, by simp⟩
                · cases h
              · cases h
        · cases h
      · cases h
  · cases h
end
end Go.Am
namespace Go.Am
variable [Env]
section
variable [Base]
variable {P : Program} {H : Hints} {B : Nat} {w : World} {g : Gh} {os : OS} {s : St} {a : Act}

/-- a part of a struct by value -/
theorem partCs_rel {n off : Nat} {isAgg : Bool} {cs : List AV} {v : AV} {vs : Array Value} (h : takeCs n isAgg off cs = some v) (t : TypeId) (hsh : shT P t = some (n, isAgg)) (hc : CR w g os cs vs) :
    ∃ c, (part t vs off).run P w = .ok c w ∧ AVR w g os v c := by
  unfold shT at hsh
  split at hsh
  case h_2 => cases hsh
  rename_i i hi
  have key : ∀ d, P.underlying t = some d → (isAgg = true ↔ (∃ fs, d = .struct fs) ∨ ∃ m e, d = .array m e) → n = i.size → ∃ c, (part t vs off).run P w = .ok c w ∧ AVR w g os v c := by
    intro d hd hag hn
    subst hn
    have hrun : (Go.isAgg t).run P w = .ok isAgg w := by
      simp only [Go.isAgg, Sem.run_bind, run_underlying hd, Result.andThen_ok]
      cases isAgg with
      | true =>
        rcases hag.1 rfl with ⟨fs, rfl⟩ | ⟨m, e, rfl⟩ <;> rfl
      | false =>
        cases d with
        | struct fs => exact absurd (hag.2 (.inl ⟨fs, rfl⟩)) (by simp)
        | array m e => exact absurd (hag.2 (.inr ⟨m, e, rfl⟩)) (by simp)
        | _ => rfl
    have hsz := hc.1.1
    unfold takeCs at h
    cases isAgg with
    | true =>
      simp only [if_true] at h
      split at h
      · rename_i hle
        cases h
        refine ⟨.agg (vs.extract off (off + i.size)), by simp only [part, Sem.run_bind, hrun, Result.andThen_ok, if_true, szT_run hi, Sem.run_pure], .agg ?_ ?_ ?_⟩
        · simp [cps_length]; omega
        · intro j u hu
          rw [Array.getElem?_extract] at hu
          split at hu
          · exact hc.2 _ u hu
          · cases hu
        · intro j c u hcj hu
          rw [Array.getElem?_extract] at hu
          split at hu
          · obtain ⟨z, hz, rfl⟩ := cps_get _ j c hcj
            exact (hc.1.2 _ z u (drop_take_get hz).2 hu).cp
          · cases hu
      · cases h
    | false =>
      simp only [Bool.false_eq_true, if_false] at h
      split at h
      · rename_i z hz
        cases h
        have hlt : off < vs.size := by rw [hsz]; exact (List.getElem?_eq_some_iff.1 hz).1
        refine ⟨vs[off], ?_, (hc.1.2 off z _ hz (Array.getElem?_eq_getElem hlt)).cp⟩
        simp [part, hrun, Array.getElem?_eq_getElem hlt]
      · cases h
  split at hsh <;> first | (cases hsh; done) | skip
  · rename_i fs hd; cases hsh; exact key _ hd (by simp) rfl
  · rename_i m e hd; cases hsh; exact key _ hd (by simp) rfl
  · rename_i d h1 h2 hd
    cases hsh
    refine key _ hd ?_ rfl
    constructor
    · intro h; cases h
    · rintro (⟨fs, rfl⟩ | ⟨m, e, rfl⟩)
      · exact absurd rfl (h1 fs)
      · exact absurd rfl (h2 m e)

theorem agg_CR {cs : List AV} {c : Value} (h : AVR w g os (.agg cs) c) : ∃ vs, c = .agg vs ∧ CR w g os cs vs := by
  cases h with
  | agg hs h1 hv => exact ⟨_, rfl, ⟨hs, hv⟩, h1⟩

theorem indexV_rel {t : TypeId} {x v : AV} {i l : Nat} {c : Value} (h : indexV P t x i = some v) (hx : SVR w g os l x c) (k : IntKind) :
    ∃ c', (Instr.index t c (.int k (i : Int))).run P w = .ok c' w ∧ AVR w g os v c' := by
  unfold indexV at h
  split at h
  · rename_i b hu
    split at h
    · rename_i u hb
      cases h
      cases hx with
      | p hp => cases hp with
        | «at» _ =>
          refine ⟨.int .u8 u.toNat, ?_, .p (.at rfl)⟩
          simp [Instr.index, asIntOf, run_underlying hu, hb]
    · cases h
  · rename_i n e cs hu
    split at h
    · rename_i hi
      split at h
      · rename_i m isAgg hsh
        obtain ⟨vs, rfl, hc⟩ := agg_CR hx
        obtain ⟨c', h1, h2⟩ := partCs_rel h e hsh hc
        refine ⟨c', ?_, h2⟩
        have hm : (sizeOf e).run P w = .ok m w := by
          unfold shT at hsh
          split at hsh
          · rename_i inf hinf
            rw [szT_run hinf]
            split at hsh <;> cases hsh <;> rfl
          · cases hsh
        have hi2 : (0 : Int) ≤ i ∧ (i : Int) < n := by omega
        simp [Instr.index, asIntOf, run_underlying hu, hi, hm, h1]
      · cases h
    · cases h
  · cases h

theorem zero_rel {t : TypeId} {z : AV} (h : zeroT P t = some z) : ∃ v, (zeroValue t).run P w = .ok v w ∧ z = ofValue v := by
  unfold zeroT at h
  split at h
  · rename_i i hi
    split at h
    · rename_i v hv
      cases h
      exact ⟨v, by simp [zeroValue, typeInfo, hi, hv], rfl⟩
    · cases h
  · cases h

theorem fails_rel {u : TypeId} {ok : Bool} {v : AV} (h : (if ok then match zeroT P u with | some z => some (AV.tup [cp z, bool false]) | none => none else none) = some v) (r : RuntimeError) :
    ∃ c', (if ok then (do pure (.tuple #[← zeroValue u, .bool false]) : Sem Value) else runtimePanic r).run P w = .ok c' w ∧ AVR w g os v c' := by
  cases ok with
  | false => cases h
  | true =>
    simp only [if_true] at h
    split at h
    · rename_i z hz
      cases h
      obtain ⟨zv, hr, rfl⟩ := zero_rel (w := w) hz
      refine ⟨.tuple #[zv, .bool false], by simp [hr], .tup rfl fun j c' v' hc' hv' => ?_⟩
      match j with
      | 0 => simp at hc' hv'; subst hc'; subst hv'; exact (ofValue_rel w g os).cp
      | 1 => simp at hc' hv'; subst hc'; subst hv'; exact .p (.at rfl)
      | j + 2 => simp at hc'
    · cases h
theorem holds_rel {ok : Bool} {v y : AV} {cy : Value} (hy : AVR w g os y cy) (h : some (if ok then AV.tup [y, bool true] else y) = some v) :
    ∃ c', (pure (if ok then .tuple #[cy, .bool true] else cy) : Sem Value).run P w = .ok c' w ∧ AVR w g os v c' := by
  cases h
  refine ⟨_, rfl, ?_⟩
  cases ok with
  | false => exact hy
  | true =>
    refine .tup rfl fun j c' v' hc' hv' => ?_
    match j with
    | 0 => simp at hc' hv'; subst hc'; subst hv'; exact hy
    | 1 => simp at hc' hv'; subst hc'; subst hv'; exact .p (.at rfl)
    | j + 2 => simp at hc'

theorem typeAssertV_rel {x v : AV} {c : Value} {l : Nat} {xt u : TypeId} {ok : Bool} (h : typeAssertV P x u ok = some v) (hx : SVR w g os l x c) :
    ∃ c', (Instr.typeAssert c xt u ok).run P w = .ok c' w ∧ AVR w g os v c' := by
  unfold typeAssertV at h
  simp only at h
  split at h
  · rename_i want hu
    split at h
    · cases hx with
      | p hp => cases hp with
        | «at» _ =>
          obtain ⟨c', h1, h2⟩ := fails_rel (w := w) (g := g) (os := os) h (.typeAssertion none none u "")
          exact ⟨c', by simp only [Instr.typeAssert, Sem.run_bind, run_underlying hu, Result.andThen_ok]; exact h1, h2⟩
    · rename_i t y
      cases hx with
      | ifc hy =>
        split at h
        · rename_i i hi
          have hti : (typeInfo t).run P w = .ok i w := by simp [typeInfo, hi]
          split at h
          · rename_i hm
            obtain ⟨c', h1, h2⟩ := holds_rel (P := P) (.ifc hy) h
            exact ⟨c', by simp only [Instr.typeAssert, Sem.run_bind, run_underlying hu, Result.andThen_ok, hti, hm]; exact h1, h2⟩
          · rename_i m hm
            obtain ⟨c', h1, h2⟩ := fails_rel (w := w) (g := g) (os := os) h (.typeAssertion none (some t) u m)
            exact ⟨c', by simp only [Instr.typeAssert, Sem.run_bind, run_underlying hu, Result.andThen_ok, hti, hm]; exact h1, h2⟩
        · cases h
    · cases h
  · rename_i d hd hu
    split at h
    · cases hx with
      | p hp => cases hp with
        | «at» _ =>
          obtain ⟨c', h1, h2⟩ := fails_rel (w := w) (g := g) (os := os) h (.typeAssertion (some xt) none u "")
          refine ⟨c', ?_, h2⟩
          simp only [Instr.typeAssert, Sem.run_bind, run_underlying hu, Result.andThen_ok]
          cases d <;> first | exact absurd rfl (hd _) | exact h1
    · rename_i t y
      cases hx with
      | @ifc _ _ cy hy =>
        split at h
        · rename_i htu
          obtain ⟨c', h1, h2⟩ := holds_rel (P := P) hy h
          refine ⟨c', ?_, h2⟩
          simp only [Instr.typeAssert, Sem.run_bind, run_underlying hu, Result.andThen_ok]
          cases d <;> first | exact absurd rfl (hd _) | (simp only [htu, if_true]; exact h1)
        · rename_i htu
          obtain ⟨c', h1, h2⟩ := fails_rel (w := w) (g := g) (os := os) h (.typeAssertion (some xt) (some t) u "")
          refine ⟨c', ?_, h2⟩
          simp only [Instr.typeAssert, Sem.run_bind, run_underlying hu, Result.andThen_ok]
          cases d <;> first | exact absurd rfl (hd _) | (simp only [if_neg htu]; exact h1)
    · cases h
  · cases h

theorem findNow_rel {kind : TypeDesc} {k : Value} (hk : (∃ j, kind = .int j ∧ ∃ i n, k = .int i n) ∨ (kind = .string ∧ ∃ s, k = .string s)) : ∀ (es : List (PV × AV)) (mes : List MapEntry) (i : Nat) (r : Option AV), findKey k es = some r →
    mes.length = es.length → (∀ (j : Nat) (e : PV × AV) (m : MapEntry), es[j]? = some e → mes[j]? = some m → PVR w g.I e.1 m.key ∧ AVR w g os e.2 m.val) →
    ∃ x, Instr.findNow kind k mes i = some x ∧ (r = none → x = none) ∧ ∀ v : AV, r = some v → ∃ (j : Nat) (c : Value), x = some (j, c) ∧ AVR w g os v c
  | [], [], i, r, h, _, _ => by cases h; exact ⟨none, rfl, fun _ => rfl, fun v hv => by cases hv⟩
  | (p, v) :: es, m :: mes, i, r, h, hl, hr => by
    obtain ⟨hp, hv⟩ := hr 0 _ _ rfl rfl
    cases p with
    | «at» j =>
      cases hp with
      | «at» _ =>
        simp only [findKey] at h
        have hs : ∀ b, sameK k m.key = some b → Instr.sameNow kind k m.key = some b := by
          intro b hb
          rcases hk with ⟨kj, rfl, ki, n, rfl⟩ | ⟨rfl, s, rfl⟩
          · unfold sameK at hb
            split at hb
            · rename_i a c d e h1 h2; cases h1; rw [h2]; exact hb
            · rename_i h1 _; cases h1
            · cases hb
          · unfold sameK at hb
            split at hb
            · rename_i h1 _; cases h1
            · rename_i a c h1 h2; cases h1; rw [h2]; exact hb
            · cases hb
        split at h
        · rename_i hb
          cases h
          exact ⟨some (i, m.val), by simp [Instr.findNow, hs _ hb], (fun hn => by cases hn), (fun v' hv' => by cases hv'; exact ⟨i, m.val, rfl, hv⟩)⟩
        · rename_i hb
          obtain ⟨x, h1, h2⟩ := findNow_rel hk es mes (i + 1) r h (by simpa using hl) (fun j e m' he hm => hr (j + 1) e m' (by simpa using he) (by simpa using hm))
          exact ⟨x, by simp [Instr.findNow, hs _ hb, h1], h2⟩
        · cases h
    | _ => simp [findKey] at h
  | [], _ :: _, _, _, _, hl, _ => by simp at hl
  | _ :: _, [], _, _, _, hl, _ => by simp at hl

theorem checkKey_int {kt : TypeId} {kj : IntKind} (h : P.underlying kt = some (.int kj)) (b : Bool) (n : Nat) (i : IntKind) (z : Int) : (Instr.checkKey b (n + 1) kt (.int i z)).run P w = .ok () w := by
  rw [Instr.checkKey]; simp only [Sem.run_bind, run_underlying h, Result.andThen_ok, Sem.run_pure]
theorem checkKey_string {kt : TypeId} (h : P.underlying kt = some .string) (b : Bool) (n : Nat) (z : ByteArray) : (Instr.checkKey b (n + 1) kt (.string z)).run P w = .ok () w := by
  rw [Instr.checkKey]; simp only [Sem.run_bind, run_underlying h, Result.andThen_ok, Sem.run_pure]

theorem findK_rel {kt : TypeId} {k : Value} {es : List (PV × AV)} {mes : Array MapEntry} {r : Option AV} (h : findK (P.underlying kt) k es = some r) (hsz : mes.size = es.length)
    (hent : ∀ (j : Nat) (x : PV × AV) (y : MapEntry), es[j]? = some x → mes[j]? = some y → PVR w g.I x.1 y.key ∧ AVR w g os x.2 y.val) :
    (∀ b, (Instr.checkKey b 10000 kt k).run P w = .ok () w) ∧ ∃ x, (Instr.findKey kt k mes.toList).run P w = .ok x w ∧ (r = none → x = none) ∧ ∀ v : AV, r = some v → ∃ (j : Nat) (c : Value), x = some (j, c) ∧ AVR w g os v c := by
  unfold findK at h
  split at h
  · rename_i kj ki n hk
    obtain ⟨x, h1, h2⟩ := findNow_rel (w := w) (g := g) (os := os) (kind := .int kj) (k := .int ki n) (.inl ⟨_, rfl, _, _, rfl⟩) es mes.toList 0 r h (by simpa using hsz) (fun j x y hx hy => hent j x y hx (by simpa using hy))
    exact ⟨fun b => checkKey_int hk b 9999 _ _, x, by simp [Instr.findKey, run_underlying hk, h1], h2⟩
  · rename_i s hk
    obtain ⟨x, h1, h2⟩ := findNow_rel (w := w) (g := g) (os := os) (kind := .string) (k := .string s) (.inr ⟨rfl, _, rfl⟩) es mes.toList 0 r h (by simpa using hsz) (fun j x y hx hy => hent j x y hx (by simpa using hy))
    exact ⟨fun b => checkKey_string hk b 9999 _, x, by simp [Instr.findKey, run_underlying hk, h1], h2⟩
  · cases h

theorem lookupV_rel (R : RelO B w g os) {t : TypeId} {m i v : AV} {cm ci : Value} {lm li : Nat} {ok : Bool} (h : lookupV P os t m i ok = some v) (hm : SVR w g os lm m cm) (hi : SVR w g os li i ci) :
    ∃ c', (Instr.lookup t cm ci ok).run P w = .ok c' w ∧ AVR w g os v c' := by
  unfold lookupV at h
  split at h
  · rename_i kt e hu
    split at h
    · rename_i k es hes
      have hci : ci = k := by cases hi with | p hp => cases hp with | «at» _ => rfl
      subst hci
      -- the entries of the map
      have hmes : ∃ mes : Array MapEntry, mes.size = es.length ∧ (∀ (j : Nat) (x : PV × AV) (y : MapEntry), es[j]? = some x → mes[j]? = some y → PVR w g.I x.1 y.key ∧ AVR w g os x.2 y.val) ∧
          ((cm = .map none ∧ mes = #[]) ∨ ∃ b clk, cm = .map (some b) ∧ w.heap[b]? = some (.map mes clk)) := by
        split at hes
        · cases hes
          refine ⟨#[], rfl, fun j x y hx => by simp at hx, .inl ⟨?_, rfl⟩⟩
          cases hm with | p hp => cases hp with | «at» _ => rfl
        · rename_i k
          split at hes
          · rename_i es' hk
            cases hes
            cases hm with
            | mp _ hb =>
              obtain ⟨b', mes, clk, h1, h2, h3, h4, _⟩ := R.obj k _ hk
              rw [hb] at h1; cases h1
              exact ⟨mes, h3, h4, .inr ⟨_, clk, rfl, h2⟩⟩
          · cases hes
        · cases hes
      obtain ⟨mes, hsz, hent, hcm⟩ := hmes
      have key := fun r' hr' => findK_rel (P := P) (w := w) (g := g) (os := os) (kt := kt) (k := ci) (r := r') hr' hsz hent
      have hobj : ∀ b clk, w.heap[b]? = some (.map mes clk) → (Go.getObj b).run P w = .ok (.map mes clk) w := fun b clk hb => by simp [Go.getObj, Sem.run, hb]
      have hget : ∀ (x : Option (Nat × Value)) (r : Value), (Instr.checkKey mes.isEmpty 10000 kt ci).run P w = .ok () w → (Instr.findKey kt ci mes.toList).run P w = .ok x w →
          (match x with | some (_, v) => r = (if ok then .tuple #[v, .bool true] else v) | none => ∃ z, (zeroValue e).run P w = .ok z w ∧ r = if ok then .tuple #[z, .bool false] else z) →
          (Instr.lookup t cm ci ok).run P w = .ok r w := by
        intro x r hck hfk hx
        rcases hcm with ⟨rfl, rfl⟩ | ⟨b, clk, rfl, hb⟩
        · simp only [Instr.lookup, Sem.run_bind, run_underlying hu, Result.andThen_ok, Sem.run_pure, hck, hfk]
          cases x with
          | none => obtain ⟨z, hz, rfl⟩ := hx; simp [hz]
          | some y => obtain ⟨j, v⟩ := y; simp only at hx; subst hx; rfl
        · simp only [Instr.lookup, Sem.run_bind, run_underlying hu, Result.andThen_ok, hobj b clk hb, Sem.run_pure, hck, hfk]
          cases x with
          | none => obtain ⟨z, hz, rfl⟩ := hx; simp [hz]
          | some y => obtain ⟨j, v⟩ := y; simp only at hx; subst hx; rfl
      split at h
      · rename_i y hy
        obtain ⟨hck, x, hfk, _, hx⟩ := key _ hy
        obtain ⟨j, c, rfl, hc⟩ := hx y rfl
        obtain ⟨c', h1, h2⟩ := holds_rel (P := P) hc h
        have e1 : c' = if ok then .tuple #[c, .bool true] else c := by cases h1; rfl
        exact ⟨c', hget _ _ (hck _) hfk e1, h2⟩
      · rename_i hy
        obtain ⟨hck, x, hfk, hx, _⟩ := key _ hy
        obtain rfl := hx rfl
        split at h
        · rename_i z hz
          obtain ⟨zv, hr, rfl⟩ := zero_rel (w := w) hz
          cases h
          refine ⟨_, hget none (if ok then .tuple #[zv, .bool false] else zv) (hck _) hfk ⟨zv, hr, rfl⟩, ?_⟩
          cases ok with
          | false => exact (ofValue_rel w g os).cp
          | true =>
            refine .tup rfl fun j c' v' hc' hv' => ?_
            match j with
            | 0 => simp at hc' hv'; subst hc'; subst hv'; exact (ofValue_rel w g os).cp
            | 1 => simp at hc' hv'; subst hc'; subst hv'; exact .p (.at rfl)
            | j + 2 => simp at hc'
        · cases h
      · cases h
    · cases h
  · cases h
end
end Go.Am
namespace Go.Am
variable [Env]
section
variable [Base]
variable {P : Program} {H : Hints} {B : Nat} {w : World} {g : Gh} {os : OS} {s : St} {a : Act}

/-- a slice whose cells can be read -/
def SlR (w : World) (I : Nat → Nat → Prop) (sz : Nat) (xs : List (List PV)) (c : Value) : Prop :=
  ∃ a cap, c = .slice a xs.length cap ∧ xs.length ≤ cap ∧ (xs = [] ∨ ((∀ x ∈ xs, x.length = sz) ∧ ∃ b o, ∃ vs : Nat → Value, a = some ⟨b, o, none⟩ ∧
    ∀ (i : Nat) (x : List PV) (j : Nat) (y : PV), xs[i]? = some x → x[j]? = some y → w.cell? ⟨b, o + (i * sz + j), none⟩ = some (vs (i * sz + j)) ∧ (vs (i * sz + j)).oneCell' = true ∧ PVR w I y (vs (i * sz + j))))

theorem PVR.sl {sz : Nat} {xs : List (List PV)} {c : Value} {I : Nat → Nat → Prop} (h : PVR w I (.vals sz xs) c) : SlR w I sz xs c ∨ (xs = [] ∧ ∃ a cap, c = .slice a 0 cap) := by
  cases h with
  | vnil => exact .inr ⟨rfl, _, _, rfl⟩
  | vals vs hn hcap hsz hI hc h1 hv =>
    subst hn
    exact .inl ⟨_, _, rfl, hcap, .inr ⟨hsz, _, _, vs, rfl, fun i x j y hx hy => ⟨hc i x j y hx hy, h1 i x j y hx hy, hv i x j y hx hy⟩⟩⟩

theorem PVR.sl' {sz : Nat} {xs : List (List PV)} {c : Value} {I : Nat → Nat → Prop} (h : PVR w I (.vals sz xs) c) : SlR w I sz xs c := by
  rcases h.sl with h | ⟨rfl, a, cap, rfl⟩
  · exact h
  · exact ⟨a, cap, rfl, Nat.zero_le _, .inl rfl⟩

theorem FR.sl {t sz : Nat} {xs : List (List PV)} {c : Value} (h : FR w g t sz xs c) : SlR w g.I sz xs c := by
  rcases h with ⟨rfl, a, rfl⟩ | ⟨b, vs, el, fr, cap, _, _, _, _, _, _, h, _⟩
  · exact ⟨a, 0, rfl, Nat.le_refl _, .inl rfl⟩
  · exact h.sl'

/-- the cells of a row, seen from a reference -/
theorem rowAt_rel (R : RelO B w g os) {k off len sz : Nat} {xs : List (List PV)} {c : Value} (h : rowAt os k off len = some (sz, xs)) (hv : AVR w g os (.row k off len) c) : SlR w g.I sz xs c := by
  unfold rowAt at h
  split at h
  · rename_i sz' ys lo sh hk
    split at h
    · rename_i hcond
      cases h
      cases hv with
      | @row _ _ _ _ _ cap _ _ a hk' hl hcap hcur hc =>
        rw [hk] at hk'; cases hk'
        have hlen : ((ys.drop off).take len).length = len := by rw [List.length_take, List.length_drop]; omega
        rcases Nat.eq_zero_or_pos len with h0 | h0
        · subst h0
          exact ⟨a, cap, by simp, by simp, .inl (by simp)⟩
        · rcases hc with hc | hc | ⟨b, hb, ha⟩ | hc
          · omega
          · omega
          · subst ha
            obtain ⟨_, hrow⟩ := R.obj k _ hk
            rcases hrow with ⟨hn, rfl⟩ | ⟨b', vs, el, fr, bc, h1, h2, h3, h4, h5, h6, h7⟩
            · simp at hl; omega
            · rw [hb] at h1; cases h1
              refine ⟨_, cap, by rw [hlen], by rw [hlen]; exact hcap, .inr ⟨fun x hx => h6.1 x (List.mem_of_mem_drop (List.mem_of_mem_take hx)), b, off * sz, fun m => vs.getD (off * sz + m) undef, rfl, fun i x j y hx hy => ?_⟩⟩
              obtain ⟨_, hx'⟩ := drop_take_get hx
              obtain ⟨v, hv, ho, hp⟩ := h6.2 _ x j y hx' hy
              have e : off * sz + (i * sz + j) = (off + i) * sz + j := by rw [Nat.add_mul]; omega
              have : vs.getD (off * sz + (i * sz + j)) undef = v := by rw [e]; simp [Array.getD, (Array.getElem?_eq_some_iff.1 hv).1, (Array.getElem?_eq_some_iff.1 hv).2]
              refine ⟨?_, ?_, ?_⟩
              · show w.cell? ⟨b, off * sz + (i * sz + j), none⟩ = some (vs.getD (off * sz + (i * sz + j)) undef)
                rw [this, cell_of_heap h2, e]; exact hv
              · show (vs.getD (off * sz + (i * sz + j)) undef).oneCell' = true
                rw [this]; exact ho
              · show PVR w g.I y (vs.getD (off * sz + (i * sz + j)) undef)
                rw [this]; exact hp
          · have := hc.sl'
            obtain ⟨a', cap', he, h1, h2⟩ := this
            injection he with he1 he2 he3
            subst he1; subst he3
            exact ⟨a, cap, by rw [hlen], h1, h2⟩
    · cases h
  · cases h

theorem elems_rel (R : RelO B w g os) {v : AV} {c : Value} {t sz : Nat} {xs : List (List PV)} (h : elems os v = some (sz, xs)) (hv : SVR w g os t v c) :
    SlR w g.I sz xs c ∨ ∃ b, v = .p (.at (.string b)) ∧ c = .string b ∧ sz = 1 ∧ xs = byteElems b.data.toList := by
  unfold elems at h
  split at h
  · cases h; cases hv with | p hp => exact .inl hp.sl'
  · cases h; exact .inl (FR.sl hv)
  · exact .inl (rowAt_rel R h hv)
  · rename_i b
    cases h
    cases hv with | p hp => cases hp with | «at» _ => exact .inr ⟨b, rfl, rfl, rfl, rfl⟩
  · cases h

theorem bytesOf_ns : ∀ {xs : List (List PV)} {l : List UInt8}, bytesOf xs = some l → ∃ ns : List Int, xs = ns.map (fun n => [.at (.int .u8 n)]) ∧ l = ns.map (fun n => UInt8.ofNat n.toNat)
  | [], l, h => by cases h; exact ⟨[], rfl, rfl⟩
  | x :: xs, l, h => by
    unfold bytesOf at h
    split at h
    · rename_i h1; cases h1
    · rename_i n ys h1
      cases h1
      split at h
      · rename_i l' hl
        cases h
        obtain ⟨ns, rfl, rfl⟩ := bytesOf_ns hl
        exact ⟨n :: ns, rfl, rfl⟩
      · cases h
    · cases h
theorem runesOf_ns : ∀ {xs : List (List PV)} {b r : ByteArray}, runesOf xs b = some r → ∃ ns : List Int, xs = ns.map (fun n => [.at (.int .i32 n)]) ∧ r = ns.foldl (fun r n => r ++ Utf8.encode n) b
  | [], b, r, h => by cases h; exact ⟨[], rfl, rfl⟩
  | x :: xs, b, r, h => by
    unfold runesOf at h
    split at h
    · rename_i h1; cases h1
    · rename_i n ys h1
      cases h1
      obtain ⟨ns, rfl, rfl⟩ := runesOf_ns h
      exact ⟨n :: ns, rfl, rfl⟩
    · cases h

/-- the numbers in a slice's cells -/
theorem load_nums {I : Nat → Nat → Prop} {sz : Nat} {k : IntKind} {ns : List Int} {b o : Nat} {vs : Nat → Value} (hsz : sz = 1 ∨ ns = [])
    (h : ∀ (i : Nat) (x : List PV) (j : Nat) (y : PV), (ns.map fun n => [PV.at (.int k n)])[i]? = some x → x[j]? = some y → w.cell? ⟨b, o + (i * sz + j), none⟩ = some (vs (i * sz + j)) ∧ (vs (i * sz + j)).oneCell' = true ∧ PVR w I y (vs (i * sz + j))) :
    (loadCells ⟨b, o, none⟩ ns.length).run P w = .ok (ns.map (Value.int k)).toArray w := by
  rcases hsz with rfl | rfl
  · have := run_loadCells_list (P := P) w ⟨b, o, none⟩ (ns.map (Value.int k)) (fun j v hj => by
      rw [List.getElem?_map] at hj
      cases hn : ns[j]? with
      | none => rw [hn] at hj; cases hj
      | some n =>
        rw [hn] at hj; cases hj
        obtain ⟨h1, _, h3⟩ := h j [.at (.int k n)] 0 (.at (.int k n)) (by rw [List.getElem?_map, hn]; rfl) rfl
        rw [add_plain]
        have e : o + (j * 1 + 0) = o + j := by omega
        rw [e] at h1
        rw [h1]
        revert h3
        generalize vs (j * 1 + 0) = q
        intro h3
        cases h3 with | «at» _ => rfl)
    simpa using this
  · simpa using run_loadCells_list (P := P) w ⟨b, o, none⟩ [] (fun j v hj => by simp at hj)

theorem convV_rel (R : RelO B w g os) {src dst : TypeId} {x v : AV} {c : Value} {l : Nat} (h : convV P os src dst x = some v) (hx : SVR w g os l x c) :
    ∃ c', (convert src dst c).run P w = .ok c' w ∧ AVR w g os v c' := by
  unfold convV at h
  split at h
  · rename_i sd k hs hd
    split at h
    · rename_i j n
      cases h
      have : c = .int j n := by cases hx with | p hp => cases hp with | «at» _ => rfl
      subst this
      exact ⟨.int k (k.wrap n), by simp [convert, run_underlying hs, run_underlying hd, Conv.intToInt], .p (.at rfl)⟩
    · cases h
  · rename_i sd hs hd
    split at h
    · rename_i j n
      cases h
      have : c = .int j n := by cases hx with | p hp => cases hp with | «at» _ => rfl
      subst this
      exact ⟨.string (Utf8.encode n), by simp [convert, run_underlying hs, run_underlying hd, Conv.intToString], .p (.at rfl)⟩
    · rename_i b
      cases h
      have : c = .string b := by cases hx with | p hp => cases hp with | «at» _ => rfl
      subst this
      exact ⟨.string b, by simp [convert, run_underlying hs, run_underlying hd], .p (.at rfl)⟩
    · rename_i n1 n2
      split at h
      · rename_i e
        split at h
        · rename_i sz xs hel
          split at h
          · rename_i hsz
            rcases elems_rel R hel hx with hsl | ⟨b, rfl, _⟩
            · obtain ⟨a, cap, rfl, hcap, hcells⟩ := hsl
              split at h
              · rename_i he
                split at h
                · rename_i bs hbs
                  cases h
                  obtain ⟨ns, rfl, rfl⟩ := bytesOf_ns hbs
                  refine ⟨_, ?_, .p (.at rfl)⟩
                  rcases hcells with hnil | ⟨_, b, o, vs, rfl, hc⟩
                  · have hns : ns = [] := by simpa using hnil
                    subst hns
                    cases a with
                    | none => simp [run_convert_bytes_string w src dst e _ _ cap hs he hd, Conv.bytesToString]; rfl
                    | some ad =>
                      have hl := run_loadCells_list (P := P) w ad [] (fun j v hj => by simp at hj)
                      rw [run_convert_bytes_string w src dst e _ _ cap hs he hd, run_bytesToString w ad _ cap [] (by simpa using hl)]
                      rfl
                  · have hl := load_nums (P := P) (by simpa using hsz) hc
                    rw [run_convert_bytes_string w src dst e _ _ cap hs he hd]
                    simp only [List.length_map]
                    rw [run_bytesToString w _ _ cap ns hl, foldl_push_bytes]
                    simp [ByteArray.empty, ByteArray.emptyWithCapacity]
                    rfl
                · cases h
              · rename_i he
                split at h
                · rename_i bs hbs
                  cases h
                  obtain ⟨ns, rfl, rfl⟩ := runesOf_ns hbs
                  refine ⟨_, ?_, .p (.at rfl)⟩
                  rcases hcells with hnil | ⟨_, b, o, vs, rfl, hc⟩
                  · have hns : ns = [] := by simpa using hnil
                    subst hns
                    cases a with
                    | none => simp [run_convert_runes_string w src dst e _ _ cap hs he hd, Conv.runesToString]
                    | some ad =>
                      have hl := run_loadCells_list (P := P) w ad [] (fun j v hj => by simp at hj)
                      rw [run_convert_runes_string w src dst e _ _ cap hs he hd, run_runesToString w ad _ cap [] (by simpa using hl)]
                      rfl
                  · have hl := load_nums (P := P) (by simpa using hsz) hc
                    rw [run_convert_runes_string w src dst e _ _ cap hs he hd]
                    simp only [List.length_map]
                    rw [run_runesToString w _ _ cap ns hl]
                    rfl
                · cases h
              · cases h
            · exact absurd rfl (n2 b)
          · cases h
        · cases h
      · cases h
  · cases h

theorem lenOf_rel {v : AV} {c : Value} {l n : Nat} (h : lenOf v = some n) (hv : SVR w g os l v c) : (∃ a cap, c = .slice a n cap) ∨ ∃ b, c = .string b ∧ b.size = n := by
  unfold lenOf at h
  split at h
  · cases h
    cases hv with
    | p hp => cases hp with
      | vnil => exact .inl ⟨_, _, rfl⟩
      | vals vs hn => subst hn; exact .inl ⟨_, _, rfl⟩
  · cases h
    rcases hv with ⟨rfl, a, rfl⟩ | ⟨b, vs, el, fr, cap, _, rfl, _⟩
    · exact .inl ⟨_, _, rfl⟩
    · exact .inl ⟨_, _, rfl⟩
  · cases h; cases hv with | row => exact .inl ⟨_, _, rfl⟩
  · rename_i b; cases h; cases hv with | p hp => cases hp with | «at» _ => exact .inr ⟨b, rfl, rfl⟩
  · cases h
end
end Go.Am
namespace Go.Am
variable [Env]
section
variable [Base]
variable {P : Program} {H : Hints} {B : Nat} {w : World} {g : Gh} {os : OS} {s : St} {a : Act}

theorem evs_one (R : Rel B w g s a) {xs : Array Operand} {v : AV} (h : evs s xs.toList = some [v]) : ∃ x, xs = #[x] ∧ ev1 s x = some v := by
  obtain ⟨h1, h2⟩ := evs_rel R h
  obtain ⟨x, hx, he⟩ := h2 0 v rfl
  refine ⟨x, ?_, he⟩
  cases xs with
  | mk l =>
    cases l with
    | nil => simp at h1
    | cons y l => cases l with
      | nil => simp at hx; subst hx; rfl
      | cons z l => simp at h1

theorem nilV_rel {x v : AV} {c : Value} {l : Nat} {t : Tmp} {ty : TypeId} {x' : Operand} {ρ : Operand → Value} (h : nilV x = some v) (hx : SVR w g os l x c) (he : ρ x' = c) (o : Oper) (ho : o.op = .nilCheck x') :
    (execOp ρ o).run P w = .ok (.value c) w ∧ AVR w g os v c := by
  subst he
  unfold nilV at h
  split at h <;> first | (cases h; done) | cases h
  all_goals
    generalize hc : ρ x' = c at hx ⊢
    refine ⟨?_, hx⟩
    unfold execOp
    rw [ho]
    simp only [hc]
    first
      | (cases hx with | ptr => rfl)
      | (cases hx with | elem => rfl)
      | (cases hx with | fn => rfl)
      | (cases hx with | ifc => rfl)
      | (cases hx with | eptr _ _ _ h1 => obtain ⟨_, _, rfl⟩ := h1; rfl)

theorem fieldV_rel {t : TypeId} {f : Nat} {x v : AV} {c : Value} {l : Nat} (h : fieldV P t f x = some v) (hx : SVR w g os l x c) :
    ∃ c', (Instr.fieldAt t c f).run P w = .ok c' w ∧ AVR w g os v c' := by
  unfold fieldV at h
  split at h
  · rename_i fd hf
    split at h
    · cases h
    · rename_i hz
      split at h
      · cases h
        cases hx with | ptr h1 hb => exact ⟨_, fieldAt_run hf hz _ _, .ptr h1 hb⟩
      · cases h
        cases hx with | @elem _ _ b o vs hI hc h1 hv =>
          refine ⟨_, fieldAt_run hf hz _ _, ?_⟩
          rw [Nat.add_assoc]; exact .elem vs hI hc h1 hv
      · cases h
        cases hx with | eptr hk hi hn h1 hv =>
          obtain ⟨b, o, rfl⟩ := h1
          refine ⟨_, fieldAt_run hf hz _ _, .eptr hk hi hn ⟨_, _, rfl⟩ fun hl => ?_⟩
          obtain ⟨b', hb, he⟩ := hv hl
          cases he
          exact ⟨b, hb, by rw [Nat.add_assoc]⟩
      · cases h
  · cases h

theorem partV_rel {t : TypeId} {f : Nat} {x v : AV} {c : Value} {l : Nat} (h : partV P t f x = some v) (hx : SVR w g os l x c) :
    ∃ c', (Instr.field t c f).run P w = .ok c' w ∧ AVR w g os v c' := by
  unfold partV at h
  split at h
  · split at h
    · rename_i fd hf
      split at h
      · rename_i n isAgg hsh
        obtain ⟨vs, rfl, hc⟩ := agg_CR hx
        obtain ⟨fs, hu, hfs⟩ := fieldT_und hf
        obtain ⟨c', h1, h2⟩ := partCs_rel h fd.type hsh hc
        exact ⟨c', by simp [Instr.field, run_underlying hu, hfs, asAgg, h1], h2⟩
      · cases h
    · cases h
  · cases h

theorem lenV_rel (R : RelO B w g os) {t : TypeId} {x v : AV} {c : Value} {l : Nat} (h : lenV P os t x = some v) (hx : SVR w g os l x c) (ts : Array TypeId) (ht : ts[0]? = some t) (ty : TypeId) :
    ∃ c', (Builtin.len_ ts ty #[c]).run P w = .ok c' w ∧ AVR w g os v c' := by
  unfold lenV at h
  split at h
  · rename_i k kt e hu
    split at h
    · rename_i es hk
      cases h
      cases hx with
      | mp _ hb =>
        obtain ⟨b', mes, clk, h1, h2, h3, h4, _⟩ := R.obj _ _ hk
        rw [hb] at h1; cases h1
        have hobj : ∀ b, w.heap[b]? = some (.map mes clk) → (Go.getObj b).run P w = .ok (.map mes clk) w := fun b hb => by simp [Go.getObj, Sem.run, hb]
        refine ⟨goInt mes.size, by simp [Builtin.len_, ht, run_underlying hu, hobj _ h2], ?_⟩
        rw [h3]; exact .p (.at rfl)
    · cases h
  · rename_i kt e hu
    cases h
    cases hx with | p hp => cases hp with | «at» _ => exact ⟨goInt 0, by simp [Builtin.len_, ht, run_underlying hu], .p (.at rfl)⟩
  · rename_i e sz xs hu
    cases h
    cases hx with
    | p hp => cases hp with
      | vnil => exact ⟨goInt 0, by simp [Builtin.len_, ht, run_underlying hu], .p (.at rfl)⟩
      | vals vs hn => subst hn; exact ⟨goInt xs.length, by simp [Builtin.len_, ht, run_underlying hu], .p (.at rfl)⟩
  · rename_i e sz xs hu
    cases h
    rcases hx with ⟨rfl, a, rfl⟩ | ⟨b, vs, el, fr, cap, _, rfl, _⟩
    · exact ⟨goInt 0, by simp [Builtin.len_, ht, run_underlying hu], .p (.at rfl)⟩
    · exact ⟨goInt xs.length, by simp [Builtin.len_, ht, run_underlying hu], .p (.at rfl)⟩
  · rename_i e k off len hu
    cases h
    cases hx with | row => exact ⟨goInt len, by simp [Builtin.len_, ht, run_underlying hu], .p (.at rfl)⟩
  · rename_i b hu
    cases h
    cases hx with | p hp => cases hp with | «at» _ => exact ⟨goInt b.size, by simp [Builtin.len_, ht, run_underlying hu], .p (.at rfl)⟩
  · cases h

theorem max2_rel {x y v : AV} {cx cy : Value} (h : max2 x y = some v) (hx : AVR w g os x cx) (hy : AVR w g os y cy) : ∃ c, (Builtin.max2 cx cy).run P w = .ok c w ∧ AVR w g os v c := by
  unfold max2 at h
  split at h
  · split at h
    · rename_i k x j y hkj
      cases h
      cases hx with | p hp => cases hp with | «at» _ => cases hy with | p hp => cases hp with | «at» _ => exact ⟨_, rfl, .p (.at rfl)⟩
    · cases h
  · cases h
theorem min2_rel {x y v : AV} {cx cy : Value} (h : min2 x y = some v) (hx : AVR w g os x cx) (hy : AVR w g os y cy) : ∃ c, (Builtin.min2 cx cy).run P w = .ok c w ∧ AVR w g os v c := by
  unfold min2 at h
  split at h
  · split at h
    · rename_i k x j y hkj
      cases h
      cases hx with | p hp => cases hp with | «at» _ => cases hy with | p hp => cases hp with | «at» _ => exact ⟨_, rfl, .p (.at rfl)⟩
    · cases h
  · cases h

theorem max2_nf {x y v : AV} (h : max2 x y = some v) : nf x = true ∧ nf y = true ∧ nf v = true := by
  unfold max2 at h
  split at h
  · split at h
    · cases h; exact ⟨rfl, rfl, rfl⟩
    · cases h
  · cases h
theorem min2_nf {x y v : AV} (h : min2 x y = some v) : nf x = true ∧ nf y = true ∧ nf v = true := by
  unfold min2 at h
  split at h
  · split at h
    · cases h; exact ⟨rfl, rfl, rfl⟩
    · cases h
  · cases h

theorem foldA_rel {f : AV → AV → Option AV} {F : Value → Value → Sem Value} (hf : ∀ {x y v : AV} {cx cy : Value}, f x y = some v → AVR w g os x cx → AVR w g os y cy → ∃ c, (F cx cy).run P w = .ok c w ∧ AVR w g os v c)
    (hnf : ∀ {x y v : AV}, f x y = some v → nf x = true ∧ nf y = true ∧ nf v = true) : ∀ (vs : List AV) (cs : List Value) (x v : AV) (cx : Value), foldA f x vs = some v → vs.length = cs.length →
    (∀ (j : Nat) (u : AV) (c : Value), vs[j]? = some u → cs[j]? = some c → ∃ l, SVR w g os l u c) → (vs ≠ [] ∨ nf x = true) → (∃ l, SVR w g os l x cx) → ∃ c, (cs.foldlM F cx).run P w = .ok c w ∧ AVR w g os v c
  | [], [], x, v, cx, h, _, _, hne, hx => by
      cases h
      rcases hne with hne | hne
      · exact absurd rfl hne
      · obtain ⟨l, hx⟩ := hx; exact ⟨cx, rfl, hx.avr hne⟩
  | u :: vs, c :: cs, x, v, cx, h, hl, hr, _, hx => by
    simp only [foldA] at h
    split at h
    · rename_i y hy
      obtain ⟨l, hx⟩ := hx
      obtain ⟨l', hu⟩ := hr 0 u c rfl rfl
      obtain ⟨n1, n2, n3⟩ := hnf hy
      obtain ⟨c1, h1, h2⟩ := hf hy (hx.avr n1) (hu.avr n2)
      obtain ⟨c2, h3, h4⟩ := foldA_rel hf hnf vs cs y v c1 h (by simpa using hl) (fun j u c hu hc => hr (j + 1) u c (by simpa using hu) (by simpa using hc)) (.inr n3) ⟨0, .of 0 h2⟩
      exact ⟨c2, by simp [List.foldlM_cons, h1, h3], h4⟩
    · cases h
  | [], _ :: _, _, _, _, _, hl, _, _, _ => by simp at hl
  | _ :: _, [], _, _, _, _, hl, _, _, _ => by simp at hl

theorem run_map_ok {α β : Type} (f : α → β) {x : Sem α} {y : α} (h : x.run P w = .ok y w) : (f <$> x).run P w = .ok (f y) w := by
  have : (f <$> x) = (x >>= fun a => pure (f a)) := rfl
  rw [this]; simp only [Sem.run_bind, h, Result.andThen_ok, Sem.run_pure]

theorem buildV_rel (R : Rel B w g s a) {t : TypeId} {xs : Array (Nat × Operand)} {ps : List (Nat × AV)} {v : AV} (he : evps s xs.toList = some ps) (h : buildV P t ps = some v) :
    ∃ c, (Instr.build t (xs.map fun (i, x) => (i, a.eval x))).run P w = .ok c w ∧ AVR w g s.os v c := by
  unfold buildV at h
  split at h
  · rename_i z place hz hp
    split at h
    · rename_i hst
      split at h
      · rename_i cs hb
        cases h
        obtain ⟨zv, hzr, rfl⟩ := zero_rel (w := w) hz
        have hc := cells_rel (t := 0) (SVR.of 0 (ofValue_rel (v := zv) w g s.os)) hst
        obtain ⟨us, hf, hcr⟩ := buildF_rel R xs.toList ps _ _ _ he hb hc
        refine ⟨.agg us, ?_, .agg hcr.1.1 hcr.2 hcr.1.2⟩
        have htl : (xs.map fun (i, x) => (i, a.eval x)).toList = xs.toList.map fun (i, x) => (i, a.eval x) := by simp
        unfold placesT at hp
        split at hp
        · rename_i fs hu
          split at hp
          · rename_i pl hpl
            cases hp
            have hm : ∀ (l : List Field) (ps : List (Nat × Nat)), l.mapM (fun f => (P.info? f.type).map fun i => (f.offset, i.size)) = some ps →
                (l.mapM (fun (f : Field) => (do pure (f.offset, ← sizeOf f.type) : Sem (Nat × Nat)))).run P w = .ok ps w := by
              intro l
              induction l with
              | nil => intro ps h; cases h; rfl
              | cons f l ih =>
                intro ps h
                rw [List.mapM_cons] at h
                cases hi : P.info? f.type with
                | none => rw [hi] at h; cases h
                | some i =>
                  rw [hi] at h
                  cases hl : l.mapM (fun f => (P.info? f.type).map fun i => (f.offset, i.size)) with
                  | none => rw [hl] at h; cases h
                  | some qs =>
                    rw [hl] at h; cases h
                    rw [List.mapM_cons]
                    simp only [Sem.run_bind, szT_run hi, Result.andThen_ok, Sem.run_pure, ih qs hl]
            have hm' : (fs.mapM (fun (f : Field) => (do pure (f.offset, ← sizeOf f.type) : Sem (Nat × Nat)))).run P w = .ok pl.toArray w := by
              rw [Array.mapM_eq_mapM_toList]
              exact run_map_ok _ (hm _ _ hpl)
            simp only [Instr.build, Sem.run_bind, hzr, Result.andThen_ok, run_underlying hu, hm', htl, hf, Sem.run_pure]
          · cases hp
        · rename_i n e hu
          split at hp
          · rename_i i hi
            cases hp
            simp only [Instr.build, Sem.run_bind, hzr, Result.andThen_ok, run_underlying hu, szT_run hi, htl, hf, Sem.run_pure]
          · cases hp
        · cases hp
      · cases h
    · cases h
  · cases h
end
end Go.Am
namespace Go.Am
variable [Env]
section
variable [Base]
variable {P : Program} {H : Hints} {B : Nat} {w : World} {g : Gh} {os : OS} {s : St} {a : Act}

theorem evO_rel (R : Rel B w g s a) {x : Option Operand} {v : Option AV} (h : evO s x = some v) : OpR w g s.os v (x.map a.eval) := by
  cases x with
  | none => cases h; trivial
  | some x =>
    simp only [evO] at h
    split at h
    · rename_i v hv
      cases h
      exact ⟨_, ev1_rel R hv⟩
    · cases h

theorem loadN_nf {n : Nat} {b : Bool} {x v : AV} (h : loadN os n b x = some v) : nf x = true := by
  unfold loadN at h
  split at h <;> first | rfl | cases h
theorem asB_nf {x : AV} {b : Bool} (h : asB x = some b) : nf x = true := by
  unfold asB at h
  split at h <;> first | rfl | cases h

theorem exec_builtin {ρ : Operand → Value} {o : Oper} {b : Builtin} {args : Array Operand} {ts : Array TypeId} (h : o.op = .call { callee := .builtin b, args := args, argTypes := ts }) :
    (execOp ρ o).run P w = (builtin b ts o.type (args.map fun | .const _ => true | _ => false) (args.map ρ)).run P w := by
  unfold execOp
  rw [h]
  simp only [resolve, Sem.run_bind, Sem.run_pure, Result.andThen_ok, invoke]
  rfl

theorem evs_slots (R : Rel B w g s a) {args : Array Operand} {u : AV} {us : List AV} (h : evs s args.toList = some (u :: us)) :
    ∃ x xs, args.toList = x :: xs ∧ us.length = (xs.map a.eval).length ∧ (∃ l, SVR w g s.os l u (a.eval x)) ∧
      ∀ (j : Nat) (v : AV) (c : Value), us[j]? = some v → (xs.map a.eval)[j]? = some c → ∃ l, SVR w g s.os l v c := by
  obtain ⟨h1, h2⟩ := evs_rel R h
  cases hat : args.toList with
  | nil => rw [hat] at h1; simp at h1
  | cons x xs =>
    rw [hat] at h1 h2
    refine ⟨x, xs, rfl, by simpa using h1, ?_, fun j v c hv hc => ?_⟩
    · obtain ⟨x', hx, he⟩ := h2 0 u rfl
      cases hx
      exact ⟨_, ev1_rel R he⟩
    · obtain ⟨x', hx, he⟩ := h2 (j + 1) v (by simpa using hv)
      have hx' : xs[j]? = some x' := by simpa using hx
      rw [List.getElem?_map, hx'] at hc
      cases hc
      exact ⟨_, ev1_rel R he⟩

/-- operations that only read -/
theorem stepV_sound (R : Rel B w g s a) {o : Oper} {v : AV} (h : stepV P s o.op = some v) (d : Nat) : ∃ c, (execOp a.eval o).run P w = .ok (.value c) w ∧ SVR w g s.os d v c := by
  have wrap : ∀ (m : Sem Value), (∃ c, m.run P w = .ok c w ∧ AVR w g s.os v c) → ∃ c, (do pure (.value (← m)) : Sem Next).run P w = .ok (.value c) w ∧ SVR w g s.os d v c := by
    rintro m ⟨c, h1, h2⟩
    exact ⟨c, by simp only [Sem.run_bind, h1, Result.andThen_ok, Sem.run_pure], .of d h2⟩
  cases hop : o.op with
  | move x =>
    rw [hop] at h
    simp only [stepV] at h
    split at h
    · rename_i u hu
      cases h
      refine ⟨a.eval x, ?_, .of d (ev1_rel R hu).cp⟩
      unfold execOp; rw [hop]; rfl
    · cases h
  | pick c x y =>
    rw [hop] at h
    simp only [stepV] at h
    split at h
    · rename_i cv hcv
      have key : ∀ b, asB cv = some b → (asBool (a.eval c)).run P w = .ok b w := fun b hb => by
        rw [asB_rel hb ((ev1_rel R hcv).avr (asB_nf hb))]; rfl
      split at h
      · rename_i hb
        split at h
        · rename_i u hu
          cases h
          refine ⟨a.eval x, ?_, .of d (ev1_rel R hu).cp⟩
          unfold execOp; rw [hop]; simp [key _ hb]
        · cases h
      · rename_i hb
        split at h
        · rename_i u hu
          cases h
          refine ⟨a.eval y, ?_, .of d (ev1_rel R hu).cp⟩
          unfold execOp; rw [hop]; simp [key _ hb]
        · cases h
      · cases h
    · cases h
  | load t x =>
    rw [hop] at h
    simp only [stepV] at h
    split at h
    · rename_i u n isAgg hu hsh
      have := wrap _ (loadN_rel R.mem h ((ev1_rel R hu).avr (loadN_nf h)) hsh)
      unfold execOp; rw [hop]; exact this
    · cases h
  | nilCheck x =>
    rw [hop] at h
    simp only [stepV] at h
    split at h
    · rename_i u hu
      obtain ⟨h1, h2⟩ := nilV_rel (P := P) (t := 0) (ty := 0) (ρ := a.eval) (x' := x) h (ev1_rel R hu) rfl o hop
      exact ⟨_, h1, .of d h2⟩
    · cases h
  | binOp op t x y z =>
    rw [hop] at h
    simp only [stepV] at h
    split at h
    · rename_i v0 hn
      cases h
      have hy := nilCmp_const hn
      obtain ⟨cy, rfl⟩ := hy
      have := wrap _ (nilCmp_rel (P := P) (x := x) hn (fun u hu => ev1_rel R hu))
      unfold execOp; rw [hop]; exact this
    split at h
    · rename_i u1 u2 h1 h2
      have := wrap _ (binV_rel h rfl (ev1_rel R h1) (ev1_rel R h2) x y rfl)
      unfold execOp; rw [hop]; exact this
    · cases h
  | unOp op t x =>
    rw [hop] at h
    simp only [stepV] at h
    split at h
    · rename_i u hu
      have := wrap _ (unV_rel (P := P) h (ev1_rel R hu))
      unfold execOp; rw [hop]; exact this
    · cases h
  | makeInterface t x =>
    rw [hop] at h
    simp only [stepV] at h
    split at h
    · cases h
    · rename_i u d' hd hu hut
      cases h
      refine ⟨.iface t (a.eval x), ?_, SVR.of d (.ifc (ev1_rel R hu).cp)⟩
      unfold execOp; rw [hop]
      cases d' <;> first | exact absurd rfl (hd _) | simp [Instr.makeInterface, run_underlying hut]
    · cases h
  | makeFunc fn first cap =>
    rw [hop] at h
    cases fn with
    | func f =>
      simp only [stepV] at h
      split at h
      · rename_i hf
        split at h
        · rename_i cs hcs
          cases h
          have hr := evs_cps R hcs
          have e1 : first = #[] := by simpa using hf
          subst e1
          refine ⟨.func (.func f) #[] (cap.map a.eval), ?_, SVR.of d (.fn ?_ ?_)⟩
          · unfold execOp; rw [hop]; simp [Instr.makeFunc]
          · have := hr.1; simpa using this
          · intro j c v hc hv; exact hr.2 j c v hc (by simpa using hv)
        · cases h
      · cases h
    | _ => simp [stepV] at h
  | fieldAddr t x f =>
    rw [hop] at h
    simp only [stepV] at h
    split at h
    · rename_i u hu
      have := wrap _ (fieldV_rel h (ev1_rel R hu))
      unfold execOp; rw [hop]; exact this
    · cases h
  | field t x f =>
    rw [hop] at h
    simp only [stepV] at h
    split at h
    · rename_i u hu
      have := wrap _ (partV_rel h (ev1_rel R hu))
      unfold execOp; rw [hop]; exact this
    · cases h
  | indexAddr t x i =>
    rw [hop] at h
    simp only [stepV] at h
    split at h
    · rename_i u iv hu hi
      split at h
      · rename_i n hn
        obtain ⟨k, hk⟩ := asN_rel hn ((ev1_rel R hi).avr (asN_nf hn))
        have := wrap _ (indexAddrV_rel h (ev1_rel R hu) k)
        unfold execOp; rw [hop]; simp only [hk]; exact this
      · cases h
    · cases h
  | index t x i =>
    rw [hop] at h
    simp only [stepV] at h
    split at h
    · rename_i u iv hu hi
      split at h
      · rename_i n hn
        obtain ⟨k, hk⟩ := asN_rel hn ((ev1_rel R hi).avr (asN_nf hn))
        have := wrap _ (indexV_rel h (ev1_rel R hu) k)
        unfold execOp; rw [hop]; simp only [hk]; exact this
      · cases h
    · cases h
  | slice t x lo hi mx =>
    rw [hop] at h
    simp only [stepV] at h
    split at h
    · rename_i u lo' hi' mx' hu h1 h2 h3
      obtain ⟨c, h4, h5⟩ := sliceV_rel h (ev1_rel R hu) (evO_rel R h1) (evO_rel R h2) (evO_rel R h3) d
      refine ⟨c, ?_, h5⟩
      unfold execOp; rw [hop]; simp only [Sem.run_bind, h4, Result.andThen_ok, Sem.run_pure]
    · cases h
  | lookup t x i ok =>
    rw [hop] at h
    simp only [stepV] at h
    split at h
    · rename_i m iv hm hi
      have := wrap _ (lookupV_rel R.mem h (ev1_rel R hm) (ev1_rel R hi))
      unfold execOp; rw [hop]; exact this
    · cases h
  | typeAssert x xt u ok =>
    rw [hop] at h
    simp only [stepV] at h
    split at h
    · rename_i m hm
      have := wrap _ (typeAssertV_rel (xt := xt) h (ev1_rel R hm))
      unfold execOp; rw [hop]; exact this
    · cases h
  | extract x i =>
    rw [hop] at h
    simp only [stepV] at h
    split at h
    · rename_i vs hvs
      split at h
      · rename_i u hu
        cases h
        have hr := ev1_rel R hvs
        generalize hx : a.eval x = c at hr
        cases hr with
        | tup hs hv =>
          rename_i us
          have hlt : i < us.size := by rw [hs]; exact (List.getElem?_eq_some_iff.1 hu).1
          have := wrap (Instr.extract (.tuple us) i) ⟨us[i], by simp [Instr.extract, Array.getElem?_eq_getElem hlt], (hv i u _ hu (Array.getElem?_eq_getElem hlt)).cp⟩
          unfold execOp; rw [hop]; simp only [hx]; exact this
      · cases h
    · cases h
  | build t parts =>
    rw [hop] at h
    simp only [stepV] at h
    split at h
    · rename_i ps hps
      have := wrap _ (buildV_rel R hps h)
      unfold execOp; rw [hop]; exact this
    · cases h
  | call c =>
    rw [hop] at h
    obtain ⟨callee, args, argTypes⟩ := c
    cases callee with
    | builtin b =>
      cases b with
      | len =>
        simp only [stepV] at h
        split at h
        · rename_i u t hu ht
          obtain ⟨x, rfl, hx⟩ := evs_one R hu
          have := wrap _ (lenV_rel R.mem h (ev1_rel R hx) argTypes ht o.type)
          have e : (#[x] : Array Operand).map a.eval = #[a.eval x] := by simp
          rw [exec_builtin hop, e]; exact this
        · cases h
      | max =>
        simp only [stepV] at h
        split at h
        · rename_i u u' us hu
          obtain ⟨x, xs, hat, hl, hx, hr⟩ := evs_slots R hu
          have e : (args.map a.eval).toList = a.eval x :: xs.map a.eval := by simp [hat]
          have : ∃ c, (Builtin.max_ argTypes o.type (args.map a.eval)).run P w = .ok c w ∧ AVR w g s.os v c := by
            simp only [Builtin.max_, e]
            exact foldA_rel max2_rel max2_nf (u' :: us) _ u v _ h hl hr (.inl (by simp)) hx
          have := wrap _ this
          rw [exec_builtin hop]; exact this
        · cases h
      | min =>
        simp only [stepV] at h
        split at h
        · rename_i u u' us hu
          obtain ⟨x, xs, hat, hl, hx, hr⟩ := evs_slots R hu
          have e : (args.map a.eval).toList = a.eval x :: xs.map a.eval := by simp [hat]
          have : ∃ c, (Builtin.min_ argTypes o.type (args.map a.eval)).run P w = .ok c w ∧ AVR w g s.os v c := by
            simp only [Builtin.min_, e]
            exact foldA_rel min2_rel min2_nf (u' :: us) _ u v _ h hl hr (.inl (by simp)) hx
          have := wrap _ this
          rw [exec_builtin hop]; exact this
        · cases h
      | _ => simp [stepV] at h
    | _ => simp [stepV] at h
  | _ => rw [hop] at h; simp [stepV] at h
end
end Go.Am
