/- A program logic over canonical heaps, any program: part 1 of 4. Conditions: none; each theorem bears its own. -/
import Derived.AtR
import GoSem.Dispatch
import Derived.Laws.Externs
/-! ## The canonical instructions, what each does, and how an operation of the model becomes one. -/
namespace Go.Cn
open Go

inductive CI where
  | mov (x : Operand)
  | asg (x : Operand)
  | pick (c a b : Operand)
  | bin (op : BinOp) (x y : Operand)
  | beq (neg : Bool) (x y : Operand)
  | nileq (neg : Bool) (k : Nat) (x : Operand)
  | un (op : UnOp) (x : Operand)
  | conv (k : IntKind) (x : Operand)
  | part (x : Operand) (off : Nat) (n : Option Nat)
  | aidx (x i : Operand) (len es : Nat) (agg : Bool)
  | sidx (x i : Operand)
  | ext (x : Operand) (i : Nat)
  | build (zero : List Value) (ps : List (Nat × Nat × Operand))
  | nilchk (x : Operand)
  | fadr (x : Operand) (off : Nat)
  | iadrS (x i : Operand) (es : Nat)
  | iadrA (x i : Operand) (len es : Nat)
  | slcStr (x : Operand) (lo hi : Option Operand)
  | slcS (x : Operand) (lo hi mx : Option Operand) (es : Nat)
  | mkfn (f : FuncId) (first captured : List Operand)
  | lenS (x : Operand)
  | lenL (x : Operand)
  | mnmx (mx : Bool) (x y : Operand)
  | xib (x c : Operand)
  | ld (x : Operand) (n : Option Nat)
  | lenM (x : Operand)
  | lkp (kk : Nat) (x k : Operand) (zero : Value) (ok : Bool)
  | b2s (x : Operand)
  | new (zero : List Value) (el : TypeId)
  | box (x : Operand) (n : Nat) (el : TypeId)
  | bslc (len es : Nat) (zero : List Value) (ps : List (Nat × Nat × Operand)) (el : TypeId)
  | mksl (zero : List Value) (bytes : Nat) (l c : Operand) (el : TypeId)
  | mkmap
  | s2b (x : Operand) (el : TypeId)
  | st (x v : Operand) (n : Nat)
  | app (es bytes : Nat) (zero : List Value) (x y : Operand) (el : TypeId)
  | cpy (es : Nat) (x y : Operand)
  | clr (zero : List Value) (x : Operand)
  | mup (kk : Nat) (m k v : Operand)
  | del (kk : Nat) (m k : Operand)
  | rng (x : Operand)
  | nxt (x : Operand)
  | entry (x : Operand)
  | usd (x : Operand)
  | ustr (x n : Operand) (el : TypeId)
  | call (f : FuncId) (args : List Operand)
  | callv (f : Operand) (args : List Operand)
  | bad

/-- One operation of a region: its place, what it does, where to, under which guard, and the addresses of reads that may be pending while it acts. -/
structure CE where
  i : Nat
  ci : CI
  dst : Option Tmp
  guard : Option (Option Tmp × Bool)
  pend : List Operand

inductive CCode where
  | skip
  | reg (l : List CE)
  | seq (a b : CCode)
  | cond (x : Operand) (a b : CCode)
  | block (id : Nat) (c : CCode)
  | loop (c : CCode)
  | rangeFunc (f : Operand) (ps : Array Tmp) (a b : CCode)
  | exit (id : Nat)
  | scope (c : CCode)
  | label (l : Nat)
  | goto (l : Nat)
  | ret
  | bad

/-! ### values without addresses -/
def flat : Value → Bool
  | .bool _ | .int _ _ | .string _ | .pointer none | .slice none 0 0 | .map none | .nilFunc | .nilIface => true
  | .func (.func _) fi ca => fi.size == 0 && ca.size == 0
  | _ => false
def plain : Value → Bool
  | .agg xs | .tuple xs => xs.all flat
  | v => flat v
/-- Values that are keys: no question is asked when two of them are held against each other. -/
def basic : Value → Bool
  | .bool _ | .int _ _ | .string _ => true
  | _ => false


/-! ### what is computed without memory -/
def semPure {α : Type} : Sem α → Option α
  | .pure a => some a
  | _ => none
def cbin (op : BinOp) (a b : Value) : Option Value :=
  match a, b with
  | .int _ _, .int _ _ | .string _, .string _ => semPure (Go.binOp op 0 a b)
  | _, _ => none
/-- Is it nil? k: 0 pointers, 1 slices, 2 maps, 3 functions. -/
def cnil (k : Nat) : Value → Option Bool
  | .pointer a => if k = 0 then some a.isNone else none
  | .slice a _ _ => if k = 1 then some a.isNone else none
  | .map a => if k = 2 then some a.isNone else none
  | .nilFunc => if k = 3 then some true else none
  | .func (.func _) _ _ => if k = 3 then some false else none
  | _ => none
def cun (op : UnOp) (a : Value) : Option Value :=
  match a with
  | .int _ _ | .bool _ => semPure (Op.unary op a)
  | _ => none
def cpart (cs : Array Value) (off : Nat) : Option Nat → Option Value
  | none => cs[off]?
  | some n => some (.agg (cs.extract off (off + n)))
def cfill (cells : Array Value) : List (Nat × Nat × Value) → Option (Array Value)
  | [] => some cells
  | (off, size, v) :: rest =>
    if v.cells.size ≠ size || off + v.cells.size > cells.size then none
    else cfill (v.cells.zipIdx.foldl (fun cs (c, j) => cs.setIfInBounds (off + j) c) cells) rest
def cbound (v : Value) (y : Nat) : Option Nat :=
  match v with
  | .int _ i => if 0 ≤ i ∧ i ≤ y then some i.toNat else none
  | _ => none
def obound (v : Option Value) (y d : Nat) : Option Nat :=
  match v with
  | none => some d
  | some v => cbound v y
/-- A slice whose end is open says how many cells an element has in its address; its capacity is at least what it says. -/
def openOf : Option Addr → Option Nat
  | some a => a.spot
  | none => none
def addOff (a : Option Addr) (n : Nat) : Option Addr := a.map fun x => { x with off := x.off + n }
def shut (a : Option Addr) : Option Addr := a.map fun x => { x with spot := none }
def cslice (v : Value) (lo hi mx : Option Value) (es : Nat) : Option Value :=
  match v with
  | .slice a len k =>
    match mx with
    | some m => do
      let m ← cbound m k
      let h ← (match hi with | some h => cbound h m | none => none)
      let l ← obound lo h 0
      some (.slice (shut (if m = l then a else addOff a (l * es))) (h - l) (m - l))
    | none => do
      let h ← obound hi k len
      let l ← obound lo h 0
      match openOf a with
      | some e => if e = es then some (.slice (addOff a (l * es)) (h - l) (k - l)) else none
      | none => some (.slice (if k = l then a else addOff a (l * es)) (h - l) (k - l))
  | _ => none

def cpure (ρ : Operand → Value) : CI → Option Value
  | .mov x | .asg x => some (ρ x)
  | .pick c a b => match ρ c with | .bool t => some (if t then ρ a else ρ b) | _ => none
  | .bin op x y => cbin op (ρ x) (ρ y)
  | .beq neg x y => match ρ x, ρ y with | .bool a, .bool b => some (.bool (if neg then !(a == b) else a == b)) | _, _ => none
  | .nileq neg k x => (cnil k (ρ x)).map fun b => .bool (if neg then !b else b)
  | .un op x => cun op (ρ x)
  | .conv k x => match ρ x with | .int _ n => some (.int k (k.wrap n)) | _ => none
  | .part x off n => match ρ x with | .agg cs => cpart cs off n | _ => none
  | .aidx x i len es agg => match ρ x, ρ i with
    | .agg cs, .int _ j => if 0 ≤ j ∧ j < len then cpart cs (j.toNat * es) (if agg then some es else none) else none
    | _, _ => none
  | .sidx x i => match ρ x, ρ i with
    | .string s, .int _ j => if 0 ≤ j then (s[j.toNat]?).map fun b => .int .u8 b.toNat else none
    | _, _ => none
  | .ext x i => match ρ x with | .tuple vs => vs[i]? | _ => none
  | .build zero ps => (cfill zero.toArray (ps.map fun (o, s, x) => (o, s, ρ x))).map .agg
  | .nilchk x => match ρ x with
    | .pointer (some a) => some (.pointer (some a))
    | .func (.func f) fi ca => some (.func (.func f) fi ca)
    | _ => none
  | .fadr x off => match ρ x with | .pointer (some a) => some (.pointer (some (a.add off))) | _ => none
  | .iadrS x i es => match ρ x, ρ i with
    | .slice (some a) len _, .int _ j => if 0 ≤ j ∧ j < len then some (.pointer (some ⟨a.block, a.off + j.toNat * es, none⟩)) else none
    | _, _ => none
  | .iadrA x i len es => match ρ x, ρ i with
    | .pointer (some a), .int _ j => if 0 ≤ j ∧ j < len then some (.pointer (some (a.add (j.toNat * es)))) else none
    | _, _ => none
  | .slcStr x lo hi => match ρ x with
    | .string s => do
      let h ← obound (hi.map ρ) s.size s.size
      let l ← obound (lo.map ρ) h 0
      some (.string (s.extract l h))
    | _ => none
  | .slcS x lo hi mx es => cslice (ρ x) (lo.map ρ) (hi.map ρ) (mx.map ρ) es
  | .mkfn f first captured => some (.func (.func f) (first.map ρ).toArray (captured.map ρ).toArray)
  | .lenS x => match ρ x with | .string s => some (goInt s.size) | _ => none
  | .lenL x => match ρ x with | .slice _ n _ => some (goInt n) | _ => none
  | .mnmx mx x y => match ρ x, ρ y with
    | .int k a, .int _ b => some (.int k (if mx then (if b > a then b else a) else (if b < a then b else a)))
    | _, _ => none
  | .xib x c => match ρ x, ρ c with
    | .string s, .int .u8 n => some (.int .i64 (firstIdx s n.toNat.toUInt8))
    | _, _ => none
  | _ => none

/-! ### operands -/
def cev (tm : List Value) : Operand → Value
  | .tmp t => tm.getD t undef
  | .const v => v
  | .global g => .pointer (some ⟨g, 0, none⟩)
  | .func f => .func (.func f) #[] #[]
def opOk (P : Program) : Operand → Bool
  | .tmp _ | .func _ => true
  | .const v => plain v
  | .global g => decide (g < P.globals.size)

/-! ### how an operation becomes an instruction -/
def sizeAt (P : Program) (t : TypeId) : Option Nat := (P.info? t).map (·.size)
def aggAt (P : Program) (t : TypeId) : Option Bool := (P.underlying t).map fun | .struct _ | .array _ _ => true | _ => false
def zeroAt (P : Program) (t : TypeId) : Option Value := (P.info? t).bind (·.zero)
/-- Which nil a type's is. -/
def nilKind : TypeDesc → Option Nat
  | .pointer _ => some 0
  | .slice _ => some 1
  | .map _ _ => some 2
  | .func _ _ _ => some 3
  | _ => none
def isNilConst (k : Nat) : Operand → Bool
  | .const (.pointer none) => k == 0
  | .const (.slice none 0 0) => k == 1
  | .const (.map none) => k == 2
  | .const .nilFunc => k == 3
  | _ => false
def guardB (b : Bool) : Option Unit := if b then some () else none
/-- how many cells a load or a store takes: none: one, as it is. -/
def wide (P : Program) (t : TypeId) : Option (Option Nat) := do
  let a ← aggAt P t
  let n ← sizeAt P t
  if a then some (some n) else some none
def placesS (P : Program) (fs : Array Field) (ps : List (Nat × Operand)) : Option (List (Nat × Nat × Operand)) :=
  ps.mapM fun (i, x) => do
    let f ← fs[i]?
    let n ← sizeAt P f.type
    some (f.offset, n, x)
/-- Which keys a map has: 0 numbers, 1 texts, 2 bools. -/
def keyKind : TypeDesc → Option Nat
  | .int _ => some 0
  | .string => some 1
  | .bool => some 2
  | _ => none
def compOp (P : Program) (o : Oper) : Option CI := do
  guardB (o.op.operands.all (opOk P))
  match o.op with
  | .move x => some (.mov x)
  | .assign x => some (.asg x)
  | .pick c a b => some (.pick c a b)
  | .binOp op t x y _ =>
    match ← P.underlying t with
    | .int _ | .string => some (.bin op x y)
    | .bool => match op with
      | .eql => some (.beq false x y)
      | .neq => some (.beq true x y)
      | _ => none
    | d => do
      let k ← nilKind d
      match op with
      | .eql => if isNilConst k y then some (.nileq false k x) else if isNilConst k x then some (.nileq false k y) else none
      | .neq => if isNilConst k y then some (.nileq true k x) else if isNilConst k x then some (.nileq true k y) else none
      | _ => none
  | .unOp op _ x => some (.un op x)
  | .convert s d x =>
    match ← P.underlying s, ← P.underlying d with
    | .int _, .int k => some (.conv k x)
    | .string, .slice e => do
      match ← P.underlying e with
      | .int .u8 => some (.s2b x e)
      | _ => none
    | .slice e, .string => do
      match ← P.underlying e with
      | .int .u8 => some (.b2s x)
      | _ => none
    | _, _ => none
  | .field t x f =>
    match ← P.underlying t with
    | .struct fs => do
      let f ← fs[f]?
      some (.part x f.offset (← wide P f.type))
    | _ => none
  | .index t x i =>
    match ← P.underlying t with
    | .array len e => do some (.aidx x i len (← sizeAt P e) (← aggAt P e))
    | .string => some (.sidx x i)
    | _ => none
  | .extract x i => some (.ext x i)
  | .build t ps => do
    let z ← zeroAt P t
    match ← P.underlying t with
    | .struct fs => do
      guardB (z.cells.all plain && fs.all fun f => (sizeAt P f.type).isSome)
      some (.build z.cells.toList (← placesS P fs ps.toList))
    | .array _ e => do
      let n ← sizeAt P e
      guardB (z.cells.all plain)
      some (.build z.cells.toList (ps.toList.map fun (i, x) => (i * n, n, x)))
    | _ => none
  | .nilCheck x => some (.nilchk x)
  | .fieldAddr t x f =>
    match ← P.underlying t with
    | .struct fs => do
      let f ← fs[f]?
      guardB ((← sizeAt P f.type) != 0)
      some (.fadr x f.offset)
    | _ => none
  | .indexAddr t x i =>
    match ← P.underlying t with
    | .slice e => do some (.iadrS x i (← sizeAt P e))
    | .array len e => do some (.iadrA x i len (← sizeAt P e))
    | _ => none
  | .slice t x lo hi mx =>
    match ← P.underlying t with
    | .string => do guardB mx.isNone; some (.slcStr x lo hi)
    | .slice e => do
      let n ← sizeAt P e
      guardB (n != 0)
      some (.slcS x lo hi mx n)
    | _ => none
  | .makeFunc fn first captured =>
    match fn with
    | .func f => some (.mkfn f first.toList captured.toList)
    | _ => none
  | .load t x => do some (.ld x (← wide P t))
  | .lookup t x k ok =>
    match ← P.underlying t with
    | .map kt e => do
      let kk ← keyKind (← P.underlying kt)
      let z ← zeroAt P e
      guardB (plain z)
      some (.lkp kk x k z ok)
    | _ => none
  | .alloc e => do
    let z ← zeroAt P e
    guardB (z.cells.all plain)
    some (.new z.cells.toList e)
  | .box e x => do
    some (.box x (← sizeAt P e) e)
  | .buildSlice t len ps =>
    match ← P.underlying t with
    | .slice e => do
      let n ← sizeAt P e
      let z ← zeroAt P e
      guardB (decide (len * n ≤ 65536) && z.cells.all plain && n != 0 && z.cells.size == n)
      some (.bslc len n ((List.range (len * n)).map fun i => z.cells[i % z.cells.size]!) (ps.toList.map fun (i, x) => (i * n, n, x)) e)
    | _ => none
  | .makeSlice t l c =>
    match ← P.underlying t with
    | .slice e => do
      let n ← sizeAt P e
      let z ← zeroAt P e
      let i ← P.info? e
      guardB (z.cells.all plain && n != 0 && z.cells.size == n)
      some (.mksl z.cells.toList i.bytes l c e)
    | _ => none
  | .makeMap _ r => do guardB r.isNone; some .mkmap
  | .store t x v => do some (.st x v (← sizeAt P t))
  | .mapUpdate t m k v | .insert t m k v =>
    match ← P.underlying t with
    | .map kt _ => do
      let kk ← keyKind (← P.underlying kt)
      some (.mup kk m k v)
    | _ => none
  | .range t x =>
    match ← P.underlying t with
    | .map _ _ => some (.rng x)
    | _ => none
  | .next x b => do guardB (!b); some (.nxt x)
  | .entry x => some (.entry x)
  | .call c =>
    match c.callee with
    | .value (.func f) =>
      match P.funcs[f]? with
      | some fn =>
        if fn.body.isSome then (if fn.name == "runtime.NumGoroutine" then none else some (.call f c.args.toList))
        else if fn.name == "internal/bytealg.IndexByteString" && fn.origin == "" then
          match c.args.toList with
          | [x, y] => some (.xib x y)
          | _ => none
        else none
      | none => none
    | .value f => some (.callv f c.args.toList)
    | .invoke _ _ => none
    | .builtin b =>
      match b, c.args.toList with
      | .len, [x] => do
        match ← (c.argTypes[0]?).bind P.underlying with
        | .string => some (.lenS x)
        | .slice _ => some (.lenL x)
        | .map _ _ => some (.lenM x)
        | _ => none
      | .append, [x, y] => do
        let t ← c.argTypes[0]?
        match ← P.underlying t with
        | .slice e => do
          let n ← sizeAt P e
          let i ← P.info? e
          let z ← zeroAt P e
          guardB (decide (c.argTypes.size = 2) && n != 0 && decide (i.bytes ≤ 4096) && decide (0 < i.bytes) && z.cells.all plain && z.cells.size == n)
          match ← (c.argTypes[1]?).bind P.underlying with
          | .slice _ | .string => some (.app n i.bytes z.cells.toList x y e)
          | _ => none
        | _ => none
      | .copy, [x, y] => do
        let t ← c.argTypes[0]?
        match ← P.underlying t with
        | .slice e => do some (.cpy (← sizeAt P e) x y)
        | _ => none
      | .delete, [m, k] => do
        let t ← c.argTypes[0]?
        match ← P.underlying t with
        | .map kt _ => do
          let kk ← keyKind (← P.underlying kt)
          some (.del kk m k)
        | _ => none
      | .min, [x, y] => some (.mnmx false x y)
      | .max, [x, y] => some (.mnmx true x y)
      | .unsafeSliceData, [x] => some (.usd x)
      | .unsafeString, [x, y] => do
        let t ← c.argTypes[0]?
        match ← P.underlying t with
        | .pointer e => do
          guardB ((← sizeAt P e) == 1)
          some (.ustr x y e)
        | _ => none
      | .clear, [x] => do
        let t ← c.argTypes[0]?
        match ← P.underlying t with
        | .slice e => do
          let z ← zeroAt P e
          guardB (z.cells.all plain)
          some (.clr z.cells.toList x)
        | _ => none
      | _, _ => none
  | _ => none

def CI.isEff : CI → Bool
  | .asg _ | .st .. | .app .. | .cpy .. | .clr .. | .mup .. | .del .. | .rng _ | .nxt _ | .entry _ | .usd _ | .ustr .. | .call .. | .callv .. | .bad => true
  | _ => false
/-- What an instruction that doesn't act looks at. -/
def CI.uses : CI → List Operand
  | .mov x | .asg x | .nileq _ _ x | .un _ x | .conv _ x | .part x _ _ | .ext x _ | .nilchk x | .fadr x _ | .lenS x | .lenL x | .ld x _ | .lenM x | .b2s x | .box x _ _ | .s2b x _ => [x]
  | .pick c a b => [c, a, b]
  | .bin _ x y | .beq _ x y | .aidx x y _ _ _ | .sidx x y | .iadrS x y _ | .iadrA x y _ _ | .mnmx _ x y | .xib x y | .lkp _ x y _ _ | .mksl _ _ x y _ => [x, y]
  | .build _ ps | .bslc _ _ _ ps _ => ps.map (·.2.2)
  | .slcStr x lo hi => x :: (lo.toList ++ hi.toList)
  | .slcS x lo hi mx _ => x :: (lo.toList ++ hi.toList ++ mx.toList)
  | .mkfn _ fi ca => fi ++ ca
  | _ => []
/-- the address, the map, the slice that an instruction reads. -/
def CI.reads : CI → List Operand
  | .ld x _ | .lenM x | .lkp _ x _ _ _ | .b2s x => [x]
  | _ => []
end Go.Cn
namespace Go.Cn
open Go
/-! ### regions -/
def tmpsOf (xs : List Operand) : List Tmp := xs.filterMap fun | .tmp t => some t | _ => none
/-- The slots that an operation looks at. -/
def looks (ops : Array Oper) (o : Oper) : List Tmp :=
  tmpsOf o.op.operands.toList ++ (match o.guard with | some (j, _) => ((ops[j]?).bind (·.dst)).toList | none => [])
def anc (bf : Array Nat) (j i : Nat) : Bool := (bf.getD i 0).testBit j
def guardOf (ops : Array Oper) (o : Oper) : Option (Option Tmp × Bool) := o.guard.map fun (j, b) => ((ops[j]?).bind (·.dst), b)
/-- An order in which what doesn't act comes as early as it can. -/
def order (ops : Array Oper) (effs : Array Bool) : Nat → Nat → List Nat
  | 0, _ => []
  | n + 1, listed =>
    let ready := (List.range ops.size).filter fun i => !listed.testBit i && ((ops[i]?).map fun o => o.after.all fun e => !Region.binds .any e || listed.testBit e.on).getD false
    match ready.find? fun i => !(effs.getD i true) with
    | some i => i :: order ops effs n (listed ||| 2 ^ i)
    | none => match ready with
      | i :: _ => i :: order ops effs n (listed ||| 2 ^ i)
      | [] => []
def ceAt (ops : Array Oper) (cis : Array CI) (bf : Array Nat) (ahead : List Nat) (i : Nat) : Option CE := do
  let o ← ops[i]?
  let ci ← cis[i]?
  let pend := if ci.isEff then ahead.flatMap fun j => match cis[j]? with | some c => if !c.isEff && !anc bf j i then c.reads else [] | none => [] else []
  some { i, ci, dst := o.dst, guard := guardOf ops o, pend }
def ces (ops : Array Oper) (cis : Array CI) (bf : Array Nat) : List Nat → List Nat → Option (List CE)
  | _, [] => some []
  | ahead, i :: rest => do
    let e ← ceAt ops cis bf ahead i
    let l ← ces ops cis bf (ahead ++ [i]) rest
    some (e :: l)
def dstIs (e : CE) (t : Tmp) : Bool := match e.dst with | some d => d == t | none => false
/-- The slots that an entry looks at. -/
def useOf (ops : Array Oper) (e : CE) : List Tmp := looks ops (ops.getD e.i default) ++ tmpsOf e.ci.uses
/-- e stands ahead of q: may q act, whenever it is free to, with e pending? -/
def pairOk (ops : Array Oper) (bf : Array Nat) (e q : CE) : Bool :=
  let le := useOf ops e
  let lq := useOf ops q
  let before := anc bf e.i q.i
  if before then (e.ci.isEff || (match q.dst with | some d => !(le.contains d || dstIs e d) || q.ci.isEff | none => true))
  else !e.ci.isEff &&
    (match q.dst with | some d => !(le.contains d || dstIs e d) | none => true) &&
    (match e.dst with | some d => !lq.contains d | none => true)
def pairsOk (ops : Array Oper) (bf : Array Nat) : List CE → Bool
  | [] => true
  | e :: l => l.all (pairOk ops bf e) && pairsOk ops bf l
def extOk (md : Region.Mode) (ops : Array Oper) : List Nat → List Nat → Bool
  | done, [] => (List.range ops.size).all fun i => done.contains i
  | done, i :: rest => decide (i < ops.size) && !done.contains i && ((ops[i]?).map fun o => o.after.all fun e => !Region.binds md e || done.contains e.on).getD false && extOk md ops (i :: done) rest
def edgesOk (ops : Array Oper) : Bool := (List.range ops.size).all fun i => ((ops[i]?).map fun o => o.after.all fun e => !Region.binds .any e || decide (e.on < i)).getD false
def drawOk (ops : Array Oper) (bf : Array Nat) (l : List CE) : Bool :=
  edgesOk ops && (l.all fun e => match e.dst with | some d => !(useOf ops e).contains d | none => true) && extOk .any ops [] (l.map (·.i)) && pairsOk ops bf l &&
  extOk .any ops [] (List.range ops.size) && extOk .text ops [] (List.range ops.size) && extOk .gc ops [] (Region.linearise .gc ops 0)
def compRegion (P : Program) (ops : Array Oper) (draw : Bool) : Option (List CE) := do
  let cis := ops.map fun o => (compOp P o).getD .bad
  if draw then do
    let bf := Region.before ops
    let l ← ces ops cis bf [] (order ops (cis.map CI.isEff) ops.size 0)
    guardB (drawOk ops bf l)
    some l
  else (ces ops cis #[] [] (List.range ops.size)).map fun l => l.map fun e => { e with pend := [] }
def comp (P : Program) : Code → Option CCode
  | .skip => some .skip
  | .region _ ops draw => (compRegion P ops draw).map .reg
  | .seq a b => do some (.seq (← comp P a) (← comp P b))
  | .cond x a b => do guardB (opOk P x); some (.cond x (← comp P a) (← comp P b))
  | .block id c => do some (.block id (← comp P c))
  | .loop c => do some (.loop (← comp P c))
  | .rangeFunc f ps a b => do guardB (opOk P f); some (.rangeFunc f ps (← comp P a) (← comp P b))
  | .exit id => some (.exit id)
  | .scope c => do some (.scope (← comp P c))
  | .label l => some (.label l)
  | .goto l => some (.goto l)
  | .ret => some .ret
  | .refuse _ => some .bad
inductive CRes where
  | tmp (t : Tmp)
  | cell (a : Tmp) (n : Option Nat)
structure CFun where
  ntmps : Nat
  results : List CRes
  body : CCode
def compFun (P : Program) (fn : Func) : Option CFun := do
  let c ← fn.body
  let body ← comp P c
  let results ← fn.results.toList.mapM fun
    | .tmp t => some (CRes.tmp t)
    | .cell a t => do some (CRes.cell a (← wide P t))
  some { ntmps := fn.ntmps, results, body }
end Go.Cn
/-! ## The canonical heaps of this proof: finite maps from names to objects; values; how they lie in a world. -/
namespace Go.Cn
open Go

/-! ### finite maps from numbers, by binary digits -/
inductive T (α : Type) where
  | leaf
  | node (v : Option α) (l r : T α)

namespace T
variable {α : Type}
def get : T α → Nat → Option α
  | .leaf, _ => none
  | .node v l r, n => if n = 0 then v else if n % 2 = 1 then l.get (n / 2) else r.get (n / 2 - 1)
def val : T α → Option α
  | .leaf => none
  | .node v _ _ => v
def lft : T α → T α
  | .leaf => .leaf
  | .node _ l _ => l
def rgt : T α → T α
  | .leaf => .leaf
  | .node _ _ r => r
def setF : Nat → T α → Nat → α → T α
  | 0, t, _, _ => t
  | k + 1, t, n, x =>
    if n = 0 then .node (some x) t.lft t.rgt
    else if n % 2 = 1 then .node t.val (setF k t.lft (n / 2) x) t.rgt
    else .node t.val t.lft (setF k t.rgt (n / 2 - 1) x)
def set (t : T α) (n : Nat) (x : α) : T α := setF (n + 1) t n x
theorem get_parts (t : T α) (n : Nat) : t.get n = if n = 0 then t.val else if n % 2 = 1 then t.lft.get (n / 2) else t.rgt.get (n / 2 - 1) := by
  cases t with
  | leaf => simp [get, val, lft, rgt]
  | node v l r => rfl
theorem get_setF (k : Nat) : ∀ (t : T α) (n m : Nat) (x : α), n < k → (setF k t n x).get m = if m = n then some x else t.get m := by
  induction k with
  | zero => intro t n m x h; omega
  | succ k ih =>
    intro t n m x h
    unfold setF
    by_cases h0 : n = 0
    · simp only [h0, if_true]
      rw [get_parts t m]
      simp only [get]
      by_cases m0 : m = 0 <;> simp [m0]
    · simp only [h0, if_false]
      by_cases h1 : n % 2 = 1
      · simp only [h1, if_true]
        rw [get_parts t m]
        simp only [get]
        by_cases m0 : m = 0
        · have : ¬ m = n := by omega
          simp only [m0, if_true]
          simp only [m0] at this
          simp only [this, if_false]
        · simp only [m0, if_false]
          by_cases m1 : m % 2 = 1
          · simp only [m1, if_true]
            rw [ih _ _ _ _ (by omega)]
            by_cases e : m = n
            · simp [e]
            · have : ¬ m / 2 = n / 2 := by omega
              simp [e, this]
          · have : ¬ m = n := by intro e; rw [e] at m1; exact m1 h1
            simp only [m1, this, if_false]
      · simp only [h1, if_false]
        rw [get_parts t m]
        simp only [get]
        by_cases m0 : m = 0
        · have : ¬ m = n := by omega
          simp only [m0, if_true]
          simp only [m0] at this
          simp only [this, if_false]
        · simp only [m0, if_false]
          by_cases m1 : m % 2 = 1
          · have : ¬ m = n := by intro e; rw [e] at m1; exact h1 m1
            simp only [m1, this, if_true, if_false]
          · simp only [m1, if_false]
            rw [ih _ _ _ _ (by omega)]
            by_cases e : m = n
            · simp [e]
            · have : ¬ m / 2 - 1 = n / 2 - 1 := by omega
              simp [e, this]
theorem get_set (t : T α) (n m : Nat) (x : α) : (t.set n x).get m = if m = n then some x else t.get m := get_setF _ _ _ _ _ (by omega)
end T

/-! ### the ways a piece of code is left -/
inductive Jump where
  | exit (id : Nat)
  | goto (l : Nat)
  | ret
  deriving DecidableEq
def Jump.code : Jump → Code
  | .exit id => .exit id
  | .goto l => .goto l
  | .ret => .ret
/-- How a piece of code is left: none: at its end. -/
abbrev Ex := Option Jump

/-! ### objects of a canonical heap -/
/-- An entry of a map. -/
structure CEnt where
  key : Value
  val : Value
  born : Nat
/-- What is known of a block: its elements' type; does the object take all of it? -/
structure BT where
  el : TypeId
  whole : Bool
inductive CObj where
  | blk (cells : List Value) (ro : Bool) (t : BT)
  | map (es : List CEnt) (ck : Nat)
  | loop (st : LoopState) (pend : Ex) (tm : List Value) (params : Array Tmp) (assign body : CCode)
  | iter (m : Option Nat) (since : Nat) (seen : Array Nat) (last : Nat)
  | dead

structure CH where
  t : T (Nat × CObj)
  next : Nat
  clk : Nat

namespace CH
def get (H : CH) (n : Nat) : Option CObj := (H.t.get n).map (·.2)
def set (H : CH) (n : Nat) (o : CObj) : CH := { H with t := H.t.set n (H.clk + 1, o), clk := H.clk + 1 }
/-- A new object, under the next name. -/
def add (H : CH) (o : CObj) : CH := { t := H.t.set H.next (H.clk + 1, o), next := H.next + 1, clk := H.clk + 1 }
theorem get_set (H : CH) (n m : Nat) (o : CObj) : (H.set n o).get m = if m = n then some o else H.get m := by
  simp only [get, set, T.get_set]; split <;> rfl
theorem get_add (H : CH) (m : Nat) (o : CObj) : (H.add o).get m = if m = H.next then some o else H.get m := by
  simp only [get, add, T.get_set]; split <;> rfl
theorem next_set (H : CH) (n : Nat) (o : CObj) : (H.set n o).next = H.next := rfl
theorem next_add (H : CH) (o : CObj) : (H.add o).next = H.next + 1 := rfl
end CH

/-! ### where a canonical object lies -/
structure Loc where
  b : Nat      -- the block
  sh : Nat     -- where its first cell lies there
  sz : Nat     -- how many cells the block has
abbrev Emb := Nat → Option Loc

/-- Values: the canonical one, the world's. -/
inductive VR (φ : Emb) : Value → Value → Prop where
  | bool (b : Bool) : VR φ (.bool b) (.bool b)
  | int (k : IntKind) (n : Int) : VR φ (.int k n) (.int k n)
  | string (s : ByteArray) : VR φ (.string s) (.string s)
  | pnil : VR φ (.pointer none) (.pointer none)
  | ptr {n off : Nat} {L : Loc} (h : φ n = some L) : VR φ (.pointer (some ⟨n, off, none⟩)) (.pointer (some ⟨L.b, L.sh + off, none⟩))
  | snil : VR φ (.slice none 0 0) (.slice none 0 0)
  | slc {n off len cap : Nat} {L : Loc} (h : φ n = some L) (hl : len ≤ cap) : VR φ (.slice (some ⟨n, off, none⟩) len cap) (.slice (some ⟨L.b, L.sh + off, none⟩) len cap)
  | slo {n off es len lb cap' : Nat} {L : Loc} (h : φ n = some L) (hl : len ≤ lb) (hc : lb ≤ cap') (hz : L.sh + off + cap' * es ≤ L.sz) :
      VR φ (.slice (some ⟨n, off, some es⟩) len lb) (.slice (some ⟨L.b, L.sh + off, none⟩) len cap')
  | slz {x a' : Addr} (h : x.spot = none ∨ φ x.block ≠ none) : VR φ (.slice (some x) 0 0) (.slice (some a') 0 0)
  | mnil : VR φ (.map none) (.map none)
  | map {n : Nat} {L : Loc} (h : φ n = some L) : VR φ (.map (some n)) (.map (some L.b))
  | func {f : FuncId} {fi ca fi' ca' : Array Value} (h1 : fi.size = fi'.size) (h2 : ca.size = ca'.size)
      (v1 : ∀ i (h : i < fi.size), VR φ fi[i] (fi'[i]'(h1 ▸ h))) (v2 : ∀ i (h : i < ca.size), VR φ ca[i] (ca'[i]'(h2 ▸ h))) :
      VR φ (.func (.func f) fi ca) (.func (.func f) fi' ca')
  | yield {n : Nat} {L : Loc} (h : φ n = some L) : VR φ (.func (.yield n) #[] #[]) (.func (.yield L.b) #[] #[])
  | fnil : VR φ .nilFunc .nilFunc
  | inil : VR φ .nilIface .nilIface
  | agg {xs ys : Array Value} (h : xs.size = ys.size) (v : ∀ i (hi : i < xs.size), VR φ xs[i] (ys[i]'(h ▸ hi))) : VR φ (.agg xs) (.agg ys)
  | tuple {xs ys : Array Value} (h : xs.size = ys.size) (v : ∀ i (hi : i < xs.size), VR φ xs[i] (ys[i]'(h ▸ hi))) : VR φ (.tuple xs) (.tuple ys)

/-- One embedding goes on another. -/
def Emb.le (φ ψ : Emb) : Prop := ∀ n L, φ n = some L → ψ n = some L
theorem Emb.le_refl (φ : Emb) : φ.le φ := fun _ _ h => h
theorem Emb.le_trans {φ ψ χ : Emb} (h : φ.le ψ) (k : ψ.le χ) : φ.le χ := fun n L e => k n L (h n L e)

theorem VR.mono {φ ψ : Emb} (h : φ.le ψ) {v v' : Value} (r : VR φ v v') : VR ψ v v' := by
  induction r with
  | bool b => exact .bool b
  | int k n => exact .int k n
  | string s => exact .string s
  | pnil => exact .pnil
  | ptr e => exact .ptr (h _ _ e)
  | snil => exact .snil
  | slc e hl => exact .slc (h _ _ e) hl
  | slo e hl hc hz => exact .slo (h _ _ e) hl hc hz
  | @slz x a' h0 => exact .slz (h0.imp id fun e => by
      cases e2 : φ x.block with
      | none => exact absurd e2 e
      | some L => rw [h _ _ e2]; simp)
  | mnil => exact .mnil
  | map e => exact .map (h _ _ e)
  | func h1 h2 _ _ i1 i2 => exact .func h1 h2 i1 i2
  | yield e => exact .yield (h _ _ e)
  | fnil => exact .fnil
  | inil => exact .inil
  | agg e _ i => exact .agg e i
  | tuple e _ i => exact .tuple e i

theorem VR.undef (φ : Emb) : VR φ undef undef := .tuple rfl (fun i h => absurd h (by simp))

theorem VR.flat_eq {φ : Emb} {v v' : Value} (h : flat v = true) (r : VR φ v v') : v' = v := by
  cases r <;> first | rfl | (simp [flat] at h)
  case func f fi ca fi' ca' h1 h2 v1 v2 =>
    obtain ⟨e1, e2⟩ := h
    have a1 : fi' = #[] := Array.eq_empty_of_size_eq_zero (by rw [← h1, e1]; rfl)
    have a2 : ca' = #[] := Array.eq_empty_of_size_eq_zero (by rw [← h2, e2]; rfl)
    rw [a1, a2, e1, e2]
theorem VR.flat_refl {φ : Emb} {v : Value} (h : flat v = true) : VR φ v v := by
  cases v <;> simp [flat] at h
  case bool b => exact .bool b
  case int k n => exact .int k n
  case string s => exact .string s
  case pointer a => cases a <;> simp_all; exact .pnil
  case slice a l c =>
    split at h <;> simp_all
    exact .snil
  case map r => cases r <;> simp_all; exact .mnil
  case func fn fi ca =>
    split at h <;> simp_all
    exact .func rfl rfl (fun i hi => absurd hi (by simp)) (fun i hi => absurd hi (by simp))
  case nilFunc => exact .fnil
  case nilIface => exact .inil
theorem VR.plain_eq {φ : Emb} {v v' : Value} (h : plain v = true) (r : VR φ v v') : v' = v := by
  cases r with
  | @agg xs ys e i =>
    have : ys = xs := Array.ext e.symm fun k h1 h2 => VR.flat_eq (by have := Array.all_eq_true.1 h k h2; exact this) (i k h2)
    rw [this]
  | @tuple xs ys e i =>
    have : ys = xs := Array.ext e.symm fun k h1 h2 => VR.flat_eq (by have := Array.all_eq_true.1 h k h2; exact this) (i k h2)
    rw [this]
  | bool b => rfl
  | int k n => rfl
  | string s => rfl
  | pnil => rfl
  | ptr e => simp [plain, flat] at h
  | snil => rfl
  | slc e hl => simp [plain, flat] at h
  | slo e hl hc hz => simp [plain, flat] at h
  | slz _ => simp [plain, flat] at h
  | mnil => rfl
  | map e => simp [plain, flat] at h
  | func h1 h2 v1 v2 => exact VR.flat_eq h (.func h1 h2 v1 v2)
  | yield e => simp [plain, flat] at h
  | fnil => rfl
  | inil => rfl
theorem VR.plain_refl {φ : Emb} {v : Value} (h : plain v = true) : VR φ v v := by
  cases v with
  | agg xs => exact .agg rfl fun i hi => VR.flat_refl (Array.all_eq_true.1 h i hi)
  | tuple xs => exact .tuple rfl fun i hi => VR.flat_refl (Array.all_eq_true.1 h i hi)
  | _ => exact VR.flat_refl h

/-- Lists of values. -/
def VRs (φ : Emb) (xs : List Value) (ys : Array Value) : Prop := xs.length = ys.size ∧ ∀ i, VR φ (xs.getD i undef) (ys.getD i undef)
theorem VRs.mono {φ ψ : Emb} (h : φ.le ψ) {xs : List Value} {ys : Array Value} (r : VRs φ xs ys) : VRs ψ xs ys := ⟨r.1, fun i => (r.2 i).mono h⟩
end Go.Cn
/-! ## How a canonical heap lies in a world; what a run may turn. -/
namespace Go.Cn
open Go

def CObj.fixed : CObj → Bool
  | .dead | .blk _ true _ => true
  | _ => false
def CObj.isLoop : CObj → Bool
  | .loop .. => true
  | _ => false
def CObj.isDead : CObj → Bool
  | .dead => true
  | _ => false

def FrzFree (c : Array Value) (fz : Nat × Nat) : Prop := ∀ i, i < c.size → ¬ (fz.1 ≤ i ∧ i < fz.2)
/-- The entries of a map. -/
structure MapAt (φ : Emb) (es : List CEnt) (en : Array MapEntry) : Prop where
  size : es.length = en.size
  ent : ∀ (i : Nat) (x : CEnt), es[i]? = some x → ∃ e : MapEntry, en[i]? = some e ∧ e.key = x.key ∧ VR φ x.val e.val ∧ e.born = x.born ∧ basic x.key = true
def CellsAt (φ : Emb) (cells : List Value) (c : Array Value) (sh : Nat) : Prop :=
  sh + cells.length ≤ c.size ∧ ∀ i v, cells[i]? = some v → ∃ v', c[sh + i]? = some v' ∧ VR φ v v'
def ObjAt (P : Program) (φ : Emb) (w : World) (L : Loc) : CObj → Prop
  | .blk cells ro t => ∃ c el fz, w.heap[L.b]? = some (.cells c el fz) ∧ L.sz = c.size ∧ ((ro = false → FrzFree c fz) ∧ el = t.el ∧ (t.whole = true → L.sh = 0 ∧ c.size = cells.length)) ∧ CellsAt φ cells c L.sh
  | .map es ck => ∃ en : Array MapEntry, w.heap[L.b]? = some (.map en ck) ∧ MapAt φ es en
  | .loop st pend tm ps ca cb => ∃ r : Loop, w.heap[L.b]? = some (.loop r) ∧ r.state = st ∧ r.pending = pend.map Jump.code ∧ VRs φ tm r.tmps ∧ r.params = ps ∧ comp P r.assign = some ca ∧ comp P r.body = some cb
  | .iter none since seen last => L.sh = 0 ∧ w.heap[L.b]? = some (.mapIter none since seen last)
  | .iter (some m) since seen last => L.sh = 0 ∧ ∃ Lm : Loc, φ m = some Lm ∧ w.heap[L.b]? = some (.mapIter (some Lm.b) since seen last)
  | .dead => True

structure Sim (P : Program) (φ : Emb) (H : CH) (w : World) : Prop where
  dom : ∀ n L, φ n = some L → n < H.next ∧ L.b < w.heap.size
  inj : ∀ n m L M o o', φ n = some L → φ m = some M → H.get n = some o → H.get m = some o' → o.isDead = false → o'.isDead = false → L.b = M.b → n = m
  obj : ∀ n L o, φ n = some L → H.get n = some o → ObjAt P φ w L o
  fin : ∀ n, H.next ≤ n → H.get n = none

def NotIn (φ : Emb) (r : Nat) : Prop := ∀ n L, φ n = some L → L.b ≠ r
def Free (φ : Emb) (H : CH) (r : Nat) : Prop := ∀ n L o, φ n = some L → L.b = r → H.get n = some o → o.fixed = true

structure Next (φ : Emb) (H : CH) (w : World) (φ' : Emb) (H' : CH) (w' : World) : Prop where
  le : φ.le φ'
  nx : H.next ≤ H'.next
  sz : w.heap.size ≤ w'.heap.size
  news : ∀ n L, φ n = none → φ' n = some L → H.next ≤ n
  olds : ∀ n, n < H.next → φ n = none → H'.get n = H.get n
  loops : ∀ n o, φ n ≠ none → H.get n = some o → o.isLoop = true → ∃ o', H'.get n = some o' ∧ o'.isLoop = true
  notin : ∀ r, r < w.heap.size → NotIn φ r → NotIn φ' r
  free : ∀ r, r < w.heap.size → Free φ H r → Free φ' H' r
  same : ∀ r, r < w.heap.size → Free φ H r → w'.heap[r]? = w.heap[r]?
  os : w'.os = w.os
  tape : w'.tape = w.tape
  out : w'.output = w.output

theorem Next.refl (φ : Emb) (H : CH) (w : World) : Next φ H w φ H w :=
  ⟨φ.le_refl, Nat.le_refl _, Nat.le_refl _, fun n L h k => (by rw [h] at k; cases k), fun _ _ _ => rfl, fun _ o _ h k => ⟨o, h, k⟩, fun _ _ h => h, fun _ _ h => h, fun _ _ _ => rfl, rfl, rfl, rfl⟩
theorem Next.trans {φ ψ χ : Emb} {H I J : CH} {u v w : World} (h : Next φ H u ψ I v) (k : Next ψ I v χ J w) : Next φ H u χ J w where
  le := Emb.le_trans h.le k.le
  nx := Nat.le_trans h.nx k.nx
  sz := Nat.le_trans h.sz k.sz
  news := fun n L a b => by
    cases e : ψ n with
    | none => exact Nat.le_trans h.nx (k.news n L e b)
    | some M => exact h.news n M a e
  olds := fun n a b => by
    have : ψ n = none := by
      cases e : ψ n with
      | none => rfl
      | some M => exact absurd (h.news n M b e) (by omega)
    rw [k.olds n (Nat.lt_of_lt_of_le a h.nx) this, h.olds n a b]
  loops := fun n o a b c => by
    obtain ⟨o', h1, h2⟩ := h.loops n o a b c
    refine k.loops n o' ?_ h1 h2
    cases e : φ n with
    | none => exact absurd e a
    | some L => rw [h.le n L e]; simp
  notin := fun r a b => k.notin r (Nat.lt_of_lt_of_le a h.sz) (h.notin r a b)
  free := fun r a b => k.free r (Nat.lt_of_lt_of_le a h.sz) (h.free r a b)
  same := fun r a b => (k.same r (Nat.lt_of_lt_of_le a h.sz) (h.free r a b)).trans (h.same r a b)
  os := k.os.trans h.os
  tape := k.tape.trans h.tape
  out := k.out.trans h.out

/-- The same memory. -/
def SameMem (w w' : World) : Prop := w'.heap = w.heap ∧ w'.os = w.os ∧ w'.tape = w.tape ∧ w'.output = w.output
theorem SameMem.refl (w : World) : SameMem w w := ⟨rfl, rfl, rfl, rfl⟩

theorem ObjAt.heap {P : Program} {φ : Emb} {w w' : World} {L : Loc} {o : CObj} (e : w'.heap[L.b]? = w.heap[L.b]?) (h : ObjAt P φ w L o) : ObjAt P φ w' L o := by
  unfold ObjAt at *
  cases o with
  | iter m since seen last => cases m <;> (simp only at *; rw [e]; exact h)
  | dead => trivial
  | _ => simp only at *; rw [e]; exact h
theorem MapAt.mono {φ ψ : Emb} (h : φ.le ψ) {es : List CEnt} {en : Array MapEntry} (r : MapAt φ es en) : MapAt ψ es en :=
  ⟨r.size, fun i x e => by obtain ⟨y, a, b, c, d⟩ := r.ent i x e; exact ⟨y, a, b, c.mono h, d⟩⟩
theorem CellsAt.mono {φ ψ : Emb} (h : φ.le ψ) {cells : List Value} {c : Array Value} {sh : Nat} (r : CellsAt φ cells c sh) : CellsAt ψ cells c sh :=
  ⟨r.1, fun i v e => by obtain ⟨x, a, b⟩ := r.2 i v e; exact ⟨x, a, b.mono h⟩⟩
theorem ObjAt.mono {P : Program} {φ ψ : Emb} (h : φ.le ψ) {w : World} {L : Loc} {o : CObj} (r : ObjAt P φ w L o) : ObjAt P ψ w L o := by
  cases o with
  | blk cells ro t => obtain ⟨c, el, fz, b, d, e, f⟩ := r; exact ⟨c, el, fz, b, d, e, f.mono h⟩
  | map es ck => obtain ⟨en, a, b⟩ := r; exact ⟨en, a, b.mono h⟩
  | loop st pend tm ps ca cb => obtain ⟨r, a, b, c, d, e⟩ := r; exact ⟨r, a, b, c, d.mono h, e⟩
  | iter m since seen last =>
    cases m with
    | none => exact r
    | some m => obtain ⟨s0, Lm, a, b⟩ := r; exact ⟨s0, Lm, h _ _ a, b⟩
  | dead => trivial

section moves
variable {P : Program} {φ : Emb} {H : CH} {w w' : World}
/-- The same memory: all stands. -/
theorem Sim.same (s : Sim P φ H w) (m : SameMem w w') : Sim P φ H w' ∧ Next φ H w φ H w' := by
  obtain ⟨e, e1, e2, e3⟩ := m
  refine ⟨⟨fun n L h => (by rw [e]; exact s.dom n L h), s.inj, fun n L o h k => (s.obj n L o h k).heap (by rw [e]), s.fin⟩, ?_⟩
  exact ⟨φ.le_refl, Nat.le_refl _, (by rw [e]; exact Nat.le_refl _), fun n L h k => (by rw [h] at k; cases k), fun _ _ _ => rfl, fun _ o _ h k => ⟨o, h, k⟩, fun _ _ h => h, fun _ _ h => h, fun _ _ _ => (by rw [e]), e1, e2, e3⟩

/-- One mapped object is turned. -/
theorem Sim.turn (s : Sim P φ H w) {n : Nat} {L : Loc} {o o1 : CObj} {ob : Obj} (hn : φ n = some L) (ho : H.get n = some o) (hf : o.fixed = false)
    (hl : o.isLoop = true → o1.isLoop = true) (_ : o1.isDead = false)
    (hw : w'.heap = w.heap.setIfInBounds L.b ob) (he : w'.os = w.os ∧ w'.tape = w.tape ∧ w'.output = w.output)
    (hob : ObjAt P φ w' L o1) : Sim P φ (H.set n o1) w' ∧ Next φ H w φ (H.set n o1) w' := by
  have hne : o.isDead = false := by cases o <;> simp_all [CObj.fixed, CObj.isDead]
  have hs : w'.heap.size = w.heap.size := by rw [hw]; simp
  constructor
  · constructor
    · intro m M hm
      have := s.dom m M hm
      rw [hs, CH.next_set]; exact this
    · intro a b A B x y ha hb hx hy dx dy e
      rw [CH.get_set] at hx hy
      by_cases ea : a = n
      · by_cases eb : b = n
        · rw [ea, eb]
        · rw [if_neg eb] at hy
          subst ea
          exact s.inj _ _ _ _ _ _ hn hb ho hy hne dy (by rw [hn] at ha; cases ha; exact e)
      · rw [if_neg ea] at hx
        by_cases eb : b = n
        · subst eb
          exact s.inj _ _ _ _ _ _ ha hn hx ho dx hne (by rw [hn] at hb; cases hb; exact e)
        · rw [if_neg eb] at hy
          exact s.inj _ _ _ _ _ _ ha hb hx hy dx dy e
    · intro m M x hm hx
      rw [CH.get_set] at hx
      by_cases em : m = n
      · subst em
        rw [if_pos rfl] at hx; cases hx
        rw [hn] at hm; cases hm
        exact hob
      · rw [if_neg em] at hx
        cases hxd : x.isDead with
        | true => cases x <;> simp [CObj.isDead] at hxd; trivial
        | false =>
          refine (s.obj m M x hm hx).heap ?_
          have : M.b ≠ L.b := fun e => em (s.inj _ _ _ _ _ _ hm hn hx ho hxd hne e)
          rw [hw, Array.getElem?_setIfInBounds_ne (Ne.symm this)]
    · intro m hm
      rw [CH.next_set] at hm
      have := (s.dom n L hn).1
      rw [CH.get_set, if_neg (by omega)]
      exact s.fin m hm
  · constructor
    · exact φ.le_refl
    · exact Nat.le_refl _
    · rw [hs]; exact Nat.le_refl _
    · intro m M h k; rw [h] at k; cases k
    · intro m _ hm
      rw [CH.get_set, if_neg]
      intro e; rw [e, hn] at hm; cases hm
    · intro m x _ hx hl'
      rw [CH.get_set]
      by_cases em : m = n
      · subst em; rw [ho] at hx; cases hx; exact ⟨o1, by simp, hl hl'⟩
      · exact ⟨x, by rw [if_neg em]; exact hx, hl'⟩
    · exact fun _ _ h => h
    · intro r _ h m M x hm e hx
      rw [CH.get_set] at hx
      by_cases em : m = n
      · subst em
        rw [hn] at hm; cases hm
        have := h m L o hn e ho
        rw [hf] at this; cases this
      · rw [if_neg em] at hx; exact h m M x hm e hx
    · intro r _ h
      have : L.b ≠ r := by
        intro e
        have := h n L o hn e ho
        rw [hf] at this; cases this
      rw [hw, Array.getElem?_setIfInBounds_ne this]
    · exact he.1
    · exact he.2.1
    · exact he.2.2

/-- φ, and where the next name lies. -/
def Emb.put (φ : Emb) (n : Nat) (L : Loc) : Emb := fun m => if m = n then some L else φ m
theorem Emb.put_same (φ : Emb) (n : Nat) (L : Loc) : φ.put n L n = some L := by simp [Emb.put]
theorem Emb.put_ne (φ : Emb) {n m : Nat} (L : Loc) (h : m ≠ n) : φ.put n L m = φ m := by simp [Emb.put, h]
theorem Emb.put_le {φ : Emb} {n : Nat} (L : Loc) (h : φ n = none) : φ.le (φ.put n L) := fun m M e => by
  rw [Emb.put_ne]; exact e
  intro he; rw [he, h] at e; cases e
theorem Sim.fresh (s : Sim P φ H w) : φ H.next = none := by
  cases e : φ H.next with
  | none => rfl
  | some L => exact absurd (s.dom _ _ e).1 (by omega)

/-- A new object in a new block. -/
theorem Sim.add (s : Sim P φ H w) {sz : Nat} {o : CObj} {ob : Obj}
    (hw : w'.heap = w.heap.push ob) (he : w'.os = w.os ∧ w'.tape = w.tape ∧ w'.output = w.output)
    (hob : ∀ ψ : Emb, φ.le ψ → ∀ u : World, u.heap[w.heap.size]? = some ob → ObjAt P ψ u ⟨w.heap.size, 0, sz⟩ o) :
    Sim P (φ.put H.next ⟨w.heap.size, 0, sz⟩) (H.add o) w' ∧ Next φ H w (φ.put H.next ⟨w.heap.size, 0, sz⟩) (H.add o) w' := by
  have hfr := s.fresh
  have hle := Emb.put_le ⟨w.heap.size, 0, sz⟩ hfr
  have hs : w'.heap.size = w.heap.size + 1 := by rw [hw]; simp
  have hold : ∀ r, r < w.heap.size → w'.heap[r]? = w.heap[r]? := fun r hr => by
    rw [hw, Array.getElem?_push, if_neg (by omega)]
  constructor
  · constructor
    · intro m M hm
      by_cases e : m = H.next
      · subst e; rw [Emb.put_same] at hm; cases hm
        exact ⟨by rw [CH.next_add]; omega, by rw [hs]; exact Nat.lt_succ_self _⟩
      · rw [Emb.put_ne _ _ e] at hm
        have := s.dom m M hm
        rw [CH.next_add, hs]; omega
    · intro a b A B x y ha hb hx hy dx dy e
      rw [CH.get_add] at hx hy
      by_cases ea : a = H.next
      · by_cases eb : b = H.next
        · rw [ea, eb]
        · rw [Emb.put_ne _ _ eb] at hb
          subst ea; rw [Emb.put_same] at ha; cases ha
          have := (s.dom b B hb).2
          simp only at e; omega
      · rw [Emb.put_ne _ _ ea] at ha
        by_cases eb : b = H.next
        · subst eb; rw [Emb.put_same] at hb; cases hb
          have := (s.dom a A ha).2
          simp only at e; omega
        · rw [Emb.put_ne _ _ eb] at hb
          rw [if_neg ea] at hx; rw [if_neg eb] at hy
          exact s.inj _ _ _ _ _ _ ha hb hx hy dx dy e
    · intro m M x hm hx
      rw [CH.get_add] at hx
      by_cases em : m = H.next
      · subst em
        rw [if_pos rfl] at hx; cases hx
        rw [Emb.put_same] at hm; cases hm
        refine hob _ hle _ ?_
        rw [hw, Array.getElem?_push, if_pos rfl]
      · rw [if_neg em] at hx
        rw [Emb.put_ne _ _ em] at hm
        exact ((s.obj m M x hm hx).mono hle).heap (hold _ (s.dom m M hm).2)
    · intro m hm
      rw [CH.next_add] at hm
      rw [CH.get_add, if_neg (by omega)]
      exact s.fin m (by omega)
  · constructor
    · exact hle
    · rw [CH.next_add]; omega
    · rw [hs]; omega
    · intro m M h k
      by_cases em : m = H.next
      · omega
      · rw [Emb.put_ne _ _ em, h] at k; cases k
    · intro m hm _
      rw [CH.get_add, if_neg (by omega)]
    · intro m x hm hx hl
      refine ⟨x, ?_, hl⟩
      rw [CH.get_add, if_neg]
      · exact hx
      · intro e; rw [e] at hm; exact hm hfr
    · intro r hr h m M hm
      by_cases em : m = H.next
      · subst em; rw [Emb.put_same] at hm; cases hm; simp only; omega
      · rw [Emb.put_ne _ _ em] at hm; exact h m M hm
    · intro r hr h m M x hm e hx
      by_cases em : m = H.next
      · subst em; rw [Emb.put_same] at hm; cases hm; simp only at e; omega
      · rw [Emb.put_ne _ _ em] at hm
        rw [CH.get_add, if_neg em] at hx
        exact h m M x hm e hx
    · intro r hr _; exact hold r hr
    · exact he.1
    · exact he.2.1
    · exact he.2.2
end moves
end Go.Cn
/-! ## What a piece of code comes to, over canonical heaps; the rules for what isn't an operation. -/
namespace Go.Cn
open Go

def RoundOk (φ : Emb) (H : CH) (b : Frame) : Prop := ∀ l, b.roundOf = some l → ∃ n L o, φ n = some L ∧ L.b = l ∧ H.get n = some o ∧ o.isLoop = true
def mk (r : Nat) : Deferred := { target := .collected r, args := #[] }
def Marks (φ : Emb) (w : World) (lo : Nat) (ds : List Deferred) : Prop :=
  ∃ rs : List Nat, ds = rs.map mk ∧ rs.Nodup ∧ ∀ r ∈ rs, lo ≤ r ∧ r < w.heap.size ∧ w.heap[r]? = some (.deferred (some [])) ∧ NotIn φ r
/-- Each package variable lies under its own name. -/
def Glob (P : Program) (φ : Emb) : Prop := ∀ g, g < P.globals.size → ∃ sz, φ g = some ⟨g, 0, sz⟩
structure Pre (P : Program) (φ : Emb) (tm : List Value) (H : CH) (b : Frame) (a : Act) (w : World) (lo : Nat) : Prop where
  sim : Sim P φ H w
  glob : Glob P φ
  tr : VRs φ tm a.tmps
  round : RoundOk φ H b
  marks : Marks φ w lo a.defers
  lo : lo ≤ w.heap.size

def Arr (P : Program) (m : Machine) (b : Frame) (k : List Item) (cs : List Frame) : Ex → Act → World → Prop
  | none, a, w => Steps P m (lone (b.atR a k) cs w)
  | some (.exit id), a, w => ∃ k2, exitTo id k2 = exitTo id k ∧ Steps P m (lone (b.atR a (.code (.exit id) :: k2)) cs w)
  | some (.goto l), a, w => ∃ k2, gotoIn l k2 = gotoIn l k ∧ Steps P m (lone (b.atR a (.code (.goto l) :: k2)) cs w)
  | some .ret, a, w => ∃ k2, Steps P m (lone (b.atR a (.code .ret :: k2)) cs w)
theorem Arr.head {P : Program} {m m1 : Machine} {b : Frame} {k : List Item} {cs : List Frame} {e : Ex} {a : Act} {w : World}
    (h : Steps P m m1) (h' : Arr P m1 b k cs e a w) : Arr P m b k cs e a w := by
  cases e with
  | none => exact h.trans h'
  | some j => cases j with
    | exit id => obtain ⟨k2, e, s⟩ := h'; exact ⟨k2, e, h.trans s⟩
    | goto l => obtain ⟨k2, e, s⟩ := h'; exact ⟨k2, e, h.trans s⟩
    | ret => obtain ⟨k2, s⟩ := h'; exact ⟨k2, h.trans s⟩
/-- What stands between is passed by, but for a block, a scope. -/
theorem Arr.pass {P : Program} {m : Machine} {b : Frame} {x : Item} {k : List Item} {cs : List Frame} {j : Jump} {a : Act} {w : World}
    (hx : x.plain = true) (h : Arr P m b (x :: k) cs (some j) a w) : Arr P m b k cs (some j) a w := by
  cases j with
  | exit id => obtain ⟨k2, e, s⟩ := h; exact ⟨k2, by rw [e]; cases x <;> simp_all [exitTo, Item.plain], s⟩
  | goto l => obtain ⟨k2, e, s⟩ := h; exact ⟨k2, by rw [e]; cases x <;> simp_all [gotoIn, Item.plain], s⟩
  | ret => exact h

abbrev Post := Ex → List Value → CH → Prop
/-- From a place of the machine on. -/
def Reach (P : Program) (items : List Item → List Item) (Q : Post) (tm : List Value) (H : CH) : Prop :=
  ∀ (b : Frame) (k : List Item) (cs : List Frame) (φ : Emb) (a : Act) (w : World) (lo : Nat), Pre P φ tm H b a w lo →
    ∃ e tm1 H1 φ1 a1 w1, Q e tm1 H1 ∧ Next φ H w φ1 H1 w1 ∧ Pre P φ1 tm1 H1 b a1 w1 lo ∧ Arr P (lone (b.atR a (items k)) cs w) b k cs e a1 w1
def CW (P : Program) (cc : CCode) (Q : Post) (tm : List Value) (H : CH) : Prop :=
  ∀ c, comp P c = some cc → Reach P (fun k => .code c :: k) Q tm H
/-- At a loop's head, another round ahead. -/
def CWL (P : Program) (cc : CCode) (Q : Post) (tm : List Value) (H : CH) : Prop :=
  ∀ c, comp P c = some cc → Reach P (fun k => .inLoop c :: k) Q tm H

/-- Of which code a compiled code is. -/
def Of (P : Program) : CCode → Code → Prop
  | .skip, c => c = .skip
  | .reg l, c => ∃ id ops draw, c = .region id ops draw ∧ compRegion P ops draw = some l
  | .seq a b, c => ∃ x y, c = .seq x y ∧ comp P x = some a ∧ comp P y = some b
  | .cond o a b, c => ∃ x y, c = .cond o x y ∧ opOk P o = true ∧ comp P x = some a ∧ comp P y = some b
  | .block id a, c => ∃ x, c = .block id x ∧ comp P x = some a
  | .loop a, c => ∃ x, c = .loop x ∧ comp P x = some a
  | .rangeFunc f ps a b, c => ∃ x y, c = .rangeFunc f ps x y ∧ opOk P f = true ∧ comp P x = some a ∧ comp P y = some b
  | .exit id, c => c = .exit id
  | .scope a, c => ∃ x, c = .scope x ∧ comp P x = some a
  | .label l, c => c = .label l
  | .goto l, c => c = .goto l
  | .ret, c => c = .ret
  | .bad, _ => True
theorem of_comp {P : Program} {c : Code} {cc : CCode} (h : comp P c = some cc) : Of P cc c := by
  cases c with
  | skip => simp [comp] at h; subst h; rfl
  | region id ops d => simp [comp] at h; obtain ⟨l, e, rfl⟩ := h; exact ⟨_, _, _, rfl, e⟩
  | seq a b => simp [comp, Option.bind_eq_some_iff] at h; obtain ⟨x, e1, y, e2, rfl⟩ := h; exact ⟨_, _, rfl, e1, e2⟩
  | cond o a b => simp [comp, guardB, Option.bind_eq_some_iff] at h; obtain ⟨ok, x, e1, y, e2, rfl⟩ := h; exact ⟨_, _, rfl, ok, e1, e2⟩
  | block id a => simp [comp, Option.bind_eq_some_iff] at h; obtain ⟨x, e1, rfl⟩ := h; exact ⟨_, rfl, e1⟩
  | loop a => simp [comp, Option.bind_eq_some_iff] at h; obtain ⟨x, e1, rfl⟩ := h; exact ⟨_, rfl, e1⟩
  | rangeFunc f ps a b => simp [comp, guardB, Option.bind_eq_some_iff] at h; obtain ⟨ok, x, e1, y, e2, rfl⟩ := h; exact ⟨_, _, rfl, ok, e1, e2⟩
  | exit id => simp [comp] at h; subst h; rfl
  | scope a => simp [comp, Option.bind_eq_some_iff] at h; obtain ⟨x, e1, rfl⟩ := h; exact ⟨_, rfl, e1⟩
  | label l => simp [comp] at h; subst h; rfl
  | goto l => simp [comp] at h; subst h; rfl
  | ret => simp [comp] at h; subst h; rfl
  | refuse w => simp [comp] at h; subst h; trivial

section rules
variable {P : Program} {Q Q' : Post} {tm : List Value} {H : CH}
theorem Reach.mono {it : List Item → List Item} (h : Reach P it Q tm H) (hq : ∀ e t h, Q e t h → Q' e t h) : Reach P it Q' tm H :=
  fun b k cs φ a w lo p => by
    obtain ⟨e, t1, H1, φ1, a1, w1, q, r⟩ := h b k cs φ a w lo p
    exact ⟨e, t1, H1, φ1, a1, w1, hq _ _ _ q, r⟩
theorem CW.mono {c : CCode} (h : CW P c Q tm H) (hq : ∀ e t h, Q e t h → Q' e t h) : CW P c Q' tm H := fun x hx => (h x hx).mono hq

theorem cw_skip (h : Q none tm H) : CW P .skip Q tm H := by
  intro c hc b k cs φ a w lo p
  obtain rfl := of_comp hc
  exact ⟨none, tm, H, φ, a, w, h, Next.refl _ _ _, p, .one stepR_skip⟩
theorem cw_label {l : Nat} (h : Q none tm H) : CW P (.label l) Q tm H := by
  intro c hc b k cs φ a w lo p
  obtain rfl := of_comp hc
  exact ⟨none, tm, H, φ, a, w, h, Next.refl _ _ _, p, .one stepR_label⟩
theorem cw_exit {id : Nat} (h : Q (some (.exit id)) tm H) : CW P (.exit id) Q tm H := by
  intro c hc b k cs φ a w lo p
  obtain rfl := of_comp hc
  exact ⟨some (.exit id), tm, H, φ, a, w, h, Next.refl _ _ _, p, k, rfl, .refl _ _⟩
theorem cw_goto {l : Nat} (h : Q (some (.goto l)) tm H) : CW P (.goto l) Q tm H := by
  intro c hc b k cs φ a w lo p
  obtain rfl := of_comp hc
  exact ⟨some (.goto l), tm, H, φ, a, w, h, Next.refl _ _ _, p, k, rfl, .refl _ _⟩
theorem cw_ret (h : Q (some .ret) tm H) : CW P .ret Q tm H := by
  intro c hc b k cs φ a w lo p
  obtain rfl := of_comp hc
  exact ⟨some .ret, tm, H, φ, a, w, h, Next.refl _ _ _, p, k, .refl _ _⟩
/-- What follows a piece that has come to its end. -/
def andThen (K : List Value → CH → Prop) (Q : Post) : Post
  | none, t, h => K t h
  | some j, t, h => Q (some j) t h
theorem cw_seq {x y : CCode} (h : CW P x (andThen (fun t g => CW P y Q t g) Q) tm H) : CW P (.seq x y) Q tm H := by
  intro c hc b k cs φ a w lo p
  obtain ⟨cx, cy, rfl, hx, hy⟩ := of_comp hc
  obtain ⟨e, t1, H1, φ1, a1, w1, q, n1, p1, r1⟩ := h cx hx b (.code cy :: k) cs φ a w lo p
  cases e with
  | none =>
    obtain ⟨e2, t2, H2, φ2, a2, w2, q2, n2, p2, r2⟩ := q cy hy b k cs φ1 a1 w1 lo p1
    exact ⟨e2, t2, H2, φ2, a2, w2, q2, n1.trans n2, p2, .head (.head stepR_seq r1) r2⟩
  | some j => exact ⟨some j, t1, H1, φ1, a1, w1, q, n1, p1, .head (.one stepR_seq) (.pass (x := .code cy) rfl r1)⟩

theorem VRs.get {φ : Emb} {xs : List Value} {ys : Array Value} (h : VRs φ xs ys) (i : Nat) : VR φ (xs.getD i undef) (ys.getD i undef) := h.2 i
theorem VR.ev {φ : Emb} {tm : List Value} {a : Act} (g0 : Glob P φ) (h : VRs φ tm a.tmps) {x : Operand} (hx : opOk P x = true) : VR φ (cev tm x) (a.eval x) := by
  cases x with
  | tmp t => exact h.2 t
  | const v => exact VR.plain_refl hx
  | global g =>
    obtain ⟨sz, h1⟩ := g0 g (by simpa [opOk] using hx)
    have := VR.ptr (off := 0) h1
    simp only [Nat.zero_add] at this
    exact this
  | func f => exact .func rfl rfl (fun i hi => absurd hi (by simp)) (fun i hi => absurd hi (by simp))
theorem VR.bool_inv {φ : Emb} {t : Bool} {v : Value} (h : VR φ (.bool t) v) : v = .bool t := by cases h; rfl
theorem cw_cond {x : Operand} {c d : CCode} {t : Bool} (ht : cev tm x = .bool t) (h : CW P (if t then c else d) Q tm H) : CW P (.cond x c d) Q tm H := by
  intro e he b k cs φ a w lo p
  obtain ⟨ce, de, rfl, ok, hc, hd⟩ := of_comp he
  have hv : a.eval x = .bool t := by
    have := VR.ev p.glob p.tr ok
    rw [ht] at this; exact this.bool_inv
  have hcd : comp P (if t then ce else de) = some (if t then c else d) := by cases t <;> simp [hc, hd]
  obtain ⟨e, t1, H1, φ1, a1, w1, q, n1, p1, r1⟩ := h _ hcd b k cs φ a w lo p
  exact ⟨e, t1, H1, φ1, a1, w1, q, n1, p1, .head (.one (stepR_cond hv)) r1⟩
/-- Out of a block. -/
def outOf (id : Nat) (Q : Post) : Post
  | some (.exit i), t, h => if i = id then Q none t h else Q (some (.exit i)) t h
  | e, t, h => Q e t h
theorem cw_block {id : Nat} {c : CCode} (h : CW P c (outOf id Q) tm H) : CW P (.block id c) Q tm H := by
  intro e he b k cs φ a w lo p
  obtain ⟨ce, rfl, hc⟩ := of_comp he
  obtain ⟨e, t1, H1, φ1, a1, w1, q, n1, p1, r1⟩ := h ce hc b (.inBlock id :: k) cs φ a w lo p
  have h0 : Steps P (lone (b.atR a (.code (.block id ce) :: k)) cs w) _ := .one stepR_block
  cases e with
  | none => exact ⟨none, t1, H1, φ1, a1, w1, q, n1, p1, h0.trans (Steps.trans r1 (.one stepR_inBlock))⟩
  | some j => cases j with
    | exit i =>
      obtain ⟨k2, e2, s⟩ := r1
      by_cases hi : i = id
      · subst hi
        simp only [outOf, if_true] at q
        have e3 : exitTo i k2 = some k := by rw [e2]; simp [exitTo]
        exact ⟨none, t1, H1, φ1, a1, w1, q, n1, p1, h0.trans (s.trans (.one (stepR_exit e3)))⟩
      · simp only [outOf, if_neg hi] at q
        refine ⟨some (.exit i), t1, H1, φ1, a1, w1, q, n1, p1, k2, ?_, h0.trans s⟩
        rw [e2]; simp only [exitTo]; rw [if_neg]; intro hh; exact hi (by have := beq_iff_eq.1 hh; exact this.symm)
    | goto l =>
      obtain ⟨k2, e2, s⟩ := r1
      exact ⟨some (.goto l), t1, H1, φ1, a1, w1, q, n1, p1, k2, by rw [e2]; rfl, h0.trans s⟩
    | ret =>
      obtain ⟨k2, s⟩ := r1
      exact ⟨some .ret, t1, H1, φ1, a1, w1, q, n1, p1, k2, h0.trans s⟩
theorem loop_aux {c : CCode} (h : CW P c (andThen (fun t g => CWL P c Q t g) Q) tm H) (ce : Code) (hc : comp P ce = some c) : Reach P (fun k => .code ce :: .inLoop ce :: k) Q tm H := by
  intro b k cs φ a w lo p
  obtain ⟨e, t1, H1, φ1, a1, w1, q, n1, p1, r1⟩ := h ce hc b (.inLoop ce :: k) cs φ a w lo p
  cases e with
  | none =>
    obtain ⟨e2, t2, H2, φ2, a2, w2, q2, n2, p2, r2⟩ := q ce hc b k cs φ1 a1 w1 lo p1
    exact ⟨e2, t2, H2, φ2, a2, w2, q2, n1.trans n2, p2, .head r1 r2⟩
  | some j => exact ⟨some j, t1, H1, φ1, a1, w1, q, n1, p1, .pass (x := .inLoop ce) rfl r1⟩
theorem cw_loop {c : CCode} (h : CW P c (andThen (fun t g => CWL P c Q t g) Q) tm H) : CW P (.loop c) Q tm H := by
  intro e he b k cs φ a w lo p
  obtain ⟨ce, rfl, hc⟩ := of_comp he
  obtain ⟨e, t1, H1, φ1, a1, w1, q, n1, p1, r1⟩ := loop_aux h ce hc b k cs φ a w lo p
  exact ⟨e, t1, H1, φ1, a1, w1, q, n1, p1, .head (.one stepR_loop) r1⟩
theorem cwl_round {c : CCode} (h : CW P c (andThen (fun t g => CWL P c Q t g) Q) tm H) : CWL P c Q tm H := by
  intro ce hc b k cs φ a w lo p
  obtain ⟨e, t1, H1, φ1, a1, w1, q, n1, p1, r1⟩ := loop_aux h ce hc b k cs φ a w lo p
  exact ⟨e, t1, H1, φ1, a1, w1, q, n1, p1, .head (.one stepR_inLoop) r1⟩
end rules

/-! ### what a step keeps -/
theorem RoundOk.next {φ φ1 : Emb} {H H1 : CH} {w w1 : World} {b : Frame} (h : RoundOk φ H b) (n : Next φ H w φ1 H1 w1) : RoundOk φ1 H1 b := by
  intro l hl
  obtain ⟨m, L, o, h1, h2, h3, h4⟩ := h l hl
  obtain ⟨o', h5, h6⟩ := n.loops m o (by rw [h1]; simp) h3 h4
  exact ⟨m, L, o', n.le _ _ h1, h2, h5, h6⟩
theorem Marks.next {φ φ1 : Emb} {H H1 : CH} {w w1 : World} {lo : Nat} {ds : List Deferred} (h : Marks φ w lo ds) (n : Next φ H w φ1 H1 w1) : Marks φ1 w1 lo ds := by
  obtain ⟨rs, e, nd, hr⟩ := h
  refine ⟨rs, e, nd, fun r hm => ?_⟩
  obtain ⟨h1, h2, h3, h4⟩ := hr r hm
  refine ⟨h1, Nat.lt_of_lt_of_le h2 n.sz, ?_, n.notin r h2 h4⟩
  rw [n.same r h2 (fun m L o a b _ => absurd b (h4 m L a))]
  exact h3
theorem Glob.next {P : Program} {φ φ1 : Emb} {H H1 : CH} {w w1 : World} (h : Glob P φ) (n : Next φ H w φ1 H1 w1) : Glob P φ1 := fun g hg => by
  obtain ⟨sz, e⟩ := h g hg
  exact ⟨sz, n.le _ _ e⟩
theorem Pre.next {P : Program} {φ φ1 : Emb} {tm tm1 : List Value} {H H1 : CH} {w w1 : World} {b : Frame} {a a1 : Act} {lo : Nat}
    (p : Pre P φ tm H b a w lo) (n : Next φ H w φ1 H1 w1) (s : Sim P φ1 H1 w1) (t : VRs φ1 tm1 a1.tmps) (d : a1.defers = a.defers) : Pre P φ1 tm1 H1 b a1 w1 lo :=
  ⟨s, p.glob.next n, t, p.round.next n, by rw [d]; exact p.marks.next n, Nat.le_trans p.lo n.sz⟩
theorem VRs.set {φ : Emb} {xs : List Value} {ys : Array Value} (h : VRs φ xs ys) {v v' : Value} (hv : VR φ v v') (t : Nat) : VRs φ (xs.set t v) (ys.setIfInBounds t v') := by
  refine ⟨by simp [h.1], fun i => ?_⟩
  have hi := h.2 i
  simp only [List.getD_eq_getElem?_getD, Array.getD_eq_getD_getElem?, List.getElem?_set, Array.getElem?_setIfInBounds] at *
  by_cases e : t = i
  · subst e
    by_cases l : t < xs.length
    · have l' : t < ys.size := h.1 ▸ l
      simp [l, l', hv]
    · have l' : ¬ t < ys.size := h.1 ▸ l
      simp [l, l', VR.undef]
  · simp only [if_neg e]; exact hi
/-- A slot is written. -/
def tput (tm : List Value) (d : Option Tmp) (v : Value) : List Value := match d with | some t => tm.set t v | none => tm
theorem VRs.put {φ : Emb} {tm : List Value} {a : Act} (h : VRs φ tm a.tmps) {v v' : Value} (hv : VR φ v v') (d : Option Tmp) : VRs φ (tput tm d v) (a.put d v').tmps := by
  cases d with
  | none => exact h
  | some t => exact h.set hv t
theorem put_defers (a : Act) (d : Option Tmp) (v : Value) : (a.put d v).defers = a.defers := by cases d <;> rfl
end Go.Cn
/-! ## Operations that need no memory. -/
namespace Go.Cn
open Go

theorem VR.int_inv {φ : Emb} {k : IntKind} {n : Int} {v : Value} (h : VR φ (.int k n) v) : v = .int k n := by cases h; rfl
theorem VR.str_inv {φ : Emb} {s : ByteArray} {v : Value} (h : VR φ (.string s) v) : v = .string s := by cases h; rfl
theorem VR.agg_inv {φ : Emb} {xs : Array Value} {v : Value} (h : VR φ (.agg xs) v) : ∃ ys, v = .agg ys ∧ ∃ e : xs.size = ys.size, ∀ i (hi : i < xs.size), VR φ xs[i] (ys[i]'(e ▸ hi)) := by
  cases h with | agg e i => exact ⟨_, rfl, e, i⟩
theorem VR.tuple_inv {φ : Emb} {xs : Array Value} {v : Value} (h : VR φ (.tuple xs) v) : ∃ ys, v = .tuple ys ∧ ∃ e : xs.size = ys.size, ∀ i (hi : i < xs.size), VR φ xs[i] (ys[i]'(e ▸ hi)) := by
  cases h with | tuple e i => exact ⟨_, rfl, e, i⟩
theorem VR.ptr_inv {φ : Emb} {a : Addr} {v : Value} (h : VR φ (.pointer (some a)) v) : ∃ L, φ a.block = some L ∧ a.spot = none ∧ v = .pointer (some ⟨L.b, L.sh + a.off, none⟩) := by
  cases h with | ptr e => exact ⟨_, e, rfl, rfl⟩

/-- Arrays of values. -/
def VA (φ : Emb) (xs ys : Array Value) : Prop := ∃ e : xs.size = ys.size, ∀ i (hi : i < xs.size), VR φ xs[i] (ys[i]'(e ▸ hi))
theorem VA.get? {φ : Emb} {xs ys : Array Value} (h : VA φ xs ys) {i : Nat} {v : Value} (e : xs[i]? = some v) : ∃ v', ys[i]? = some v' ∧ VR φ v v' := by
  obtain ⟨hs, h⟩ := h
  obtain ⟨hi, rfl⟩ := Array.getElem?_eq_some_iff.1 e
  exact ⟨_, Array.getElem?_eq_some_iff.2 ⟨hs ▸ hi, rfl⟩, h i hi⟩
theorem VA.mk' {φ : Emb} {xs ys : Array Value} (hs : xs.size = ys.size) (h : ∀ (i : Nat) (x y : Value), xs[i]? = some x → ys[i]? = some y → VR φ x y) : VA φ xs ys :=
  ⟨hs, fun i hi => h i _ _ (Array.getElem?_eq_some_iff.2 ⟨hi, rfl⟩) (Array.getElem?_eq_some_iff.2 ⟨hs ▸ hi, rfl⟩)⟩
theorem VA.agg {φ : Emb} {xs ys : Array Value} (h : VA φ xs ys) : VR φ (.agg xs) (.agg ys) := by obtain ⟨e, i⟩ := h; exact .agg e i
theorem VA.tuple {φ : Emb} {xs ys : Array Value} (h : VA φ xs ys) : VR φ (.tuple xs) (.tuple ys) := by obtain ⟨e, i⟩ := h; exact .tuple e i
theorem VA.rel {φ : Emb} {xs ys : Array Value} (h : VA φ xs ys) (i : Nat) (x y : Value) (a : xs[i]? = some x) (b : ys[i]? = some y) : VR φ x y := by
  obtain ⟨v', e, r⟩ := h.get? a
  rw [e] at b; cases b; exact r
theorem VA.extract {φ : Emb} {xs ys : Array Value} (h : VA φ xs ys) (i j : Nat) : VA φ (xs.extract i j) (ys.extract i j) := by
  refine .mk' (by simp [h.1]) fun k x y a b => ?_
  rw [Array.getElem?_extract] at a b
  rw [← h.1] at b
  split at a
  · rename_i hk
    rw [if_pos hk] at b
    exact h.rel _ _ _ a b
  · cases a
theorem VA.set {φ : Emb} {xs ys : Array Value} (h : VA φ xs ys) (i : Nat) {v v' : Value} (hv : VR φ v v') : VA φ (xs.setIfInBounds i v) (ys.setIfInBounds i v') := by
  refine .mk' (by simp [h.1]) fun k x y a b => ?_
  rw [Array.getElem?_setIfInBounds] at a b
  by_cases e : i = k
  · subst e
    rw [if_pos rfl] at a b
    rw [← h.1] at b
    split at a
    · rename_i hk; rw [if_pos hk] at b; cases a; cases b; exact hv
    · cases a
  · rw [if_neg e] at a b; exact h.rel _ _ _ a b
theorem VR.cells {φ : Emb} {v v' : Value} (h : VR φ v v') : VA φ v.cells v'.cells := by
  have one : ∀ {a b : Value}, VR φ a b → VA φ #[a] #[b] := fun {a b} r => ⟨rfl, fun i hi => by
    have : i = 0 := by simpa using hi
    subst this; exact r⟩
  cases h with
  | agg e i => exact ⟨e, i⟩
  | bool b => exact one (.bool b)
  | int k n => exact one (.int k n)
  | string s => exact one (.string s)
  | pnil => exact one .pnil
  | ptr e => exact one (.ptr e)
  | snil => exact one .snil
  | slc e hl => exact one (.slc e hl)
  | slo e hl hc hz => exact one (.slo e hl hc hz)
  | slz h => exact one (.slz h)
  | mnil => exact one .mnil
  | map e => exact one (.map e)
  | func h1 h2 v1 v2 => exact one (.func h1 h2 v1 v2)
  | yield e => exact one (.yield e)
  | fnil => exact one .fnil
  | inil => exact one .inil
  | tuple e i => exact one (.tuple e i)
theorem Addr.add_eq (b off n : Nat) : (Addr.add ⟨b, off, none⟩ n) = ⟨b, off + n, none⟩ := by
  unfold Addr.add; split <;> simp_all
theorem cpart_sound {φ : Emb} {xs ys : Array Value} (h : VA φ xs ys) {off : Nat} {n : Option Nat} {v : Value} (e : cpart xs off n = some v) :
    ∃ v', VR φ v v' ∧ cpart ys off n = some v' := by
  cases n with
  | none => obtain ⟨v', a, b⟩ := h.get? e; exact ⟨v', b, a⟩
  | some n => simp only [cpart, Option.some.injEq] at e ⊢; subst e; exact ⟨_, (h.extract _ _).agg, rfl⟩

theorem run_underlying {P : Program} {t : TypeId} {d : TypeDesc} (h : P.underlying t = some d) (w : World) : (Go.underlying t).run P w = .ok d w := by
  simp [Go.underlying, h]
theorem run_sizeOf {P : Program} {t : TypeId} {n : Nat} (h : sizeAt P t = some n) (w : World) : (Go.sizeOf t).run P w = .ok n w := by
  unfold sizeAt at h
  cases e : P.info? t with
  | none => rw [e] at h; cases h
  | some i => rw [e] at h; simp at h; simp [Go.sizeOf, Go.typeInfo, e, h]
theorem run_typeInfo {P : Program} {t : TypeId} {i : TypeInfo} (h : P.info? t = some i) (w : World) : (Go.typeInfo t).run P w = .ok i w := by
  simp [Go.typeInfo, h]
theorem run_zero {P : Program} {t : TypeId} {z : Value} (h : zeroAt P t = some z) (w : World) : (Go.zeroValue t).run P w = .ok z w := by
  unfold zeroAt at h
  cases e : P.info? t with
  | none => rw [e] at h; cases h
  | some i => rw [e] at h; simp at h; simp [Go.zeroValue, Go.typeInfo, e, h]
theorem run_isAgg {P : Program} {t : TypeId} {b : Bool} (h : aggAt P t = some b) (w : World) : (Go.isAgg t).run P w = .ok b w := by
  unfold aggAt at h
  cases e : P.underlying t with
  | none => rw [e] at h; cases h
  | some d =>
    rw [e] at h; simp at h
    simp only [Go.isAgg, Sem.run_bind, run_underlying e, Result.andThen_ok]
    cases d <;> simp_all
/-- What a part of a struct is, as an operation says it. -/
theorem run_part {P : Program} {t : TypeId} {o : Option Nat} (h : wide P t = some o) {cs : Array Value} {off : Nat} {v : Value} (e : cpart cs off o = some v) (w : World) :
    (Go.part t cs off).run P w = .ok v w := by
  unfold wide at h
  simp only [Option.bind_eq_bind, Option.bind_eq_some_iff] at h
  obtain ⟨b, hb, n, hn, h⟩ := h
  cases b with
  | true =>
    simp at h; subst h
    simp only [cpart, Option.some.injEq] at e
    simp [Go.part, run_isAgg hb, run_sizeOf hn, e]
  | false =>
    simp at h; subst h
    simp only [cpart] at e
    simp [Go.part, run_isAgg hb, e]

theorem binOp_ii (op : BinOp) (t : TypeId) (k k' : IntKind) (a b : Int) : Go.binOp op t (.int k a) (.int k' b) = Go.binOp op 0 (.int k a) (.int k' b) := by cases op <;> rfl
theorem binOp_ss (op : BinOp) (t : TypeId) (a b : ByteArray) : Go.binOp op t (.string a) (.string b) = Go.binOp op 0 (.string a) (.string b) := by cases op <;> rfl
theorem run_semPure {α : Type} {s : Sem α} {a : α} (h : semPure s = some a) (P : Program) (w : World) : s.run P w = .ok a w := by
  cases s <;> simp [semPure] at h
  subst h; rfl
theorem run_eqGuard_i (P : Program) (op : BinOp) (t : TypeId) (x y : Operand) (k k' : IntKind) (a b : Int) (w : World) : (eqGuard op t x y (.int k a) (.int k' b)).run P w = .ok () w := by
  unfold eqGuard; cases op <;> simp
theorem run_eqGuard_s (P : Program) (op : BinOp) (t : TypeId) (x y : Operand) (a b : ByteArray) (w : World) : (eqGuard op t x y (.string a) (.string b)).run P w = .ok () w := by
  unfold eqGuard; cases op <;> simp
theorem run_eqGuard_b (P : Program) (op : BinOp) (t : TypeId) (x y : Operand) (a b : Bool) (w : World) : (eqGuard op t x y (.bool a) (.bool b)).run P w = .ok () w := by
  unfold eqGuard; cases op <;> simp

section
variable {P : Program} {φ : Emb} {ρ ρ' : Operand → Value}
/-- The operands, canonical and as they are. -/
abbrev Ops (φ : Emb) (ρ ρ' : Operand → Value) (o : Oper) : Prop := ∀ x ∈ o.op.operands.toList, VR φ (ρ x) (ρ' x)
def PureAt (P : Program) (φ : Emb) (ρ' : Operand → Value) (o : Oper) (v : Value) : Prop := ∃ v', VR φ v v' ∧ ∀ w, (execOp ρ' o).run P w = .ok (.value v') w

theorem cbin_sound {op : BinOp} {t : TypeId} {a b a' b' v : Value} (x y : Operand) (h : cbin op a b = some v) (ha : VR φ a a') (hb : VR φ b b') :
    v = v ∧ ∀ w, (do eqGuard op t x y a' b'; Go.binOp op t a' b' : Sem Value).run P w = .ok v w := by
  refine ⟨rfl, fun w => ?_⟩
  unfold cbin at h
  split at h
  · rw [ha.int_inv, hb.int_inv, binOp_ii]
    simp [run_eqGuard_i, run_semPure h]
  · rw [ha.str_inv, hb.str_inv, binOp_ss]
    simp [run_eqGuard_s, run_semPure h]
  · cases h
/-- What the operators on numbers and texts give has no address in it. -/
theorem cbin_flat {op : BinOp} {a b v : Value} (h : cbin op a b = some v) : flat v = true := by
  unfold cbin at h
  split at h
  · rename_i k m k' n
    cases op <;> simp only [Go.binOp, Op.shift, Op.intArith, Op.intDiv, Op.intBits, Op.intCmp] at h <;>
      (repeat' split at h) <;> first | (simp [semPure, Pure.pure, stuck, runtimePanic, Bind.bind, Sem.bind, program] at h; done) | (simp [semPure, Pure.pure] at h; subst h; rfl)
  · rename_i s t
    cases op <;> simp only [Go.binOp, Op.stringOp] at h <;>
      (repeat' split at h) <;> first | (simp [semPure, Pure.pure, stuck, unsupported] at h; done) | (simp [semPure, Pure.pure] at h; subst h; rfl)
  · cases h
theorem cun_flat {op : UnOp} {a v : Value} (h : cun op a = some v) : flat v = true := by
  unfold cun at h
  split at h
  · cases op <;> simp only [Op.unary, Op.intArith, Op.intBits] at h <;> first | (simp [semPure, Pure.pure, stuck] at h; done) | (simp [semPure, Pure.pure] at h; subst h; rfl)
  · cases op <;> simp only [Op.unary] at h <;> first | (simp [semPure, Pure.pure, stuck] at h; done) | (simp [semPure, Pure.pure] at h; subst h; rfl)
  · cases h
theorem cun_sound {op : UnOp} {a a' v : Value} (h : cun op a = some v) (ha : VR φ a a') : ∀ w, (Op.unary op a').run P w = .ok v w := by
  intro w
  unfold cun at h
  split at h
  · rw [ha.int_inv]; exact run_semPure h P w
  · rw [ha.bool_inv]; exact run_semPure h P w
  · cases h
end
end Go.Cn
/-! ## Every operation that needs no memory does what its canonical instruction says. -/
namespace Go.Cn
open Go

theorem VA.arr {φ : Emb} {ρ ρ' : Operand → Value} (xs : Array Operand) (h : ∀ x ∈ xs.toList, VR φ (ρ x) (ρ' x)) : VA φ (xs.toList.map ρ).toArray (xs.map ρ') := by
  refine .mk' (by simp) fun i x y a b => ?_
  simp only [List.getElem?_toArray, List.getElem?_map, Option.map_eq_some_iff] at a
  obtain ⟨o, e, rfl⟩ := a
  simp only [Array.getElem?_map, Option.map_eq_some_iff] at b
  obtain ⟨o', e', rfl⟩ := b
  rw [Array.getElem?_toList] at e
  rw [e] at e'; cases e'
  exact h _ (by have := Array.mem_of_getElem? e; simpa using this)

theorem cnil_sound {φ : Emb} {k : Nat} {v v' : Value} {b : Bool} (h : VR φ v v') (e : cnil k v = some b) : cnil k v' = some b := by
  cases h <;> simp_all [cnil]
theorem slice_rel {φ : Emb} {a : Option Addr} {len cap : Nat} {v' : Value} (h : VR φ (.slice a len cap) v') :
    ∃ a' cap', v' = .slice a' len cap' ∧ a.isNone = a'.isNone := by
  cases h <;> exact ⟨_, _, rfl, rfl⟩

section
variable {P : Program} {φ : Emb} {ρ ρ' : Operand → Value}
theorem eqGuard_other (P : Program) (op : BinOp) (t : TypeId) (x y : Operand) {a b : Value} (h : (match a, b with | .nilIface, .nilIface | .agg _, .agg _ => false | _, _ => true) = true) (w : World) :
    (eqGuard op t x y a b).run P w = .ok () w := by
  unfold eqGuard
  cases op <;> simp <;> (cases a <;> first | rfl | (cases b <;> first | rfl | (simp at h)))

theorem isNil_inv {k : Nat} {x : Operand} (h : isNilConst k x = true) :
    (k = 0 ∧ x = .const (.pointer none)) ∨ (k = 1 ∧ x = .const (.slice none 0 0)) ∨ (k = 2 ∧ x = .const (.map none)) ∨ (k = 3 ∧ x = .const .nilFunc) := by
  unfold isNilConst at h
  split at h <;> simp_all
theorem cnil_inv {k : Nat} {v : Value} {b : Bool} (h : cnil k v = some b) :
    (k = 0 ∧ ∃ a, v = .pointer a ∧ a.isNone = b) ∨ (k = 1 ∧ ∃ a l c, v = .slice a l c ∧ a.isNone = b) ∨ (k = 2 ∧ ∃ a, v = .map a ∧ a.isNone = b) ∨
    (k = 3 ∧ v = .nilFunc ∧ b = true) ∨ (k = 3 ∧ ∃ f x y, v = .func (.func f) x y ∧ b = false) := by
  unfold cnil at h
  split at h <;> simp_all
/-- Held against nil. -/
theorem run_eq_nil {t : TypeId} {d : TypeDesc} (hd : P.underlying t = some d) {k : Nat} (hk : nilKind d = some k) {v n : Value} {b : Bool} (hv : cnil k v = some b)
    (hn : isNilConst k (.const n) = true) (w : World) :
    (Op.equal t v n).run P w = .ok b w ∧ (Op.equal t n v).run P w = .ok b w := by
  have hu := fun w => run_underlying (P := P) hd w
  have e1 : ∀ x y, (Op.equal t x y).run P w = (Op.equalIn (9999 + 1) t x y).run P w := fun x y => rfl
  rw [e1, e1]
  generalize 9999 = dd
  rw [Op.equalIn, Op.equalIn]
  simp only [Sem.run_bind, hu, Result.andThen_ok]
  rcases isNil_inv hn with ⟨rfl, e⟩ | ⟨rfl, e⟩ | ⟨rfl, e⟩ | ⟨rfl, e⟩ <;> cases e <;> cases d <;> simp [nilKind] at hk <;>
    rcases cnil_inv hv with ⟨e, a, rfl, rfl⟩ | ⟨e, a, l, c, rfl, rfl⟩ | ⟨e, a, rfl, rfl⟩ | ⟨e, rfl, rfl⟩ | ⟨e, f, x, y, rfl, rfl⟩ <;>
    first | (simp at e; done) | (cases a <;> exact ⟨rfl, rfl⟩) | exact ⟨rfl, rfl⟩
end
end Go.Cn
/-! ## Every operation that needs no memory does what its canonical instruction says: the whole. -/
namespace Go.Cn
open Go

theorem fill_sound {φ : Emb} {place : Nat → Option (Nat × Nat)} {ρ ρ' : Operand → Value} : ∀ (ps : List (Nat × Operand)) (qs : List (Nat × Nat × Operand)) (cells cells' r : Array Value),
    (∀ p ∈ ps, VR φ (ρ p.2) (ρ' p.2)) → ps.length = qs.length → (∀ (i : Nat) (p : Nat × Operand) (q : Nat × Nat × Operand), ps[i]? = some p → qs[i]? = some q → place p.1 = some (q.1, q.2.1) ∧ q.2.2 = p.2) →
    VA φ cells cells' → cfill cells (qs.map fun (o, s, x) => (o, s, ρ x)) = some r →
    ∃ r', Instr.fill place cells' (ps.map fun (i, x) => (i, ρ' x)) = some r' ∧ VA φ r r' := by
  intro ps
  induction ps with
  | nil =>
    intro qs cells cells' r _ hl _ hv hf
    cases qs with
    | nil => simp [cfill] at hf; subst hf; exact ⟨cells', rfl, hv⟩
    | cons q qs => simp at hl
  | cons p ps ih =>
    intro qs cells cells' r hr hl hp hv hf
    cases qs with
    | nil => simp at hl
    | cons q qs =>
      obtain ⟨i, x⟩ := p
      obtain ⟨o, s, y⟩ := q
      obtain ⟨h1, h2⟩ := hp 0 (i, x) (o, s, y) rfl rfl
      simp only at h1 h2
      subst h2
      have hx := hr (i, y) (by simp)
      simp only at hx
      have hc := hx.cells
      simp only [List.map_cons, cfill] at hf
      simp only [List.map_cons, Instr.fill, h1]
      have hsz : (ρ y).cells.size = (ρ' y).cells.size := hc.1
      rw [← hsz, ← hv.1]
      split at hf
      · cases hf
      · rename_i hcond
        rw [if_neg hcond]
        refine ih qs _ _ r (fun p hp => hr p (by simp [hp])) (by simpa using hl) (fun j p q a b => hp (j + 1) p q (by simpa using a) (by simpa using b)) ?_ hf
        -- the cells, one by one
        have key : ∀ (l l' : List (Value × Nat)) (A B : Array Value), VA φ A B → l.length = l'.length → (∀ (j : Nat) (a b : Value × Nat), l[j]? = some a → l'[j]? = some b → VR φ a.1 b.1 ∧ a.2 = b.2) →
            VA φ (l.foldl (fun cs (c, j) => cs.setIfInBounds (o + j) c) A) (l'.foldl (fun cs (c, j) => cs.setIfInBounds (o + j) c) B) := by
          intro l
          induction l with
          | nil => intro l' A B h e _; cases l' <;> simp_all
          | cons a l ihl =>
            intro l' A B h e hh
            cases l' with
            | nil => simp at e
            | cons b l' =>
              obtain ⟨q1, q2⟩ := hh 0 a b rfl rfl
              simp only [List.foldl_cons]
              refine ihl l' _ _ ?_ (by simpa using e) (fun j x y u v => hh (j + 1) x y (by simpa using u) (by simpa using v))
              obtain ⟨a1, a2⟩ := a
              obtain ⟨b1, b2⟩ := b
              simp only at q1 q2
              subst q2
              exact h.set _ q1
        rw [← Array.foldl_toList, ← Array.foldl_toList]
        refine key _ _ _ _ hv (by simp [hsz]) ?_
        intro j a b ha hb
        simp only [Array.toList_zipIdx, List.getElem?_zipIdx, Option.map_eq_some_iff] at ha hb
        obtain ⟨u, hu, rfl⟩ := ha
        obtain ⟨u', hu', rfl⟩ := hb
        exact ⟨hc.rel j u u' (by simpa using hu) (by simpa using hu'), rfl⟩

theorem all_plain {φ : Emb} {z : Array Value} (h : z.all plain = true) : VA φ z z := ⟨rfl, fun i hi => VR.plain_refl (Array.all_eq_true.1 h i hi)⟩
theorem bound_sound {φ : Emb} {v v' : Value} {y n : Nat} (h : VR φ v v') (e : cbound v y = some n) (P : Program) (w : World) (c : BoundsCode) :
    (Instr.sliceBound v' y c).run P w = .ok n w ∧ cbound v' y = some n := by
  unfold cbound at e
  split at e
  · rename_i k i
    rw [h.int_inv]
    split at e
    · rename_i hb
      cases e
      refine ⟨?_, by simp [cbound, hb]⟩
      simp [Instr.sliceBound, asIntOf, hb]
    · cases e
  · cases e
end Go.Cn
/-! ## Every operation that needs no memory does what its canonical instruction says: the theorem. -/
namespace Go.Cn
open Go

theorem Addr.add_none (b off n : Nat) : (⟨b, off, none⟩ : Addr).add n = ⟨b, off + n, none⟩ := Addr.add_eq b off n
theorem obound_sound {φ : Emb} {v v' : Option Value} {y d n : Nat} (hn : v.isNone = v'.isNone) (h : ∀ x x', v = some x → v' = some x' → VR φ x x') (e : obound v y d = some n) :
    (v = none ∧ v' = none ∧ n = d) ∨ ∃ x x', v = some x ∧ v' = some x' ∧ VR φ x x' ∧ cbound x y = some n := by
  cases v with
  | none => cases v' with
    | none => simp [obound] at e; exact .inl ⟨rfl, rfl, e.symm⟩
    | some x' => simp at hn
  | some x => cases v' with
    | none => simp at hn
    | some x' => exact .inr ⟨x, x', rfl, rfl, h x x' rfl rfl, e⟩
theorem cbound_le {v : Value} {y n : Nat} (h : cbound v y = some n) : n ≤ y := by
  unfold cbound at h
  split at h
  · split at h
    · cases h; omega
    · cases h
  · cases h
theorem cbound_mono {v : Value} {y z n : Nat} (h : cbound v y = some n) (hz : y ≤ z) : cbound v z = some n := by
  unfold cbound at h ⊢
  split at h
  · split at h
    · rename_i hb; rw [if_pos (by omega)]; exact h
    · cases h
  · cases h
theorem run_bound {φ : Emb} {x x' : Value} {y n : Nat} (r : VR φ x x') (h : cbound x y = some n) (P : Program) (w : World) (c : BoundsCode) :
    (Instr.sliceBound x' y c).run P w = .ok n w := (bound_sound r h P w c).1
theorem obound_le {v : Option Value} {y d n : Nat} (h : obound v y d = some n) (hd : d ≤ y) : n ≤ y := by
  cases v with
  | none => simp [obound] at h; omega
  | some v => exact cbound_le h

/-- The three bounds, as the model asks for them. -/
theorem run_bounds {φ : Emb} {lo hi mx lo' hi' mx' : Option Value} (nl : lo.isNone = lo'.isNone) (nh : hi.isNone = hi'.isNone) (nm : mx.isNone = mx'.isNone)
    (rl : ∀ x x', lo = some x → lo' = some x' → VR φ x x') (rh : ∀ x x', hi = some x → hi' = some x' → VR φ x x') (rm : ∀ x x', mx = some x → mx' = some x' → VR φ x x')
    {isS : Bool} {len cap m h l : Nat} (hm : obound mx cap cap = some m) (hh : obound hi m len = some h) (hhm : mx.isSome → hi.isSome) (hl : obound lo h 0 = some l) (P : Program) (w : World) :
    (Instr.sliceBounds isS len cap lo' hi' mx').run P w = .ok (l, h, m) w := by
  unfold Instr.sliceBounds
  rcases obound_sound nm rm hm with ⟨rfl, rfl, rfl⟩ | ⟨x, x', rfl, rfl, r, e⟩
  · rcases obound_sound nh rh hh with ⟨rfl, rfl, rfl⟩ | ⟨y, y', rfl, rfl, r2, e2⟩
    · rcases obound_sound nl rl hl with ⟨rfl, rfl, rfl⟩ | ⟨z, z', rfl, rfl, r3, e3⟩
      · simp
      · simp [run_bound r3 e3]
    · rcases obound_sound nl rl hl with ⟨rfl, rfl, rfl⟩ | ⟨z, z', rfl, rfl, r3, e3⟩
      · simp [run_bound r2 e2]
      · simp [run_bound r2 e2, run_bound r3 e3]
  · rcases obound_sound nh rh hh with ⟨rfl, rfl, rfl⟩ | ⟨y, y', rfl, rfl, r2, e2⟩
    · simp at hhm
    · rcases obound_sound nl rl hl with ⟨rfl, rfl, rfl⟩ | ⟨z, z', rfl, rfl, r3, e3⟩
      · simp [run_bound r e, run_bound r2 e2]
      · simp [run_bound r e, run_bound r2 e2, run_bound r3 e3]

section
variable {P : Program} {φ : Emb}
theorem slcStr_sound {t : TypeId} (ht : P.underlying t = some .string) {s : ByteArray} {lo hi lo' hi' : Option Value} (nl : lo.isNone = lo'.isNone) (nh : hi.isNone = hi'.isNone)
    (rl : ∀ x x', lo = some x → lo' = some x' → VR φ x x') (rh : ∀ x x', hi = some x → hi' = some x' → VR φ x x') {l h : Nat}
    (hh : obound hi s.size s.size = some h) (hl : obound lo h 0 = some l) (w : World) :
    (Instr.sliceAt t (.string s) lo' hi' none).run P w = .ok (.string (s.extract l h)) w := by
  have hb := run_bounds (isS := false) (mx := none) (mx' := none) nl nh rfl rl rh (by simp) (m := s.size) rfl hh (by simp) hl P w
  simp [Instr.sliceAt, Instr.slice, run_underlying ht, hb]
theorem slcS_sound {t e : TypeId} (ht : P.underlying t = some (.slice e)) {es : Nat} (he : sizeAt P e = some es) {v v' r : Value} {lo hi mx lo' hi' mx' : Option Value}
    (hv : VR φ v v') (nl : lo.isNone = lo'.isNone) (nh : hi.isNone = hi'.isNone) (nm : mx.isNone = mx'.isNone)
    (rl : ∀ x x', lo = some x → lo' = some x' → VR φ x x') (rh : ∀ x x', hi = some x → hi' = some x' → VR φ x x') (rm : ∀ x x', mx = some x → mx' = some x' → VR φ x x')
    (hr : cslice v lo hi mx es = some r) : ∃ r', VR φ r r' ∧ ∀ w, (Instr.sliceAt t v' lo' hi' mx').run P w = .ok r' w := by
  unfold cslice at hr
  split at hr
  case h_2 => cases hr
  rename_i v0 a len k
  -- what the real slice is
  obtain ⟨a', k', rfl⟩ : ∃ a' k', v' = .slice a' len k' := by cases hv <;> exact ⟨_, _, rfl⟩
  have hk : k ≤ k' := by cases hv <;> omega
  have hlk : len ≤ k := by cases hv <;> omega
  have run : ∀ {l h m : Nat}, obound mx k' k' = some m → obound hi m len = some h → (mx.isSome → hi.isSome) → obound lo h 0 = some l →
      ∀ w, (Instr.sliceAt t (.slice a' len k') lo' hi' mx').run P w = .ok (.slice (if m = l then a' else a'.map (·.add (l * es))) (h - l) (m - l)) w := by
    intro l h m h1 h2 h3 h4 w
    have hb := run_bounds (isS := true) nl nh nm rl rh rm h1 h2 h3 h4 P w
    simp [Instr.sliceAt, Instr.slice, run_underlying ht, hb, run_sizeOf he]
  split at hr
  · -- a full slice
    rename_i m0
    simp only [Option.bind_eq_bind, Option.bind_eq_some_iff] at hr
    obtain ⟨m, hm, h, hh, l, hl, hr⟩ := hr
    cases hi with
    | none => simp at hh
    | some h0 =>
      simp only at hh
      cases hr
      refine ⟨_, ?_, run (cbound_mono hm hk) hh (by simp) hl⟩
      have h1 := cbound_le hm
      have h2 := cbound_le hh
      have h3 := obound_le hl (Nat.zero_le _)
      cases hv with
      | snil =>
        have : m = 0 := by omega
        have : h = 0 := by omega
        have : l = 0 := by omega
        subst_vars
        exact .snil
      | @slc n off _ _ L hφ hlc =>
        by_cases e : m = l
        · simp only [e, if_true, shut, Option.map_some, Nat.sub_self]
          have : h - l = 0 := by omega
          rw [this]; exact .slz (.inl rfl)
        · simp only [if_neg e, shut, addOff, Option.map_some, Addr.add_none, Nat.add_assoc]
          exact .slc hφ (by omega)
      | @slo n off es' _ _ _ L hφ hlc hc hz =>
        by_cases e : m = l
        · simp only [e, if_true, shut, Option.map_some, Nat.sub_self]
          have : h - l = 0 := by omega
          rw [this]; exact .slz (.inl rfl)
        · simp only [if_neg e, shut, addOff, Option.map_some, Addr.add_none, Nat.add_assoc]
          exact .slc hφ (by omega)
      | slz hx =>
        have : m = 0 := by omega
        have : h = 0 := by omega
        have : l = 0 := by omega
        subst_vars
        exact .slz (.inl rfl)
  · simp only [Option.bind_eq_bind, Option.bind_eq_some_iff] at hr
    obtain ⟨h, hh, l, hl, hr⟩ := hr
    have h2 := obound_le hh hlk
    have h3 := obound_le hl (Nat.zero_le _)
    have hh' : obound hi k' len = some h := by
      cases hi with
      | none => exact hh
      | some x => exact cbound_mono hh hk
    refine ⟨_, ?_, run (m := k') rfl hh' (by simp) hl⟩
    cases hv with
    | snil =>
      have : h = 0 := by omega
      have : l = 0 := by omega
      subst_vars
      simp [openOf] at hr
      subst hr
      exact .snil
    | @slc n off _ _ L hφ hlc =>
      simp only [openOf] at hr
      cases hr
      by_cases e : k = l
      · simp only [e, if_true, Nat.sub_self]
        have : h - l = 0 := by omega
        rw [this]; exact .slz (.inl rfl)
      · simp only [if_neg e, addOff, Option.map_some, Addr.add_none, Nat.add_assoc]
        exact .slc hφ (by omega)
    | @slo n off es' _ _ _ L hφ hlc hc hz =>
      simp only [openOf] at hr
      split at hr
      · rename_i ee
        subst ee
        cases hr
        by_cases e : k' = l
        · have e1 : h - l = 0 := by omega
          have e2 : k - l = 0 := by omega
          have e3 : k' - l = 0 := by omega
          simp only [e, if_true, addOff, Option.map_some]
          rw [e1, e2, Nat.sub_self]
          exact .slz (.inr (by simp [hφ]))
        · simp only [if_neg e, addOff, Option.map_some, Addr.add_none, Nat.add_assoc]
          refine .slo hφ (by omega) (by omega) ?_
          have : (k' - l) * es' + l * es' = k' * es' := by rw [← Nat.add_mul]; congr 1; omega
          omega
      · cases hr
    | @slz x a' hx =>
      have e1 : h = 0 := by omega
      have e2 : l = 0 := by omega
      subst e1; subst e2
      simp only [openOf, if_true, Nat.sub_self] at hr ⊢
      split at hr
      · split at hr
        · cases hr
          refine .slz ?_
          simpa [addOff] using hx
        · cases hr
      · rename_i ho
        cases hr; exact .slz (.inl ho)
end
end Go.Cn
/-! ## The theorem: what needs no memory. -/
namespace Go.Cn
open Go

theorem cev_const (tm : List Value) (v : Value) : cev tm (.const v) = v := rfl
theorem eval_const (a : Act) (v : Value) : a.eval (.const v) = v := rfl
theorem omap_none {α β : Type} (f g : α → β) (o : Option α) : (o.map f).isNone = (o.map g).isNone := by cases o <;> rfl
theorem omap_rel {φ : Emb} {ρ ρ' : Operand → Value} {o : Option Operand} (h : ∀ x ∈ o.toList, VR φ (ρ x) (ρ' x)) : ∀ x x', o.map ρ = some x → o.map ρ' = some x' → VR φ x x' := by
  cases o with
  | none => simp
  | some y => simp only [Option.map_some, Option.some.injEq]; rintro x x' rfl rfl; exact h y (by simp)
theorem mapM_places {P : Program} {fs : Array Field} : ∀ {ps : List (Nat × Operand)} {qs : List (Nat × Nat × Operand)}, placesS P fs ps = some qs →
    ps.length = qs.length ∧ ∀ (i : Nat) (p : Nat × Operand) (q : Nat × Nat × Operand), ps[i]? = some p → qs[i]? = some q → ∃ f, fs[p.1]? = some f ∧ sizeAt P f.type = some q.2.1 ∧ q.1 = f.offset ∧ q.2.2 = p.2 := by
  intro ps
  induction ps with
  | nil => intro qs h; simp [placesS] at h; subst h; simp
  | cons p ps ih =>
    intro qs h
    unfold placesS at h
    simp only [List.mapM_cons, Option.bind_eq_bind, Option.bind_eq_some_iff, Option.pure_def, Option.some.injEq] at h
    obtain ⟨q, ⟨f, hf, n, hn, rfl⟩, qs', hq, rfl⟩ := h
    obtain ⟨h1, h2⟩ := ih hq
    refine ⟨by simp [h1], fun i p' q' a b => ?_⟩
    cases i with
    | zero => simp at a b; subst a; subst b; exact ⟨f, hf, hn, rfl, rfl⟩
    | succ i => exact h2 i p' q' (by simpa using a) (by simpa using b)
theorem fields_places {P : Program} : ∀ {fs : List Field}, (∀ f ∈ fs, ∃ n, sizeAt P f.type = some n) → ∀ w, (fs.mapM fun f => (do pure (f.offset, ← Go.sizeOf f.type) : Sem (Nat × Nat))).run P w = .ok (fs.map fun f => (f.offset, (sizeAt P f.type).getD 0)) w := by
  intro fs
  induction fs with
  | nil => intro _ w; rfl
  | cons f fs ih =>
    intro h w
    obtain ⟨n, hn⟩ := h f (by simp)
    have := ih (fun g hg => h g (by simp [hg])) w
    simp only [List.mapM_cons, Sem.run_bind, run_sizeOf hn, Result.andThen_ok, Sem.run_pure, List.map_cons, hn, Option.getD_some] at this ⊢
    rw [this]
    rfl

section
variable {P : Program} {φ : Emb} {tm : List Value} {a : Act}
theorem exec_ok {o : Oper} {v' : Value} {s : Sem Value} (h : execOp a.eval o = (do pure (.value (← s)) : Sem Go.Next)) (r : ∀ w, s.run P w = .ok v' w) : ∀ w, (execOp a.eval o).run P w = .ok (.value v') w := by
  intro w; rw [h]; simp [r]
theorem findNext_ib {fn : Func} (hn : fn.name = "internal/bytealg.IndexByteString") (ho : fn.origin = "") : Extern.findNext fn = none := by
  unfold Extern.findNext
  rw [hn, ho]
  rfl
theorem find_ib {fn : Func} (hn : fn.name = "internal/bytealg.IndexByteString") : Extern.find fn = some Extern.BytealgIndexByte.indexByte := by
  unfold Extern.find
  rw [hn]
  rfl
theorem bool_of_and {a b : Bool} (h : (a && b) = true) : a = true ∧ b = true := by simpa using h
theorem guardB_some {b : Bool} {u : Unit} (h : guardB b = some u) : b = true := by unfold guardB at h; split at h <;> simp_all
theorem run_nil_op {t : TypeId} {d : TypeDesc} (hd : P.underlying t = some d) {k : Nat} (hk : nilKind d = some k) {v n : Value} {b : Bool} (hv : cnil k v = some b)
    (hn : isNilConst k (.const n) = true) (neg : Bool) (x y : Operand) (w : World) :
    (do eqGuard (if neg then .neq else .eql) t x y v n; Go.binOp (if neg then .neq else .eql) t v n : Sem Value).run P w = .ok (.bool (if neg then !b else b)) w ∧
    (do eqGuard (if neg then .neq else .eql) t x y n v; Go.binOp (if neg then .neq else .eql) t n v : Sem Value).run P w = .ok (.bool (if neg then !b else b)) w := by
  obtain ⟨r1, r2⟩ := run_eq_nil hd hk hv hn w
  have g1 : ∀ op, (eqGuard op t x y v n).run P w = .ok () w := fun op => eqGuard_other P op t x y (by
    rcases isNil_inv hn with ⟨_, e⟩ | ⟨_, e⟩ | ⟨_, e⟩ | ⟨_, e⟩ <;> cases e <;> cases v <;> first | rfl | simp [cnil] at hv) w
  have g2 : ∀ op, (eqGuard op t x y n v).run P w = .ok () w := fun op => eqGuard_other P op t x y (by
    rcases isNil_inv hn with ⟨_, e⟩ | ⟨_, e⟩ | ⟨_, e⟩ | ⟨_, e⟩ <;> cases e <;> cases v <;> first | rfl | simp [cnil] at hv) w
  have b1 : ∀ z u : Value, (match z, u with | .int _ _, .int _ _ | .float _ _, .float _ _ | .complex _ _ _, .complex _ _ _ | .string _, .string _ => false | _, _ => true) = true →
      Go.binOp .eql t z u = (do pure (.bool (← Op.equal t z u))) ∧ Go.binOp .neq t z u = (do pure (.bool (!(← Op.equal t z u)))) := by
    intro z u h
    constructor <;> (unfold Go.binOp; split <;> simp_all)
  have c1 := b1 v n (by rcases isNil_inv hn with ⟨_, e⟩ | ⟨_, e⟩ | ⟨_, e⟩ | ⟨_, e⟩ <;> cases e <;> cases v <;> rfl)
  have c2 := b1 n v (by rcases isNil_inv hn with ⟨_, e⟩ | ⟨_, e⟩ | ⟨_, e⟩ | ⟨_, e⟩ <;> cases e <;> cases v <;> rfl)
  constructor
  · simp only [Sem.run_bind, g1, Result.andThen_ok]
    cases neg <;> simp [c1.1, c1.2, r1]
  · simp only [Sem.run_bind, g2, Result.andThen_ok]
    cases neg <;> simp [c2.1, c2.2, r2]
theorem pure_sound {o : Oper} {ci : CI} {v : Value} (hc : compOp P o = some ci) (hv : cpure (cev tm) ci = some v) (hr : ∀ x ∈ o.op.operands.toList, VR φ (cev tm x) (a.eval x)) :
    ∃ v', VR φ v v' ∧ ∀ w, (execOp a.eval o).run P w = .ok (.value v') w := by
  obtain ⟨dst, op, type, pos, after, guard⟩ := o
  unfold compOp at hc
  simp only [Option.bind_eq_bind, Option.bind_eq_some_iff] at hc
  obtain ⟨_, hok, hc⟩ := hc; clear hok
  cases op <;> simp only [Op.operands] at hr <;> simp only at hc
  case move x => cases hc; cases hv; exact ⟨_, hr x (by simp), fun w => rfl⟩
  case assign x => cases hc; cases hv; exact ⟨_, hr x (by simp), fun w => rfl⟩
  case pick c x y =>
    cases hc
    simp only [cpure] at hv
    split at hv
    · rename_i t ht
      have h1 := hr c (by simp); rw [ht] at h1
      cases hv
      refine ⟨if t then a.eval x else a.eval y, ?_, fun w => ?_⟩
      · cases t
        · exact hr y (by simp)
        · exact hr x (by simp)
      · simp [execOp, h1.bool_inv, asBool]
    · cases hv
  case binOp bop t x y yt =>
    simp only [Option.bind_eq_some_iff] at hc
    obtain ⟨d, hd, hc⟩ := hc
    have hx := hr x (by simp)
    have hy := hr y (by simp)
    have viaBin : cbin bop (cev tm x) (cev tm y) = some v → ∃ v', VR φ v v' ∧ ∀ w, (execOp a.eval ⟨dst, .binOp bop t x y yt, type, pos, after, guard⟩).run P w = .ok (.value v') w := fun h => by
      refine ⟨v, VR.flat_refl (cbin_flat h), fun w => ?_⟩
      have := (cbin_sound (P := P) (t := t) x y h hx hy).2 w
      simp only [execOp, Sem.run_bind, Sem.run_pure] at this ⊢
      rw [this]; rfl
    have viaNil : ∀ {k : Nat} {neg : Bool}, nilKind d = some k → (isNilConst k y = true ∧ (cnil k (cev tm x)).map (fun b => Value.bool (if neg then !b else b)) = some v ∨ isNilConst k x = true ∧ (cnil k (cev tm y)).map (fun b => Value.bool (if neg then !b else b)) = some v) →
        (bop = if neg then .neq else .eql) → ∃ v', VR φ v v' ∧ ∀ w, (execOp a.eval ⟨dst, .binOp bop t x y yt, type, pos, after, guard⟩).run P w = .ok (.value v') w := by
      intro k neg hk h hop
      rcases h with ⟨hn, h⟩ | ⟨hn, h⟩
      · simp only [Option.map_eq_some_iff] at h
        obtain ⟨b, hb, rfl⟩ := h
        refine ⟨_, .bool _, fun w => ?_⟩
        obtain ⟨n, rfl⟩ : ∃ n, y = .const n := by rcases isNil_inv hn with ⟨_, e⟩ | ⟨_, e⟩ | ⟨_, e⟩ | ⟨_, e⟩ <;> exact ⟨_, e⟩
        have r := (run_nil_op hd hk (cnil_sound hx hb) hn neg x (.const n) w).1
        simp only [execOp, hop, eval_const]
        rw [Sem.run_bind, r]; rfl
      · simp only [Option.map_eq_some_iff] at h
        obtain ⟨b, hb, rfl⟩ := h
        refine ⟨_, .bool _, fun w => ?_⟩
        obtain ⟨n, rfl⟩ : ∃ n, x = .const n := by rcases isNil_inv hn with ⟨_, e⟩ | ⟨_, e⟩ | ⟨_, e⟩ | ⟨_, e⟩ <;> exact ⟨_, e⟩
        have r := (run_nil_op hd hk (cnil_sound hy hb) hn neg (.const n) y w).2
        simp only [execOp, hop, eval_const]
        rw [Sem.run_bind, r]; rfl
    have viaBool : ∀ {neg : Bool}, d = .bool → (bop = if neg then .neq else .eql) → (match cev tm x, cev tm y with | .bool a, .bool b => some (Value.bool (if neg then !(a == b) else a == b)) | _, _ => none) = some v →
        ∃ v', VR φ v v' ∧ ∀ w, (execOp a.eval ⟨dst, .binOp bop t x y yt, type, pos, after, guard⟩).run P w = .ok (.value v') w := by
      intro neg hdb hop h
      subst hdb
      split at h
      · rename_i b1 b2 e1 e2
        rw [e1] at hx; rw [e2] at hy
        cases h
        refine ⟨_, .bool _, fun w => ?_⟩
        have r : (Op.equal t (.bool b1) (.bool b2)).run P w = .ok (b1 == b2) w := by
          have e : (Op.equal t (.bool b1) (.bool b2)).run P w = (Op.equalIn (9999 + 1) t (.bool b1) (.bool b2)).run P w := rfl
          rw [e]; generalize 9999 = dd
          rw [Op.equalIn]
          simp only [Sem.run_bind, run_underlying hd, Result.andThen_ok]; rfl
        have g := run_eqGuard_b P bop t x y b1 b2 w
        simp only [execOp, hx.bool_inv, hy.bool_inv, Sem.run_bind, Sem.run_pure]
        rw [g]; simp only [Result.andThen_ok]
        cases neg <;> simp only [hop, Go.binOp] <;> simp [r]
      · cases h
    cases d with
    | int k => simp only at hc; cases hc; exact viaBin hv
    | string => simp only at hc; cases hc; exact viaBin hv
    | bool =>
      simp only at hc
      cases bop <;> simp at hc <;> subst hc
      · exact viaBool (neg := false) rfl rfl hv
      · exact viaBool (neg := true) rfl rfl hv
    | _ =>
      simp only [Option.bind_eq_some_iff] at hc
      obtain ⟨k, hk, hc⟩ := hc
      cases bop <;> simp at hc <;> first
        | (split at hc
           · rename_i h; cases hc; exact viaNil (neg := false) hk (.inl ⟨h, hv⟩) rfl
           · split at hc
             · rename_i h; cases hc; exact viaNil (neg := false) hk (.inr ⟨h, hv⟩) rfl
             · cases hc)
        | (split at hc
           · rename_i h; cases hc; exact viaNil (neg := true) hk (.inl ⟨h, hv⟩) rfl
           · split at hc
             · rename_i h; cases hc; exact viaNil (neg := true) hk (.inr ⟨h, hv⟩) rfl
             · cases hc)
  case unOp uop t x =>
    cases hc
    have hx := hr x (by simp)
    exact ⟨v, VR.flat_refl (cun_flat hv), fun w => by simp [execOp, cun_sound (P := P) hv hx w]⟩
  case convert s d x =>
    simp only [Option.bind_eq_some_iff] at hc
    obtain ⟨sd, hs, dd, hd, hc⟩ := hc
    have hx := hr x (by simp)
    split at hc
    · rename_i k0 k
      cases hc
      simp only [cpure] at hv
      split at hv
      · rename_i k1 n e
        rw [e] at hx
        cases hv
        exact ⟨_, .int _ _, fun w => by simp [execOp, convert, run_underlying hs, run_underlying hd, hx.int_inv, Conv.intToInt]⟩
      · cases hv
    · simp only [Option.bind_eq_some_iff] at hc
      obtain ⟨ed, _, hc⟩ := hc
      split at hc
      · cases hc; simp [cpure] at hv
      · cases hc
    · simp only [Option.bind_eq_some_iff] at hc
      obtain ⟨ed, _, hc⟩ := hc
      split at hc
      · cases hc; simp [cpure] at hv
      · cases hc
    · cases hc
  case field t x f =>
    simp only [Option.bind_eq_some_iff] at hc
    obtain ⟨d, hd, hc⟩ := hc
    split at hc
    · rename_i fs
      simp only [Option.bind_eq_some_iff] at hc
      obtain ⟨fd, hf, wd, hw, hc⟩ := hc
      cases hc
      have hx := hr x (by simp)
      simp only [cpure] at hv
      split at hv
      · rename_i cs e
        rw [e] at hx
        obtain ⟨ys, e2, ha⟩ := hx.agg_inv
        obtain ⟨v', r, hp⟩ := cpart_sound (φ := φ) ha hv
        refine ⟨v', r, fun w => ?_⟩
        simp [execOp, Instr.field, run_underlying hd, hf, e2, asAgg, run_part hw hp]
      · cases hv
    · cases hc
  case index t x i =>
    simp only [Option.bind_eq_some_iff] at hc
    obtain ⟨d, hd, hc⟩ := hc
    have hx := hr x (by simp)
    have hi := hr i (by simp)
    split at hc
    · rename_i len e
      simp only [Option.bind_eq_some_iff] at hc
      obtain ⟨n, hn, ag, hag, hc⟩ := hc
      cases hc
      simp only [cpure] at hv
      split at hv
      · rename_i cs k j e1 e2
        rw [e1] at hx; rw [e2] at hi
        obtain ⟨ys, e3, ha⟩ := hx.agg_inv
        split at hv
        · rename_i hb
          obtain ⟨v', r, hp⟩ := cpart_sound (φ := φ) ha hv
          refine ⟨v', r, fun w => ?_⟩
          have hw : wide P e = some (if ag then some n else none) := by
            unfold wide; simp only [hag, hn, Option.bind_eq_bind, Option.bind_some]; cases ag <;> rfl
          simp [execOp, Instr.index, hi.int_inv, asIntOf, run_underlying hd, e3, hb, run_sizeOf hn, run_part hw hp]
        · cases hv
      · cases hv
    · cases hc
      simp only [cpure] at hv
      split at hv
      · rename_i s k j e1 e2
        rw [e1] at hx; rw [e2] at hi
        split at hv
        · rename_i hb
          simp only [Option.map_eq_some_iff] at hv
          obtain ⟨b, hb2, rfl⟩ := hv
          refine ⟨_, .int _ _, fun w => ?_⟩
          simp [execOp, Instr.index, hi.int_inv, asIntOf, run_underlying hd, hx.str_inv, hb, hb2]
        · cases hv
      · cases hv
    · cases hc
  case extract x i =>
    cases hc
    have hx := hr x (by simp)
    simp only [cpure] at hv
    split at hv
    · rename_i vs e
      rw [e] at hx
      obtain ⟨ys, e3, ha⟩ := hx.tuple_inv
      obtain ⟨v', e4, r⟩ := VA.get? (φ := φ) ha hv
      exact ⟨v', r, fun w => by simp [execOp, Instr.extract, e3, e4]⟩
    · cases hv
  case nilCheck x =>
    cases hc
    have hx := hr x (by simp)
    simp only [cpure] at hv
    split at hv
    · rename_i ad e
      rw [e] at hx
      cases hv
      obtain ⟨L, h1, h2, h3⟩ := hx.ptr_inv
      refine ⟨_, hx, fun w => ?_⟩
      simp [execOp, h3]
    · rename_i f fi ca e
      rw [e] at hx
      cases hv
      refine ⟨_, hx, fun w => ?_⟩
      obtain ⟨fi', ca', e2⟩ : ∃ fi' ca', a.eval x = .func (.func f) fi' ca' := by
        generalize a.eval x = z at hx ⊢
        cases hx; exact ⟨_, _, rfl⟩
      simp [execOp, e2]
    · cases hv
  case fieldAddr t x f =>
    simp only [Option.bind_eq_some_iff] at hc
    obtain ⟨d, hd, hc⟩ := hc
    split at hc
    · rename_i fs
      simp only [Option.bind_eq_some_iff] at hc
      obtain ⟨fd, hf, n, hn, u, hg, hc⟩ := hc
      have hne := guardB_some hg
      cases hc
      have hx := hr x (by simp)
      simp only [cpure] at hv
      split at hv
      · rename_i ad e
        rw [e] at hx
        cases hv
        obtain ⟨L, h1, h2, h3⟩ := hx.ptr_inv
        obtain ⟨bl, of, sp⟩ := ad
        simp only at h1 h2 h3
        subst h2
        refine ⟨.pointer (some ⟨L.b, L.sh + (of + fd.offset), none⟩), ?_, fun w => ?_⟩
        · rw [Addr.add_none]; exact .ptr h1
        · have : n ≠ 0 := by simpa using hne
          simp [execOp, Instr.fieldAt, run_underlying hd, hf, h3, Instr.sureAddr, fieldPlace, run_sizeOf hn, this, Addr.add_none, Nat.add_assoc]
      · cases hv
    · cases hc
  case indexAddr t x i =>
    simp only [Option.bind_eq_some_iff] at hc
    obtain ⟨d, hd, hc⟩ := hc
    have hx := hr x (by simp)
    have hi := hr i (by simp)
    split at hc
    · rename_i e
      simp only [Option.bind_eq_some_iff] at hc
      obtain ⟨n, hn, hc⟩ := hc
      cases hc
      simp only [cpure] at hv
      split at hv
      · rename_i ad len cap k j e1 e2
        rw [e1] at hx; rw [e2] at hi
        split at hv
        · rename_i hb
          cases hv
          have hi' := hi.int_inv
          generalize hz : a.eval x = z at hx
          cases hx with
          | @slc nn off _ _ L hφ hlc =>
            refine ⟨.pointer (some ⟨L.b, L.sh + (off + j.toNat * n), none⟩), .ptr hφ, fun w => ?_⟩
            simp [execOp, Instr.indexAt, hi', asIntOf, run_underlying hd, hz, hb, run_sizeOf hn, Addr.add_none, Nat.add_assoc]
          | @slo nn off es' _ _ _ L hφ hlc hcc hzz =>
            refine ⟨.pointer (some ⟨L.b, L.sh + (off + j.toNat * n), none⟩), .ptr hφ, fun w => ?_⟩
            simp [execOp, Instr.indexAt, hi', asIntOf, run_underlying hd, hz, hb, run_sizeOf hn, Addr.add_none, Nat.add_assoc]
          | slz _ => omega
        · cases hv
      · cases hv
    · rename_i len e
      simp only [Option.bind_eq_some_iff] at hc
      obtain ⟨n, hn, hc⟩ := hc
      cases hc
      simp only [cpure] at hv
      split at hv
      · rename_i ad k j e1 e2
        rw [e1] at hx; rw [e2] at hi
        split at hv
        · rename_i hb
          cases hv
          obtain ⟨L, h1, h2, h3⟩ := hx.ptr_inv
          obtain ⟨bl, of, sp⟩ := ad
          simp only at h1 h2 h3
          subst h2
          refine ⟨.pointer (some ⟨L.b, L.sh + (of + j.toNat * n), none⟩), ?_, fun w => ?_⟩
          · rw [Addr.add_none]; exact .ptr h1
          · simp [execOp, Instr.indexAt, hi.int_inv, asIntOf, run_underlying hd, h3, Instr.sureAddr, hb, run_sizeOf hn, Addr.add_none, Nat.add_assoc]
        · cases hv
      · cases hv
    · cases hc
  case slice t x lo hi mx =>
    simp only [Option.bind_eq_some_iff] at hc
    obtain ⟨d, hd, hc⟩ := hc
    have hx := hr x (by simp)
    have hlo := omap_rel (φ := φ) (ρ := cev tm) (ρ' := a.eval) (o := lo) (fun y hy => hr y (by simp at hy ⊢; simp [hy]))
    have hhi := omap_rel (φ := φ) (ρ := cev tm) (ρ' := a.eval) (o := hi) (fun y hy => hr y (by simp at hy ⊢; simp [hy]))
    have hmx := omap_rel (φ := φ) (ρ := cev tm) (ρ' := a.eval) (o := mx) (fun y hy => hr y (by simp at hy ⊢; simp [hy]))
    split at hc
    · simp only [Option.bind_eq_some_iff] at hc
      obtain ⟨u, hg, hc⟩ := hc
      have hne := guardB_some hg
      cases hc
      simp only [cpure] at hv
      split at hv
      · rename_i s e
        rw [e] at hx
        simp only [Option.bind_eq_bind, Option.bind_eq_some_iff] at hv
        obtain ⟨h, hh, l, hl, hv⟩ := hv
        cases hv
        obtain rfl : mx = none := by cases mx <;> simp_all
        have r := slcStr_sound (P := P) (φ := φ) hd (omap_none _ _ lo) (omap_none _ _ hi) hlo hhi hh hl
        refine ⟨_, .string _, fun w => ?_⟩
        simp [execOp, hx.str_inv, r w]
      · cases hv
    · rename_i e
      simp only [Option.bind_eq_some_iff] at hc
      obtain ⟨n, hn, u, hg, hc⟩ := hc
      cases hc
      simp only [cpure] at hv
      obtain ⟨r', h1, h2⟩ := slcS_sound (P := P) (φ := φ) hd hn hx (omap_none _ _ lo) (omap_none _ _ hi) (omap_none _ _ mx) hlo hhi hmx hv
      exact ⟨r', h1, fun w => by simp [execOp, h2 w]⟩
    · cases hc
  case makeFunc fn first captured =>
    split at hc
    · rename_i f
      cases hc
      simp only [cpure] at hv
      cases hv
      have h1 := VA.arr (φ := φ) (ρ := cev tm) (ρ' := a.eval) first (fun x hx => hr x (by simp at hx ⊢; simp [hx]))
      have h2 := VA.arr (φ := φ) (ρ := cev tm) (ρ' := a.eval) captured (fun x hx => hr x (by simp at hx ⊢; simp [hx]))
      refine ⟨.func (.func f) (first.map a.eval) (captured.map a.eval), ?_, fun w => by simp [execOp, Instr.makeFunc]⟩
      obtain ⟨s1, r1⟩ := h1
      obtain ⟨s2, r2⟩ := h2
      exact .func s1 s2 r1 r2
    · cases hc
  case build t ps =>
    simp only [Option.bind_eq_some_iff] at hc
    obtain ⟨z, hz, d, hd, hc⟩ := hc
    have hz' : ∀ w, (Go.zeroValue t).run P w = .ok z w := fun w => run_zero hz w
    split at hc
    · rename_i fs
      simp only [Option.bind_eq_some_iff] at hc
      obtain ⟨u, hg, qs, hq, hc⟩ := hc
      have hpl := guardB_some hg
      cases hc
      simp only [cpure, Option.map_eq_some_iff] at hv
      obtain ⟨r, hr2, rfl⟩ := hv
      obtain ⟨hl, hp⟩ := mapM_places hq
      obtain ⟨hpl, hfs⟩ := bool_of_and hpl
      have hfs' : ∀ f ∈ fs.toList, ∃ n, sizeAt P f.type = some n := fun f hf => by
        have := Array.all_eq_true'.1 hfs f (by simpa using hf)
        exact Option.isSome_iff_exists.1 this
      obtain ⟨r', h1, h2⟩ := fill_sound (φ := φ) (ρ := cev tm) (ρ' := a.eval) (place := fun i => (fs.toList.map fun f => (f.offset, (sizeAt P f.type).getD 0)).toArray[i]?) ps.toList qs z.cells z.cells r
        (fun p hp => hr p.2 (by simpa using ⟨p.1, by simpa using hp⟩)) hl (fun i p q e1 e2 => by
          obtain ⟨f, f1, f2, f3, f4⟩ := hp i p q e1 e2
          refine ⟨?_, f4⟩
          simp [f1, f2, f3]) (all_plain hpl) (by simpa using hr2)
      refine ⟨.agg r', h2.agg, fun w => ?_⟩
      have hm := fields_places (P := P) (fs := fs.toList) hfs' w
      have h3 : Instr.fill (fun x => Option.map (fun f : Field => (f.offset, (sizeAt P f.type).getD 0)) fs[x]?) z.cells (List.map (fun x => (x.fst, a.eval x.snd)) ps.toList) = some r' := by
        have e : (fun i : Nat => (fs.toList.map fun f : Field => (f.offset, (sizeAt P f.type).getD 0)).toArray[i]?) = fun x => Option.map (fun f : Field => (f.offset, (sizeAt P f.type).getD 0)) fs[x]? := by
          funext i; simp
        rw [← e]; exact h1
      simp only [execOp, Instr.build, Sem.run_bind, hz', Result.andThen_ok, run_underlying hd, Array.mapM_eq_mapM_toList, Sem.run_map]
      rw [hm]
      simp [h3]
    · rename_i len e
      simp only [Option.bind_eq_some_iff] at hc
      obtain ⟨n, hn, u, hg, hc⟩ := hc
      have hpl := guardB_some hg
      cases hc
      simp only [cpure, Option.map_eq_some_iff] at hv
      obtain ⟨r, hr2, rfl⟩ := hv
      obtain ⟨r', h1, h2⟩ := fill_sound (φ := φ) (ρ := cev tm) (ρ' := a.eval) (place := fun i => some (i * n, n)) ps.toList (ps.toList.map fun (i, x) => (i * n, n, x)) z.cells z.cells r
        (fun p hp => hr p.2 (by simpa using ⟨p.1, by simpa using hp⟩)) (by simp) (fun i p q h1 h2 => by
          simp only [List.getElem?_map, h1, Option.map_some, Option.some.injEq] at h2
          subst h2; exact ⟨rfl, rfl⟩) (all_plain hpl) (by simpa using hr2)
      refine ⟨.agg r', h2.agg, fun w => ?_⟩
      have h3 : Instr.fill (fun i => some (i * n, n)) z.cells (List.map (fun x => (x.fst, a.eval x.snd)) ps.toList) = some r' := h1
      simp [execOp, Instr.build, hz', run_underlying hd, run_sizeOf hn, h3]
    · cases hc
  case call c =>
    split at hc
    · rename_i f hcal
      split at hc
      · rename_i fn hfn
        split at hc
        · split at hc
          · cases hc
          · cases hc; simp [cpure] at hv
        · split at hc
          · rename_i hbody hname
            split at hc
            · rename_i x y hxy
              cases hc
              obtain ⟨hn1, hn2⟩ := bool_of_and hname
              simp only [beq_iff_eq] at hn1 hn2
              simp only [cpure] at hv
              split at hv
              · rename_i s n e1 e2
                cases hv
                have hx := hr x (by have : x ∈ c.args.toList := by rw [hxy]; simp
                                    simp [Call.operands] ; right; simpa using this)
                have hy := hr y (by have : y ∈ c.args.toList := by rw [hxy]; simp
                                    simp [Call.operands] ; right; simpa using this)
                rw [e1] at hx; rw [e2] at hy
                have hargs : c.args = #[x, y] := by rw [← Array.toArray_toList (xs := c.args), hxy]
                refine ⟨_, .int _ _, fun w => ?_⟩
                have hb : fn.body.isNone = true := by cases h : fn.body <;> simp_all
                have := run_callFunc_extern (P := P) (f := f) hfn (by rw [hn1]; rfl) hb (findNext_ib hn1 hn2) (find_ib hn1) #[.string s, .int .u8 n] w
                rw [run_indexByte_string] at this
                simp only [Result.andThen_ok] at this
                have e3 : a.eval x = .string s := hx.str_inv
                have e4 : a.eval y = .int .u8 n := hy.int_inv
                have e5 : a.eval (.func f) = .func (.func f) #[] #[] := rfl
                have e6 : (#[] : Array Value) ++ (Array.map a.eval #[x, y]) ++ #[] = #[.string s, .int .u8 n] := by simp [e3, e4]
                simp only [execOp, resolve, hcal, hargs, Sem.run_bind, e5, Deferred.ofValue, Sem.run_pure, Result.andThen_ok, invoke, e6]
                exact this
              · cases hv
            · cases hc
          · cases hc
      · cases hc
    · cases hc; simp [cpure] at hv
    · cases hc
    · rename_i b hcal
      have hop : ∀ x ∈ c.args.toList, VR φ (cev tm x) (a.eval x) := fun x hx => hr x (by simp [Call.operands, hcal]; simpa using hx)
      obtain ⟨cs, hrun⟩ : ∃ cs, ∀ w, (execOp a.eval ⟨dst, .call c, type, pos, after, guard⟩).run P w = (builtin b c.argTypes type cs (c.args.map a.eval)).run P w :=
        ⟨_, fun w => by simp only [execOp, resolve, hcal, Sem.run_bind, Sem.run_pure, Result.andThen_ok, invoke]; rfl⟩
      split at hc
      · rename_i x hargs
        have hx := hop x (by rw [hargs]; simp)
        have ha : c.args.map a.eval = #[a.eval x] := by rw [← Array.toArray_toList (xs := c.args), hargs]; simp
        simp only [Option.bind_eq_some_iff] at hc
        obtain ⟨d, ⟨t, ht, hd⟩, hc⟩ := hc
        split at hc
        · cases hc
          simp only [cpure] at hv
          split at hv
          · rename_i s e
            rw [e] at hx; cases hv
            refine ⟨_, .int _ _, fun w => ?_⟩
            rw [hrun, ha]
            simp [builtin, Builtin.len_, ht, run_underlying hd, hx.str_inv, goInt]
          · cases hv
        · cases hc
          simp only [cpure] at hv
          split at hv
          · rename_i s n k e
            rw [e] at hx; cases hv
            refine ⟨_, .int _ _, fun w => ?_⟩
            obtain ⟨a', k', e2⟩ : ∃ a' k', a.eval x = .slice a' n k' := by
              generalize a.eval x = z at hx
              cases hx <;> exact ⟨_, _, rfl⟩
            rw [hrun, ha]
            simp [builtin, Builtin.len_, ht, run_underlying hd, e2, goInt]
          · cases hv
        · cases hc; simp [cpure] at hv
        · cases hc
      · simp only [Option.bind_eq_some_iff] at hc
        obtain ⟨_, _, _, _, hc⟩ := hc
        split at hc
        · simp only [Option.bind_eq_some_iff] at hc
          obtain ⟨_, _, _, _, _, _, _, _, _, _, hc⟩ := hc
          split at hc
          · cases hc; simp [cpure] at hv
          · cases hc; simp [cpure] at hv
          · cases hc
        · cases hc
      · simp only [Option.bind_eq_some_iff] at hc
        obtain ⟨_, _, _, _, hc⟩ := hc
        split at hc
        · simp only [Option.bind_eq_some_iff] at hc
          obtain ⟨_, _, hc⟩ := hc
          cases hc; simp [cpure] at hv
        · cases hc
      · simp only [Option.bind_eq_some_iff] at hc
        obtain ⟨_, _, _, _, hc⟩ := hc
        split at hc
        · simp only [Option.bind_eq_some_iff] at hc
          obtain ⟨_, _, _, _, hc⟩ := hc
          cases hc; simp [cpure] at hv
        · cases hc
      · rename_i x y hargs
        have hx := hop x (by rw [hargs]; simp)
        have hy := hop y (by rw [hargs]; simp)
        have ha : c.args.map a.eval = #[a.eval x, a.eval y] := by rw [← Array.toArray_toList (xs := c.args), hargs]; simp
        cases hc
        simp only [cpure] at hv
        split at hv
        · rename_i k m k' n e1 e2
          rw [e1] at hx; rw [e2] at hy; cases hv
          refine ⟨_, .int _ _, fun w => ?_⟩
          rw [hrun, ha]
          simp [builtin, Builtin.min_, Builtin.min2, hx.int_inv, hy.int_inv]
        · cases hv
      · rename_i x y hargs
        have hx := hop x (by rw [hargs]; simp)
        have hy := hop y (by rw [hargs]; simp)
        have ha : c.args.map a.eval = #[a.eval x, a.eval y] := by rw [← Array.toArray_toList (xs := c.args), hargs]; simp
        cases hc
        simp only [cpure] at hv
        split at hv
        · rename_i k m k' n e1 e2
          rw [e1] at hx; rw [e2] at hy; cases hv
          refine ⟨_, .int _ _, fun w => ?_⟩
          rw [hrun, ha]
          simp [builtin, Builtin.max_, Builtin.max2, hx.int_inv, hy.int_inv]
        · cases hv
      · cases hc; simp [cpure] at hv
      · simp only [Option.bind_eq_some_iff] at hc
        obtain ⟨_, _, _, _, hc⟩ := hc
        split at hc
        · simp only [Option.bind_eq_some_iff] at hc
          obtain ⟨_, _, _, _, hc⟩ := hc
          cases hc; simp [cpure] at hv
        · cases hc
      · simp only [Option.bind_eq_some_iff] at hc
        obtain ⟨_, _, _, _, hc⟩ := hc
        split at hc
        · simp only [Option.bind_eq_some_iff] at hc
          obtain ⟨_, _, _, _, hc⟩ := hc
          cases hc; simp [cpure] at hv
        · cases hc
      · cases hc
  case alloc t =>
    simp only [Option.bind_eq_some_iff] at hc
    obtain ⟨_, _, _, _, hc⟩ := hc; cases hc; simp [cpure] at hv
  case box t x =>
    simp only [Option.bind_eq_some_iff] at hc
    obtain ⟨_, _, hc⟩ := hc; cases hc; simp [cpure] at hv
  case buildSlice t n ps =>
    simp only [Option.bind_eq_some_iff] at hc
    obtain ⟨_, _, hc⟩ := hc
    split at hc
    · simp only [Option.bind_eq_some_iff] at hc
      obtain ⟨_, _, _, _, _, _, hc⟩ := hc; cases hc; simp [cpure] at hv
    · cases hc
  case insert t m k x =>
    simp only [Option.bind_eq_some_iff] at hc
    obtain ⟨_, _, hc⟩ := hc
    split at hc
    · simp only [Option.bind_eq_some_iff] at hc
      obtain ⟨_, _, _, _, hc⟩ := hc; cases hc; simp [cpure] at hv
    · cases hc
  case mapUpdate t m k x =>
    simp only [Option.bind_eq_some_iff] at hc
    obtain ⟨_, _, hc⟩ := hc
    split at hc
    · simp only [Option.bind_eq_some_iff] at hc
      obtain ⟨_, _, _, _, hc⟩ := hc; cases hc; simp [cpure] at hv
    · cases hc
  case load t x =>
    simp only [Option.bind_eq_some_iff] at hc
    obtain ⟨_, _, hc⟩ := hc; cases hc; simp [cpure] at hv
  case store t x y =>
    simp only [Option.bind_eq_some_iff] at hc
    obtain ⟨_, _, hc⟩ := hc; cases hc; simp [cpure] at hv
  case makeMap t r =>
    simp only [Option.bind_eq_some_iff] at hc
    obtain ⟨_, _, hc⟩ := hc; cases hc; simp [cpure] at hv
  case makeSlice t l c =>
    simp only [Option.bind_eq_some_iff] at hc
    obtain ⟨_, _, hc⟩ := hc
    split at hc
    · simp only [Option.bind_eq_some_iff] at hc
      obtain ⟨_, _, _, _, _, _, _, _, hc⟩ := hc; cases hc; simp [cpure] at hv
    · cases hc
  case lookup t x k ok =>
    simp only [Option.bind_eq_some_iff] at hc
    obtain ⟨_, _, hc⟩ := hc
    split at hc
    · simp only [Option.bind_eq_some_iff] at hc
      obtain ⟨_, _, _, _, _, _, _, _, hc⟩ := hc; cases hc; simp [cpure] at hv
    · cases hc
  case range t x =>
    simp only [Option.bind_eq_some_iff] at hc
    obtain ⟨_, _, hc⟩ := hc
    split at hc
    · cases hc; simp [cpure] at hv
    · cases hc
  case next x b =>
    simp only [Option.bind_eq_some_iff] at hc
    obtain ⟨_, _, hc⟩ := hc; cases hc; simp [cpure] at hv
  case entry x => cases hc; simp [cpure] at hv
  all_goals cases hc
end
end Go.Cn
