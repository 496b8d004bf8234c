/- A program logic over canonical heaps, any program: part 4 of 4. Conditions: none; each theorem bears its own. -/
import Derived.Test.YtlpaapcghcglpaaGreatDoorCn2
import Derived.Handed
import Derived.ChangeSame
import Derived.Below
import Derived.Lib.Join
import Derived.Lib.Repeat
import Derived.Lib.Bytealg
/-! ## Runs worked out. -/
namespace Go.Cn
open Go

abbrev Sum := List Value → CH → Option (Value × CH)
structure Env where
  fns : T CFun
  sums : T Sum

abbrev RunTy := CCode → List Value → CH → Option (Ex × List Value × CH)
def callWith (E : Env) (rn : RunTy) (f : FuncId) (args : List Value) (H : CH) : Option (Value × CH) :=
  match E.sums.get f with
  | some s => s args H
  | none => match E.fns.get f with
    | none => none
    | some cf => match rn cf.body (args ++ List.replicate (cf.ntmps - args.length) undef) H with
      | some (e, tm1, H1) => match e with
        | none => (cres tm1 H1 cf.results).map fun v => (v, H1)
        | some .ret => (cres tm1 H1 cf.results).map fun v => (v, H1)
        | _ => none
      | none => none
def yieldWith (rn : RunTy) (n : Nat) (args : List Value) (H : CH) : Option (Value × CH) :=
  match H.get n with
  | some (.loop .ready _ tm ps ca cb) =>
    if args.length = ps.size then
      match rn ca (setParams tm ps args) H with
      | some (none, tm1, H1) => match H1.get n with
        | some (.loop .ready pend1 _ _ _ _) =>
          match rn cb tm1 (H1.set n (.loop .busy pend1 tm ps ca cb)) with
          | some (e2, _, H2) => match H2.get n with
            | some (.loop .busy _ _ _ _ _) => some (.bool e2.isNone, H2.set n (.loop (if e2.isNone then .ready else .done) e2 tm ps ca cb))
            | _ => none
          | none => none
        | _ => none
      | _ => none
    else none
  | _ => none
def nextWith (H : CH) (v : Value) : Option (Value × CH) :=
  match v with
  | .pointer (some ⟨n, 0, none⟩) => match H.get n with
    | some (.iter none _ _ _) => some (.tuple #[.bool false], H)
    | some (.iter (some m) since seen last) => match H.get m with
      | some (.map es ck) =>
        if !seen.isEmpty && !es.isEmpty && es.all (fun e => decide (e.born ≥ last)) then none
        else match cands es since seen with
          | [none] => some (.tuple #[.bool false], H)
          | some e :: _ => some (.tuple #[.bool true, e.key, e.val], H.set n (.iter (some m) since (seen.push e.born) ck))
          | _ => none
      | _ => none
    | _ => none
  | _ => none
def opWith (E : Env) (rn : RunTy) (tm : List Value) (H : CH) : CI → Option (Value × CH)
  | .call f args => callWith E rn f (args.map (cev tm)) H
  | .callv f args => match cev tm f with
    | .func (.func g) fi ca => callWith E rn g (fi.toList ++ args.map (cev tm) ++ ca.toList) H
    | .func (.yield n) _ _ => yieldWith rn n (args.map (cev tm)) H
    | _ => none
  | .nxt x => nextWith H (cev tm x)
  | ci => cdet (cev tm) H ci
/-- Nothing turned there. -/
def stillAt (H H1 : CH) (v : Value) : Bool :=
  match blkOf v with
  | none => true
  | some n => match H.t.get n, H1.t.get n with
    | none, none => true
    | some x, some y => x.1 == y.1
    | _, _ => false
def opsWith (E : Env) (rn : RunTy) : List CE → List Value → CH → Option (List Value × CH)
  | [], tm, H => some (tm, H)
  | e :: l, tm, H =>
    if wantC tm e.guard then
      match opWith E rn tm H e.ci with
      | some (v, H1) => if e.pend.all fun x => stillAt H H1 (cev tm x) then opsWith E rn l (tput tm e.dst v) H1 else none
      | none => none
    else opsWith E rn l (tput tm e.dst undef) H
def scopeWith (rn : RunTy) : Nat → CCode → CCode → List Value → CH → Option (Ex × List Value × CH)
  | 0, _, _, _, _ => none
  | k + 1, body, c, tm, H => match rn c tm H with
    | some (some (.goto l), tm1, H1) => match clabel l body with
      | some r => scopeWith rn k body r tm1 H1
      | none => some (some (.goto l), tm1, H1)
    | r => r
def run (E : Env) : Nat → RunTy
  | 0, _, _, _ => none
  | k + 1, c, tm, H => match c with
    | .skip => some (none, tm, H)
    | .reg l => match opsWith E (run E k) l tm H with
      | some (tm1, H1) => some (none, tm1, H1)
      | none => none
    | .seq a b => match run E k a tm H with
      | some (none, tm1, H1) => run E k b tm1 H1
      | r => r
    | .cond x a b => match cev tm x with
      | .bool t => run E k (if t then a else b) tm H
      | _ => none
    | .block id c => match run E k c tm H with
      | some (some (.exit i), tm1, H1) => if i = id then some (none, tm1, H1) else some (some (.exit i), tm1, H1)
      | r => r
    | .loop c => match run E k c tm H with
      | some (none, tm1, H1) => run E k (.loop c) tm1 H1
      | r => r
    | .rangeFunc f ps a b => match cev tm f with
      | .func (.func g) fi ca =>
        match callWith E (run E k) g (fi.toList ++ [.func (.yield H.next) #[] #[]] ++ ca.toList) (H.add (.loop .ready none tm ps a b)) with
        | some (_, H1) => match H1.get H.next with
          | some (.loop .busy _ _ _ _ _) => none
          | some (.loop _ pend _ _ _ _) => some (pend, tm, H1.set H.next (.loop .exhausted pend tm ps a b))
          | _ => none
        | none => none
      | _ => none
    | .exit id => some (some (.exit id), tm, H)
    | .scope c => scopeWith (run E k) k c c tm H
    | .label _ => some (none, tm, H)
    | .goto l => some (some (.goto l), tm, H)
    | .ret => some (some .ret, tm, H)
    | .bad => none
end Go.Cn
/-! ## Runs worked out by the kernel: continuations. -/
namespace Go.Cn
open Go

inductive VT where
  | leaf
  | node (v : Value) (l r : VT)
noncomputable def VT.get (t : VT) : Nat → Value :=
  VT.rec (fun _ => undef) (fun v _ _ gl gr n => Nat.rec v (fun m _ => cond (Nat.beq (Nat.mod m 2) 0) (gl (Nat.div m 2)) (gr (Nat.div m 2))) n) t
noncomputable def VT.has (t : VT) : Nat → Bool :=
  VT.rec (fun _ => false) (fun _ _ _ gl gr n => Nat.rec true (fun m _ => cond (Nat.beq (Nat.mod m 2) 0) (gl (Nat.div m 2)) (gr (Nat.div m 2))) n) t
noncomputable def VT.set (t : VT) : Nat → Value → VT :=
  VT.rec (fun _ _ => .leaf) (fun v l r sl sr n x => Nat.rec (.node x l r) (fun m _ => cond (Nat.beq (Nat.mod m 2) 0) (.node v (sl (Nat.div m 2) x) r) (.node v l (sr (Nat.div m 2) x))) n) t
/-- So many empty slots. -/
noncomputable def VT.blankF (f : Nat) : Nat → VT :=
  Nat.rec (fun _ => .leaf) (fun _ ih n => Nat.rec .leaf (fun m _ => .node undef (ih (Nat.div (Nat.succ m) 2)) (ih (Nat.div m 2))) n) f
noncomputable def VT.blank (n : Nat) : VT := VT.blankF n n
noncomputable def VT.fill (args : List Value) : Nat → VT → VT :=
  List.rec (fun _ t => t) (fun v _ ih i t => ih (Nat.succ i) (t.set i v)) args
/-- Objects, by name. -/
noncomputable def fget (t : T (Nat × CObj)) : Nat → Option (Nat × CObj) :=
  T.rec (fun _ => none) (fun v _ _ gl gr n => Nat.rec v (fun m _ => cond (Nat.beq (Nat.mod m 2) 0) (gl (Nat.div m 2)) (gr (Nat.div m 2))) n) t

noncomputable def evO (x : Operand) : VT → Value :=
  match x with
  | .tmp i => fun t => t.get i
  | .const v => fun _ => v
  | .global g => fun _ => .pointer (some ⟨g, 0, none⟩)
  | .func f => fun _ => .func (.func f) #[] #[]
abbrev KV := Value → CH → Bool
noncomputable def onInt (v : Value) : (IntKind → Int → Bool) → Bool := match v with | .int k n => fun f => f k n | _ => fun _ => false
noncomputable def onInt' (v : Value) : (IntKind → Int → Bool) → Bool → Bool := match v with | .int k n => fun f _ => f k n | _ => fun _ d => d
noncomputable def onBool (v : Value) : Bool → Bool → Bool := match v with | .bool b => fun x y => cond b x y | _ => fun _ _ => false
noncomputable def onSome {α : Type} (o : Option α) : (α → Bool) → Bool := match o with | some a => fun f => f a | none => fun _ => false
noncomputable def onNat (n : Int) : (Nat → Bool) → Bool → Bool := match n with | .ofNat a => fun f _ => f a | .negSucc _ => fun _ d => d
/-- An integer brought within its kind. -/
noncomputable def fwrap (k : IntKind) : Nat → Int :=
  match k with
  | .u8 => fun n => .ofNat (Nat.mod n 256)
  | .u16 => fun n => .ofNat (Nat.mod n 65536)
  | .u32 => fun n => .ofNat (Nat.mod n 4294967296)
  | .u64 => fun n => .ofNat (Nat.mod n 18446744073709551616)
  | .i64 => fun n => cond (Nat.blt n 9223372036854775808) (.ofNat n) (IntKind.wrap .i64 (.ofNat n))
  | k => fun n => k.wrap (.ofNat n)
noncomputable def unsig (k : IntKind) : Bool := match k with | .u8 => true | .u16 => true | .u32 => true | .u64 => true | _ => false
/-- A text, its bytes worked out. -/
noncomputable def forceN (n : Nat) : (Nat → Bool) → Bool := Nat.rec (fun k => k 0) (fun m _ k => k (Nat.succ m)) n
noncomputable def forceL (l : List UInt8) : (List UInt8 → Bool) → Bool := List.rec (fun k => k []) (fun x _ ih k => forceN x.toBitVec.toFin.val fun n => ih fun r => k (UInt8.ofNat n :: r)) l
noncomputable def forceV (v : Value) : (Value → Bool) → Bool := match v with | .string s => fun k => forceL s.data.toList fun l => k (.string ⟨⟨l⟩⟩) | v => fun k => k v
theorem forceN_eq (n : Nat) (k : Nat → Bool) : forceN n k = k n := by cases n <;> rfl
theorem forceL_eq : ∀ (l : List UInt8) (k : List UInt8 → Bool), forceL l k = k l := by
  intro l
  induction l with
  | nil => intro k; rfl
  | cons x l ih =>
    intro k
    show forceN x.toBitVec.toFin.val (fun n => forceL l fun r => k (UInt8.ofNat n :: r)) = _
    rw [forceN_eq, ih]
    congr 2
    exact UInt8.ofNat_toNat
theorem forceV_eq (v : Value) (k : Value → Bool) : forceV v k = k v := by
  cases v <;> first | rfl | exact forceL_eq _ _
noncomputable def slow (op : BinOp) (a b : Value) (k : Value → Bool) : Bool := onSome (cbin op a b) fun v => forceV v k
/-- Texts, by their bytes. -/
noncomputable def appK (l r : List UInt8) : (List UInt8 → Bool) → Bool := List.rec (fun k => k r) (fun x _ ih k => ih fun r => k (x :: r)) l
noncomputable def dropB (l : List UInt8) : Nat → List UInt8 := List.rec (fun _ => []) (fun x r ih n => Nat.rec (x :: r) (fun m _ => ih m) n) l
noncomputable def takeK (l : List UInt8) : Nat → (List UInt8 → Bool) → Bool := List.rec (fun _ k => k []) (fun x _ ih n k => Nat.rec (k []) (fun m _ => ih m fun r => k (x :: r)) n) l
noncomputable def findK (c : Nat) (l : List UInt8) : Nat → (Int → Bool) → Bool := List.rec (fun _ k => k (.negSucc 0)) (fun x _ ih i k => cond (Nat.beq x.toBitVec.toFin.val c) (k (.ofNat i)) (ih (Nat.succ i) k)) l
noncomputable def onStr2 (a b : Value) (f : ByteArray → ByteArray → Bool) (d : Bool) : Bool := match a with | .string s => (match b with | .string t => f s t | _ => d) | _ => d
noncomputable def slowAdd (a b : Value) (k : Value → Bool) : Bool := onStr2 a b (fun s t => cond (Nat.ble (Nat.add s.size t.size) 9223372036854775807) (appK s.data.toList t.data.toList fun l => k (.string ⟨⟨l⟩⟩)) false) (slow .add a b k)
theorem appK_eq : ∀ (l r : List UInt8) (k : List UInt8 → Bool), appK l r k = k (l ++ r) := by
  intro l
  induction l with
  | nil => intro r k; rfl
  | cons x l ih => intro r k; exact ih r fun r => k (x :: r)
theorem dropB_eq : ∀ (l : List UInt8) (n : Nat), dropB l n = l.drop n := by
  intro l
  induction l with
  | nil => intro n; simp [dropB]
  | cons x l ih => intro n; cases n with
    | zero => rfl
    | succ n => exact ih n
theorem takeK_eq : ∀ (l : List UInt8) (n : Nat) (k : List UInt8 → Bool), takeK l n k = k (l.take n) := by
  intro l
  induction l with
  | nil => intro n k; simp [takeK]
  | cons x l ih => intro n k; cases n with
    | zero => rfl
    | succ n => exact ih n fun r => k (x :: r)
noncomputable def kindEq (a : IntKind) : IntKind → Bool :=
  match a with
  | .u8 => fun b => match b with | .u8 => true | _ => false
  | .u32 => fun b => match b with | .u32 => true | _ => false
  | .u64 => fun b => match b with | .u64 => true | _ => false
  | .i64 => fun b => match b with | .i64 => true | _ => false
  | _ => fun _ => false
noncomputable def bits1 (k : IntKind) : Nat := match k with | .u8 => 8 | .u16 => 16 | .u32 => 32 | .u64 => 64 | _ => 0
noncomputable def fbin (op : BinOp) : Value → Value → (Value → Bool) → Bool :=
  match op with
  | .add => fun a b k => onInt' a (fun i x => onInt' b (fun j y => onNat x (fun x => onNat y (fun y => cond (kindEq i j) (k (.int i (fwrap i (Nat.add x y)))) (slow .add a b k)) (slow .add a b k)) (slow .add a b k)) (slow .add a b k)) (slowAdd a b k)
  | .and => fun a b k => onInt' a (fun i x => onInt' b (fun j y => onNat x (fun x => onNat y (fun y => cond (Bool.and (kindEq i j) (unsig i)) (k (.int i (fwrap i (Nat.land x y)))) (slow .and a b k)) (slow .and a b k)) (slow .and a b k)) (slow .and a b k)) (slow .and a b k)
  | .or => fun a b k => onInt' a (fun i x => onInt' b (fun j y => onNat x (fun x => onNat y (fun y => cond (Bool.and (kindEq i j) (unsig i)) (k (.int i (fwrap i (Nat.lor x y)))) (slow .or a b k)) (slow .or a b k)) (slow .or a b k)) (slow .or a b k)) (slow .or a b k)
  | .xor => fun a b k => onInt' a (fun i x => onInt' b (fun j y => onNat x (fun x => onNat y (fun y => cond (Bool.and (kindEq i j) (unsig i)) (k (.int i (fwrap i (Nat.xor x y)))) (slow .xor a b k)) (slow .xor a b k)) (slow .xor a b k)) (slow .xor a b k)) (slow .xor a b k)
  | .sub => fun a b k => onInt' a (fun i x => onInt' b (fun j y => onNat x (fun x => onNat y (fun y => cond (Bool.and (kindEq i j) (Nat.ble y x)) (k (.int i (fwrap i (Nat.sub x y)))) (slow .sub a b k)) (slow .sub a b k)) (slow .sub a b k)) (slow .sub a b k)) (slow .sub a b k)
  | .mul => fun a b k => onInt' a (fun i x => onInt' b (fun j y => onNat x (fun x => onNat y (fun y => cond (kindEq i j) (k (.int i (fwrap i (Nat.mul x y)))) (slow .mul a b k)) (slow .mul a b k)) (slow .mul a b k)) (slow .mul a b k)) (slow .mul a b k)
  | .neq => fun a b k => onInt' a (fun i x => onInt' b (fun j y => onNat x (fun x => onNat y (fun y => cond (kindEq i j) (k (.bool (Bool.not (Nat.beq x y)))) (slow .neq a b k)) (slow .neq a b k)) (slow .neq a b k)) (slow .neq a b k)) (slow .neq a b k)
  | .leq => fun a b k => onInt' a (fun i x => onInt' b (fun j y => onNat x (fun x => onNat y (fun y => cond (kindEq i j) (k (.bool (Nat.ble x y))) (slow .leq a b k)) (slow .leq a b k)) (slow .leq a b k)) (slow .leq a b k)) (slow .leq a b k)
  | .lss => fun a b k => onInt' a (fun i x => onInt' b (fun j y => onNat x (fun x => onNat y (fun y => cond (kindEq i j) (k (.bool (Nat.blt x y))) (slow .lss a b k)) (slow .lss a b k)) (slow .lss a b k)) (slow .lss a b k)) (slow .lss a b k)
  | .eql => fun a b k => onInt' a (fun i x => onInt' b (fun j y => onNat x (fun x => onNat y (fun y => cond (kindEq i j) (k (.bool (Nat.beq x y))) (slow .eql a b k)) (slow .eql a b k)) (slow .eql a b k)) (slow .eql a b k)) (slow .eql a b k)
  | .shl => fun a b k => onInt' a (fun i x => onInt' b (fun _ y => onNat x (fun x => onNat y (fun y => cond (unsig i) (k (.int i (fwrap i (Nat.mul x (Nat.pow 2 (cond (Nat.ble y (bits1 i)) y (bits1 i))))))) (slow .shl a b k)) (slow .shl a b k)) (slow .shl a b k)) (slow .shl a b k)) (slow .shl a b k)
  | .shr => fun a b k => onInt' a (fun i x => onInt' b (fun _ y => onNat x (fun x => onNat y (fun y => cond (unsig i) (k (.int i (.ofNat (Nat.div x (Nat.pow 2 (cond (Nat.ble y (bits1 i)) y (bits1 i))))))) (slow .shr a b k)) (slow .shr a b k)) (slow .shr a b k)) (slow .shr a b k)) (slow .shr a b k)
  | op => fun a b k => slow op a b k
noncomputable def fconv (k : IntKind) (v : Value) (f : Value → Bool) : Bool := onInt v fun _ n => onNat n (fun n => f (.int k (fwrap k n))) (f (.int k (k.wrap n)))


noncomputable def onPtr (v : Value) : (Nat → Nat → Bool) → Bool := match v with | .pointer (some ⟨b, o, none⟩) => fun f => f b o | _ => fun _ => false
noncomputable def onSlc (v : Value) : (Option Addr → Nat → Nat → Bool) → Bool := match v with | .slice a n c => fun f => f a n c | _ => fun _ => false
noncomputable def onStr (v : Value) : (ByteArray → Bool) → Bool := match v with | .string s => fun f => f s | _ => fun _ => false
noncomputable def onBlk (o : Option (Nat × CObj)) : (List Value → Bool → BT → Bool) → Bool := match o with | some (_, .blk c r t) => fun f => f c r t | _ => fun _ => false
noncomputable def nth (l : List Value) : Nat → (Value → Bool) → Bool :=
  List.rec (fun _ _ => false) (fun v _ ih n k => Nat.rec (k v) (fun m _ => ih m k) n) l
noncomputable def nthB (l : List UInt8) : Nat → (UInt8 → Bool) → Bool :=
  List.rec (fun _ _ => false) (fun v _ ih n k => Nat.rec (k v) (fun m _ => ih m k) n) l
noncomputable def lput (l : List Value) : Nat → Value → List Value :=
  List.rec (fun _ _ => []) (fun v r ih n x => Nat.rec (x :: r) (fun m _ => v :: ih m x) n) l
noncomputable def fsetF (k : Nat) : T (Nat × CObj) → Nat → (Nat × CObj) → T (Nat × CObj) :=
  Nat.rec (fun t _ _ => t) (fun _ ih t n x => Nat.rec (.node (some x) t.lft t.rgt) (fun m _ => cond (Nat.beq (Nat.mod m 2) 0) (.node t.val (ih t.lft (Nat.div m 2) x) t.rgt) (.node t.val t.lft (ih t.rgt (Nat.div m 2) x))) n) k
noncomputable def fset (H : CH) (n : Nat) (o : CObj) : CH := { t := fsetF (Nat.succ n) H.t n (Nat.succ H.clk, o), next := H.next, clk := Nat.succ H.clk }
noncomputable def fput (d : Option Tmp) : VT → Value → VT := match d with | none => fun t _ => t | some i => fun t v => t.set i v
noncomputable def fdet (ci : CI) (t : VT) (H : CH) (k : KV) : Bool := onSome (cdet (fun x => evO x t) H ci) fun r => forceV r.1 fun v => k v r.2
noncomputable def fargs (xs : List Operand) : VT → List Value := List.rec (fun _ => []) (fun x _ ih t => evO x t :: ih t) xs
noncomputable def onTup (v : Value) : (Array Value → Bool) → Bool := match v with | .tuple a => fun f => f a | _ => fun _ => false
noncomputable def onAgg (v : Value) : (Array Value → Bool) → Bool := match v with | .agg a => fun f => f a | _ => fun _ => false
noncomputable def fnext (H : CH) (v : Value) (k : KV) : Bool :=
  match v with
  | .pointer (some ⟨n, 0, none⟩) => match H.get n with
    | some (.iter none _ _ _) => k (.tuple #[.bool false]) H
    | some (.iter (some m) since seen last) => match H.get m with
      | some (.map es ck) =>
        !(!seen.isEmpty && !es.isEmpty && es.all fun e => decide (e.born ≥ last)) &&
        (cands es since seen).all fun c => match c with
          | none => k (.tuple #[.bool false]) H
          | some e => k (.tuple #[.bool true, e.key, e.val]) (H.set n (.iter (some m) since (seen.push e.born) ck))
      | _ => false
    | _ => false
  | _ => false
noncomputable def isScalar (v : Value) : Bool := scalar v
abbrev FCall := FuncId → List Value → CH → KV → Bool
noncomputable def fcallv (call : FCall) (yld : FCall) (v : Value) : List Value → CH → KV → Bool :=
  match v with
  | .func (.func g) fi ca => fun args H k => call g (fi.toList ++ args ++ ca.toList) H k
  | .func (.yield n) _ _ => fun args H k => yld n args H k
  | _ => fun _ _ _ => false
noncomputable def fop (ci : CI) : FCall → FCall → VT → CH → KV → Bool :=
  match ci with
  | .mov x => fun _ _ t H k => k (evO x t) H
  | .asg x => fun _ _ t H k => k (evO x t) H
  | .bin op x y => fun _ _ t H k => fbin op (evO x t) (evO y t) fun v => k v H
  | .conv kd x => fun _ _ t H k => fconv kd (evO x t) fun v => k v H
  | .ld x none => fun _ _ t H k => onPtr (evO x t) fun b o => onBlk (fget H.t b) fun c _ _ => nth c o fun v => k v H
  | .st x v 1 => fun _ _ t H k => onPtr (evO x t) fun b o => onBlk (fget H.t b) fun c r bt => cond r false (cond (isScalar (evO v t)) (nth c o fun _ => k undef (fset H b (.blk (lput c o (evO v t)) false bt))) false)
  | .iadrS x i es => fun _ _ t H k => onSlc (evO x t) fun a n _ => onInt (evO i t) fun _ j => onNat j (fun j => cond (Nat.blt j n) (onSome a fun a => k (.pointer (some ⟨a.block, Nat.add a.off (Nat.mul j es), none⟩)) H) false) false
  | .iadrA x i len es => fun _ _ t H k => onPtr (evO x t) fun b o => onInt (evO i t) fun _ j => onNat j (fun j => cond (Nat.blt j len) (k (.pointer (some ⟨b, Nat.add o (Nat.mul j es), none⟩)) H) false) false
  | .fadr x off => fun _ _ t H k => onPtr (evO x t) fun b o => k (.pointer (some ⟨b, Nat.add o off, none⟩)) H
  | .nilchk x => fun _ _ t H k => onPtr (evO x t) fun b o => k (.pointer (some ⟨b, o, none⟩)) H
  | .lenS x => fun _ _ t H k => onStr (evO x t) fun s => k (goInt s.size) H
  | .lenL x => fun _ _ t H k => onSlc (evO x t) fun _ n _ => k (goInt n) H
  | .sidx x i => fun _ _ t H k => onStr (evO x t) fun s => onInt (evO i t) fun _ j => onNat j (fun j => nthB s.data.toList j fun b => k (.int .u8 (.ofNat b.toNat)) H) false
  | .slcStr x lo hi => fun _ _ t H k => onStr (evO x t) fun s => onSome (obound (hi.map fun o => evO o t) s.size s.size) fun h => onSome (obound (lo.map fun o => evO o t) h 0) fun l =>
      takeK (dropB s.data.toList l) (Nat.sub h l) fun r => k (.string ⟨⟨r⟩⟩) H
  | .xib x c => fun _ _ t H k => onStr (evO x t) fun s => onInt (evO c t) fun kd n => cond (kindEq .u8 kd) (findK n.toNat.toUInt8.toBitVec.toFin.val s.data.toList 0 fun i => k (.int .i64 i) H) false
  | .pick c a b => fun _ _ t H k => onBool (evO c t) (k (evO a t) H) (k (evO b t) H)
  | .ext x i => fun _ _ t H k => onTup (evO x t) fun vs => nth vs.toList i fun v => k v H
  | .part x off none => fun _ _ t H k => onAgg (evO x t) fun vs => nth vs.toList off fun v => k v H
  | .nxt x => fun _ _ t H k => fnext H (evO x t) k
  | .call f args => fun call _ t H k => call f (fargs args t) H k
  | .callv f args => fun call yld t H k => fcallv call yld (evO f t) (fargs args t) H k
  | ci => fun _ _ t H k => fdet ci t H k
noncomputable def fgate (g : Option (Option Tmp × Bool)) : VT → Bool → Bool → Bool :=
  match g with
  | none => fun _ x _ => x
  | some (none, _) => fun _ _ y => y
  | some (some i, b) => fun t x y => match t.get i with | .bool c => cond (cond c b (Bool.not b)) x y | _ => y
noncomputable def fpend (l : List Operand) : VT → CH → CH → Bool → Bool :=
  match l with
  | [] => fun _ _ _ x => x
  | l => fun t H H1 x => cond (l.all fun o => stillAt H H1 (evO o t)) x false
noncomputable def fops (call yld : FCall) (l : List CE) : (VT → CH → Bool) → VT → CH → Bool :=
  List.rec (fun k => k) (fun e _ ih k t H => fgate e.guard t (fop e.ci call yld t H fun v H1 => fpend e.pend t H H1 (ih k (fput e.dst t v) H1)) (ih k (fput e.dst t undef) H)) l
abbrev KX := Ex → VT → CH → Bool
abbrev FRun := CCode → KX → VT → CH → Bool
inductive FEnt where
  | fn (f : CFun)
  | sum (s : List Value → CH → KV → Bool)
  | none
noncomputable def onEx (e : Ex) : Bool → (Jump → Bool) → Bool := match e with | none => fun x _ => x | some j => fun _ f => f j
noncomputable def onExit (j : Jump) : (Nat → Bool) → Bool → Bool := match j with | .exit i => fun f _ => f i | _ => fun _ d => d
noncomputable def isRet (e : Ex) : Bool := match e with | none => true | some .ret => true | _ => false
noncomputable def fres (rs : List CRes) : VT → CH → KV → Bool :=
  match rs with
  | [.tmp i] => fun t H k => k (t.get i) H
  | rs => fun t H k => onSome ((rs.mapM fun (r : CRes) => match r with | .tmp i => some (t.get i) | .cell a n => crd (fun x => evO x t) H (.ld (.tmp a) n)).map fun | [v] => v | vs => .tuple vs.toArray) fun v => k v H
noncomputable def fcall (E : T FEnt) (rn : FRun) (f : FuncId) (args : List Value) (H : CH) (k : KV) : Bool :=
  match (E.get f).getD .none with
  | .fn cf => cond (Nat.ble args.length cf.ntmps) (rn cf.body (fun e t H1 => cond (isRet e) (fres cf.results t H1 k) false) (VT.fill args 0 (VT.blank cf.ntmps)) H) false
  | .sum s => s args H k
  | .none => false
noncomputable def onLoop (o : Option (Nat × CObj)) : (LoopState → Ex → List Value → Array Tmp → CCode → CCode → Bool) → Bool := match o with | some (_, .loop st p tm ps a b) => fun f => f st p tm ps a b | _ => fun _ => false
noncomputable def isReady (s : LoopState) : Bool := match s with | .ready => true | _ => false
noncomputable def isBusy (s : LoopState) : Bool := match s with | .busy => true | _ => false
noncomputable def fparams (ps : List Tmp) : List Value → VT → VT := List.rec (fun _ t => t) (fun p _ ih args t => match args with | [] => t | a :: r => ih r (t.set p a)) ps
noncomputable def fyld (rn : FRun) (n : Nat) (args : List Value) (H : CH) (k : KV) : Bool :=
  onLoop (fget H.t n) fun st _ tm ps ca cb => cond (isReady st) (cond (Nat.beq args.length ps.size)
    (rn ca (fun e t1 H1 => onEx e (onLoop (fget H1.t n) fun st1 pend1 _ _ _ _ => cond (isReady st1)
        (rn cb (fun e2 _ H2 => onLoop (fget H2.t n) fun st2 _ _ _ _ _ => cond (isBusy st2)
          (k (.bool e2.isNone) (fset H2 n (.loop (cond e2.isNone .ready .done) e2 tm ps ca cb))) false)
          t1 (fset H1 n (.loop .busy pend1 tm ps ca cb))) false) fun _ => false)
      (fparams ps.toList args (VT.fill tm 0 (VT.blank tm.length))) H) false) false
noncomputable def VT.len (t : VT) : Nat := VT.rec 0 (fun _ _ _ a b => Nat.succ (Nat.add a b)) t
noncomputable def VT.list (t : VT) : List Value := (List.range t.len).map t.get
noncomputable def fadd (H : CH) (o : CObj) : CH := { t := fsetF (Nat.succ H.next) H.t H.next (Nat.succ H.clk, o), next := Nat.succ H.next, clk := Nat.succ H.clk }
noncomputable def onFn (v : Value) : (FuncId → Array Value → Array Value → Bool) → Bool := match v with | .func (.func g) fi ca => fun f => f g fi ca | _ => fun _ => false
noncomputable def frange (call : FCall) (f : Value) (ps : Array Tmp) (a b : CCode) (k : KX) (t : VT) (H : CH) : Bool :=
  onFn f fun g fi ca => call g (fi.toList ++ [.func (.yield H.next) #[] #[]] ++ ca.toList) (fadd H (.loop .ready none t.list ps a b)) fun _ H1 =>
    onLoop (fget H1.t H.next) fun st pend _ _ _ _ => cond (isBusy st) false (k pend t (fset H1 H.next (.loop .exhausted pend t.list ps a b)))
noncomputable def onGoto (j : Jump) : (Nat → Bool) → Bool → Bool := match j with | .goto l => fun f _ => f l | _ => fun _ d => d
noncomputable def fscope (rn : FRun) (m : Nat) : CCode → CCode → KX → VT → CH → Bool :=
  Nat.rec (fun _ _ _ _ _ => false) (fun _ ih body c k t H => rn c (fun e t1 H1 => onEx e (k none t1 H1) fun j => onGoto j (fun l => match clabel l body with
    | some r => ih body r k t1 H1
    | none => k (some j) t1 H1) (k (some j) t1 H1)) t H) m
noncomputable def fden (call : FCall) (rn : FRun) (m : Nat) (c : CCode) : KX → VT → CH → Bool :=
  match c with
  | .skip => fun k t H => k none t H
  | .reg l => fun k t H => fops call (fyld rn) l (k none) t H
  | .seq a b => fun k t H => rn a (fun e t1 H1 => onEx e (rn b k t1 H1) fun j => k (some j) t1 H1) t H
  | .cond x a b => fun k t H => onBool (evO x t) (rn a k t H) (rn b k t H)
  | .block id c => fun k t H => rn c (fun e t1 H1 => onEx e (k none t1 H1) fun j => onExit j (fun i => cond (Nat.beq i id) (k none t1 H1) (k (some j) t1 H1)) (k (some j) t1 H1)) t H
  | .loop c => fun k t H => rn c (fun e t1 H1 => onEx e (rn (.loop c) k t1 H1) fun j => k (some j) t1 H1) t H
  | .rangeFunc f ps a b => fun k t H => frange call (evO f t) ps a b k t H
  | .exit id => fun k t H => k (some (.exit id)) t H
  | .scope c => fun k t H => fscope rn m c c k t H
  | .label _ => fun k t H => k none t H
  | .goto l => fun k t H => k (some (.goto l)) t H
  | .ret => fun k t H => k (some .ret) t H
  | .bad => fun _ _ _ => false
noncomputable def frun (E : T FEnt) (n : Nat) : FRun :=
  Nat.rec (fun _ _ _ _ => false) (fun m ih c k t H => fden (fcall E ih) ih m c k t H) n
end Go.Cn
/-! ## The kernel's evaluator is sound: slots, names, operators. -/
namespace Go.Cn
open Go

theorem nat_par (m : Nat) : (Nat.beq (Nat.mod m 2) 0 = true ∧ m % 2 = 0) ∨ (Nat.beq (Nat.mod m 2) 0 = false ∧ m % 2 = 1) := by
  rcases Nat.mod_two_eq_zero_or_one m with h | h
  · exact .inl ⟨by show Nat.beq (m % 2) 0 = true; rw [h]; rfl, h⟩
  · exact .inr ⟨by show Nat.beq (m % 2) 0 = false; rw [h]; rfl, h⟩
theorem VT.get_zero (v : Value) (l r : VT) : (VT.node v l r).get 0 = v := rfl
theorem VT.get_succ (v : Value) (l r : VT) (m : Nat) : (VT.node v l r).get (m + 1) = cond (Nat.beq (Nat.mod m 2) 0) (l.get (m / 2)) (r.get (m / 2)) := rfl
theorem VT.has_succ (v : Value) (l r : VT) (m : Nat) : (VT.node v l r).has (m + 1) = cond (Nat.beq (Nat.mod m 2) 0) (l.has (m / 2)) (r.has (m / 2)) := rfl
theorem VT.set_succ (v : Value) (l r : VT) (m : Nat) (x : Value) : (VT.node v l r).set (m + 1) x = cond (Nat.beq (Nat.mod m 2) 0) (.node v (l.set (m / 2) x) r) (.node v l (r.set (m / 2) x)) := rfl
theorem VT.get_set : ∀ (t : VT) (i j : Nat) (x : Value), (t.set i x).get j = if i = j ∧ t.has i = true then x else t.get j := by
  intro t
  induction t with
  | leaf => intro i j x; have : (VT.leaf.has i) = false := rfl; rw [this]; simp; rfl
  | node v l r ihl ihr =>
    intro i j x
    cases i with
    | zero =>
      have h0 : (VT.node v l r).set 0 x = .node x l r := rfl
      have h1 : (VT.node v l r).has 0 = true := rfl
      rw [h0, h1]
      cases j with
      | zero => simp [VT.get_zero]
      | succ j => simp [VT.get_succ]
    | succ i =>
      rw [VT.set_succ, VT.has_succ]
      rcases nat_par i with ⟨h, hi⟩ | ⟨h, hi⟩ <;> rw [h] <;> simp only [cond_true, cond_false]
      · cases j with
        | zero => simp [VT.get_zero]
        | succ j =>
          rw [VT.get_succ, VT.get_succ]
          rcases nat_par j with ⟨h', hj⟩ | ⟨h', hj⟩ <;> rw [h'] <;> simp only [cond_true, cond_false]
          · rw [ihl]
            by_cases e : i = j
            · simp [e]
            · have : ¬ i / 2 = j / 2 := by omega
              simp [e, this]
          · have : ¬ i = j := by intro e; rw [e] at hi; omega
            simp [this]
      · cases j with
        | zero => simp [VT.get_zero]
        | succ j =>
          rw [VT.get_succ, VT.get_succ]
          rcases nat_par j with ⟨h', hj⟩ | ⟨h', hj⟩ <;> rw [h'] <;> simp only [cond_true, cond_false]
          · have : ¬ i = j := by intro e; rw [e] at hi; omega
            simp [this]
          · rw [ihr]
            by_cases e : i = j
            · simp [e]
            · have : ¬ i / 2 = j / 2 := by omega
              simp [e, this]
theorem VT.has_set : ∀ (t : VT) (i j : Nat) (x : Value), (t.set i x).has j = t.has j := by
  intro t
  induction t with
  | leaf => intro i j x; rfl
  | node v l r ihl ihr =>
    intro i j x
    cases i with
    | zero => cases j <;> rfl
    | succ i =>
      rw [VT.set_succ]
      rcases nat_par i with ⟨h, hi⟩ | ⟨h, hi⟩ <;> rw [h] <;> simp only [cond_true, cond_false]
      · cases j with
        | zero => rfl
        | succ j => rw [VT.has_succ, VT.has_succ, ihl]
      · cases j with
        | zero => rfl
        | succ j => rw [VT.has_succ, VT.has_succ, ihr]
theorem VT.len_node (v : Value) (l r : VT) : (VT.node v l r).len = l.len + r.len + 1 := rfl
theorem VT.len_set : ∀ (t : VT) (i : Nat) (x : Value), (t.set i x).len = t.len := by
  intro t
  induction t with
  | leaf => intro i x; rfl
  | node v l r ihl ihr =>
    intro i x
    cases i with
    | zero => rfl
    | succ i =>
      rw [VT.set_succ]
      rcases nat_par i with ⟨h, hi⟩ | ⟨h, hi⟩ <;> rw [h] <;> simp only [cond_true, cond_false, VT.len_node, ihl, ihr]
/-- Slots, as the evaluator keeps them. -/
structure TR (t : VT) (tm : List Value) : Prop where
  get : ∀ i, t.get i = tm.getD i undef
  has : ∀ i, t.has i = decide (i < tm.length)
  len : t.len = tm.length
theorem TR.set {t : VT} {tm : List Value} (h : TR t tm) (i : Nat) (x : Value) : TR (t.set i x) (tm.set i x) := by
  refine ⟨fun j => ?_, fun j => ?_, ?_⟩
  · rw [VT.get_set, h.has, h.get]
    simp only [List.getD_eq_getElem?_getD, List.getElem?_set]
    by_cases e : i = j
    · subst e
      by_cases l : i < tm.length <;> simp [l]
    · simp [e]
  · rw [VT.has_set, h.has]; simp
  · rw [VT.len_set, h.len]; simp
theorem blankF_succ (f n : Nat) : VT.blankF (f + 1) (n + 1) = .node undef (VT.blankF f ((n + 1) / 2)) (VT.blankF f (n / 2)) := rfl
theorem blank_ok : ∀ (f n : Nat), n ≤ f → (∀ i, (VT.blankF f n).get i = undef) ∧ (∀ i, (VT.blankF f n).has i = decide (i < n)) ∧ (VT.blankF f n).len = n := by
  intro f
  induction f with
  | zero => intro n h; obtain rfl : n = 0 := by omega
            exact ⟨fun _ => rfl, fun i => by show false = _; simp, rfl⟩
  | succ f ih =>
    intro n h
    cases n with
    | zero => exact ⟨fun _ => rfl, fun i => by show false = _; simp, rfl⟩
    | succ n =>
      obtain ⟨a1, a2, a3⟩ := ih ((n + 1) / 2) (by omega)
      obtain ⟨b1, b2, b3⟩ := ih (n / 2) (by omega)
      rw [blankF_succ]
      refine ⟨fun i => ?_, fun i => ?_, ?_⟩
      · cases i with
        | zero => rfl
        | succ i => rw [VT.get_succ, a1, b1]; cases Nat.beq (Nat.mod i 2) 0 <;> rfl
      · cases i with
        | zero => show true = _; simp
        | succ i =>
          rw [VT.has_succ, a2, b2]
          rcases nat_par i with ⟨h', hi⟩ | ⟨h', hi⟩ <;> rw [h'] <;> simp only [cond_true, cond_false] <;> congr 1 <;> apply propext <;> omega
      · rw [VT.len_node, a3, b3]; omega
theorem TR.blank (n : Nat) : TR (VT.blank n) (List.replicate n undef) := by
  obtain ⟨h1, h2, h3⟩ := blank_ok n n (Nat.le_refl _)
  refine ⟨fun i => ?_, fun i => ?_, ?_⟩
  · show (VT.blankF n n).get i = _
    rw [h1, List.getD_eq_getElem?_getD, List.getElem?_replicate]
    split <;> rfl
  · show (VT.blankF n n).has i = _
    rw [h2]; simp
  · show (VT.blankF n n).len = _
    rw [h3]; simp
/-- Slots from i on written. -/
def lfill : List Value → Nat → List Value → List Value
  | [], _, tm => tm
  | v :: r, i, tm => lfill r (i + 1) (tm.set i v)
theorem TR.fill : ∀ (args : List Value) (i : Nat) {t : VT} {tm : List Value}, TR t tm → TR (VT.fill args i t) (lfill args i tm) := by
  intro args
  induction args with
  | nil => intro i t tm h; exact h
  | cons v r ih => intro i t tm h; exact ih (i + 1) (h.set i v)
theorem lfill_at : ∀ (args : List Value) (pre rest : List Value), args.length ≤ rest.length → lfill args pre.length (pre ++ rest) = pre ++ args ++ rest.drop args.length := by
  intro args
  induction args with
  | nil => intro pre rest _; simp [lfill]
  | cons v r ih =>
    intro pre rest h
    cases rest with
    | nil => simp at h
    | cons x rest =>
      have e1 : (pre ++ x :: rest).set pre.length v = (pre ++ [v]) ++ rest := by
        rw [List.set_append_right _ _ (Nat.le_refl _)]; simp
      have e2 : pre.length + 1 = (pre ++ [v]).length := by simp
      rw [lfill, e1, e2, ih _ _ (by simpa using h)]
      simp
theorem TR.args (args : List Value) (n : Nat) (h : args.length ≤ n) : TR (VT.fill args 0 (VT.blank n)) (args ++ List.replicate (n - args.length) undef) := by
  have := TR.fill args 0 (TR.blank n)
  have e := lfill_at args [] (List.replicate n undef) (by simpa using h)
  simp only [List.length_nil, List.nil_append] at e
  rw [e] at this
  simpa using this
theorem TR.self (tm : List Value) : TR (VT.fill tm 0 (VT.blank tm.length)) tm := by
  have := TR.args tm tm.length (Nat.le_refl _)
  simpa using this
theorem TR.list {t : VT} {tm : List Value} (h : TR t tm) : t.list = tm := by
  unfold VT.list
  rw [h.len]
  apply List.ext_getElem?
  intro i
  rw [List.getElem?_map]
  by_cases e : i < tm.length
  · simp [e, h.get]
  · simp [e]
theorem TR.params : ∀ (ps : List Tmp) (args : List Value) {t : VT} {tm : List Value}, TR t tm → TR (fparams ps args t) ((ps.zip args).foldl (fun tm p => tm.set p.1 p.2) tm) := by
  intro ps
  induction ps with
  | nil => intro args t tm h; exact h
  | cons p ps ih =>
    intro args t tm h
    cases args with
    | nil => exact h
    | cons a r => exact ih r (h.set p a)
theorem TR.put {t : VT} {tm : List Value} (h : TR t tm) (d : Option Tmp) (v : Value) : TR (fput d t v) (tput tm d v) := by
  cases d with
  | none => exact h
  | some i => exact h.set i v
theorem evO_eq {t : VT} {tm : List Value} (h : TR t tm) (x : Operand) : evO x t = cev tm x := by
  cases x with
  | tmp i => exact h.get i
  | _ => rfl
theorem fargs_eq {t : VT} {tm : List Value} (h : TR t tm) (xs : List Operand) : fargs xs t = xs.map (cev tm) := by
  induction xs with
  | nil => rfl
  | cons x xs ih => exact congr (congrArg _ (evO_eq h x)) ih

/-! ### names -/
theorem fget_eq : ∀ (t : T (Nat × CObj)) (n : Nat), fget t n = t.get n := by
  intro t
  induction t with
  | leaf => intro n; rfl
  | node v l r ihl ihr =>
    intro n
    cases n with
    | zero => rfl
    | succ m =>
      have h : fget (.node v l r) (m + 1) = cond (Nat.beq (Nat.mod m 2) 0) (fget l (m / 2)) (fget r (m / 2)) := rfl
      rw [h, ihl, ihr]
      simp only [T.get]
      rcases nat_par m with ⟨h', hm⟩ | ⟨h', hm⟩ <;> rw [h'] <;> simp only [cond_true, cond_false]
      · rw [if_neg (by omega), if_pos (by omega)]
        congr 1; omega
      · rw [if_neg (by omega), if_neg (by omega)]
        congr 1; omega
theorem fsetF_eq : ∀ (k : Nat) (t : T (Nat × CObj)) (n : Nat) (x : Nat × CObj), fsetF k t n x = T.setF k t n x := by
  intro k
  induction k with
  | zero => intro t n x; rfl
  | succ k ih =>
    intro t n x
    cases n with
    | zero => rfl
    | succ m =>
      have h : fsetF (k + 1) t (m + 1) x = cond (Nat.beq (Nat.mod m 2) 0) (.node t.val (fsetF k t.lft (m / 2) x) t.rgt) (.node t.val t.lft (fsetF k t.rgt (m / 2) x)) := rfl
      rw [h, ih, ih]
      simp only [T.setF]
      rcases nat_par m with ⟨h', hm⟩ | ⟨h', hm⟩ <;> rw [h'] <;> simp only [cond_true, cond_false]
      · rw [if_neg (by omega), if_pos (by omega)]
        have : (m + 1) / 2 = m / 2 := by omega
        rw [this]
      · rw [if_neg (by omega), if_neg (by omega)]
        have : (m + 1) / 2 - 1 = m / 2 := by omega
        rw [this]
theorem fset_eq (H : CH) (n : Nat) (o : CObj) : fset H n o = H.set n o := by
  unfold fset CH.set T.set
  rw [fsetF_eq]
theorem fadd_eq (H : CH) (o : CObj) : fadd H o = H.add o := by
  unfold fadd CH.add T.set
  rw [fsetF_eq]
end Go.Cn
/-! ## What a step leaves as it was. -/
namespace Go.Cn
open Go

def WF (H : CH) : Prop := (∀ n x, H.t.get n = some x → x.1 ≤ H.clk) ∧ ∀ n, H.next ≤ n → H.t.get n = none
structure Evo (H H1 : CH) : Prop where
  clk : H.clk ≤ H1.clk
  old : ∀ n x, H1.t.get n = some x → x.1 ≤ H.clk → H.t.get n = some x
  loop : ∀ n st p tm ps ca cb, H.get n = some (.loop st p tm ps ca cb) → ∃ st' p', H1.get n = some (.loop st' p' tm ps ca cb)
theorem Evo.refl (H : CH) : Evo H H := ⟨Nat.le_refl _, fun _ _ h _ => h, fun _ st p _ _ _ _ h => ⟨st, p, h⟩⟩
theorem Evo.trans {H I J : CH} (h : Evo H I) (k : Evo I J) : Evo H J :=
  ⟨Nat.le_trans h.clk k.clk, fun n x e l => h.old n x (k.old n x e (Nat.le_trans l h.clk)) l, fun n st p tm ps ca cb e => by
    obtain ⟨st', p', e'⟩ := h.loop n st p tm ps ca cb e
    exact k.loop n st' p' tm ps ca cb e'⟩
/-- Wholly kept: what a step, a call owes. -/
def Ok (H H1 : CH) : Prop := WF H → WF H1 ∧ Evo H H1
theorem Ok.refl (H : CH) : Ok H H := fun w => ⟨w, Evo.refl H⟩
theorem Ok.trans {H I J : CH} (h : Ok H I) (k : Ok I J) : Ok H J := fun w => by
  obtain ⟨w1, e1⟩ := h w
  obtain ⟨w2, e2⟩ := k w1
  exact ⟨w2, e1.trans e2⟩
theorem Ok.set {H : CH} {n : Nat} {o o1 : CObj} (ho : H.get n = some o) (hl : ∀ st p tm ps ca cb, o = .loop st p tm ps ca cb → ∃ st' p', o1 = .loop st' p' tm ps ca cb) : Ok H (H.set n o1) := fun w => by
  have hlt : n < H.next := by
    rcases Nat.lt_or_ge n H.next with h | h
    · exact h
    · have := w.2 n h; rw [CH.get, this] at ho; cases ho
  refine ⟨⟨fun m x h => ?_, fun m h => ?_⟩, ⟨Nat.le_succ _, fun m x h l => ?_, fun m st p tm ps ca cb h => ?_⟩⟩
  · simp only [CH.set, T.get_set] at h ⊢
    split at h
    · cases h; exact Nat.le_refl _
    · exact Nat.le_succ_of_le (w.1 m x h)
  · have h' : H.next ≤ m := h
    simp only [CH.set, T.get_set]
    rw [if_neg (by omega)]
    exact w.2 m h'
  · simp only [CH.set, T.get_set] at h
    split at h
    · cases h; simp only at l; omega
    · exact h
  · rw [CH.get_set]
    split
    · rename_i e
      subst e
      rw [ho] at h; cases h
      obtain ⟨st', p', e'⟩ := hl st p tm ps ca cb rfl
      exact ⟨st', p', by rw [e']⟩
    · exact ⟨st, p, h⟩
theorem Ok.set' {H : CH} {n : Nat} {o o1 : CObj} (ho : H.get n = some o) (hl : o.isLoop = false) : Ok H (H.set n o1) := Ok.set ho fun st p tm ps ca cb e => by subst e; cases hl
theorem Ok.add (H : CH) (o : CObj) : Ok H (H.add o) := fun w => by
  have hn := w.2 H.next (Nat.le_refl _)
  refine ⟨⟨fun m x h => ?_, fun m h => ?_⟩, ⟨Nat.le_succ _, fun m x h l => ?_, fun m st p tm ps ca cb h => ?_⟩⟩
  · simp only [CH.add, T.get_set] at h ⊢
    split at h
    · cases h; exact Nat.le_refl _
    · exact Nat.le_succ_of_le (w.1 m x h)
  · have h' : H.next + 1 ≤ m := h
    simp only [CH.add, T.get_set]
    rw [if_neg (by omega)]
    exact w.2 m (by omega)
  · simp only [CH.add, T.get_set] at h
    split at h
    · cases h; simp only at l; omega
    · exact h
  · rw [CH.get_add]
    split
    · rename_i e
      subst e
      rw [CH.get, hn] at h; cases h
    · exact ⟨st, p, h⟩
theorem still_sound {H H1 : CH} (w : WF H) (e : Evo H H1) {v : Value} (h : stillAt H H1 v = true) : stable H H1 v := by
  intro n hn
  unfold stillAt at h
  rw [hn] at h
  simp only at h
  unfold CH.get
  split at h
  · rename_i h1 h2; rw [h1, h2]
  · rename_i x y h1 h2
    have hxy : x.1 = y.1 := by simpa using h
    have := e.old n y h2 (by rw [← hxy]; exact w.1 n x h1)
    rw [h1] at this; cases this
    rw [h1, h2]
  · cases h
theorem cwrite_ok {H H1 : CH} {n off : Nat} {vs : List Value} (h : cwrite H n off vs = some H1) : Ok H H1 := by
  unfold cwrite at h
  split at h
  · rename_i cells el hg
    split at h
    · cases h; exact Ok.set' hg rfl
    · cases h
  · cases h
theorem capp_ok {H H1 : CH} {es bytes : Nat} {el : TypeId} {s x v : Value} (h : capp H es bytes el s x = some (v, H1)) : Ok H H1 := by
  unfold capp at h
  simp only [Option.bind_eq_bind, Option.bind_eq_some_iff] at h
  obtain ⟨n, _, news, _, u, _, h⟩ := h
  split at h
  · split at h
    · split at h
      · cases h; exact Ok.refl _
      · simp only [Option.bind_eq_some_iff, Option.some.injEq] at h
        obtain ⟨H', h1, h2⟩ := h
        cases h2
        split at h1
        · cases h1; exact Ok.refl _
        · exact cwrite_ok h1
    · split at h
      · split at h
        · cases h; exact Ok.add _ _
        · simp only [Option.bind_eq_some_iff] at h
          obtain ⟨old, _, h⟩ := h
          split at h
          · cases h; exact Ok.add _ _
          · split at h
            · rename_i hg
              split at h
              · cases h; exact (Ok.set' hg rfl).trans (Ok.add _ _)
              · cases h
            · cases h
      · cases h
  · cases h
theorem ceff_ok {ρ : Operand → Value} {H H1 : CH} {ci : CI} {v : Value} (h : ceff ρ H ci = some (v, H1)) : Ok H H1 := by
  cases ci with
  | st x v k =>
    simp only [ceff] at h
    split at h
    · split at h
      · simp only [Option.map_eq_some_iff] at h
        obtain ⟨H', h1, h2⟩ := h
        cases h2; exact cwrite_ok h1
      · cases h
    · cases h
  | app es bytes z x y el => exact capp_ok h
  | cpy es x y =>
    simp only [ceff] at h
    split at h
    · simp only [Option.bind_eq_bind, Option.bind_eq_some_iff] at h
      obtain ⟨m, _, l, _, h⟩ := h
      split at h
      · simp only [Option.bind_eq_some_iff, Option.some.injEq] at h
        obtain ⟨H', h1, h2⟩ := h
        cases h2
        split at h1
        · cases h1; exact Ok.refl _
        · exact cwrite_ok h1
      · cases h; exact Ok.refl _
    · cases h
  | clr zero x =>
    simp only [ceff] at h
    split at h
    · cases h; exact Ok.refl _
    · split at h
      · cases h; exact Ok.refl _
      · simp only [Option.map_eq_some_iff] at h
        obtain ⟨H', h1, h2⟩ := h
        cases h2; exact cwrite_ok h1
    · cases h
  | mup kk m k v =>
    simp only [ceff] at h
    split at h
    · split at h
      · rename_i hg
        split at h
        · split at h
          · cases h; exact Ok.set' hg rfl
          · cases h; exact Ok.set' hg rfl
          · cases h
        · cases h
      · cases h
    · cases h
  | del kk m k =>
    simp only [ceff] at h
    split at h
    · split at h
      · cases h; exact Ok.refl _
      · cases h
    · split at h
      · rename_i hg
        split at h
        · split at h
          · cases h; exact Ok.set' hg rfl
          · cases h; exact Ok.set' hg rfl
          · cases h
        · cases h
      · cases h
    · cases h
  | rng x =>
    simp only [ceff] at h
    split at h
    · cases h; exact Ok.add _ _
    · split at h
      · cases h; exact Ok.add _ _
      · cases h
    · cases h
  | entry x =>
    simp only [ceff] at h
    split at h
    · split at h
      · split at h
        · split at h
          · simp only [Option.map_eq_some_iff] at h
            obtain ⟨e, _, h⟩ := h
            cases h; exact Ok.refl _
          · cases h
        · cases h
      · cases h
    · cases h
  | usd x =>
    simp only [ceff] at h
    split at h
    · cases h; exact Ok.refl _
    · split at h
      · cases h
      · cases h; exact Ok.refl _
    · cases h
  | ustr x y el =>
    simp only [ceff] at h
    unfold custr at h
    split at h
    · split at h
      · cases h; exact Ok.refl _
      · cases h
    · split at h
      · cases h; exact Ok.refl _
      · split at h
        · split at h
          · rename_i hg _
            simp only [Option.bind_eq_some_iff] at h
            obtain ⟨b, _, h⟩ := h
            split at h
            · cases h; exact Ok.set' hg rfl
            · cases h
          · cases h
        · cases h
    · cases h
  | _ => simp [ceff] at h
theorem cdet_ok {ρ : Operand → Value} {H H1 : CH} {ci : CI} {v : Value} (h : cdet ρ H ci = some (v, H1)) : Ok H H1 := by
  unfold cdet at h
  split at h
  · cases h; exact Ok.refl _
  · split at h
    · cases h; exact Ok.refl _
    · split at h
      · cases h; exact Ok.add _ _
      · exact ceff_ok h
end Go.Cn
/-! ## The kernel's evaluator is sound: operators. -/
namespace Go.Cn
open Go

theorem onInt'_inv {a : Value} {f : IntKind → Int → Bool} {d : Bool} (h : onInt' a f d = true) : (∃ i n, a = .int i n ∧ f i n = true) ∨ d = true := by
  cases a <;> first | exact .inr h | exact .inl ⟨_, _, rfl, h⟩
theorem onInt_inv {a : Value} {f : IntKind → Int → Bool} (h : onInt a f = true) : ∃ i n, a = .int i n ∧ f i n = true := by
  cases a <;> first | exact ⟨_, _, rfl, h⟩ | cases h
theorem onNat_inv {n : Int} {f : Nat → Bool} {d : Bool} (h : onNat n f d = true) : (∃ m : Nat, n = (m : Int) ∧ f m = true) ∨ d = true := by
  cases n with
  | ofNat m => exact .inl ⟨m, rfl, h⟩
  | negSucc m => exact .inr h
theorem onSome_inv {α : Type} {o : Option α} {f : α → Bool} (h : onSome o f = true) : ∃ a, o = some a ∧ f a = true := by
  cases o with
  | none => cases h
  | some a => exact ⟨a, rfl, h⟩
theorem cond_inv {b x y : Bool} (h : cond b x y = true) : (b = true ∧ x = true) ∨ (b = false ∧ y = true) := by
  cases b
  · exact .inr ⟨rfl, h⟩
  · exact .inl ⟨rfl, h⟩
theorem kindEq_inv {i j : IntKind} (h : kindEq i j = true) : i = j := by
  cases i <;> cases j <;> first | rfl | cases h
theorem fwrap_eq (k : IntKind) (n : Nat) : fwrap k n = k.wrap (n : Int) := by
  cases k <;> try rfl
  · show cond (Nat.blt n 9223372036854775808) (Int.ofNat n) (IntKind.wrap .i64 (.ofNat n)) = _
    cases h : Nat.blt n 9223372036854775808 with
    | false => rfl
    | true =>
      have hl : n < 9223372036854775808 := by
        have := Nat.le_of_ble_eq_true h; omega
      have h1 : (n : Int) % 2 ^ 64 = n := by omega
      have h2 : IntKind.wrap .i64 (n : Int) = if (decide ((n : Int) % 2 ^ 64 ≥ 2 ^ 63)) = true then (n : Int) % 2 ^ 64 - 2 ^ 64 else (n : Int) % 2 ^ 64 := rfl
      rw [h2]
      simp only [h1]
      rw [if_neg (by simp; omega)]
      rfl
section
variable {i : IntKind} {x y : Nat}
theorem cbin_add : cbin .add (.int i x) (.int i y) = some (.int i (fwrap i (Nat.add x y))) := by
  rw [fwrap_eq]; simp [cbin, Go.binOp, Op.intArith, semPure, pure]
theorem cbin_mul : cbin .mul (.int i x) (.int i y) = some (.int i (fwrap i (Nat.mul x y))) := by
  rw [fwrap_eq]; simp [cbin, Go.binOp, Op.intArith, semPure, pure]
theorem cbin_sub (h : y ≤ x) : cbin .sub (.int i x) (.int i y) = some (.int i (fwrap i (Nat.sub x y))) := by
  rw [fwrap_eq]
  have : ((Nat.sub x y : Nat) : Int) = (x : Int) - y := by show ((x - y : Nat) : Int) = _; omega
  rw [this]; simp [cbin, Go.binOp, Op.intArith, semPure, pure]
theorem toNat_ofInt (w n : Nat) : (BitVec.ofInt w (n : Int)).toNat = n % 2 ^ w := by simp
theorem wrap_unsig (hu : unsig i = true) (n : Int) : i.wrap n = n % 2 ^ i.bits := by
  cases i <;> first | rfl | (cases hu; done)
theorem cbin_and (hu : unsig i = true) : cbin .and (.int i x) (.int i y) = some (.int i (fwrap i (Nat.land x y))) := by
  rw [fwrap_eq]
  simp only [cbin, Go.binOp, Op.intBits, semPure, pure, ne_eq, not_true_eq_false, if_false, BitVec.toNat_and, toNat_ofInt]
  rw [← Nat.and_mod_two_pow]
  congr 2
  rw [wrap_unsig hu, wrap_unsig hu]
  simp [Int.emod_emod_of_dvd]
theorem cbin_or (hu : unsig i = true) : cbin .or (.int i x) (.int i y) = some (.int i (fwrap i (Nat.lor x y))) := by
  rw [fwrap_eq]
  simp only [cbin, Go.binOp, Op.intBits, semPure, pure, ne_eq, not_true_eq_false, if_false, BitVec.toNat_or, toNat_ofInt]
  rw [← Nat.or_mod_two_pow]
  congr 2
  rw [wrap_unsig hu, wrap_unsig hu]
  simp [Int.emod_emod_of_dvd]
theorem cbin_xor (hu : unsig i = true) : cbin .xor (.int i x) (.int i y) = some (.int i (fwrap i (Nat.xor x y))) := by
  rw [fwrap_eq]
  simp only [cbin, Go.binOp, Op.intBits, semPure, pure, ne_eq, not_true_eq_false, if_false, BitVec.toNat_xor, toNat_ofInt]
  rw [← Nat.xor_mod_two_pow]
  congr 2
  rw [wrap_unsig hu, wrap_unsig hu]
  simp [Int.emod_emod_of_dvd]
theorem cbin_lss : cbin .lss (.int i x) (.int i y) = some (.bool (Nat.blt x y)) := by
  have : Nat.blt x y = decide ((x : Int) < y) := by
    rw [Bool.eq_iff_iff]
    simp [Nat.blt, Nat.ble_eq]; omega
  rw [this]; simp [cbin, Go.binOp, Op.intCmp, semPure, pure]
theorem cbin_leq : cbin .leq (.int i x) (.int i y) = some (.bool (Nat.ble x y)) := by
  have : Nat.ble x y = decide ((x : Int) ≤ y) := by
    rw [Bool.eq_iff_iff]
    simp [Nat.ble_eq]
  rw [this]; simp [cbin, Go.binOp, Op.intCmp, semPure, pure]
theorem cbin_eql : cbin .eql (.int i x) (.int i y) = some (.bool (Nat.beq x y)) := by
  have : Nat.beq x y = ((x : Int) == y) := by
    rw [Bool.eq_iff_iff]
    simp [Nat.beq_eq]; omega
  rw [this]; simp [cbin, Go.binOp, Op.intCmp, semPure, pure]
theorem cbin_neq : cbin .neq (.int i x) (.int i y) = some (.bool (Bool.not (Nat.beq x y))) := by
  have : Nat.beq x y = ((x : Int) == y) := by
    rw [Bool.eq_iff_iff]
    simp [Nat.beq_eq]; omega
  rw [this]; simp [cbin, Go.binOp, Op.intCmp, semPure, pure, bne]
theorem bits1_eq (hu : unsig i = true) : bits1 i = i.bits := by cases i <;> first | rfl | cases hu
theorem min_eq (y b : Nat) : cond (Nat.ble y b) y b = min y b := by
  cases h : Nat.ble y b with
  | true => have := Nat.le_of_ble_eq_true h; simp; omega
  | false => have : ¬ y ≤ b := by intro hl; rw [Nat.ble_eq_true_of_le hl] at h; cases h
             simp; omega
theorem cbin_shl {j : IntKind} (hu : unsig i = true) : cbin .shl (.int i x) (.int j y) = some (.int i (fwrap i (Nat.mul x (Nat.pow 2 (cond (Nat.ble y (bits1 i)) y (bits1 i)))))) := by
  rw [fwrap_eq, min_eq, bits1_eq hu]
  have h0 : ¬ ((y : Int) < 0) := by omega
  simp [cbin, Go.binOp, Op.shift, semPure, h0]
  simp [pure]
theorem cbin_shr {j : IntKind} (hu : unsig i = true) : cbin .shr (.int i x) (.int j y) = some (.int i (.ofNat (Nat.div x (Nat.pow 2 (cond (Nat.ble y (bits1 i)) y (bits1 i)))))) := by
  rw [min_eq, bits1_eq hu]
  have h0 : ¬ ((y : Int) < 0) := by omega
  have h1 : (x : Int).fdiv (2 ^ min y i.bits) = Int.ofNat (x / 2 ^ min y i.bits) := by
    rw [Int.fdiv_eq_ediv_of_nonneg]
    · simp
    · exact Int.pow_nonneg (by omega)
  simp [cbin, Go.binOp, Op.shift, semPure, h0]
  simp only [pure]
  rw [h1]
  rfl
end
theorem slow_inv {op : BinOp} {a b : Value} {k : Value → Bool} (h : slow op a b k = true) : ∃ v, cbin op a b = some v ∧ k v = true := by
  obtain ⟨v, a, b⟩ := onSome_inv h
  rw [forceV_eq] at b
  exact ⟨v, a, b⟩
theorem bytes_append (s t : ByteArray) : (⟨⟨s.data.toList ++ t.data.toList⟩⟩ : ByteArray) = s ++ t := by
  apply ByteArray.ext
  simp
theorem slowAdd_inv {a b : Value} {k : Value → Bool} (h : slowAdd a b k = true) : ∃ v, cbin .add a b = some v ∧ k v = true := by
  unfold slowAdd onStr2 at h
  split at h
  · split at h
    · simp only [appK_eq] at h
      rcases cond_inv h with ⟨hl, h⟩ | ⟨_, h⟩
      · refine ⟨_, ?_, h⟩
        rw [bytes_append]
        have e0 : ∀ s t : ByteArray, cbin .add (.string s) (.string t) = semPure (Op.stringOp .add s t) := fun _ _ => rfl
        rw [e0]
        have hl' := Nat.le_of_ble_eq_true hl
        have hm : IntKind.i64.max = 9223372036854775807 := rfl
        unfold Op.stringOp
        simp only
        rw [if_neg (by rw [hm]; simp only [Nat.add_eq] at hl'; omega)]
        rfl
      · cases h
    · exact slow_inv h
  · exact slow_inv h
theorem fbin_sound {op : BinOp} {a b : Value} {k : Value → Bool} (h : fbin op a b k = true) : ∃ v, cbin op a b = some v ∧ k v = true := by
  have two' : ∀ {op : BinOp} {f : IntKind → Nat → IntKind → Nat → Bool} {d : Bool}, (d = true → ∃ v, cbin op a b = some v ∧ k v = true) →
      onInt' a (fun i x => onInt' b (fun j y => onNat x (fun x => onNat y (fun y => f i x j y) (slow op a b k)) (slow op a b k)) (slow op a b k)) d = true →
      (∃ i x j y, a = .int i (x : Nat) ∧ b = .int j (y : Nat) ∧ f i x j y = true) ∨ ∃ v, cbin op a b = some v ∧ k v = true := by
    intro op f d hd h
    rcases onInt'_inv h with ⟨i, x, rfl, h⟩ | h
    · rcases onInt'_inv h with ⟨j, y, rfl, h⟩ | h
      · rcases onNat_inv h with ⟨x', rfl, h⟩ | h
        · rcases onNat_inv h with ⟨y', rfl, h⟩ | h
          · exact .inl ⟨_, _, _, _, rfl, rfl, h⟩
          · exact .inr (slow_inv h)
        · exact .inr (slow_inv h)
      · exact .inr (slow_inv h)
    · exact .inr (hd h)
  have two : ∀ {op : BinOp} {f : IntKind → Nat → IntKind → Nat → Bool},
      onInt' a (fun i x => onInt' b (fun j y => onNat x (fun x => onNat y (fun y => f i x j y) (slow op a b k)) (slow op a b k)) (slow op a b k)) (slow op a b k) = true →
      (∃ i x j y, a = .int i (x : Nat) ∧ b = .int j (y : Nat) ∧ f i x j y = true) ∨ ∃ v, cbin op a b = some v ∧ k v = true := fun h => two' slow_inv h
  cases op
  case add =>
    rcases two' slowAdd_inv h with ⟨i, x, j, y, rfl, rfl, h⟩ | h
    · rcases cond_inv h with ⟨e, h'⟩ | ⟨_, h'⟩
      · obtain rfl := kindEq_inv e; exact ⟨_, cbin_add, h'⟩
      · exact slow_inv h'
    · exact h
  case sub =>
    rcases two h with ⟨i, x, j, y, rfl, rfl, h⟩ | h
    · rcases cond_inv h with ⟨e, h'⟩ | ⟨_, h'⟩
      · simp only [Bool.and_eq_true] at e
        obtain rfl := kindEq_inv e.1; exact ⟨_, cbin_sub (Nat.le_of_ble_eq_true e.2), h'⟩
      · exact slow_inv h'
    · exact h
  case mul =>
    rcases two h with ⟨i, x, j, y, rfl, rfl, h⟩ | h
    · rcases cond_inv h with ⟨e, h'⟩ | ⟨_, h'⟩
      · obtain rfl := kindEq_inv e; exact ⟨_, cbin_mul, h'⟩
      · exact slow_inv h'
    · exact h
  case and =>
    rcases two h with ⟨i, x, j, y, rfl, rfl, h⟩ | h
    · rcases cond_inv h with ⟨e, h'⟩ | ⟨_, h'⟩
      · simp only [Bool.and_eq_true] at e
        obtain rfl := kindEq_inv e.1; exact ⟨_, cbin_and e.2, h'⟩
      · exact slow_inv h'
    · exact h
  case or =>
    rcases two h with ⟨i, x, j, y, rfl, rfl, h⟩ | h
    · rcases cond_inv h with ⟨e, h'⟩ | ⟨_, h'⟩
      · simp only [Bool.and_eq_true] at e
        obtain rfl := kindEq_inv e.1; exact ⟨_, cbin_or e.2, h'⟩
      · exact slow_inv h'
    · exact h
  case xor =>
    rcases two h with ⟨i, x, j, y, rfl, rfl, h⟩ | h
    · rcases cond_inv h with ⟨e, h'⟩ | ⟨_, h'⟩
      · simp only [Bool.and_eq_true] at e
        obtain rfl := kindEq_inv e.1; exact ⟨_, cbin_xor e.2, h'⟩
      · exact slow_inv h'
    · exact h
  case lss =>
    rcases two h with ⟨i, x, j, y, rfl, rfl, h⟩ | h
    · rcases cond_inv h with ⟨e, h'⟩ | ⟨_, h'⟩
      · obtain rfl := kindEq_inv e; exact ⟨_, cbin_lss, h'⟩
      · exact slow_inv h'
    · exact h
  case leq =>
    rcases two h with ⟨i, x, j, y, rfl, rfl, h⟩ | h
    · rcases cond_inv h with ⟨e, h'⟩ | ⟨_, h'⟩
      · obtain rfl := kindEq_inv e; exact ⟨_, cbin_leq, h'⟩
      · exact slow_inv h'
    · exact h
  case eql =>
    rcases two h with ⟨i, x, j, y, rfl, rfl, h⟩ | h
    · rcases cond_inv h with ⟨e, h'⟩ | ⟨_, h'⟩
      · obtain rfl := kindEq_inv e; exact ⟨_, cbin_eql, h'⟩
      · exact slow_inv h'
    · exact h
  case neq =>
    rcases two h with ⟨i, x, j, y, rfl, rfl, h⟩ | h
    · rcases cond_inv h with ⟨e, h'⟩ | ⟨_, h'⟩
      · obtain rfl := kindEq_inv e; exact ⟨_, cbin_neq, h'⟩
      · exact slow_inv h'
    · exact h
  case shl =>
    rcases two h with ⟨i, x, j, y, rfl, rfl, h⟩ | h
    · rcases cond_inv h with ⟨e, h'⟩ | ⟨_, h'⟩
      · exact ⟨_, cbin_shl e, h'⟩
      · exact slow_inv h'
    · exact h
  case shr =>
    rcases two h with ⟨i, x, j, y, rfl, rfl, h⟩ | h
    · rcases cond_inv h with ⟨e, h'⟩ | ⟨_, h'⟩
      · exact ⟨_, cbin_shr e, h'⟩
      · exact slow_inv h'
    · exact h
  all_goals exact slow_inv h
end Go.Cn
/-! ## The kernel's evaluator is sound: operations. -/
namespace Go.Cn
open Go

theorem onPtr_inv {v : Value} {f : Nat → Nat → Bool} (h : onPtr v f = true) : ∃ b o, v = .pointer (some ⟨b, o, none⟩) ∧ f b o = true := by
  unfold onPtr at h
  split at h
  · exact ⟨_, _, rfl, h⟩
  · cases h
theorem onSlc_inv {v : Value} {f : Option Addr → Nat → Nat → Bool} (h : onSlc v f = true) : ∃ a n c, v = .slice a n c ∧ f a n c = true := by
  unfold onSlc at h
  split at h
  · exact ⟨_, _, _, rfl, h⟩
  · cases h
theorem onStr_inv {v : Value} {f : ByteArray → Bool} (h : onStr v f = true) : ∃ s, v = .string s ∧ f s = true := by
  unfold onStr at h
  split at h
  · exact ⟨_, rfl, h⟩
  · cases h
theorem onTup_inv {v : Value} {f : Array Value → Bool} (h : onTup v f = true) : ∃ s, v = .tuple s ∧ f s = true := by
  unfold onTup at h
  split at h
  · exact ⟨_, rfl, h⟩
  · cases h
theorem onAgg_inv {v : Value} {f : Array Value → Bool} (h : onAgg v f = true) : ∃ s, v = .agg s ∧ f s = true := by
  unfold onAgg at h
  split at h
  · exact ⟨_, rfl, h⟩
  · cases h
theorem onBool_inv {v : Value} {x y : Bool} (h : onBool v x y = true) : ∃ b, v = .bool b ∧ cond b x y = true := by
  unfold onBool at h
  split at h
  · exact ⟨_, rfl, h⟩
  · cases h
theorem onFn_inv {v : Value} {f : FuncId → Array Value → Array Value → Bool} (h : onFn v f = true) : ∃ g fi ca, v = .func (.func g) fi ca ∧ f g fi ca = true := by
  unfold onFn at h
  split at h
  · exact ⟨_, _, _, rfl, h⟩
  · cases h
theorem onBlk_inv {H : CH} {n : Nat} {f : List Value → Bool → BT → Bool} (h : onBlk (fget H.t n) f = true) : ∃ c r t, H.get n = some (.blk c r t) ∧ f c r t = true := by
  rw [fget_eq] at h
  cases e : H.t.get n with
  | none => rw [e] at h; cases h
  | some p =>
    obtain ⟨q, o⟩ := p
    rw [e] at h
    cases o with
    | blk c r t => exact ⟨c, r, t, by rw [CH.get, e]; rfl, h⟩
    | _ => cases h
theorem onLoop_inv {H : CH} {n : Nat} {f : LoopState → Ex → List Value → Array Tmp → CCode → CCode → Bool} (h : onLoop (fget H.t n) f = true) : ∃ st p tm ps a b, H.get n = some (.loop st p tm ps a b) ∧ f st p tm ps a b = true := by
  rw [fget_eq] at h
  cases e : H.t.get n with
  | none => rw [e] at h; cases h
  | some p =>
    obtain ⟨q, o⟩ := p
    rw [e] at h
    cases o with
    | loop st p tm ps a b => exact ⟨st, p, tm, ps, a, b, by rw [CH.get, e]; rfl, h⟩
    | _ => cases h
theorem nth_inv : ∀ {l : List Value} {n : Nat} {k : Value → Bool}, nth l n k = true → ∃ v, l[n]? = some v ∧ k v = true := by
  intro l
  induction l with
  | nil => intro n k h; cases h
  | cons v l ih =>
    intro n k h
    cases n with
    | zero => exact ⟨v, rfl, h⟩
    | succ n => obtain ⟨u, h1, h2⟩ := ih (n := n) (k := k) h; exact ⟨u, by simpa using h1, h2⟩
theorem nthB_inv : ∀ {l : List UInt8} {n : Nat} {k : UInt8 → Bool}, nthB l n k = true → ∃ v, l[n]? = some v ∧ k v = true := by
  intro l
  induction l with
  | nil => intro n k h; cases h
  | cons v l ih =>
    intro n k h
    cases n with
    | zero => exact ⟨v, rfl, h⟩
    | succ n => obtain ⟨u, h1, h2⟩ := ih (n := n) (k := k) h; exact ⟨u, by simpa using h1, h2⟩
theorem lput_eq : ∀ (l : List Value) (n : Nat) (x : Value), lput l n x = l.set n x := by
  intro l
  induction l with
  | nil => intro n x; rfl
  | cons v l ih =>
    intro n x
    cases n with
    | zero => rfl
    | succ n => exact congrArg (v :: ·) (ih n x)
theorem byte_at (s : ByteArray) (j : Nat) : s[j]? = s.data.toList[j]? := by
  cases s with
  | mk d =>
    rw [Array.getElem?_toList]
    by_cases h : j < d.size
    · have h' : j < (ByteArray.mk d).size := h
      rw [getElem?_pos (ByteArray.mk d) j h', getElem?_pos d j h]; rfl
    · have h' : ¬ j < (ByteArray.mk d).size := h
      rw [getElem?_neg (ByteArray.mk d) j h', getElem?_neg d j h]

theorem bytes_extract (s : ByteArray) (l h : Nat) : s.extract l h = ⟨⟨(s.data.toList.drop l).take (h - l)⟩⟩ := by
  apply ByteArray.ext
  rw [ByteArray.data_extract]
  apply Array.ext'
  rw [Array.toList_extract, List.extract_eq_take_drop]
/-- Where a byte stands first; else -1. -/
def idxOf (c : Nat) : List UInt8 → Nat → Int
  | [], _ => .negSucc 0
  | x :: r, i => if x.toNat = c then .ofNat i else idxOf c r (i + 1)
theorem findK_eq (c : Nat) : ∀ (l : List UInt8) (i : Nat) (k : Int → Bool), findK c l i k = k (idxOf c l i) := by
  intro l
  induction l with
  | nil => intro i k; rfl
  | cons x l ih =>
    intro i k
    show cond (Nat.beq x.toNat c) (k (.ofNat i)) (findK c l (i + 1) k) = _
    rw [ih]
    have hi : idxOf c (x :: l) i = if x.toNat = c then .ofNat i else idxOf c l (i + 1) := rfl
    rw [hi]
    by_cases e : x.toNat = c
    · rw [if_pos e, e, Nat.beq_refl]; rfl
    · rw [if_neg e]
      have : Nat.beq x.toNat c = false := by
        rw [Bool.eq_false_iff]; exact fun h => e (Nat.eq_of_beq_eq_true h)
      rw [this]; rfl
theorem firstIdx_eq (s : ByteArray) (c : UInt8) : firstIdx s c = idxOf c.toBitVec.toFin.val s.data.toList 0 := by
  have key : ∀ (l pre : List UInt8), (match (List.range' pre.length l.length).find? (fun i => (pre ++ l)[i]! == c) with | some i => (i : Int) | none => -1) = idxOf c.toNat l pre.length := by
    intro l
    induction l with
    | nil => intro pre; rfl
    | cons x l ih =>
      intro pre
      rw [List.length_cons, List.range'_succ, List.find?_cons]
      have hx : (pre ++ x :: l)[pre.length]! = x := by
        simp
      rw [hx]
      unfold idxOf
      by_cases e : x = c
      · subst e
        simp
      · have e2 : ¬ x.toNat = c.toNat := fun h => e (UInt8.toNat_inj.1 h)
        rw [if_neg e2]
        have e3 : (x == c) = false := by simpa using e
        rw [e3]
        have := ih (pre ++ [x])
        simp only [List.length_append, List.length_cons, List.length_nil, List.append_assoc, List.cons_append, List.nil_append] at this
        rw [← this]
  have := key s.data.toList []
  simp only [List.length_nil, List.nil_append] at this
  show firstIdx s c = idxOf c.toNat s.data.toList 0
  rw [← this]
  unfold firstIdx
  rw [List.range_eq_range']
  have hs : s.size = s.data.toList.length := rfl
  rw [hs]
  have hf : (fun i : Nat => s[i]! == c) = fun i : Nat => s.data.toList[i]! == c := by
    funext i
    have : s[i]! = s.data.toList[i]! := by
      rw [List.getElem!_eq_getElem?_getD, ← byte_at]
      by_cases h : i < s.size
      · rw [getElem!_pos s i h, getElem?_pos s i h]; rfl
      · rw [getElem!_neg s i h, getElem?_neg s i h]; rfl
    rw [this]
  rw [hf]
  cases (List.range' 0 s.data.toList.length).find? (fun i => s.data.toList[i]! == c) <;> rfl

def CallOk (P : Program) (call : FCall) : Prop := ∀ f args H k, WF H → call f args H k = true → CCall P f args H (fun v H1 => k v H1 = true ∧ Ok H H1)
def YldOk (P : Program) (yld : FCall) : Prop := ∀ n args H k, WF H → yld n args H k = true → CYield P n args H (fun v H1 => k v H1 = true ∧ Ok H H1)
section
variable {P : Program} {call yld : FCall} {t : VT} {tm : List Value} {H : CH} {k : KV}
theorem det_pure {ci : CI} {v : Value} (h : cpure (cev tm) ci = some v) (hk : k v H = true) : ∃ v H1, cdet (cev tm) H ci = some (v, H1) ∧ (k v H1 = true ∧ Ok H H1) :=
  ⟨v, H, by unfold cdet; rw [h], hk, Ok.refl _⟩
theorem det_read {ci : CI} {v : Value} (h0 : cpure (cev tm) ci = none) (h : crd (cev tm) H ci = some v) (hk : k v H = true) : ∃ v H1, cdet (cev tm) H ci = some (v, H1) ∧ (k v H1 = true ∧ Ok H H1) :=
  ⟨v, H, by unfold cdet; rw [h0]; simp only; rw [h], hk, Ok.refl _⟩
theorem fdet_sound {ci : CI} (ht : TR t tm) (h : fdet ci t H k = true) : ∃ v H1, cdet (cev tm) H ci = some (v, H1) ∧ (k v H1 = true ∧ Ok H H1) := by
  obtain ⟨⟨v, H1⟩, h1, h2⟩ := onSome_inv h
  have : (fun x => evO x t) = cev tm := funext fun x => evO_eq ht x
  rw [this] at h1
  rw [forceV_eq] at h2
  exact ⟨v, H1, h1, h2, cdet_ok h1⟩
theorem fnext_sound {v : Value} (h : fnext H v k = true) : cnext H v (fun v H1 => k v H1 = true ∧ Ok H H1) := by
  unfold fnext at h
  unfold cnext
  split at h
  · rename_i n
    simp only
    split at h
    · rename_i hg; rw [hg]; exact ⟨h, Ok.refl _⟩
    · rename_i m since seen last hg
      rw [hg]
      simp only
      split at h
      · rename_i es ck hm
        rw [hm]
        simp only [Bool.and_eq_true, Bool.not_eq_true', List.all_eq_true] at h
        refine ⟨by rw [h.1]; simp, fun c hc => ?_⟩
        have := h.2 c hc
        cases c with
        | none => exact ⟨this, Ok.refl _⟩
        | some e => exact ⟨this, Ok.set' hg rfl⟩
      · cases h
    · cases h
  · cases h
theorem fop_sound (hcall : CallOk P call) (hyld : YldOk P yld) (hw : WF H) (ht : TR t tm) {ci : CI} (h : fop ci call yld t H k = true) :
    cstep P tm H (fun v H1 => k v H1 = true ∧ Ok H H1) ci := by
  cases ci with
  | mov x => simp only [fop, evO_eq ht] at h; exact det_pure rfl h
  | asg x => simp only [fop, evO_eq ht] at h; exact det_pure rfl h
  | bin op x y =>
    simp only [fop, evO_eq ht] at h
    obtain ⟨v, h1, h2⟩ := fbin_sound h
    exact det_pure h1 h2
  | conv kd x =>
    simp only [fop, fconv, evO_eq ht] at h
    obtain ⟨i, n, e, h⟩ := onInt_inv h
    have hp : cpure (cev tm) (.conv kd x) = some (.int kd (kd.wrap n)) := by simp only [cpure, e]
    refine det_pure hp ?_
    rcases onNat_inv h with ⟨m, em, h'⟩ | h'
    · subst em; rw [fwrap_eq] at h'; exact h'
    · exact h'
  | ld x n =>
    cases n with
    | some n => exact fdet_sound ht h
    | none =>
      simp only [fop, evO_eq ht] at h
      obtain ⟨b, o, e, h⟩ := onPtr_inv h
      obtain ⟨c, r, bt, hg, h⟩ := onBlk_inv h
      obtain ⟨v, hv, h⟩ := nth_inv h
      exact det_read rfl (v := v) (by simp only [crd, e, hg, hv]) h
  | st x v n =>
    by_cases hn : n = 1
    · subst hn
      simp only [fop, evO_eq ht] at h
      obtain ⟨b, o, e, h⟩ := onPtr_inv h
      obtain ⟨c, r, bt, hg, h⟩ := onBlk_inv h
      rcases cond_inv h with ⟨_, h'⟩ | ⟨hr, h1⟩
      · cases h'
      · rcases cond_inv h1 with ⟨hs, h2⟩ | ⟨_, h2⟩
        · obtain ⟨u, hu, h3⟩ := nth_inv h2
          have ho : o < c.length := (List.getElem?_eq_some_iff.1 hu).1
          have hsc : scalar (cev tm v) = true := hs
          have hcells : (cev tm v).cells = #[cev tm v] := by
            generalize cev tm v = y at hsc
            cases y <;> first | rfl | (cases hsc; done)
          have hd : cdet (cev tm) H (.st x v 1) = some (undef, H.set b (.blk (c.set o (cev tm v)) false bt)) := by
            simp only [cdet, cpure, crd, cal, ceff, e, hcells, cwrite, hg, hr]
            have h1 : c.take o ++ [cev tm v] ++ c.drop (o + 1) = c.set o (cev tm v) := by
              rw [List.set_eq_take_append_cons_drop, if_pos ho]; simp
            simp [hsc, ← h1]
            omega
          refine ⟨_, _, hd, ?_, cdet_ok hd⟩
          rw [fset_eq, lput_eq] at h3
          exact h3
        · cases h2
    · have : fop (.st x v n) call yld t H k = fdet (.st x v n) t H k := by
        match n, hn with
        | 0, _ => rfl
        | n + 2, _ => rfl
      rw [this] at h
      exact fdet_sound ht h
  | iadrS x i es =>
    simp only [fop, evO_eq ht] at h
    obtain ⟨a, n, c, e, h⟩ := onSlc_inv h
    obtain ⟨kk, j, e2, h⟩ := onInt_inv h
    rcases onNat_inv h with ⟨j', rfl, h⟩ | h
    · rcases cond_inv h with ⟨hl, h⟩ | ⟨_, h⟩
      · obtain ⟨a', rfl, h⟩ := onSome_inv h
        have hl' : j' < n := by have := Nat.le_of_ble_eq_true hl; omega
        refine det_pure (v := .pointer (some ⟨a'.block, a'.off + j' * es, none⟩)) ?_ h
        simp only [cpure, e, e2]
        rw [if_pos (by omega)]
        simp
      · cases h
    · cases h
  | iadrA x i len es =>
    simp only [fop, evO_eq ht] at h
    obtain ⟨b, o, e, h⟩ := onPtr_inv h
    obtain ⟨kk, j, e2, h⟩ := onInt_inv h
    rcases onNat_inv h with ⟨j', rfl, h⟩ | h
    · rcases cond_inv h with ⟨hl, h⟩ | ⟨_, h⟩
      · have hl' : j' < len := by have := Nat.le_of_ble_eq_true hl; omega
        refine det_pure (v := .pointer (some ⟨b, o + j' * es, none⟩)) ?_ h
        simp only [cpure, e, e2]
        rw [if_pos (by omega)]
        simp [Addr.add]
      · cases h
    · cases h
  | fadr x off =>
    simp only [fop, evO_eq ht] at h
    obtain ⟨b, o, e, h⟩ := onPtr_inv h
    exact det_pure (v := .pointer (some ⟨b, o + off, none⟩)) (by simp [cpure, e, Addr.add]) h
  | nilchk x =>
    simp only [fop, evO_eq ht] at h
    obtain ⟨b, o, e, h⟩ := onPtr_inv h
    exact det_pure (v := .pointer (some ⟨b, o, none⟩)) (by simp [cpure, e]) h
  | lenS x =>
    simp only [fop, evO_eq ht] at h
    obtain ⟨s, e, h⟩ := onStr_inv h
    exact det_pure (by simp only [cpure, e]) h
  | lenL x =>
    simp only [fop, evO_eq ht] at h
    obtain ⟨a, n, c, e, h⟩ := onSlc_inv h
    exact det_pure (by simp only [cpure, e]) h
  | sidx x i =>
    simp only [fop, evO_eq ht] at h
    obtain ⟨s, e, h⟩ := onStr_inv h
    obtain ⟨kk, j, e2, h⟩ := onInt_inv h
    rcases onNat_inv h with ⟨j', rfl, h⟩ | h
    · obtain ⟨b, hb, h⟩ := nthB_inv h
      refine det_pure (v := .int .u8 b.toNat) ?_ h
      simp only [cpure, e, e2]
      rw [if_pos (by omega)]
      rw [show ((j' : Int).toNat) = j' from rfl, byte_at, hb]
      rfl
    · cases h
  | slcStr x lo hi =>
    simp only [fop, evO_eq ht, takeK_eq, dropB_eq] at h
    obtain ⟨s, e, h⟩ := onStr_inv h
    obtain ⟨hh, e1, h⟩ := onSome_inv h
    obtain ⟨l, e2, h⟩ := onSome_inv h
    refine det_pure (v := .string (s.extract l hh)) ?_ ?_
    · simp only [cpure, e]
      have w1 : hi.map (cev tm) = hi.map fun o => cev tm o := rfl
      have w2 : lo.map (cev tm) = lo.map fun o => cev tm o := rfl
      rw [w1, w2, e1]
      simp only [Option.bind_eq_bind, Option.bind_some, e2]
    · rw [bytes_extract]; exact h
  | xib x c =>
    simp only [fop, evO_eq ht, findK_eq] at h
    obtain ⟨s, e, h⟩ := onStr_inv h
    obtain ⟨kd, n, e1, h⟩ := onInt_inv h
    rcases cond_inv h with ⟨hk, h⟩ | ⟨_, h⟩
    · obtain rfl := kindEq_inv hk
      refine det_pure (v := .int .i64 (firstIdx s n.toNat.toUInt8)) (by simp only [cpure, e, e1]) ?_
      rw [firstIdx_eq]
      exact h
    · cases h
  | pick c a b =>
    simp only [fop, evO_eq ht] at h
    obtain ⟨q, e, h⟩ := onBool_inv h
    cases q
    · exact det_pure (v := cev tm b) (by simp [cpure, e]) h
    · exact det_pure (v := cev tm a) (by simp [cpure, e]) h
  | ext x i =>
    simp only [fop, evO_eq ht] at h
    obtain ⟨vs, e, h⟩ := onTup_inv h
    obtain ⟨v, hv, h⟩ := nth_inv h
    exact det_pure (v := v) (by simp only [cpure, e]; rw [← Array.getElem?_toList]; exact hv) h
  | part x off n =>
    cases n with
    | some n => exact fdet_sound ht h
    | none =>
      simp only [fop, evO_eq ht] at h
      obtain ⟨vs, e, h⟩ := onAgg_inv h
      obtain ⟨v, hv, h⟩ := nth_inv h
      exact det_pure (v := v) (by simp only [cpure, e, cpart]; rw [← Array.getElem?_toList]; exact hv) h
  | nxt x =>
    simp only [fop, evO_eq ht] at h
    exact fnext_sound h
  | call f args =>
    simp only [fop, fargs_eq ht] at h
    exact hcall _ _ _ _ hw h
  | callv f args =>
    simp only [fop, fargs_eq ht, evO_eq ht] at h
    simp only [cstep]
    generalize cev tm f = fv at h ⊢
    cases fv with
    | func fn fi ca =>
      cases fn with
      | func g => exact hcall _ _ _ _ hw h
      | yield n => exact hyld _ _ _ _ hw h
      | _ => cases h
    | _ => cases h
  | _ => exact fdet_sound ht h
end
end Go.Cn
/-! ## The kernel's evaluator is sound: code. -/
namespace Go.Cn
open Go

section
variable {P : Program} {tm : List Value} {H : CH}
theorem cnext_mono {v : Value} {K K' : Value → CH → Prop} (h : cnext H v K) (hk : ∀ v H1, K v H1 → K' v H1) : cnext H v K' := by
  unfold cnext at *
  split at h
  · split at h
    · exact hk _ _ h
    · split at h
      · refine ⟨h.1, fun c hc => ?_⟩
        have := h.2 c hc
        cases c <;> exact hk _ _ this
      · exact h
    · exact h
  · exact h
theorem CYield.mono {n : Nat} {args : List Value} {Q Q' : Value → CH → Prop} (h : CYield P n args H Q) (hq : ∀ v h, Q v h → Q' v h) : CYield P n args H Q' := by
  obtain ⟨pend, tm, ps, ca, cb, h1, h2, h3⟩ := h
  refine ⟨pend, tm, ps, ca, cb, h1, h2, h3.mono fun e t g ⟨a1, p1, a2, a3⟩ => ⟨a1, p1, a2, a3.mono fun e2 t2 g2 ⟨p2, b1, b2⟩ => ⟨p2, b1, hq _ _ b2⟩⟩⟩
theorem cstep_mono {K K' : Value → CH → Prop} {ci : CI} (h : cstep P tm H K ci) (hk : ∀ v H1, K v H1 → K' v H1) : cstep P tm H K' ci := by
  have det : (∃ v H1, cdet (cev tm) H ci = some (v, H1) ∧ K v H1) → ∃ v H1, cdet (cev tm) H ci = some (v, H1) ∧ K' v H1 := fun ⟨v, H1, a, b⟩ => ⟨v, H1, a, hk _ _ b⟩
  cases ci with
  | call f args => exact CCall.mono h hk
  | callv f args =>
    simp only [cstep] at *
    unfold CCallV at *
    split at h
    · exact CCall.mono h hk
    · exact CYield.mono h hk
    · exact h
  | nxt x => exact cnext_mono h hk
  | _ => exact det h
end

def PQ (k : KX) (H : CH) : Post := fun e tm' H' => ∃ t', TR t' tm' ∧ k e t' H' = true ∧ Ok H H'
theorem PQ.up {k : KX} {H H1 : CH} (h : Ok H H1) {e : Ex} {tm : List Value} {H' : CH} (q : PQ k H1 e tm H') : PQ k H e tm H' := by
  obtain ⟨t', a, b, c⟩ := q
  exact ⟨t', a, b, h.trans c⟩
section
variable {P : Program} {call yld : FCall}
theorem fgate_inv {tm : List Value} {t : VT} (ht : TR t tm) {g : Option (Option Tmp × Bool)} {x y : Bool} (h : fgate g t x y = true) : (wantC tm g = true ∧ x = true) ∨ (wantC tm g = false ∧ y = true) := by
  match g with
  | none => exact .inl ⟨rfl, h⟩
  | some (none, b) => exact .inr ⟨rfl, h⟩
  | some (some i, b) =>
    simp only [fgate] at h
    simp only [wantC, Option.bind_some]
    have hg := ht.get i
    rw [List.getD_eq_getElem?_getD] at hg
    cases e : tm[i]? with
    | none =>
      rw [e] at hg
      simp only [Option.getD_none] at hg
      rw [hg] at h
      exact .inr ⟨rfl, h⟩
    | some v =>
      rw [e] at hg
      simp only [Option.getD_some] at hg
      rw [hg] at h
      cases v with
      | bool c =>
        simp only at h ⊢
        rcases cond_inv h with ⟨h1, h2⟩ | ⟨h1, h2⟩
        · exact .inl ⟨by cases c <;> cases b <;> simp_all, h2⟩
        · exact .inr ⟨by cases c <;> cases b <;> simp_all, h2⟩
      | _ => exact .inr ⟨rfl, h⟩
theorem fpend_inv {tm : List Value} {t : VT} (ht : TR t tm) {H H1 : CH} (hw : WF H) (ho : Ok H H1) {l : List Operand} {x : Bool} (h : fpend l t H H1 x = true) : (∀ o ∈ l, stable H H1 (cev tm o)) ∧ x = true := by
  cases l with
  | nil => exact ⟨fun _ h => (by cases h), h⟩
  | cons a l =>
    rcases cond_inv h with ⟨h1, h2⟩ | ⟨_, h2⟩
    · refine ⟨fun o hm => ?_, h2⟩
      have := List.all_eq_true.1 h1 o hm
      rw [evO_eq ht] at this
      exact still_sound hw (ho hw).2 this
    · cases h2
theorem fops_sound (hcall : CallOk P call) (hyld : YldOk P yld) {k : VT → CH → Bool} : ∀ {l : List CE} {t : VT} {tm : List Value} {H0 H : CH}, WF H0 → Ok H0 H → TR t tm → fops call yld l k t H = true →
    wpops P (fun tm' H' => ∃ t', TR t' tm' ∧ k t' H' = true ∧ Ok H0 H') l tm H := by
  intro l
  induction l with
  | nil => intro t tm H0 H _ ho ht h; exact ⟨t, ht, h, ho⟩
  | cons e l ih =>
    intro t tm H0 H hw ho ht h
    have hw1 := (ho hw).1
    have h' : fgate e.guard t (fop e.ci call yld t H fun v H1 => fpend e.pend t H H1 (fops call yld l k (fput e.dst t v) H1)) (fops call yld l k (fput e.dst t undef) H) = true := h
    simp only [wpops]
    rcases fgate_inv ht h' with ⟨g1, g2⟩ | ⟨g1, g2⟩
    · rw [if_pos g1]
      refine cstep_mono (fop_sound hcall hyld hw1 ht g2) fun v H1 ⟨a1, a2⟩ => ?_
      obtain ⟨b1, b2⟩ := fpend_inv ht hw1 a2 a1
      exact ⟨b1, ih hw (ho.trans a2) (ht.put _ _) b2⟩
    · rw [if_neg (by rw [g1]; simp)]
      exact ih hw ho (ht.put _ _) g2
def RunOk (P : Program) (rn : FRun) : Prop := ∀ c k t tm H, WF H → TR t tm → rn c k t H = true → CW P c (PQ k H) tm H ∧ ∀ c', c = .loop c' → CWL P c' (PQ k H) tm H
/-- What is known of the functions. -/
def EntOk (P : Program) (f : FuncId) : FEnt → Prop
  | .fn cf => ∃ fn, P.funcs[f]? = some fn ∧ (fn.name == "runtime.NumGoroutine") = false ∧ compFun P fn = some cf
  | .sum s => ∀ args H k, WF H → s args H k = true → CCall P f args H (fun v H1 => k v H1 = true ∧ Ok H H1)
  | .none => True
def EnvOk (P : Program) (E : T FEnt) : Prop := ∀ f, EntOk P f ((E.get f).getD .none)
theorem onEx_inv {e : Ex} {x : Bool} {f : Jump → Bool} (h : onEx e x f = true) : (e = none ∧ x = true) ∨ ∃ j, e = some j ∧ f j = true := by
  cases e with
  | none => exact .inl ⟨rfl, h⟩
  | some j => exact .inr ⟨j, rfl, h⟩
theorem fres_sound {rs : List CRes} {t : VT} {tm : List Value} {H : CH} {k : KV} (ht : TR t tm) (h : fres rs t H k = true) : ∃ v, cres tm H rs = some v ∧ k v H = true := by
  have slow : onSome ((rs.mapM fun (r : CRes) => match r with | .tmp i => some (t.get i) | .cell a n => crd (fun x => evO x t) H (.ld (.tmp a) n)).map fun | [v] => v | vs => .tuple vs.toArray) (fun v => k v H) = true → ∃ v, cres tm H rs = some v ∧ k v H = true := by
    intro h
    obtain ⟨v, h1, h2⟩ := onSome_inv h
    refine ⟨v, ?_, h2⟩
    rw [← h1]
    unfold cres
    have hρ : (fun x => evO x t) = cev tm := funext fun x => evO_eq ht x
    have : cres1 tm H = fun (r : CRes) => match r with | .tmp i => some (t.get i) | .cell a n => crd (fun x => evO x t) H (.ld (.tmp a) n) := by
      funext r
      cases r with
      | tmp i => simp only [cres1, ht.get]
      | cell a n => simp only [cres1, hρ]
    rw [this]
    rfl
  match rs with
  | [.tmp i] =>
    refine ⟨t.get i, ?_, h⟩
    simp [cres, cres1, ht.get]
  | [] => exact slow h
  | .cell a n :: r => exact slow h
  | .tmp i :: r :: rs => exact slow h
theorem fcall_sound {E : T FEnt} (hE : EnvOk P E) {rn : FRun} (hr : RunOk P rn) : CallOk P (fcall E rn) := by
  intro f args H k hw h
  have he := hE f
  unfold fcall at h
  cases e : (E.get f).getD .none with
  | none => rw [e] at h; cases h
  | sum s =>
    rw [e] at h he
    exact he args H k hw h
  | fn cf =>
    rw [e] at h he
    obtain ⟨fn, h1, h2, h3⟩ := he
    rcases cond_inv h with ⟨hl, h'⟩ | ⟨_, h'⟩
    · have ht := TR.args args cf.ntmps (Nat.le_of_ble_eq_true hl)
      refine ccall_of_body h1 h2 h3 ((hr _ _ _ _ _ hw ht h').1.mono fun e tm1 H1 ⟨t1, a1, a2, a3⟩ => ?_)
      rcases cond_inv a2 with ⟨b1, b2⟩ | ⟨_, b2⟩
      · refine ⟨?_, ?_⟩
        · match e, b1 with
          | none, _ => exact .inl rfl
          | some .ret, _ => exact .inr rfl
        · obtain ⟨v, c1, c2⟩ := fres_sound a1 b2
          exact ⟨v, c1, c2, a3⟩
      · cases b2
    · cases h'
theorem isReady_inv {s : LoopState} (h : isReady s = true) : s = .ready := by cases s <;> first | rfl | cases h
theorem isBusy_inv {s : LoopState} (h : isBusy s = true) : s = .busy := by cases s <;> first | rfl | cases h
theorem fyld_sound {rn : FRun} (hr : RunOk P rn) : YldOk P (fyld rn) := by
  intro n args H k hw h
  obtain ⟨st, pend, tm, ps, ca, cb, hg, h⟩ := onLoop_inv h
  rcases cond_inv h with ⟨hst, h1⟩ | ⟨_, h1⟩
  · rcases cond_inv h1 with ⟨hl, h2⟩ | ⟨_, h2⟩
    · obtain rfl := isReady_inv hst
      refine ⟨pend, tm, ps, ca, cb, hg, Nat.eq_of_beq_eq_true hl, ?_⟩
      have ht : TR (fparams ps.toList args (VT.fill tm 0 (VT.blank tm.length))) (setParams tm ps args) := TR.params _ _ (TR.self tm)
      refine (hr _ _ _ _ _ hw ht h2).1.mono fun e tm1 H1 ⟨t1, a1, a2, a3⟩ => ?_
      obtain ⟨hw1, ev1⟩ := a3 hw
      rcases onEx_inv a2 with ⟨rfl, b2⟩ | ⟨j, _, b2⟩
      · refine ⟨rfl, ?_⟩
        obtain ⟨st1, p1, tm', ps', ca', cb', hg1, b3⟩ := onLoop_inv b2
        obtain ⟨st2, p2, hg2⟩ := ev1.loop n _ _ _ _ _ _ hg
        rw [hg1] at hg2
        cases hg2
        rcases cond_inv b3 with ⟨c1, c2⟩ | ⟨_, c2⟩
        · obtain rfl := isReady_inv c1
          refine ⟨p1, hg1, ?_⟩
          rw [fset_eq] at c2
          have ok1 : Ok H1 (H1.set n (.loop .busy p1 tm ps ca cb)) := Ok.set hg1 fun _ _ _ _ _ _ e => by cases e; exact ⟨_, _, rfl⟩
          obtain ⟨hw2, ev2⟩ := ok1 hw1
          refine (hr _ _ _ _ _ hw2 a1 c2).1.mono fun e2 tm2 H2 ⟨t2, d1, d2, d3⟩ => ?_
          obtain ⟨hw3, ev3⟩ := d3 hw2
          obtain ⟨st3, p3, tm3, ps3, ca3, cb3, hg3, d4⟩ := onLoop_inv d2
          obtain ⟨st4, p4, hg4⟩ := ev3.loop n .busy p1 tm ps ca cb (by rw [CH.get_set, if_pos rfl])
          rw [hg3] at hg4
          cases hg4
          rcases cond_inv d4 with ⟨f1, f2⟩ | ⟨_, f2⟩
          · obtain rfl := isBusy_inv f1
            refine ⟨p3, hg3, ?_⟩
            rw [fset_eq] at f2
            have hc : (cond e2.isNone LoopState.ready LoopState.done) = if e2.isNone = true then .ready else .done := by cases e2 <;> rfl
            rw [hc] at f2
            exact ⟨f2, ((a3.trans ok1).trans d3).trans (Ok.set hg3 fun _ _ _ _ _ _ e => by cases e; exact ⟨_, _, rfl⟩)⟩
          · cases f2
        · cases c2
      · cases b2
    · cases h2
  · cases h1
theorem frange_sound (hcall : CallOk P call) {f : Operand} {ps : Array Tmp} {a b : CCode} {k : KX} {t : VT} {tm : List Value} {H : CH} (hw : WF H) (ht : TR t tm) (h : frange call (evO f t) ps a b k t H = true) :
    CW P (.rangeFunc f ps a b) (PQ k H) tm H := by
  unfold frange at h
  rw [evO_eq ht, ht.list, fadd_eq] at h
  obtain ⟨g, fi, ca, e, h1⟩ := onFn_inv h
  have ok0 := Ok.add H (.loop .ready none tm ps a b)
  refine cw_rangeFunc e ((hcall _ _ _ _ (ok0 hw).1 h1).mono fun v H1 ⟨a1, a2⟩ => ?_)
  obtain ⟨hw1, ev1⟩ := a2 (ok0 hw).1
  obtain ⟨st, pend, tm', ps', ca', cb', hg, b1⟩ := onLoop_inv a1
  obtain ⟨st2, p2, hg2⟩ := ev1.loop H.next .ready none tm ps a b (by rw [CH.get_add, if_pos rfl])
  rw [hg] at hg2
  cases hg2
  rcases cond_inv b1 with ⟨_, c2⟩ | ⟨c1, c2⟩
  · cases c2
  · rw [fset_eq] at c2
    have hst : st ≠ .busy := by intro e; rw [e] at c1; cases c1
    have hq : PQ k H pend tm (H1.set H.next (.loop .exhausted pend tm ps a b)) := ⟨t, ht, c2, (ok0.trans a2).trans (Ok.set hg fun _ _ _ _ _ _ e => by cases e; exact ⟨_, _, rfl⟩)⟩
    exact ⟨st, pend, hg, hst, hq⟩
theorem fscope_sound {rn : FRun} (hr : RunOk P rn) {k : KX} : ∀ (m : Nat) {body c : CCode} {t : VT} {tm : List Value} {H : CH}, WF H → TR t tm → fscope rn m body c k t H = true → CWS P body c (PQ k H) tm H := by
  intro m
  induction m with
  | zero => intro body c t tm H _ _ h; cases h
  | succ m ih =>
    intro body c t tm H hw ht h
    have h' : rn c (fun e t1 H1 => onEx e (k none t1 H1) fun j => onGoto j (fun l => match clabel l body with
      | some r => fscope rn m body r k t1 H1
      | none => k (some j) t1 H1) (k (some j) t1 H1)) t H = true := h
    refine cws_of ((hr _ _ _ _ _ hw ht h').1.mono fun e tm1 H1 ⟨t1, a1, a2, a3⟩ => ?_)
    rcases onEx_inv a2 with ⟨rfl, b2⟩ | ⟨j, rfl, b2⟩
    · exact ⟨t1, a1, b2, a3⟩
    · cases j with
      | goto l =>
        simp only [inScope]
        simp only [onGoto] at b2
        cases e : clabel l body with
        | none => rw [e] at b2; exact ⟨t1, a1, b2, a3⟩
        | some r =>
          rw [e] at b2
          intro x c hx hc
          exact (ih (a3 hw).1 a1 b2 x c hx hc).mono fun e t h q => PQ.up a3 q
      | exit i => exact ⟨t1, a1, b2, a3⟩
      | ret => exact ⟨t1, a1, b2, a3⟩
theorem frun_sound {E : T FEnt} (hE : EnvOk P E) : ∀ n, RunOk P (frun E n) := by
  intro n
  induction n with
  | zero => intro c k t tm H _ _ h; cases h
  | succ n ih =>
    intro c k t tm H hw ht h
    have h' : fden (fcall E (frun E n)) (frun E n) n c k t H = true := h
    have hcall := fcall_sound hE ih
    have hyld := fyld_sound ih
    cases c with
    | skip => exact ⟨cw_skip ⟨t, ht, h', Ok.refl _⟩, fun _ e => by cases e⟩
    | label l => exact ⟨cw_label ⟨t, ht, h', Ok.refl _⟩, fun _ e => by cases e⟩
    | exit i => exact ⟨cw_exit ⟨t, ht, h', Ok.refl _⟩, fun _ e => by cases e⟩
    | goto i => exact ⟨cw_goto ⟨t, ht, h', Ok.refl _⟩, fun _ e => by cases e⟩
    | ret => exact ⟨cw_ret ⟨t, ht, h', Ok.refl _⟩, fun _ e => by cases e⟩
    | bad => cases h'
    | reg l => exact ⟨cw_reg (fops_sound hcall hyld hw (Ok.refl H) ht h'), fun _ e => by cases e⟩
    | seq a b =>
      refine ⟨cw_seq ((ih _ _ _ _ _ hw ht h').1.mono fun e tm1 H1 ⟨t1, a1, a2, a3⟩ => ?_), fun _ e => by cases e⟩
      rcases onEx_inv a2 with ⟨rfl, b2⟩ | ⟨j, rfl, b2⟩
      · exact (ih _ _ _ _ _ (a3 hw).1 a1 b2).1.mono fun e t h q => PQ.up a3 q
      · exact ⟨t1, a1, b2, a3⟩
    | cond x a b =>
      simp only [fden, evO_eq ht] at h'
      obtain ⟨q, e, h2⟩ := onBool_inv h'
      refine ⟨cw_cond e ?_, fun _ e => by cases e⟩
      cases q
      · exact (ih _ _ _ _ _ hw ht h2).1
      · exact (ih _ _ _ _ _ hw ht h2).1
    | block id c =>
      refine ⟨cw_block ((ih _ _ _ _ _ hw ht h').1.mono fun e tm1 H1 ⟨t1, a1, a2, a3⟩ => ?_), fun _ e => by cases e⟩
      rcases onEx_inv a2 with ⟨rfl, b2⟩ | ⟨j, rfl, b2⟩
      · exact ⟨t1, a1, b2, a3⟩
      · cases j with
        | exit i =>
          simp only [outOf]
          simp only [onExit] at b2
          rcases cond_inv b2 with ⟨c1, c2⟩ | ⟨c1, c2⟩
          · rw [if_pos (Nat.eq_of_beq_eq_true c1)]; exact ⟨t1, a1, c2, a3⟩
          · rw [if_neg (fun e => by rw [e, Nat.beq_refl] at c1; cases c1)]; exact ⟨t1, a1, c2, a3⟩
        | goto l => exact ⟨t1, a1, b2, a3⟩
        | ret => exact ⟨t1, a1, b2, a3⟩
    | loop c =>
      have hb : CW P c (andThen (fun t g => CWL P c (PQ k H) t g) (PQ k H)) tm H := (ih _ _ _ _ _ hw ht h').1.mono fun e tm1 H1 ⟨t1, a1, a2, a3⟩ => by
        rcases onEx_inv a2 with ⟨rfl, b2⟩ | ⟨j, rfl, b2⟩
        · intro x hx
          exact ((ih _ _ _ _ _ (a3 hw).1 a1 b2).2 c rfl x hx).mono fun e t h q => PQ.up a3 q
        · exact ⟨t1, a1, b2, a3⟩
      exact ⟨cw_loop hb, fun c' e => by cases e; exact cwl_round hb⟩
    | rangeFunc f ps a b => exact ⟨frange_sound hcall hw ht h', fun _ e => by cases e⟩
    | scope c => exact ⟨cw_scope (fscope_sound ih n hw ht h'), fun _ e => by cases e⟩
/-- **A CALL, WORKED OUT.** -/
theorem fcall_ok {E : T FEnt} (hE : EnvOk P E) (n : Nat) {f : FuncId} {args : List Value} {H : CH} {k : KV} (hw : WF H) (h : fcall E (frun E n) f args H k = true) : CCall P f args H (fun v H1 => k v H1 = true ∧ Ok H H1) :=
  fcall_sound hE (frun_sound hE n) f args H k hw h
end
end Go.Cn
/-! ## A call with plain arguments and a plain result, worked out over nothing, holds over every heap, and leaves it as it was. -/
namespace Go.Cn
open Go

/-- Nothing but the package variables' names. -/
def bare (n : Nat) : CH := { t := .leaf, next := n, clk := 0 }
theorem bare_get (n m : Nat) : (bare n).get m = none := rfl
theorem WF.bare (n : Nat) : WF (bare n) := ⟨fun _ _ h => (by cases h), fun _ _ => rfl⟩
section
variable {P : Program}
/-- A contract that says nothing of memory: whatever is there stays. -/
theorem ccall_below {f : FuncId} {args : List Value} {v : Value} (hent : Ent P f) (hp : args.all plain = true) (hv : plain v = true) {H : CH}
    (h : ∀ φ w, Sim P φ H w → Glob P φ → Calls P f args.toArray w fun e w1 => e = .returned v ∧ (∀ r, r < w.heap.size → w1.heap[r]? = w.heap[r]?) ∧ w.heap.size ≤ w1.heap.size ∧ w1.os = w.os ∧ w1.tape = w.tape ∧ w1.output = w.output) :
    CCall P f args H (fun u H1 => u = v ∧ H1 = H) := by
  refine ⟨hent, fun φ w args' s g0 ha => ?_⟩
  have ea : args' = args.toArray := by
    refine Array.ext (by simpa using ha.1.symm) fun i h1 h2 => ?_
    have h3 := ha.2 i
    have h4 : i < args.length := by simpa using h2
    simp only [List.getD_eq_getElem?_getD, List.getElem?_eq_getElem h4, Option.getD_some, Array.getD_eq_getD_getElem?, Array.getElem?_eq_getElem h1] at h3
    have := VR.plain_eq (List.all_eq_true.1 hp _ (List.getElem_mem h4)) h3
    simpa using this
  rw [ea]
  refine (h φ w s g0).mono fun e w1 ⟨e1, same, sz, os, tape, out⟩ => ⟨v, e1, φ, v, H, ⟨rfl, rfl⟩, ?_, ?_, VR.plain_refl hv⟩
  · exact ⟨φ.le_refl, Nat.le_refl _, sz, fun n L h k => (by rw [h] at k; cases k), fun _ _ _ => rfl, fun _ o _ h k => ⟨o, h, k⟩, fun _ _ h => h, fun _ _ h => h, fun r hr _ => same r hr, os, tape, out⟩
  · exact ⟨fun n L h => ⟨(s.dom n L h).1, Nat.lt_of_lt_of_le (s.dom n L h).2 sz⟩, s.inj, fun n L o h k => (s.obj n L o h k).heap (same _ (s.dom n L h).2), s.fin⟩
theorem ccall_forget {f : FuncId} {args : List Value} {v : Value} (hp : args.all plain = true) (hv : plain v = true)
    (h : CCall P f args (bare P.globals.size) (fun u _ => u = v)) (H : CH) : CCall P f args H (fun u H1 => u = v ∧ H1 = H) := by
  refine ccall_below h.1 hp hv fun φ w s g0 => ?_
  let φ0 : Emb := fun n => if n < P.globals.size then φ n else none
  have s0 : Sim P φ0 (bare P.globals.size) w := by
    refine ⟨fun n L hn => ?_, fun n m L M o o' _ _ ho => (by cases ho), fun n L o _ ho => (by cases ho), fun _ _ => rfl⟩
    simp only [φ0] at hn
    split at hn
    · rename_i hl; exact ⟨hl, (s.dom n L hn).2⟩
    · cases hn
  have gl0 : Glob P φ0 := fun g hg => by
    obtain ⟨sz, e⟩ := g0 g hg
    exact ⟨sz, by simp only [φ0]; rw [if_pos hg]; exact e⟩
  have a0 : VRs φ0 args args.toArray := .of (.mk' rfl fun i x y e1 e2 => by
    simp only [List.getElem?_toArray] at e1 e2
    rw [e1] at e2; cases e2
    exact VR.plain_refl (List.all_eq_true.1 hp _ (List.mem_of_getElem? e1)))
  refine (h.2 φ0 w args.toArray s0 gl0 a0).mono fun e w1 ⟨v', e1, φ1, u, H1, hu, n, _, r⟩ => ?_
  subst hu
  have := VR.plain_eq hv r
  subst this
  exact ⟨e1, fun r hr => n.same r hr (fun m L o _ _ ho => by cases ho), n.sz, n.os, n.tape, n.out⟩
/-- A table of results of a function on texts. -/
noncomputable def beqB (a : List UInt8) : List UInt8 → Bool :=
  List.rec (fun b => match b with | [] => true | _ => false) (fun x _ ih b => match b with | [] => false | y :: r => cond (Nat.beq x.toNat y.toNat) (ih r) false) a
theorem beqB_eq : ∀ {a b : List UInt8}, beqB a b = true → a = b := by
  intro a
  induction a with
  | nil => intro b h; cases b with
    | nil => rfl
    | cons => cases h
  | cons x a ih =>
    intro b h
    cases b with
    | nil => cases h
    | cons y b =>
      rcases cond_inv h with ⟨h1, h2⟩ | ⟨_, h2⟩
      · have : x.toNat = y.toNat := Nat.eq_of_beq_eq_true h1
        rw [UInt8.toNat_inj.1 this, ih h2]
      · cases h2
noncomputable def tabAt (tab : List (ByteArray × Value)) : ByteArray → (Value → Bool) → Bool :=
  List.rec (fun _ _ => false) (fun p _ ih s k => cond (beqB p.1.data.toList s.data.toList) (k p.2) (ih s k)) tab
noncomputable def tabSum (tab : List (ByteArray × Value)) (args : List Value) (H : CH) (k : KV) : Bool :=
  match args with
  | [.string s] => tabAt tab s fun v => k v H
  | _ => false
theorem tabAt_inv : ∀ {tab : List (ByteArray × Value)} {s : ByteArray} {k : Value → Bool}, tabAt tab s k = true → ∃ v, (s, v) ∈ tab ∧ k v = true := by
  intro tab
  induction tab with
  | nil => intro s k h; cases h
  | cons p tab ih =>
    intro s k h
    rcases cond_inv h with ⟨h1, h2⟩ | ⟨_, h2⟩
    · refine ⟨p.2, ?_, h2⟩
      have e := beqB_eq h1
      have : p.1 = s := by
        obtain ⟨⟨⟨a⟩⟩, b⟩ := p
        obtain ⟨⟨c⟩⟩ := s
        simp only at e
        rw [e]
      rw [← this]; simp
    · obtain ⟨v, a, b⟩ := ih h2
      exact ⟨v, by simp [a], b⟩
theorem tabSum_ok {f : FuncId} {tab : List (ByteArray × Value)} (h : ∀ p ∈ tab, plain p.2 = true ∧ CCall P f [.string p.1] (bare P.globals.size) (fun u _ => u = p.2)) : EntOk P f (.sum (tabSum tab)) := by
  intro args H k _ hs
  have hs' : ∃ s, args = [.string s] ∧ tabAt tab s (fun v => k v H) = true := by
    unfold tabSum at hs
    split at hs
    · exact ⟨_, rfl, hs⟩
    · cases hs
  obtain ⟨s, rfl, hs'⟩ := hs'
  obtain ⟨v, hm, hk⟩ := tabAt_inv hs'
  obtain ⟨hp, hc⟩ := h _ hm
  refine (ccall_forget rfl hp hc H).mono fun u H1 ⟨e1, e2⟩ => ?_
  subst e1; subst e2
  exact ⟨hk, Ok.refl _⟩
end
end Go.Cn
/-! ## From canonical heaps to the rows of a claim. -/
namespace Go.Cn
open Go

/-- Nothing of what was there has turned. -/
structure Same (w w1 : World) : Prop where
  os : w1.os = w.os
  out : w1.output = w.output
  old : ∀ i, i < w.heap.size → w1.heap[i]? = w.heap[i]?
  sz : w.heap.size ≤ w1.heap.size
theorem Same.kept {w w1 : World} (h : Same w w1) (may : MemPlace → Prop) : w.keptBut w1 may := by
  refine ⟨h.os, h.out, fun i hi => ?_⟩
  rw [h.old i hi]
  cases w.heap[i]? with
  | none => rfl
  | some o => cases o <;> first | rfl | (exact ⟨rfl, rfl, rfl, fun _ _ => rfl⟩) | (exact .inr ⟨rfl, rfl⟩)
section
variable {P : Program}
/-- Out of a run over nothing: over every world in which the package variables lie. -/
theorem calls_of_bare {f : FuncId} {args : List Value} {v : Value} (hp : args.all plain = true) (hv : plain v = true)
    (h : CCall P f args (bare P.globals.size) (fun u _ => u = v)) {w : World} (hw : P.globals.size ≤ w.heap.size) :
    Calls P f args.toArray w fun e w1 => e = .returned v ∧ Same w w1 := by
  let φ0 : Emb := fun n => if n < P.globals.size then some ⟨n, 0, 0⟩ else none
  have s0 : Sim P φ0 (bare P.globals.size) w := by
    refine ⟨fun n L hn => ?_, fun n m L M o o' _ _ ho => (by cases ho), fun n L o _ ho => (by cases ho), fun _ _ => rfl⟩
    simp only [φ0] at hn
    split at hn
    · rename_i hl; cases hn; exact ⟨hl, Nat.lt_of_lt_of_le hl hw⟩
    · cases hn
  have gl0 : Glob P φ0 := fun g hg => ⟨0, by simp only [φ0]; rw [if_pos hg]⟩
  have a0 : VRs φ0 args args.toArray := .of (.mk' rfl fun i x y e1 e2 => by
    simp only [List.getElem?_toArray] at e1 e2
    rw [e1] at e2; cases e2
    exact VR.plain_refl (List.all_eq_true.1 hp _ (List.mem_of_getElem? e1)))
  refine (h.2 φ0 w args.toArray s0 gl0 a0).mono fun e w1 ⟨v', e1, φ1, u, H1, hu, n, _, r⟩ => ?_
  subst hu
  have := VR.plain_eq hv r
  subst this
  exact ⟨e1, n.os, n.out, fun r hr => n.same r hr (fun m L o _ _ ho => by cases ho), n.sz⟩
theorem post_same {H : Type} {enc : TypeId × Value → H} {f : Func} {s : ChangeSpec} {apart fresh handsOn : Bool} {W W' : World} {args : Array Value} {v : Value} {ds gs : List (DataW H)} {before pa pv : List MemPlace}
    (hW : DataW.Whole enc P f.params.toList s.vars apart W args.toList ds gs before)
    (hres : ∀ (b : Nat) (sp : Nat → Bool) (hd : Bool), DataW.TrodAll enc P W' b sp hd f.resultTypes.toList (v.resultList f.resultTypes.size) (s.fn H (ds ++ gs)).results [])
    (hargs : ∀ sp : Nat → Bool, (∀ p ∈ before, sp p.block = true) → DataW.TrodAll enc P W' 0 sp true f.params.toList args.toList (s.fn H (ds ++ gs)).args pa)
    (hvars : ∀ sp : Nat → Bool, (∀ p ∈ before, sp p.block = true) → DataW.TrodVars enc P W' sp s.vars (s.fn H (ds ++ gs)).vars pv)
    (hk : Same W W') : s.post enc P f apart fresh handsOn false W args v W' := by
  have hold : ∀ p ∈ before, (fun b => decide (b < W.heap.size)) p.block = true := fun p hp => by simpa using hW.lt p hp
  exact ⟨ds, gs, before, [], pa, pv, hW, hres _ _ _, hargs _ hold, hvars _ hold, hk.kept _, fun h => by cases h⟩
/-- In a world of a program the package variables lie first. -/
theorem shaped_size {w : World} (h : w.ShapedOpen P) (hs : P.globals.size < (begin P (fun _ _ => 0) default).world.heap.size) : P.globals.size ≤ w.heap.size := by
  obtain ⟨o, _, h1, _⟩ := h.2 P.globals.size (Nat.le_refl _) hs
  have := (Array.getElem?_eq_some_iff.1 h1).1
  omega
end
theorem handed_of {a : Assume} {C : Checked} {os : Os} {f : FuncId} {fn : Func} {s : ChangeSpec} {conds : List PathCond} {apart fresh handsOn again : Bool} {H : Type} {enc : TypeId × Value → H} {X : World → Array Value → Prop}
    (hX : ∀ (w w' : World) (args : Array Value), w.heap = w'.heap → X w args → X w' args)
    (hs : C.prog.globals.size < (begin C.prog (fun _ _ => 0) default).world.heap.size)
    (own : ownKnob C.prog.godebug = none) (started : os.Started) (noInit : C.prog.inits.idxOf? f = none) (hfn : C.prog.funcs[f]? = some fn)
    (witness : ∃ (w : World) (tape : Tape) (i : Input), w.os = os ∧ (w.forCall tape i).Shaped C.prog ∧ i.vars = [] ∧ Input.okWide C.prog (w.forCall tape i) .any w.heap.size f i ∧
      ((s.pre enc C.prog fn conds apart (w.forCall tape i).memory i.args ∧ X (w.forCall tape i).memory i.args) ∧ sizedMet enc C.prog fn (OpenSpec.ofChange s) apart (w.forCall tape i).memory i.args) ∧ a.holds C.prog (lone (Frame.enter C.prog f i.args .normal) [] (w.forCall tape i)))
    (contract : ∀ (W : World) (base : Nat) (args : Array Value) (ds gs : List (DataW H)) (before : List MemPlace), C.prog.globals.size ≤ W.heap.size →
      (∀ (j : Nat) t v, fn.params[j]? = some t → args[j]? = some v → Value.okWide C.prog W .any base t v) →
      DataW.Whole enc C.prog fn.params.toList s.vars apart W args.toList ds gs before →
      conds.all (PathCond.test C.prog ⟨fn.params.toList, ds, s.plain.varTypes C.prog, gs⟩) = true →
      (DataW.weightsEach C.prog (fn.params.toList ++ s.plain.varTypes C.prog) (ds ++ gs)).all (· ≤ reachBytes) = true → X W args →
      Calls C.prog f args W fun e W' => ∃ v, e = .returned v ∧ s.post enc C.prog fn apart fresh handsOn again W args v W') :
    ReturnsInHanded a C os f .any (fun w args => (s.pre enc C.prog fn conds apart w args ∧ X w args) ∧ sizedMet enc C.prog fn (OpenSpec.ofChange s) apart w args) (s.post enc C.prog fn apart fresh handsOn again) := by
  refine returnsInHanded_of_calls own started noInit witness ?_
  intro w tape i _ hsh _ hok hpre _
  obtain ⟨_, _, _, fn', hfn', _, _, _, _, hval⟩ := hok
  have e : fn' = fn := Option.some.inj (hfn'.symm.trans hfn)
  subst e
  obtain ⟨⟨⟨ds, gs, before, hw, hc⟩, hx⟩, hz⟩ := hpre
  have hw' := DataW.Whole.of_heap (w' := w.forCall tape i) (by rfl) hw
  refine (contract (w.forCall tape i) w.heap.size i.args ds gs before (shaped_size hsh hs) hval hw' hc (hz.weights hw) (hX _ _ _ (by rfl) hx)).mono fun e W' ⟨v, he, hp⟩ => ?_
  subst he
  exact ChangeSpec.post_blind hp
end Go.Cn
/-! ## (*strings.Builder).copyCheck, over canonical heaps. -/
namespace Go.Cn
open Go

noncomputable def copyCells (n : Nat) (c : List Value) : (Value → Bool) → Bool → Bool :=
  match c with
  | [.pointer none, b] => fun f _ => f b
  | [.pointer (some ⟨m, 0, none⟩), _] => fun _ d => cond (Nat.beq m n) d false
  | _ => fun _ _ => false
noncomputable def copySum (tB : TypeId) (args : List Value) (H : CH) (k : KV) : Bool :=
  match args with
  | [.pointer (some ⟨n, 0, none⟩)] => onBlk (fget H.t n) fun c r t => cond r false (cond (Bool.and t.whole (Nat.beq t.el tB))
      (copyCells n c (fun b => k (.tuple #[]) (fset H n (.blk [.pointer (some ⟨n, 0, none⟩), b] false t))) (k (.tuple #[]) H)) false)
  | _ => false
theorem copyCells_inv {n : Nat} {c : List Value} {f : Value → Bool} {d : Bool} (h : copyCells n c f d = true) :
    (∃ b, c = [.pointer none, b] ∧ f b = true) ∨ (∃ b, c = [.pointer (some ⟨n, 0, none⟩), b] ∧ d = true) := by
  unfold copyCells at h
  split at h
  · exact .inl ⟨_, rfl, h⟩
  · rcases cond_inv h with ⟨h1, h2⟩ | ⟨_, h2⟩
    · obtain rfl := Nat.eq_of_beq_eq_true h1
      exact .inr ⟨_, rfl, h2⟩
    · cases h2
  · cases h
section
variable {P : Program} {f : FuncId} {tB : TypeId}
theorem copySum_ok (hent : Ent P f)
    (used : ∀ b w, w.cell? ⟨b, 0, none⟩ = some (.pointer (some ⟨b, 0, none⟩)) → Calls P f #[.pointer (some ⟨b, 0, none⟩)] w fun e w' => e = .returned (.tuple #[]) ∧ w' = w)
    (fresh : ∀ b w, w.cell? ⟨b, 0, none⟩ = some (.pointer none) → w.shape? b = some (tB, 2) → w.frozen? ⟨b, 0, none⟩ = false →
      Calls P f #[.pointer (some ⟨b, 0, none⟩)] w fun e w' => e = .returned (.tuple #[]) ∧ w' = w.setCell ⟨b, 0, none⟩ (.pointer (some ⟨b, 0, none⟩))) :
    EntOk P f (.sum (copySum tB)) := by
  intro args H k _ h
  have h' : ∃ n, args = [.pointer (some ⟨n, 0, none⟩)] ∧ onBlk (fget H.t n) (fun c r t => cond r false (cond (Bool.and t.whole (Nat.beq t.el tB))
      (copyCells n c (fun b => k (.tuple #[]) (fset H n (.blk [.pointer (some ⟨n, 0, none⟩), b] false t))) (k (.tuple #[]) H)) false)) = true := by
    unfold copySum at h
    split at h
    · exact ⟨_, rfl, h⟩
    · cases h
  obtain ⟨n, rfl, h1⟩ := h'
  obtain ⟨c, r, t, hg, h2⟩ := onBlk_inv h1
  rcases cond_inv h2 with ⟨_, h3⟩ | ⟨hr, h3⟩
  · cases h3
  subst hr
  rcases cond_inv h3 with ⟨ht, h4⟩ | ⟨_, h4⟩
  case inr => cases h4
  simp only [Bool.and_eq_true] at ht
  have htb : t.el = tB := Nat.eq_of_beq_eq_true ht.2
  refine ⟨hent, fun φ w args' s g0 ha => ?_⟩
  have hsz : args'.size = 1 := by have := ha.1; simp at this; exact this.symm
  have h0 := ha.2 0
  obtain ⟨x, hx⟩ : ∃ x, args' = #[x] := ⟨args'[0]'(by omega), by
    apply Array.ext
    · simp [hsz]
    · intro i h1 h2; have : i = 0 := by omega
      subst this; rfl⟩
  subst hx
  simp only [List.getD_cons_zero] at h0
  have h0' : VR φ (.pointer (some ⟨n, 0, none⟩)) x := h0
  obtain ⟨L, hn, e1, e2⟩ := h0'.ptr_inv
  obtain ⟨cr, el, fz, hb, hs, ⟨hfz, hel, hwh⟩, hc⟩ := s.obj n L _ hn hg
  obtain ⟨sh0, hcs⟩ := hwh ht.1
  have ex : x = .pointer (some ⟨L.b, 0, none⟩) := by rw [e2, sh0]; simp
  subst ex
  subst hel
  have hlt : L.b < w.heap.size := (s.dom n L hn).2
  rcases copyCells_inv h4 with ⟨b, rfl, h5⟩ | ⟨b, rfl, h5⟩
  · obtain ⟨v0, c0, r0⟩ := hc.2 0 _ rfl
    obtain ⟨v1, c1, r1⟩ := hc.2 1 _ rfl
    rw [sh0] at c0 c1
    cases r0
    have hsize : cr.size = 2 := hcs
    refine (fresh L.b w (by simp [World.cell?, hb]; exact c0) (by simp [World.shape?, hb, htb, hsize]) ?_).mono fun e w1 ⟨e3, e4⟩ => ?_
    · simp only [World.frozen?, hb]
      have := hfz rfl 0 (by omega)
      rw [Bool.eq_false_iff]
      intro hd
      simp only [Bool.and_eq_true, decide_eq_true_eq] at hd
      exact this hd
    · subst e4
      have hh := setCell_heap (off := 0) (v := .pointer (some ⟨L.b, 0, none⟩)) hb
      obtain ⟨s1, n1⟩ := s.turn (w' := w.setCell ⟨L.b, 0, none⟩ (.pointer (some ⟨L.b, 0, none⟩))) (o1 := .blk [.pointer (some ⟨n, 0, none⟩), b] false t) hn hg rfl (fun h => by cases h) rfl hh ⟨rfl, rfl, rfl⟩ (by
        refine ⟨cr.setIfInBounds 0 (.pointer (some ⟨L.b, 0, none⟩)), t.el, fz, by rw [hh]; simp [hlt], by simp [hs], ⟨fun _ i hi => hfz rfl i (by simpa using hi), rfl, fun _ => ⟨sh0, by simp [hsize]⟩⟩, by simp [hsize, sh0], fun i v e => ?_⟩
        rw [sh0]
        match i, e with
        | 0, e =>
          cases e
          refine ⟨.pointer (some ⟨L.b, 0, none⟩), by simp [hsize], ?_⟩
          have := VR.ptr (off := 0) hn
          rw [sh0] at this
          exact this
        | 1, e => cases e; exact ⟨v1, by simpa using c1, r1⟩)
      rw [fset_eq] at h5
      exact ⟨_, e3, φ, _, _, ⟨h5, Ok.set' hg rfl⟩, n1, s1, .tuple rfl (fun i hi => absurd hi (by simp))⟩
  · obtain ⟨v0, c0, r0⟩ := hc.2 0 _ rfl
    rw [sh0] at c0
    obtain ⟨L2, hn2, _, e5⟩ := r0.ptr_inv
    rw [hn] at hn2; cases hn2
    have ev : v0 = .pointer (some ⟨L.b, 0, none⟩) := by rw [e5, sh0]; simp
    subst ev
    refine (used L.b w (by simp [World.cell?, hb]; exact c0)).mono fun e w1 ⟨e3, e4⟩ => ?_
    subst e4
    exact ⟨_, e3, φ, _, H, ⟨h5, Ok.refl _⟩, Next.refl _ _ _, s, .tuple rfl (fun i hi => absurd hi (by simp))⟩
end
end Go.Cn
/-! ## Functions from plain values to plain values, by contracts of the shelf. -/
namespace Go.Cn
open Go

noncomputable def plainSum (res : List Value → Option Value) (args : List Value) (H : CH) (k : KV) : Bool := onSome (res args) fun v => forceV v fun v => k v H
theorem plainSum_ok {P : Program} {f : FuncId} {res : List Value → Option Value} (hent : Ent P f)
    (h : ∀ args v, res args = some v → args.all plain = true ∧ plain v = true ∧ ∀ w, Calls P f args.toArray w fun e w' => e = .returned v ∧ RowKit.Below w.heap.size w w') :
    EntOk P f (.sum (plainSum res)) := by
  intro args H k _ hs
  obtain ⟨v, h1, h2⟩ := onSome_inv hs
  rw [forceV_eq] at h2
  obtain ⟨a1, a2, a3⟩ := h args v h1
  refine (ccall_below hent a1 a2 (H := H) fun φ w _ _ => (a3 w).mono fun e w1 ⟨e1, b⟩ => ⟨e1, b.block, b.size, b.os, b.tape, b.output⟩).mono fun u H1 ⟨e1, e2⟩ => ?_
  subst e1; subst e2
  exact ⟨h2, Ok.refl _⟩
end Go.Cn
/-! ## strings.Join, over canonical heaps. -/
namespace Go.Cn
open Go

noncomputable def strsOf : List Value → Option (List ByteArray)
  | [] => some []
  | .string s :: r => (strsOf r).map (s :: ·)
  | _ => none
theorem strsOf_inv : ∀ {l : List Value} {xs : List ByteArray}, strsOf l = some xs → l = xs.map .string := by
  intro l
  induction l with
  | nil => intro xs h; simp [strsOf] at h; subst h; rfl
  | cons v l ih =>
    intro xs h
    cases v <;> simp [strsOf] at h
    obtain ⟨r, h1, rfl⟩ := h
    rw [ih h1]; rfl
noncomputable def joinB (xs : List ByteArray) (sep : ByteArray) : List UInt8 := Lib.join (xs.map (·.data.toList)) sep.data.toList
noncomputable def joinSum (args : List Value) (H : CH) (k : KV) : Bool :=
  match args with
  | [.slice a n _, .string sep] =>
    cond (Nat.beq n 0) (k (.string ⟨#[]⟩) H)
      (onSome a fun a => onSome (ccells H a.block a.off n) fun vs => onSome (strsOf vs) fun xs =>
        cond (Bool.and (Nat.ble n 65536) (Nat.ble (joinB xs sep).length 16777216)) (forceV (.string ⟨(joinB xs sep).toArray⟩) fun v => k v H) false)
  | _ => false
theorem joinSum_ok {P : Program} {f : FuncId} (hent : Ent P f)
    (h0 : ∀ (a : Option Addr) (c : Nat) (sep : ByteArray) (w : World), Calls P f #[.slice a 0 c, .string sep] w fun e w' => e = .returned (.string ⟨#[]⟩) ∧ w' = w)
    (h : ∀ (bk o c : Nat) (xs : List ByteArray) (sep : ByteArray) (w : World), (∀ (j : Nat) x, xs[j]? = some x → w.cell? ⟨bk, o + j, none⟩ = some (.string x)) →
      bk < w.heap.size → xs.length ≤ 140737488355328 → xs.length ≤ c → (Lib.join (xs.map (·.data.toList)) sep.data.toList).length ≤ 140737488355328 →
      Calls P f #[.slice (some ⟨bk, o, none⟩) xs.length c, .string sep] w fun e w' => e = .returned (.string ⟨(Lib.join (xs.map (·.data.toList)) sep.data.toList).toArray⟩) ∧ RowKit.Below w.heap.size w w') :
    EntOk P f (.sum joinSum) := by
  intro args H k _ hs
  have hs' : ∃ a n c sep, args = [.slice a n c, .string sep] ∧ cond (Nat.beq n 0) (k (.string ⟨#[]⟩) H)
      (onSome a fun a => onSome (ccells H a.block a.off n) fun vs => onSome (strsOf vs) fun xs =>
        cond (Bool.and (Nat.ble n 65536) (Nat.ble (joinB xs sep).length 16777216)) (forceV (.string ⟨(joinB xs sep).toArray⟩) fun v => k v H) false) = true := by
    unfold joinSum at hs
    split at hs
    · exact ⟨_, _, _, _, rfl, hs⟩
    · cases hs
  obtain ⟨a, n, c, sep, rfl, h1⟩ := hs'
  simp only [forceV_eq] at h1
  refine ⟨hent, fun φ w args' s g0 ha => ?_⟩
  have hsz : args'.size = 2 := by have := ha.1; simp at this; exact this.symm
  obtain ⟨x, y, hx⟩ : ∃ x y, args' = #[x, y] := ⟨args'[0]'(by omega), args'[1]'(by omega), by
    apply Array.ext
    · simp [hsz]
    · intro i i1 i2
      have : i < 2 := by omega
      match i, this with
      | 0, _ => rfl
      | 1, _ => rfl⟩
  subst hx
  have r0 : VR φ (.slice a n c) x := ha.2 0
  have r1 : VR φ (.string sep) y := ha.2 1
  obtain rfl : y = .string sep := by cases r1; rfl
  have same : ∀ {v : Value} {w1 : World}, RowKit.Below w.heap.size w w1 → k v H = true → plain v = true → ∃ φ1 u H1, (k u H1 = true ∧ Ok H H1) ∧ Next φ H w φ1 H1 w1 ∧ Sim P φ1 H1 w1 ∧ VR φ1 u v := fun {v w1} b hk hv =>
    ⟨φ, v, H, ⟨hk, Ok.refl _⟩, ⟨φ.le_refl, Nat.le_refl _, b.size, fun n L h k => (by rw [h] at k; cases k), fun _ _ _ => rfl, fun _ o _ h k => ⟨o, h, k⟩, fun _ _ h => h, fun _ _ h => h, fun r hr _ => b.block r hr, b.os, b.tape, b.output⟩,
      ⟨fun n L h => ⟨(s.dom n L h).1, Nat.lt_of_lt_of_le (s.dom n L h).2 b.size⟩, s.inj, fun n L o h k => (s.obj n L o h k).heap (b.block _ (s.dom n L h).2), s.fin⟩, VR.plain_refl hv⟩
  rcases cond_inv h1 with ⟨e0, hk⟩ | ⟨e0, h2⟩
  · obtain rfl := Nat.eq_of_beq_eq_true e0
    obtain ⟨a', c', ex⟩ : ∃ a' c', x = .slice a' 0 c' := by cases r0 <;> exact ⟨_, _, rfl⟩
    subst ex
    refine (h0 a' c' sep w).mono fun e w1 ⟨e1, e2⟩ => ?_
    subst e2
    obtain ⟨φ1, u, H1, q⟩ := same (RowKit.Below.refl _ _) hk rfl
    exact ⟨_, e1, φ1, u, H1, q⟩
  · have hn0 : n ≠ 0 := by intro e; rw [e] at e0; cases e0
    obtain ⟨ad, rfl, h3⟩ := onSome_inv h2
    obtain ⟨vs, hvs, h4⟩ := onSome_inv h3
    obtain ⟨xs, hxs, h5⟩ := onSome_inv h4
    rcases cond_inv h5 with ⟨hb, hk⟩ | ⟨_, h6⟩
    case inr => cases h6
    simp only [Bool.and_eq_true] at hb
    have hb1 := Nat.le_of_ble_eq_true hb.1
    have hb2 := Nat.le_of_ble_eq_true hb.2
    obtain ⟨L, c', hφ, ex, hle⟩ : ∃ L c', φ ad.block = some L ∧ x = .slice (some ⟨L.b, L.sh + ad.off, none⟩) n c' ∧ n ≤ c' := by
      cases r0 with
      | slc h hl => exact ⟨_, _, h, rfl, hl⟩
      | slo h hl hc hz => exact ⟨_, _, h, rfl, Nat.le_trans hl hc⟩
      | slz h => exact absurd rfl hn0
    subst ex
    obtain ⟨cs, el, fz, q1, q2, q3, q4, _⟩ := ccells_sound s hvs hφ
    have hvx := strsOf_inv hxs
    have hlen : xs.length = n := by rw [← q4, hvx]; simp
    subst hlen
    have hjl : (Lib.join (xs.map (·.data.toList)) sep.data.toList).length ≤ 140737488355328 := Nat.le_trans hb2 (by omega)
    refine (h L.b (L.sh + ad.off) c' xs sep w (fun j t hj => ?_) (s.dom _ L hφ).2 (by omega) hle hjl).mono fun e w1 ⟨e1, b⟩ => ?_
    · have hj' : j < xs.length := (List.getElem?_eq_some_iff.1 hj).1
      obtain ⟨v', g1, g2⟩ := q3.get? (i := j) (v := .string t) (by rw [hvx]; simp [hj])
      cases g2
      rw [Array.getElem?_extract] at g1
      split at g1
      · simp only [World.cell?, q1]
        simpa using g1
      · cases g1
    · obtain ⟨φ1, u, H1, q⟩ := same b hk rfl
      exact ⟨_, e1, φ1, u, H1, q⟩
end Go.Cn
/-! ## maps.Clone, over canonical heaps. -/
namespace Go.Cn
open Go

noncomputable def cloneSum (args : List Value) (H : CH) (k : KV) : Bool :=
  match args with
  | [.map none] => k (.map none) H
  | [.map (some n)] => match H.get n with
    | some (.map es ck) => k (.map (some H.next)) (H.add (.map es ck))
    | _ => false
  | _ => false
theorem cloneSum_ok {P : Program} {f : FuncId} (hent : Ent P f)
    (h0 : ∀ w : World, Calls P f #[.map none] w fun e w' => e = .returned (.map none) ∧ w' = w)
    (h : ∀ (b : Nat) (es : Array MapEntry) (clock : Nat) (w : World), w.heap[b]? = some (.map es clock) → Calls P f #[.map (some b)] w fun e w' => e = .returned (.map (some w.heap.size)) ∧ w' = w.alloc (.map es clock)) :
    EntOk P f (.sum cloneSum) := by
  intro args H k _ hs
  have one : ∀ {φ : Emb} {v : Value} {args' : Array Value}, VRs φ [v] args' → ∃ x, args' = #[x] ∧ VR φ v x := by
    intro φ v args' ha
    have hsz : args'.size = 1 := by have := ha.1; simp at this; exact this.symm
    refine ⟨args'[0]'(by omega), ?_, ?_⟩
    · apply Array.ext
      · simp [hsz]
      · intro i h1 h2; have : i = 0 := by omega
        subst this; rfl
    · have := ha.2 0
      simp only [List.getD_cons_zero, Array.getD_eq_getD_getElem?, Array.getElem?_eq_getElem (show 0 < args'.size by omega), Option.getD_some] at this
      exact this
  unfold cloneSum at hs
  split at hs
  · refine ⟨hent, fun φ w args' s g0 ha => ?_⟩
    obtain ⟨x, rfl, r⟩ := one ha
    obtain rfl : x = .map none := by cases r; rfl
    refine (h0 w).mono fun e w1 ⟨e1, e2⟩ => ?_
    subst e2
    exact ⟨_, e1, φ, _, H, ⟨hs, Ok.refl _⟩, Next.refl _ _ _, s, .mnil⟩
  · rename_i n
    split at hs
    · rename_i es ck hg
      refine ⟨hent, fun φ w args' s g0 ha => ?_⟩
      obtain ⟨x, rfl, r⟩ := one ha
      obtain ⟨L, hn, ex⟩ : ∃ L, φ n = some L ∧ x = .map (some L.b) := by cases r with | map e => exact ⟨_, e, rfl⟩
      subst ex
      obtain ⟨en, hb, hm⟩ := s.obj n L _ hn hg
      refine (h L.b en ck w hb).mono fun e w1 ⟨e1, e2⟩ => ?_
      subst e2
      obtain ⟨s1, n1⟩ := s.add (w' := w.alloc (.map en ck)) (sz := 0) (o := .map es ck) rfl ⟨rfl, rfl, rfl⟩ (fun ψ hψ u hu => ⟨en, hu, hm.mono hψ⟩)
      exact ⟨_, e1, _, _, _, ⟨hs, Ok.add _ _⟩, n1, s1, VR.map (L := ⟨w.heap.size, 0, 0⟩) (Emb.put_same _ _ _)⟩
    · cases hs
  · cases hs
end Go.Cn
/-! ## An environment of the evaluator, entry by entry. -/
namespace Go.Cn
open Go

noncomputable def mkE (l : List (Nat × FEnt)) : T FEnt := l.foldl (fun t p => t.set p.1 p.2) .leaf
/-- Each entry of a list is sound. -/
inductive EntsOk (P : Program) : List (Nat × FEnt) → Prop where
  | nil : EntsOk P []
  | cons {f : Nat} {e : FEnt} {l : List (Nat × FEnt)} (h : EntOk P f e) (t : EntsOk P l) : EntsOk P ((f, e) :: l)
theorem env_set {P : Program} {E : T FEnt} (h : EnvOk P E) {f : Nat} {e : FEnt} (he : EntOk P f e) : EnvOk P (E.set f e) := by
  intro g
  rw [T.get_set]
  by_cases hg : g = f
  · subst hg; rw [if_pos rfl]; exact he
  · rw [if_neg hg]; exact h g
theorem env_fold {P : Program} {l : List (Nat × FEnt)} (h : EntsOk P l) : ∀ {E : T FEnt}, EnvOk P E → EnvOk P (l.foldl (fun t p => t.set p.1 p.2) E) := by
  induction h with
  | nil => intro E hE; exact hE
  | cons h _ ih => intro E hE; exact ih (env_set hE h)
theorem env_mk {P : Program} {l : List (Nat × FEnt)} (h : EntsOk P l) : EnvOk P (mkE l) := env_fold h fun _ => trivial
theorem ent_fn {P : Program} {f : FuncId} {fn : Func} {cf : CFun} (h : P.funcs[f]? = some fn) (hn : (fn.name == "runtime.NumGoroutine") = false) (hc : compFun P fn = some cf) : EntOk P f (.fn cf) := ⟨fn, h, hn, hc⟩
theorem ent_of {P : Program} {f : FuncId} {fn : Func} (h : P.funcs[f]? = some fn) (hb : fn.body.isSome = true) (hn : (fn.name == "runtime.NumGoroutine") = false) : Ent P f := ⟨fn, h, hb, hn⟩
theorem tab_nil {P : Program} {f : FuncId} : ∀ p ∈ ([] : List (ByteArray × Value)), plain p.2 = true ∧ CCall P f [.string p.1] (bare P.globals.size) (fun u _ => u = p.2) := fun _ h => by cases h
theorem tab_cons {P : Program} {f : FuncId} {s : ByteArray} {v : Value} {l : List (ByteArray × Value)} (hv : plain v = true) (hc : CCall P f [.string s] (bare P.globals.size) (fun u _ => u = v))
    (t : ∀ p ∈ l, plain p.2 = true ∧ CCall P f [.string p.1] (bare P.globals.size) (fun u _ => u = p.2)) :
    ∀ p ∈ (s, v) :: l, plain p.2 = true ∧ CCall P f [.string p.1] (bare P.globals.size) (fun u _ => u = p.2) := fun p hp => by
  rcases List.mem_cons.1 hp with rfl | h
  · exact ⟨hv, hc⟩
  · exact t p h
noncomputable def isStr (r : List UInt8) (v : Value) : Bool := match v with | .string b => beqB r b.data.toList | _ => false
noncomputable def isBool (r : Bool) (v : Value) : Bool := match v with | .bool b => cond r b (not b) | _ => false
noncomputable def isTrue (v : Value) : Bool := match v with | .bool b => b | _ => false
theorem isStr_inv {r : List UInt8} {v : Value} (h : isStr r v = true) : v = .string ⟨r.toArray⟩ := by
  unfold isStr at h
  split at h
  · have := beqB_eq h
    subst this
    rfl
  · cases h
theorem isBool_inv {r : Bool} {v : Value} (h : isBool r v = true) : v = .bool r := by
  unfold isBool at h
  split at h
  · rename_i b
    cases r <;> cases b <;> first | rfl | cases h
  · cases h
theorem isTrue_inv {v : Value} (h : isTrue v = true) : v = .bool true := by
  unfold isTrue at h
  split at h
  · subst h; rfl
  · cases h
theorem run_str {P : Program} {E : T FEnt} (hE : EnvOk P E) {n : Nat} {f : FuncId} {args : List Value} {r : List UInt8} (h : fcall E (frun E n) f args (bare P.globals.size) (fun v _ => isStr r v) = true) :
    CCall P f args (bare P.globals.size) (fun u _ => u = .string ⟨r.toArray⟩) := (fcall_ok hE n (WF.bare _) h).mono fun _ _ h => isStr_inv h.1
theorem run_bool {P : Program} {E : T FEnt} (hE : EnvOk P E) {n : Nat} {f : FuncId} {args : List Value} {r : Bool} (h : fcall E (frun E n) f args (bare P.globals.size) (fun v _ => isBool r v) = true) :
    CCall P f args (bare P.globals.size) (fun u _ => u = .bool r) := (fcall_ok hE n (WF.bare _) h).mono fun _ _ h => isBool_inv h.1
theorem run_true {P : Program} {E : T FEnt} (hE : EnvOk P E) {n : Nat} {f : FuncId} {args : List Value} (h : fcall E (frun E n) f args (bare P.globals.size) (fun v _ => isTrue v) = true) :
    CCall P f args (bare P.globals.size) (fun u _ => u = .bool true) := (fcall_ok hE n (WF.bare _) h).mono fun _ _ h => isTrue_inv h.1

/-! ### strings.Repeat, strings.Count -/
noncomputable def repRes (args : List Value) : Option Value :=
  match args with
  | [.string s, .int .i64 (.ofNat n)] => cond (Nat.ble (Nat.mul (Nat.succ s.size) n) 65536) (some (.string ⟨(Go.Lib.repeatL s.data.toList n).toArray⟩)) none
  | _ => none
noncomputable def cntRes (args : List Value) : Option Value :=
  match args with
  | [.string s, .string ⟨⟨[c]⟩⟩] => some (.int .i64 (Go.Lib.countByte s.data.toList c))
  | _ => none
section
variable {P : Program} {f : FuncId}
theorem repSum_ok (hent : Ent P f)
    (main : ∀ (s : ByteArray) (c : Nat) (w : World), 2 ≤ c → c ≤ 9223372036854775807 → s.size * c ≤ 140737488355328 → 0 < s.size →
      Calls P f #[.string s, .int .i64 c] w fun e w' => e = .returned (.string ⟨(Go.Lib.repeatL s.data.toList c).toArray⟩) ∧ RowKit.Below w.heap.size w w')
    (zero : ∀ (s : ByteArray) (w : World), Calls P f #[.string s, .int .i64 0] w fun e w' => e = .returned (.string ⟨#[]⟩) ∧ w' = w)
    (one : ∀ (s : ByteArray) (w : World), Calls P f #[.string s, .int .i64 1] w fun e w' => e = .returned (.string s) ∧ w' = w)
    (empty : ∀ (s : ByteArray) (c : Nat) (w : World), 2 ≤ c → c ≤ 9223372036854775807 → s.size = 0 → Calls P f #[.string s, .int .i64 c] w fun e w' => e = .returned (.string ⟨#[]⟩) ∧ w' = w) :
    EntOk P f (.sum (plainSum repRes)) := by
  refine plainSum_ok hent fun args v h => ?_
  unfold repRes at h
  split at h
  · rename_i s n
    cases hb : Nat.ble (Nat.mul (Nat.succ s.size) n) 65536 with
    | false => rw [hb] at h; cases h
    | true =>
      rw [hb] at h
      simp only [cond_true, Option.some.injEq] at h
      subst h
      have hn := Nat.le_of_ble_eq_true hb
      refine ⟨rfl, rfl, fun w => ?_⟩
      have same : ∀ {e : Ending} {w' : World} {v : Value}, e = .returned v ∧ w' = w → e = .returned v ∧ RowKit.Below w.heap.size w w' := fun h => ⟨h.1, by rw [h.2]; exact RowKit.Below.refl _ _⟩
      match n with
      | 0 => exact (zero s w).mono fun e w' h => by rw [show Go.Lib.repeatL s.data.toList 0 = [] from rfl]; exact same h
      | 1 =>
        refine (one s w).mono fun e w' h => ?_
        have : Go.Lib.repeatL s.data.toList 1 = s.data.toList := by simp [Go.Lib.repeatL]
        rw [this]; exact same h
      | n + 2 =>
        have hn' : (s.size + 1) * (n + 2) ≤ 65536 := hn
        have h1 : 1 * (n + 2) ≤ (s.size + 1) * (n + 2) := Nat.mul_le_mul_right _ (by omega)
        have h2 : s.size * (n + 2) ≤ (s.size + 1) * (n + 2) := Nat.mul_le_mul_right _ (by omega)
        by_cases h0 : s.size = 0
        · refine (empty s (n + 2) w (by omega) (by omega) h0).mono fun e w' h => ?_
          have hl : s.data.toList = [] := List.eq_nil_of_length_eq_zero h0
          rw [hl, Go.Lib.repeatL_nil]; exact same h
        · exact main s (n + 2) w (by omega) (by omega) (by omega) (by omega)
  · cases h
theorem cntSum_ok (hent : Ent P f) (one : ∀ (s : ByteArray) (c : UInt8) (w : World), Calls P f #[.string s, .string ⟨#[c]⟩] w fun e w' => e = .returned (.int .i64 (Go.Lib.countByte s.data.toList c)) ∧ w' = w) :
    EntOk P f (.sum (plainSum cntRes)) := by
  refine plainSum_ok hent fun args v h => ?_
  unfold cntRes at h
  split at h
  · simp only [Option.some.injEq] at h
    subst h
    exact ⟨rfl, rfl, fun w => (one _ _ w).mono fun e w' h => ⟨h.1, by rw [h.2]; exact RowKit.Below.refl _ _⟩⟩
  · cases h
end
end Go.Cn
