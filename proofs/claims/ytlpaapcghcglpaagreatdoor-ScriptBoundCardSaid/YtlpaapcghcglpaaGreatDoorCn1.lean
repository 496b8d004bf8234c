/- A program logic over canonical heaps, any program: part 2 of 4. Conditions: none; each theorem bears its own. -/
import Derived.Test.YtlpaapcghcglpaaGreatDoorCn0
import Derived.Laws.Cells
import Derived.Lib.UnsafeStr
/-! ## What canonical instructions do with memory. -/
namespace Go.Cn
open Go

/-- Two keys, held against each other. -/
def ckey : Value → Value → Option Bool
  | .int k a, .int k' b => if k = k' then some (a == b) else none
  | .string a, .string b => some (a == b)
  | .bool a, .bool b => some (a == b)
  | _, _ => none
def cfind (k : Value) : List CEnt → Nat → Option (Option (Nat × Value))
  | [], _ => some none
  | x :: es, i =>
    match ckey k x.key with
    | some true => some (some (i, x.val))
    | some false => cfind k es (i + 1)
    | none => none
def valKind : Value → Option Nat
  | .int _ _ => some 0
  | .string _ => some 1
  | .bool _ => some 2
  | _ => none
def scalar : Value → Bool
  | .agg _ | .tuple _ => false
  | _ => true
/-- The cells of a canonical block, so many from a place on. -/
def ccells (H : CH) (n off k : Nat) : Option (List Value) :=
  match H.get n with
  | some (.blk cells _ _) => if off + k ≤ cells.length then some ((cells.drop off).take k) else none
  | _ => none
def cbytes : List Value → Option (List UInt8)
  | [] => some []
  | .int .u8 n :: l => (cbytes l).map (UInt8.ofNat n.toNat :: ·)
  | _ => none

def cmapOf (H : CH) : Value → Option (List CEnt)
  | .map none => some []
  | .map (some m) => match H.get m with
    | some (.map es _) => some es
    | _ => none
  | _ => none
def crd (ρ : Operand → Value) (H : CH) : CI → Option Value
  | .ld x none => match ρ x with
    | .pointer (some a) => match H.get a.block with
      | some (.blk cells _ _) => cells[a.off]?
      | _ => none
    | _ => none
  | .ld x (some k) => match ρ x with
    | .pointer (some a) => (ccells H a.block a.off k).map fun l => .agg l.toArray
    | _ => none
  | .lenM x => match ρ x with
    | .map none => some (goInt 0)
    | .map (some m) => match H.get m with
      | some (.map es _) => some (goInt es.length)
      | _ => none
    | _ => none
  | .lkp kk x k zero ok =>
    match cmapOf H (ρ x) with
    | none => none
    | some es =>
      if valKind (ρ k) = some kk then
        match cfind (ρ k) es 0 with
        | none => none
        | some none => some (if ok then .tuple #[zero, .bool false] else zero)
        | some (some (_, v)) => some (if ok then .tuple #[v, .bool true] else v)
      else none
  | .b2s x => match ρ x with
    | .slice none _ _ => some (.string .empty)
    | .slice (some a) len _ => do
      let l ← ccells H a.block a.off len
      let b ← cbytes l
      some (.string ⟨b.toArray⟩)
    | _ => none
  | _ => none

/-- A new object: what it is, and the value that leads to it. -/
def cal (ρ : Operand → Value) : CI → Option (CObj × (Nat → Value))
  | .new zero el => some (.blk zero false ⟨el, true⟩, fun n => .pointer (some ⟨n, 0, none⟩))
  | .box x k el => if (ρ x).cells.size = k then some (.blk (ρ x).cells.toList false ⟨el, true⟩, fun n => .pointer (some ⟨n, 0, none⟩)) else none
  | .bslc len _ zero ps el => (cfill zero.toArray (ps.map fun (o, s, x) => (o, s, ρ x))).map fun c => (.blk c.toList false ⟨el, true⟩, fun n => .slice (some ⟨n, 0, none⟩) len len)
  | .mksl zero bytes l c el => match ρ l, ρ c with
    | .int _ i, .int _ j => if 0 ≤ i ∧ i ≤ j ∧ j ≤ 1048576 ∧ bytes ≤ 65536 then
        some (.blk (List.replicate j.toNat zero).flatten false ⟨el, false⟩, fun n => .slice (some ⟨n, 0, none⟩) i.toNat j.toNat) else none
    | _, _ => none
  | .mkmap => some (.map [] 0, fun n => .map (some n))
  | .s2b x el => match ρ x with
    | .string s => some (.blk (s.data.toList.map fun b => .int .u8 b.toNat) false ⟨el, false⟩, fun n => .slice (some ⟨n, 0, some 1⟩) s.size s.size)
    | _ => none
  | _ => none

/-- A block's cells written from a place on. -/
def cwrite (H : CH) (n off : Nat) (vs : List Value) : Option CH :=
  match H.get n with
  | some (.blk cells false el) => if off + vs.length ≤ cells.length ∧ vs.all scalar then some (H.set n (.blk (cells.take off ++ vs ++ cells.drop (off + vs.length)) false el)) else none
  | _ => none
/-- The first cells of a slice, of a text. -/
def cfirst (H : CH) (es k : Nat) : Value → Option (List Value)
  | .slice (some a) _ _ => ccells H a.block a.off (k * es)
  | .slice none _ _ => some []
  | .string s => some ((s.data.toList.take k).map fun b => .int .u8 b.toNat)
  | _ => none
def clenOf : Value → Option Nat
  | .slice _ n _ => some n
  | .string s => some s.size
  | _ => none
def capp (H : CH) (es bytes : Nat) (el : TypeId) (s x : Value) : Option (Value × CH) := do
  let n ← clenOf x
  let news ← cfirst H es n x
  guardB (news.length == n * es)
  match s with
  | .slice base len cap =>
    let need := len + n
    if need ≤ cap then
      match base with
      | none => some (.slice none need cap, H)
      | some a => do
        let H' ← (if news.isEmpty then some H else cwrite H a.block (a.off + len * es) news)
        some (.slice base need cap, H')
    else if bytes * need ≤ 68719476736 ∧ news.all scalar then
      match base with
      | none => some (.slice (some ⟨H.next, 0, some es⟩) need need, H.add (.blk news false ⟨el, false⟩))
      | some a => do
        let old ← (if len = 0 then some [] else ccells H a.block a.off (len * es))
        match a.spot with
        | none => some (.slice (some ⟨H.next, 0, some es⟩) need need, H.add (.blk (old ++ news) false ⟨el, false⟩))
        | some e =>
          match H.get a.block with
          | some (.blk _ false t) =>
            if e = es ∧ t.el = el then some (.slice (some ⟨H.next, 0, some es⟩) need need, (H.set a.block .dead).add (.blk (old ++ news) false ⟨el, false⟩)) else none
          | _ => none
    else none
  | _ => none
def custr (H : CH) (e : TypeId) (x n : Value) : Option (Value × CH) :=
  match x, n with
  | .pointer none, .int .i64 j => if j = 0 then some (.string .empty, H) else none
  | .pointer (some a), .int .i64 j =>
    if j = 0 then some (.string .empty, H)
    else if 0 < j ∧ j ≤ 16777216 then
      match H.get a.block, ccells H a.block a.off j.toNat with
      | some (.blk cs false t), some l => (cbytes l).bind fun b => if t.el = e then some (.string ⟨b.toArray⟩, H.set a.block (.blk cs true t)) else none
      | _, _ => none
    else none
  | _, _ => none
def ceff (ρ : Operand → Value) (H : CH) : CI → Option (Value × CH)
  | .st x v k => match ρ x with
    | .pointer (some a) => if (ρ v).cells.size = k then (cwrite H a.block a.off (ρ v).cells.toList).map fun H' => (undef, H') else none
    | _ => none
  | .app es bytes _ x y el => capp H es bytes el (ρ x) (ρ y)
  | .usd x => match ρ x with
    | .slice none _ _ => some (.pointer none, H)
    | .slice (some a) _ c => if c = 0 then none else some (.pointer (some ⟨a.block, a.off, none⟩), H)
    | _ => none
  | .ustr x y el => custr H el (ρ x) (ρ y)
  | .cpy es x y => match ρ x with
    | .slice base len _ => do
      let m ← clenOf (ρ y)
      let k := min m len
      let l ← cfirst H es k (ρ y)
      match base with
      | some a => do
        let H' ← (if l.isEmpty then some H else cwrite H a.block a.off l)
        some (goInt k, H')
      | none => some (goInt k, H)
    | _ => none
  | .clr zero x => match ρ x with
    | .slice none _ _ => some (.tuple #[], H)
    | .slice (some a) n _ => if n = 0 then some (.tuple #[], H) else (cwrite H a.block a.off (List.replicate n zero).flatten).map fun H' => (.tuple #[], H')
    | _ => none
  | .mup kk m k v => match ρ m with
    | .map (some n) => match H.get n with
      | some (.map es ck) => if valKind (ρ k) = some kk then
          match cfind (ρ k) es 0 with
          | some (some (i, _)) => some (undef, H.set n (.map (es.modify i fun e => { e with key := ρ k, val := ρ v }) ck))
          | some none => some (undef, H.set n (.map (es ++ [⟨ρ k, ρ v, ck⟩]) (ck + 1)))
          | none => none
        else none
      | _ => none
    | _ => none
  | .del kk m k => match ρ m with
    | .map none => if valKind (ρ k) = some kk then some (.tuple #[], H) else none
    | .map (some n) => match H.get n with
      | some (.map es ck) => if valKind (ρ k) = some kk then
          match cfind (ρ k) es 0 with
          | some (some (i, _)) => some (.tuple #[], H.set n (.map (es.eraseIdx i) ck))
          | some none => some (.tuple #[], H.set n (.map es ck))
          | none => none
        else none
      | _ => none
    | _ => none
  | .rng x => match ρ x with
    | .map none => some (.pointer (some ⟨H.next, 0, none⟩), H.add (.iter none 0 #[] 0))
    | .map (some m) => match H.get m with
      | some (.map _ ck) => some (.pointer (some ⟨H.next, 0, none⟩), H.add (.iter (some m) ck #[] ck))
      | _ => none
    | _ => none
  | .entry x => match ρ x with
    | .pointer (some ⟨n, 0, none⟩) => match H.get n with
      | some (.iter (some m) _ seen last) => match seen.back?, H.get m with
        | some stamp, some (.map es ck) => if ck = last then (es.find? fun e => e.born == stamp).map fun e => (.tuple #[e.key, e.val], H) else none
        | _, _ => none
      | _ => none
    | _ => none
  | _ => none

/-- The entries that a step over a map may take; none: it is over. -/
def cands (es : List CEnt) (since : Nat) (seen : Array Nat) : List (Option CEnt) :=
  let left := es.filter fun e => !seen.contains e.born
  let old := left.filter fun e => decide (e.born < since)
  let new := left.filter fun e => decide (e.born ≥ since)
  (if old.isEmpty then [none] else []) ++ (old ++ new).map some
/-- A step over a map: whichever entry comes. -/
def cnext (H : CH) (v : Value) (K : Value → CH → Prop) : Prop :=
  match v with
  | .pointer (some ⟨n, 0, none⟩) => match H.get n with
    | some (.iter none _ _ _) => K (.tuple #[.bool false]) H
    | some (.iter (some m) since seen last) => match H.get m with
      | some (.map es ck) =>
        ¬ (!seen.isEmpty && !es.isEmpty && es.all fun e => decide (e.born ≥ last)) = true ∧
        ∀ c ∈ cands es since seen, match c with
          | none => K (.tuple #[.bool false]) H
          | some e => K (.tuple #[.bool true, e.key, e.val]) (H.set n (.iter (some m) since (seen.push e.born) ck))
      | _ => False
    | _ => False
  | _ => False
end Go.Cn
/-! ## Operations that read. -/
namespace Go.Cn
open Go

theorem cell_of {w : World} {b off : Nat} {c : Array Value} {el : TypeId} {fz : Nat × Nat} (h : w.heap[b]? = some (.cells c el fz)) : w.cell? ⟨b, off, none⟩ = c[off]? := by
  simp [World.cell?, h]
theorem ckey_basic {k x : Value} {b : Bool} (h : ckey k x = some b) : basic k = true ∧ basic x = true := by
  unfold ckey at h
  split at h <;> first | exact ⟨rfl, rfl⟩ | cases h
theorem ckey_now {kd : TypeDesc} {kk : Nat} (hk : keyKind kd = some kk) {k x : Value} (hv : valKind k = some kk) {b : Bool} (h : ckey k x = some b) : Instr.sameNow kd k x = some b := by
  unfold ckey at h
  split at h
  · cases kd <;> simp [keyKind] at hk <;> subst hk <;> simp [valKind] at hv
    simpa [Instr.sameNow] using h
  · cases kd <;> simp [keyKind] at hk <;> subst hk <;> simp [valKind] at hv
    simpa [Instr.sameNow] using h
  · cases kd <;> simp [keyKind] at hk <;> subst hk <;> simp [valKind] at hv
    simpa [Instr.sameNow] using h
  · cases h
/-- What was found, there and here. -/
def Found (φ : Emb) (r r' : Option (Nat × Value)) : Prop :=
  match r, r' with
  | none, none => True
  | some (i, v), some (i', v') => i = i' ∧ VR φ v v'
  | _, _ => False
theorem findNow_sound {φ : Emb} {kd : TypeDesc} {kk : Nat} (hk : keyKind kd = some kk) {k : Value} (hv : valKind k = some kk) :
    ∀ (es : List CEnt) (en : List MapEntry) (i : Nat) (r : Option (Nat × Value)), es.length = en.length →
      (∀ (j : Nat) (x : CEnt), es[j]? = some x → ∃ e : MapEntry, en[j]? = some e ∧ e.key = x.key ∧ VR φ x.val e.val) →
      cfind k es i = some r → ∃ r', Instr.findNow kd k en i = some r' ∧ Found φ r r' := by
  intro es
  induction es with
  | nil =>
    intro en i r hl _ h
    cases en with
    | nil => simp [cfind] at h; subst h; exact ⟨none, rfl, trivial⟩
    | cons e en => simp at hl
  | cons p es ih =>
    intro en i r hl hr h
    cases en with
    | nil => simp at hl
    | cons e en =>
      obtain ⟨e', h1, h2, h3⟩ := hr 0 p rfl
      simp at h1; subst h1
      simp only [cfind] at h
      simp only [Instr.findNow, h2]
      split at h
      · rename_i hb
        rw [ckey_now hk hv hb]
        cases h
        exact ⟨_, rfl, rfl, h3⟩
      · rename_i hb
        rw [ckey_now hk hv hb]
        exact ih en (i + 1) r (by simpa using hl) (fun j x hj => by obtain ⟨e', a, b⟩ := hr (j + 1) x (by simpa using hj); exact ⟨e', by simpa using a, b⟩) h
      · cases h
theorem find_sound {P : Program} {φ : Emb} {kt : TypeId} {kd : TypeDesc} (hd : P.underlying kt = some kd) {kk : Nat} (hk : keyKind kd = some kk) {k : Value} (hv : valKind k = some kk)
    {es : List CEnt} {en : Array MapEntry} (hm : MapAt φ es en) {r : Option (Nat × Value)} (h : cfind k es 0 = some r) :
    ∃ r', Found φ r r' ∧ ∀ w, (Instr.findKey kt k en.toList).run P w = .ok r' w := by
  obtain ⟨r', h1, h2⟩ := findNow_sound (φ := φ) hk hv es en.toList 0 r (by simpa using hm.size) (fun j x hj => by
    obtain ⟨e, a, b, c, _⟩ := hm.ent j x hj
    exact ⟨e, by simpa using a, b, c⟩) h
  exact ⟨r', h2, fun w => by simp [Instr.findKey, run_underlying hd, h1]⟩
theorem checkKey_sound {P : Program} {kt : TypeId} {kd : TypeDesc} (hd : P.underlying kt = some kd) {kk : Nat} (hk : keyKind kd = some kk) (em : Bool) (v : Value) (w : World) :
    (Instr.checkKey em 10000 kt v).run P w = .ok () w := by
  have e : (Instr.checkKey em 10000 kt v).run P w = (Instr.checkKey em (9999 + 1) kt v).run P w := rfl
  rw [e]; generalize 9999 = dd
  rw [Instr.checkKey]
  simp only [Sem.run_bind, run_underlying hd, Result.andThen_ok]
  cases kd <;> simp [keyKind] at hk <;> (cases v <;> rfl)
theorem VR.basic_eq {φ : Emb} {v v' : Value} {n : Nat} (h : valKind v = some n) (r : VR φ v v') : v' = v := by
  cases r <;> first | rfl | simp [valKind] at h

theorem CellsAt.sub {φ : Emb} {cells : List Value} {c : Array Value} {sh off k : Nat} (h : CellsAt φ cells c sh) (hk : off + k ≤ cells.length) :
    VA φ ((cells.drop off).take k).toArray (c.extract (sh + off) (sh + off + k)) := by
  have h1 := h.1
  refine .mk' ?_ fun i x y a b => ?_
  · simp; omega
  · simp only [List.getElem?_toArray, List.getElem?_take, List.getElem?_drop] at a
    rw [Array.getElem?_extract] at b
    split at a
    · rename_i hi
      rw [if_pos (by omega)] at b
      obtain ⟨v', e, r⟩ := h.2 _ _ a
      rw [Nat.add_assoc, e] at b; cases b
      exact r
    · cases a
theorem run_loadCells_at {P : Program} {w : World} {b off k : Nat} {c : Array Value} {el : TypeId} {fz : Nat × Nat} (h : w.heap[b]? = some (.cells c el fz)) (hk : off + k ≤ c.size) :
    (loadCells ⟨b, off, none⟩ k).run P w = .ok (c.extract off (off + k)) w := by
  have := run_loadCells (P := P) w ⟨b, off, none⟩ k (fun j => c.getD (off + j) undef) (fun j hj => by
    rw [Addr.add_none, cell_of h]
    have : off + j < c.size := by omega
    simp [Array.getD_eq_getD_getElem?, this])
  rw [this]
  congr 1
  apply Array.ext
  · simp; omega
  · intro i h1 h2
    simp at h1 h2
    have : off + i < c.size := by omega
    simp [Array.getD_eq_getD_getElem?, this]
/-- What ccells gives, in the world. -/
theorem ccells_sound {P : Program} {φ : Emb} {H : CH} {w : World} (s : Sim P φ H w) {n off k : Nat} {l : List Value} (h : ccells H n off k = some l) {L : Loc} (hn : φ n = some L) :
    ∃ c el fz, w.heap[L.b]? = some (.cells c el fz) ∧ L.sh + off + k ≤ c.size ∧ VA φ l.toArray (c.extract (L.sh + off) (L.sh + off + k)) ∧ l.length = k ∧
      (loadCells ⟨L.b, L.sh + off, none⟩ k).run P w = .ok (c.extract (L.sh + off) (L.sh + off + k)) w := by
  unfold ccells at h
  split at h
  · rename_i cells ro hg
    split at h
    · rename_i hk
      cases h
      obtain ⟨c, el, fz, h1, h2, h3, h4⟩ := s.obj n L _ hn hg
      have := h4.1
      exact ⟨c, el, fz, h1, by omega, h4.sub hk, by simp; omega, run_loadCells_at h1 (by omega)⟩
    · cases h
  · cases h

theorem cbytes_sound {φ : Emb} : ∀ {l : List Value} {b : List UInt8} {ys : List Value}, cbytes l = some b → l.length = ys.length → (∀ (i : Nat) (x y : Value), l[i]? = some x → ys[i]? = some y → VR φ x y) →
    ys = l ∧ ∀ v ∈ l, ∃ n, v = .int .u8 n := by
  intro l
  induction l with
  | nil => intro b ys _ h _; cases ys <;> simp_all
  | cons x l ih =>
    intro b ys h hl hr
    cases ys with
    | nil => simp at hl
    | cons y ys =>
      unfold cbytes at h
      split at h
      · rename_i e; cases e
      · rename_i n l' e
        cases e
        simp only [Option.map_eq_some_iff] at h
        obtain ⟨b', hb, rfl⟩ := h
        have hy := (hr 0 _ y rfl rfl).int_inv
        obtain ⟨h1, h2⟩ := ih hb (by simpa using hl) (fun i x y a b => hr (i + 1) x y (by simpa using a) (by simpa using b))
        refine ⟨by rw [hy, h1], fun v hv => ?_⟩
        simp at hv
        rcases hv with rfl | hv
        · exact ⟨n, rfl⟩
        · exact h2 v hv
      · cases h
end Go.Cn
/-! ## Operations that read: the theorem. -/
namespace Go.Cn
open Go

theorem bytes_run {P : Program} {f : Value → ByteArray → Sem (ForInStep ByteArray)} (hf : ∀ n s, f (.int .u8 n) s = pure (ForInStep.yield (s.push (UInt8.ofNat n.toNat)))) :
    ∀ (l : List Value) (b : List UInt8) (acc : ByteArray) (w : World), cbytes l = some b → (forIn (m := Sem) l acc f).run P w = .ok ⟨(acc.data.toList ++ b).toArray⟩ w := by
  intro l
  induction l with
  | nil => intro b acc w h; simp [cbytes] at h; subst h; simp
  | cons x l ih =>
    intro b acc w h
    unfold cbytes at h
    split at h
    · rename_i e; cases e
    · rename_i n l' e
      cases e
      simp only [Option.map_eq_some_iff] at h
      obtain ⟨b', hb, rfl⟩ := h
      have := ih b' (acc.push (UInt8.ofNat n.toNat)) w hb
      simp only [List.forIn_cons, Sem.run_bind, hf, Sem.run_pure, Result.andThen_ok]
      rw [this]
      simp [ByteArray.push]
    · cases h

section
variable {P : Program} {φ : Emb} {tm : List Value} {a : Act} {H : CH} {w : World}
theorem load_sound (s : Sim P φ H w) {t : TypeId} {wd : Option Nat} (hw : wide P t = some wd) {x v v' : Value} (hx : VR φ x v') (h : crd (fun _ => x) H (.ld (.tmp 0) wd) = some v) :
    ∃ r, VR φ v r ∧ (Instr.loadAt t v').run P w = .ok r w := by
  unfold wide at hw
  simp only [Option.bind_eq_bind, Option.bind_eq_some_iff] at hw
  obtain ⟨b, hb, n, hn, hw⟩ := hw
  cases b with
  | true =>
    simp at hw; subst hw
    simp only [crd] at h
    split at h
    · rename_i ad e
      simp only [Option.map_eq_some_iff] at h
      obtain ⟨l, hl, rfl⟩ := h
      obtain ⟨L, h1, h2, h3⟩ := hx.ptr_inv
      obtain ⟨c, el, fz, g1, g2, g3, g4, g5⟩ := ccells_sound s hl h1
      refine ⟨_, g3.agg, ?_⟩
      simp [Instr.loadAt, h3, Instr.sureAddr, loadVar, run_isAgg hb, run_sizeOf hn, g5]
    · cases h
  | false =>
    simp at hw; subst hw
    simp only [crd] at h
    split at h
    · rename_i ad e
      obtain ⟨L, h1, h2, h3⟩ := hx.ptr_inv
      split at h
      · rename_i cells ro hg
        obtain ⟨c, el, fz, g1, g2, g3, g4⟩ := s.obj _ L _ h1 hg
        obtain ⟨r, e1, e2⟩ := g4.2 _ _ h
        refine ⟨r, e2, ?_⟩
        simp [Instr.loadAt, h3, Instr.sureAddr, loadVar, run_isAgg hb, cell_of g1, e1]
      · cases h
    · cases h
theorem mapOf (s : Sim P φ H w) {m v' : Value} (hx : VR φ m v') {es : List CEnt} (h : cmapOf H m = some es) :
    (m = .map none ∧ v' = .map none ∧ es = []) ∨ ∃ n L en ck, m = .map (some n) ∧ φ n = some L ∧ v' = .map (some L.b) ∧ w.heap[L.b]? = some (.map en ck) ∧ MapAt φ es en ∧ H.get n = some (.map es ck) := by
  unfold cmapOf at h
  split at h
  · cases h; cases hx; exact .inl ⟨rfl, rfl, rfl⟩
  · split at h
    · rename_i es' ck hg
      cases h
      cases hx with
      | @map _ L hφ =>
        obtain ⟨en, h1, h2⟩ := s.obj _ L _ hφ hg
        exact .inr ⟨_, L, en, ck, rfl, hφ, rfl, h1, h2, hg⟩
    · cases h
  · cases h
theorem MapAt.nil {φ : Emb} : MapAt φ [] #[] := ⟨rfl, fun i x h => by simp at h⟩
theorem lookup_sound (s : Sim P φ H w) {t kt et : TypeId} (ht : P.underlying t = some (.map kt et)) {kd : TypeDesc} (hd : P.underlying kt = some kd) {kk : Nat} (hk : keyKind kd = some kk)
    {z : Value} (hz : zeroAt P et = some z) (pz : plain z = true) {m k m' k' : Value} (hm : VR φ m m') (hkk : VR φ k k') {ok : Bool} {v : Value}
    (h : crd (fun x => match x with | .tmp 0 => m | _ => k) H (.lkp kk (.tmp 0) (.tmp 1) z ok) = some v) :
    ∃ r, VR φ v r ∧ (Instr.lookup t m' k' ok).run P w = .ok r w := by
  simp only [crd] at h
  split at h
  · cases h
  · rename_i es hes
    split at h
    · rename_i hv
      have hk' := hkk.basic_eq hv
      subst hk'
      have main : ∀ (en : Array MapEntry), MapAt φ es en → ∃ fr r, (∀ w, (Instr.findKey kt k' en.toList).run P w = .ok fr w) ∧ VR φ v r ∧
          r = (match fr with | none => (if ok then .tuple #[z, .bool false] else z) | some (_, v1) => (if ok then .tuple #[v1, .bool true] else v1)) := by
        intro en hma
        split at h
        · cases h
        · rename_i hf
          obtain ⟨r', f1, f2⟩ := find_sound (P := P) hd hk hv hma hf
          cases r' with
          | some p => simp [Found] at f1
          | none =>
            cases h
            refine ⟨none, _, f2, ?_, rfl⟩
            cases ok
            · exact VR.plain_refl pz
            · refine VA.tuple (.mk' rfl fun i x y e1 e2 => ?_)
              rcases i with _ | _ | i
              · cases e1; cases e2; exact VR.plain_refl pz
              · cases e1; cases e2; exact .bool _
              · simp at e1
        · rename_i i0 v0 hf
          obtain ⟨r', f1, f2⟩ := find_sound (P := P) hd hk hv hma hf
          cases r' with
          | none => simp [Found] at f1
          | some p =>
            obtain ⟨i1, v1⟩ := p
            obtain ⟨rfl, f3⟩ := f1
            cases h
            refine ⟨_, _, f2, ?_, rfl⟩
            cases ok
            · exact f3
            · refine VA.tuple (.mk' rfl fun i x y e1 e2 => ?_)
              rcases i with _ | _ | i
              · cases e1; cases e2; exact f3
              · cases e1; cases e2; exact .bool _
              · simp at e1
      rcases mapOf s hm hes with ⟨rfl, rfl, rfl⟩ | ⟨n, L, en, ck, rfl, h1, rfl, h3, h4, h5⟩
      · obtain ⟨fr, r, f1, f2, f3⟩ := main #[] .nil
        refine ⟨r, f2, ?_⟩
        simp only [Instr.lookup, Sem.run_bind, run_underlying ht, Result.andThen_ok, Sem.run_pure, checkKey_sound hd hk, f1]
        rw [f3]
        cases fr with
        | none => simp [run_zero hz]
        | some p => simp
      · obtain ⟨fr, r, f1, f2, f3⟩ := main en h4
        refine ⟨r, f2, ?_⟩
        simp only [Instr.lookup, Sem.run_bind, run_underlying ht, Result.andThen_ok, Sem.run_pure, checkKey_sound hd hk, f1, getObj, Sem.run, h3]
        rw [f3]
        cases fr with
        | none => simp [run_zero hz]
        | some p => simp
    · cases h
end
end Go.Cn
/-! ## Operations that read: all of them. -/
namespace Go.Cn
open Go

section
variable {P : Program} {φ : Emb} {tm : List Value} {a : Act} {H : CH} {w : World}
theorem b2s_sound (s : Sim P φ H w) {x x' v : Value} (hx : VR φ x x') (h : crd (fun _ => x) H (.b2s (.tmp 0)) = some v) :
    VR φ v v ∧ (Conv.bytesToString x').run P w = .ok v w := by
  simp only [crd] at h
  split at h
  · rename_i l0 c0 e
    cases h
    refine ⟨.string _, ?_⟩
    have hx' : x' = .slice none 0 0 := by cases hx; rfl
    rw [hx']; simp [Conv.bytesToString]
  · rename_i ad len cap
    simp only [Option.bind_eq_bind, Option.bind_eq_some_iff] at h
    obtain ⟨l, hl, b, hb, h⟩ := h
    cases h
    refine ⟨.string _, ?_⟩
    -- where it lies
    have main : ∀ (L : Loc) (n off : Nat) (k' : Nat), φ n = some L → ccells H n off len = some l → (Conv.bytesToString (.slice (some ⟨L.b, L.sh + off, none⟩) len k')).run P w = .ok (.string ⟨b.toArray⟩) w := by
      intro L n off k' hφ hc
      obtain ⟨c, el, fz, g1, g2, g3, g4, g5⟩ := ccells_sound s hc hφ
      have hh := cbytes_sound (φ := φ) (ys := (c.extract (L.sh + off) (L.sh + off + len)).toList) hb (by have := g3.1; rw [List.size_toArray] at this; rw [Array.length_toList]; exact this) (fun i x y e1 e2 => g3.rel i x y (by simpa using e1) (by rw [Array.getElem?_toList] at e2; exact e2))
      simp only [Conv.bytesToString, Sem.run_bind, g5, Result.andThen_ok]
      have e1 : (c.extract (L.sh + off) (L.sh + off + len)) = l.toArray := by
        apply Array.ext'; rw [hh.1]
      rw [e1, ← Array.forIn_toList]
      rw [bytes_run (P := P) (fun n s => rfl) l b .empty w hb]
      simp
    cases hx with
    | slc hφ _ => exact main _ _ _ _ hφ hl
    | slo hφ _ _ _ => exact main _ _ _ _ hφ hl
    | slz _ =>
      have hl' : l = [] := by
        unfold ccells at hl
        split at hl
        · split at hl
          · cases hl; simp
          · cases hl
        · cases hl
      subst hl'
      simp [cbytes] at hb
      subst hb
      simp [Conv.bytesToString, loadCells, loadCellsFrom, ByteArray.empty, ByteArray.emptyWithCapacity]
      rfl
  · cases h

theorem read_sound (s : Sim P φ H w) {o : Oper} {ci : CI} {v : Value} (hc : compOp P o = some ci) (hv : crd (cev tm) H ci = some v)
    (hr : ∀ x ∈ o.op.operands.toList, VR φ (cev tm x) (a.eval x)) :
    ∃ v', VR φ v v' ∧ (execOp a.eval o).run P w = .ok (.value v') w := by
  obtain ⟨dst, op, type, pos, after, guard⟩ := o
  unfold compOp at hc
  simp only [Option.bind_eq_bind, Option.bind_eq_some_iff] at hc
  obtain ⟨_, hok, hc⟩ := hc; clear hok
  cases op <;> simp only [Op.operands] at hr <;> simp only at hc
  case load t x =>
    simp only [Option.bind_eq_some_iff] at hc
    obtain ⟨wd, hw, hc⟩ := hc
    cases hc
    obtain ⟨r, h1, h2⟩ := load_sound s hw (hr x (by simp)) (v := v) (by cases wd <;> exact hv)
    exact ⟨r, h1, by simp [execOp, h2]⟩
  case lookup t x k ok =>
    simp only [Option.bind_eq_some_iff] at hc
    obtain ⟨d, hd, hc⟩ := hc
    split at hc
    · rename_i kt et
      simp only [Option.bind_eq_some_iff] at hc
      obtain ⟨kd, hkd, kk, hkk, z, hz, u, hg, hc⟩ := hc
      cases hc
      obtain ⟨r, h1, h2⟩ := lookup_sound s hd hkd hkk hz (guardB_some hg) (hr x (by simp)) (hr k (by simp)) (ok := ok) (v := v) hv
      exact ⟨r, h1, by simp [execOp, h2]⟩
    · cases hc
  case convert sd dd x =>
    simp only [Option.bind_eq_some_iff] at hc
    obtain ⟨s1, hs1, d1, hd1, hc⟩ := hc
    split at hc
    · cases hc; simp [crd] at hv
    · simp only [Option.bind_eq_some_iff] at hc
      obtain ⟨ed, _, hc⟩ := hc
      split at hc
      · cases hc; simp [crd] at hv
      · cases hc
    · simp only [Option.bind_eq_some_iff] at hc
      obtain ⟨ed, he, hc⟩ := hc
      split at hc
      · cases hc
        obtain ⟨h1, h2⟩ := b2s_sound s (hr x (by simp)) (v := v) hv
        refine ⟨v, h1, ?_⟩
        have hx := hr x (by simp)
        obtain ⟨a', l', c', e2⟩ : ∃ a' l' c', a.eval x = .slice a' l' c' := by
          simp only [crd] at hv
          generalize a.eval x = u at hx
          generalize cev tm x = y at hx hv
          cases hx <;> simp at hv <;> exact ⟨_, _, _, rfl⟩
        simp [execOp, convert, run_underlying hs1, run_underlying hd1, run_underlying he, e2]
        rw [e2] at h2
        simp [h2]
      · cases hc
    · cases hc
  case call c =>
    split at hc
    · split at hc
      · split at hc
        · split at hc
          · cases hc
          · cases hc; simp [crd] at hv
        · split at hc
          · split at hc
            · cases hc; simp [crd] at hv
            · cases hc
          · cases hc
      · cases hc
    · cases hc; simp [crd] at hv
    · cases hc
    · rename_i b hcal
      obtain ⟨cs, hrun⟩ : ∃ cs, ∀ w, (execOp a.eval ⟨dst, .call c, type, pos, after, guard⟩).run P w = (builtin b c.argTypes type cs (c.args.map a.eval)).run P w :=
        ⟨_, fun w => by simp only [execOp, resolve, hcal, Sem.run_bind, Sem.run_pure, Result.andThen_ok, invoke]; rfl⟩
      split at hc
      · rename_i x hargs
        have hx := hr x (by have : x ∈ c.args.toList := by rw [hargs]; simp
                            simp [Call.operands, hcal]; simpa using this)
        have ha : c.args.map a.eval = #[a.eval x] := by rw [← Array.toArray_toList (xs := c.args), hargs]; simp
        simp only [Option.bind_eq_some_iff] at hc
        obtain ⟨d, ⟨t, ht, hd⟩, hc⟩ := hc
        split at hc
        · cases hc; simp [crd] at hv
        · cases hc; simp [crd] at hv
        · cases hc
          simp only [crd] at hv
          split at hv
          · rename_i e
            rw [e] at hx; cases hv
            refine ⟨_, .int _ _, ?_⟩
            have e2 : a.eval x = .map none := by generalize a.eval x = u at hx; cases hx; rfl
            rw [hrun, ha]
            simp [builtin, Builtin.len_, ht, run_underlying hd, e2, goInt]
          · rename_i m e
            rw [e] at hx
            split at hv
            · rename_i es ck hg
              cases hv
              refine ⟨_, .int _ _, ?_⟩
              obtain ⟨L, e2, hφ⟩ : ∃ L : Loc, a.eval x = .map (some L.b) ∧ φ m = some L := by generalize a.eval x = u at hx; cases hx with | map h => exact ⟨_, rfl, h⟩
              obtain ⟨en, h1, h2⟩ := s.obj m L _ hφ hg
              rw [hrun, ha]
              simp [builtin, Builtin.len_, ht, run_underlying hd, e2, goInt, getObj, Sem.run, h1, h2.size]
            · cases hv
          · cases hv
        · cases hc
      · simp only [Option.bind_eq_some_iff] at hc
        obtain ⟨_, _, _, _, hc⟩ := hc
        split at hc
        · simp only [Option.bind_eq_some_iff] at hc
          obtain ⟨_, _, _, _, _, _, _, _, _, _, hc⟩ := hc
          split at hc
          · cases hc; simp [crd] at hv
          · cases hc; simp [crd] at hv
          · cases hc
        · cases hc
      · simp only [Option.bind_eq_some_iff] at hc
        obtain ⟨_, _, _, _, hc⟩ := hc
        split at hc
        · simp only [Option.bind_eq_some_iff] at hc
          obtain ⟨_, _, hc⟩ := hc
          cases hc; simp [crd] at hv
        · cases hc
      · simp only [Option.bind_eq_some_iff] at hc
        obtain ⟨_, _, _, _, hc⟩ := hc
        split at hc
        · simp only [Option.bind_eq_some_iff] at hc
          obtain ⟨_, _, _, _, hc⟩ := hc
          cases hc; simp [crd] at hv
        · cases hc
      · cases hc; simp [crd] at hv
      · cases hc; simp [crd] at hv
      · cases hc; simp [crd] at hv
      · simp only [Option.bind_eq_some_iff] at hc
        obtain ⟨_, _, _, _, hc⟩ := hc
        split at hc
        · simp only [Option.bind_eq_some_iff] at hc
          obtain ⟨_, _, _, _, hc⟩ := hc
          cases hc; simp [crd] at hv
        · cases hc
      · simp only [Option.bind_eq_some_iff] at hc
        obtain ⟨_, _, _, _, hc⟩ := hc
        split at hc
        · simp only [Option.bind_eq_some_iff] at hc
          obtain ⟨_, _, _, _, hc⟩ := hc
          cases hc; simp [crd] at hv
        · cases hc
      · cases hc
  case entry x => cases hc; simp [crd] at hv
  case move x => cases hc; simp [crd] at hv
  case assign x => cases hc; simp [crd] at hv
  case pick c x y => cases hc; simp [crd] at hv
  case alloc t =>
    simp only [Option.bind_eq_some_iff] at hc
    obtain ⟨_, _, _, _, hc⟩ := hc; cases hc; simp [crd] at hv
  case box t x =>
    simp only [Option.bind_eq_some_iff] at hc
    obtain ⟨_, _, hc⟩ := hc; cases hc; simp [crd] at hv
  case build t ps =>
    simp only [Option.bind_eq_some_iff] at hc
    obtain ⟨_, _, _, _, hc⟩ := hc
    split at hc
    · simp only [Option.bind_eq_some_iff] at hc
      obtain ⟨_, _, _, _, hc⟩ := hc; cases hc; simp [crd] at hv
    · simp only [Option.bind_eq_some_iff] at hc
      obtain ⟨_, _, _, _, hc⟩ := hc; cases hc; simp [crd] at hv
    · cases hc
  case buildSlice t n ps =>
    simp only [Option.bind_eq_some_iff] at hc
    obtain ⟨_, _, hc⟩ := hc
    split at hc
    · simp only [Option.bind_eq_some_iff] at hc
      obtain ⟨_, _, _, _, _, _, hc⟩ := hc; cases hc; simp [crd] at hv
    · cases hc
  case insert t m k x =>
    simp only [Option.bind_eq_some_iff] at hc
    obtain ⟨_, _, hc⟩ := hc
    split at hc
    · simp only [Option.bind_eq_some_iff] at hc
      obtain ⟨_, _, _, _, hc⟩ := hc; cases hc; simp [crd] at hv
    · cases hc
  case mapUpdate t m k x =>
    simp only [Option.bind_eq_some_iff] at hc
    obtain ⟨_, _, hc⟩ := hc
    split at hc
    · simp only [Option.bind_eq_some_iff] at hc
      obtain ⟨_, _, _, _, hc⟩ := hc; cases hc; simp [crd] at hv
    · cases hc
  case store t x y =>
    simp only [Option.bind_eq_some_iff] at hc
    obtain ⟨_, _, hc⟩ := hc; cases hc; simp [crd] at hv
  case makeMap t r =>
    simp only [Option.bind_eq_some_iff] at hc
    obtain ⟨_, _, hc⟩ := hc; cases hc; simp [crd] at hv
  case makeSlice t l c =>
    simp only [Option.bind_eq_some_iff] at hc
    obtain ⟨_, _, hc⟩ := hc
    split at hc
    · simp only [Option.bind_eq_some_iff] at hc
      obtain ⟨_, _, _, _, _, _, _, _, hc⟩ := hc; cases hc; simp [crd] at hv
    · cases hc
  case nilCheck x => cases hc; simp [crd] at hv
  case binOp op t x y yt =>
    simp only [Option.bind_eq_some_iff] at hc
    obtain ⟨d, _, hc⟩ := hc
    split at hc
    · cases hc; simp [crd] at hv
    · cases hc; simp [crd] at hv
    · split at hc <;> first | (cases hc; simp [crd] at hv; done) | cases hc
    · simp only [Option.bind_eq_some_iff] at hc
      obtain ⟨k, _, hc⟩ := hc
      split at hc
      · split at hc
        · cases hc; simp [crd] at hv
        · split at hc
          · cases hc; simp [crd] at hv
          · cases hc
      · split at hc
        · cases hc; simp [crd] at hv
        · split at hc
          · cases hc; simp [crd] at hv
          · cases hc
      · cases hc
  case unOp op t x => cases hc; simp [crd] at hv
  case makeFunc fn f c =>
    split at hc
    · cases hc; simp [crd] at hv
    · cases hc
  case slice t x lo hi mx =>
    simp only [Option.bind_eq_some_iff] at hc
    obtain ⟨_, _, hc⟩ := hc
    split at hc
    · simp only [Option.bind_eq_some_iff] at hc
      obtain ⟨_, _, hc⟩ := hc; cases hc; simp [crd] at hv
    · simp only [Option.bind_eq_some_iff] at hc
      obtain ⟨_, _, _, _, hc⟩ := hc; cases hc; simp [crd] at hv
    · cases hc
  case fieldAddr t x f =>
    simp only [Option.bind_eq_some_iff] at hc
    obtain ⟨_, _, hc⟩ := hc
    split at hc
    · simp only [Option.bind_eq_some_iff] at hc
      obtain ⟨_, _, _, _, _, _, hc⟩ := hc; cases hc; simp [crd] at hv
    · cases hc
  case field t x f =>
    simp only [Option.bind_eq_some_iff] at hc
    obtain ⟨_, _, hc⟩ := hc
    split at hc
    · simp only [Option.bind_eq_some_iff] at hc
      obtain ⟨_, _, _, _, hc⟩ := hc; cases hc; simp [crd] at hv
    · cases hc
  case indexAddr t x i =>
    simp only [Option.bind_eq_some_iff] at hc
    obtain ⟨_, _, hc⟩ := hc
    split at hc
    · simp only [Option.bind_eq_some_iff] at hc
      obtain ⟨_, _, hc⟩ := hc; cases hc; simp [crd] at hv
    · simp only [Option.bind_eq_some_iff] at hc
      obtain ⟨_, _, hc⟩ := hc; cases hc; simp [crd] at hv
    · cases hc
  case index t x i =>
    simp only [Option.bind_eq_some_iff] at hc
    obtain ⟨_, _, hc⟩ := hc
    split at hc
    · simp only [Option.bind_eq_some_iff] at hc
      obtain ⟨_, _, _, _, hc⟩ := hc; cases hc; simp [crd] at hv
    · cases hc; simp [crd] at hv
    · cases hc
  case range t x =>
    simp only [Option.bind_eq_some_iff] at hc
    obtain ⟨_, _, hc⟩ := hc
    split at hc
    · cases hc; simp [crd] at hv
    · cases hc
  case next x b =>
    simp only [Option.bind_eq_some_iff] at hc
    obtain ⟨_, _, hc⟩ := hc; cases hc; simp [crd] at hv
  case extract x i => cases hc; simp [crd] at hv
  all_goals cases hc
end
end Go.Cn
/-! ## Operations that make memory. -/
namespace Go.Cn
open Go

theorem VA.list {φ : Emb} {xs ys : Array Value} (h : VA φ xs ys) : CellsAt φ xs.toList ys 0 := by
  refine ⟨by simp [h.1], fun i v e => ?_⟩
  obtain ⟨v', a, b⟩ := h.get? (v := v) (i := i) (by simpa using e)
  exact ⟨v', by simpa using a, b⟩
theorem VA.mono {φ ψ : Emb} (h : φ.le ψ) {xs ys : Array Value} (r : VA φ xs ys) : VA ψ xs ys := ⟨r.1, fun i hi => (r.2 i hi).mono h⟩
theorem CellsAt.more {φ : Emb} {l : List Value} {c : Array Value} {sh : Nat} (h : CellsAt φ l c sh) (d : Array Value) : CellsAt φ l (c ++ d) sh :=
  ⟨by rw [Array.size_append]; have := h.1; omega, fun i v e => by
    obtain ⟨v', a, b⟩ := h.2 i v e
    refine ⟨v', ?_, b⟩
    rw [Array.getElem?_append_left (Array.getElem?_eq_some_iff.1 a).1]; exact a⟩
theorem FrzFree.zero (c : Array Value) : FrzFree c (0, 0) := fun i _ h => by simp at h
theorem wrap_small {n : Int} (h0 : 0 ≤ n) (h1 : n ≤ 1048576) : IntKind.i64.wrap n = n := by
  unfold IntKind.wrap
  simp [IntKind.bits, IntKind.signed] at *
  omega
theorem zeros_eq (z : Array Value) (k : Nat) : ((Array.range (k * z.size)).map (fun i => z[i % z.size]!)).toList = (List.replicate k z.toList).flatten := by
  rw [Array.toList_map, Array.toList_range]
  induction k with
  | zero => simp
  | succ k ih =>
    rw [List.replicate_succ', List.flatten_append, ← ih]
    have : (k + 1) * z.size = k * z.size + z.size := by rw [Nat.add_mul, Nat.one_mul]
    rw [this, List.range_add, List.map_append]
    congr 1
    simp only [List.map_map, List.flatten_cons, List.flatten_nil, List.append_nil]
    apply List.ext_getElem
    · simp
    · intro i h1 h2
      simp at h1 h2
      simp [Nat.mul_comm k, Nat.mod_eq_of_lt h1, h1]

theorem modify_push {α : Type} (h : Array α) (x : α) (f : α → α) : (h.push x).modify h.size f = h.push (f x) := by
  apply Array.ext_getElem?
  intro i
  rw [Array.getElem?_modify, Array.getElem?_push, Array.getElem?_push]
  by_cases e : i = h.size
  · simp [e]
  · have : ¬ h.size = i := fun e' => e e'.symm
    simp [e, this]

/-- A new object lies at the world's end. -/
structure NewAt (P : Program) (φ : Emb) (w w' : World) (sz : Nat) (o : CObj) (rob : Obj) : Prop where
  heap : w'.heap = w.heap.push rob
  os : w'.os = w.os
  tape : w'.tape = w.tape
  out : w'.output = w.output
  obj : ∀ ψ : Emb, φ.le ψ → ∀ u : World, u.heap[w.heap.size]? = some rob → ObjAt P ψ u ⟨w.heap.size, 0, sz⟩ o

section
variable {P : Program} {φ : Emb} {tm : List Value} {a : Act}
theorem alloc_sound {o : Oper} {ci : CI} {ob : CObj} {f : Nat → Value} (hc : compOp P o = some ci) (hv : cal (cev tm) ci = some (ob, f))
    (hr : ∀ x ∈ o.op.operands.toList, VR φ (cev tm x) (a.eval x)) (w : World) :
    ∃ rob w' sz v', (execOp a.eval o).run P w = .ok (.value v') w' ∧ NewAt P φ w w' sz ob rob ∧ ob.isDead = false ∧ (∀ n, VR (φ.put n ⟨w.heap.size, 0, sz⟩) (f n) v') := by
  obtain ⟨dst, op, type, pos, after, guard⟩ := o
  unfold compOp at hc
  simp only [Option.bind_eq_bind, Option.bind_eq_some_iff] at hc
  obtain ⟨_, hok, hc⟩ := hc; clear hok
  have pt : ∀ sz n, VR (φ.put n ⟨w.heap.size, 0, sz⟩) (.pointer (some ⟨n, 0, none⟩)) (.pointer (some ⟨w.heap.size, 0, none⟩)) := fun sz n => VR.ptr (φ := φ.put n ⟨w.heap.size, 0, sz⟩) (L := ⟨w.heap.size, 0, sz⟩) (Emb.put_same _ _ _)
  cases op <;> simp only [Op.operands] at hr <;> simp only at hc
  case alloc t =>
    simp only [Option.bind_eq_some_iff] at hc
    obtain ⟨z, hz, u, hg, hc⟩ := hc
    cases hc
    simp only [cal] at hv
    cases hv
    have ha := (all_plain (φ := φ) (guardB_some hg))
    refine ⟨.cells z.cells t, { w with heap := w.heap.push (.cells z.cells t) }, z.cells.size, _, ?_, ⟨rfl, rfl, rfl, rfl, fun ψ hψ u hu => ⟨_, _, _, hu, rfl, ⟨fun _ => .zero _, rfl, fun _ => ⟨rfl, by simp⟩⟩, (ha.mono hψ).list⟩⟩, rfl, pt _⟩
    simp [execOp, Instr.alloc, run_zero hz, newVar, newRow]
  case box t x =>
    simp only [Option.bind_eq_some_iff] at hc
    obtain ⟨n, hn, hc⟩ := hc
    cases hc
    simp only [cal] at hv
    split at hv
    · cases hv
      have ha := (hr x (by simp)).cells
      refine ⟨.cells (a.eval x).cells t, { w with heap := w.heap.push (.cells (a.eval x).cells t) }, (a.eval x).cells.size, _, ?_, ⟨rfl, rfl, rfl, rfl, fun ψ hψ u hu => ⟨_, _, _, hu, rfl, ⟨fun _ => .zero _, rfl, fun _ => ⟨rfl, by have := ha.1; simp [this]⟩⟩, (ha.mono hψ).list⟩⟩, rfl, pt _⟩
      simp [execOp, Instr.box, newVar, newRow]
    · cases hv
  case makeMap t r =>
    simp only [Option.bind_eq_some_iff] at hc
    obtain ⟨u, hg, hc⟩ := hc
    have hr0 : r = none := by have := guardB_some hg; cases r <;> simp_all
    subst hr0
    cases hc
    simp only [cal] at hv
    cases hv
    refine ⟨.map #[] 0, { w with heap := w.heap.push (.map #[] 0) }, 0, .map (some w.heap.size), ?_, ⟨rfl, rfl, rfl, rfl, fun ψ _ u hu => ⟨#[], hu, MapAt.nil⟩⟩, rfl, fun n => VR.map (φ := φ.put n ⟨w.heap.size, 0, 0⟩) (L := ⟨w.heap.size, 0, 0⟩) (Emb.put_same _ _ _)⟩
    simp [execOp, Instr.makeMap]
  case buildSlice t len ps =>
    simp only [Option.bind_eq_some_iff] at hc
    obtain ⟨d, hd, hc⟩ := hc
    split at hc
    · rename_i e
      simp only [Option.bind_eq_some_iff] at hc
      obtain ⟨n, hn, z, hz, u, hg, hc⟩ := hc
      cases hc
      have hg := guardB_some hg
      simp only [Bool.and_eq_true, decide_eq_true_eq, bne_iff_ne, ne_eq, beq_iff_eq] at hg
      obtain ⟨⟨⟨g1, g2⟩, g3⟩, g4⟩ := hg
      simp only [cal, Option.map_eq_some_iff] at hv
      obtain ⟨c, hf, hv⟩ := hv
      cases hv
      have hz0 : VA φ ((List.range (len * n)).map fun i => z.cells[i % z.cells.size]!).toArray ((Array.range (len * n)).map (z.cells[· % z.cells.size]!)) := by
        have e : ((List.range (len * n)).map fun i => z.cells[i % z.cells.size]!).toArray = ((Array.range (len * n)).map (z.cells[· % z.cells.size]!)) := by
          apply Array.ext'; simp
        rw [e]
        refine .mk' rfl fun i x y e1 e2 => ?_
        rw [e1] at e2; cases e2
        rw [Array.getElem?_map, Option.map_eq_some_iff] at e1
        obtain ⟨j, _, rfl⟩ := e1
        have hlt : j % z.cells.size < z.cells.size := Nat.mod_lt _ (by omega)
        rw [getElem!_pos z.cells _ hlt]
        exact VR.plain_refl (Array.all_eq_true.1 g2 _ hlt)
      obtain ⟨r', h1, h2⟩ := fill_sound (φ := φ) (ρ := cev tm) (ρ' := a.eval) (place := fun i => some (i * n, n)) ps.toList (ps.toList.map fun (i, x) => (i * n, n, x)) _ _ c
        (fun p hp => hr p.2 (by simpa using ⟨p.1, by simpa using hp⟩)) (by simp) (fun i p q h1 h2 => by
          simp only [List.getElem?_map, h1, Option.map_some, Option.some.injEq] at h2
          subst h2; exact ⟨rfl, rfl⟩) hz0 (by simpa using hf)
      refine ⟨.cells r' e, { w with heap := w.heap.push (.cells r' e) }, r'.size, .slice (some ⟨w.heap.size, 0, none⟩) len len, ?_, ⟨rfl, rfl, rfl, rfl, fun ψ hψ u hu => ⟨_, _, _, hu, rfl, ⟨fun _ => .zero _, rfl, fun _ => ⟨rfl, by have := h2.1; simp [this]⟩⟩, (h2.mono hψ).list⟩⟩, rfl,
        fun m => VR.slc (φ := φ.put m ⟨w.heap.size, 0, r'.size⟩) (L := ⟨w.heap.size, 0, r'.size⟩) (Emb.put_same _ _ _) (Nat.le_refl _)⟩
      have h3 : Instr.fill (fun i => some (i * n, n)) ((Array.range (len * n)).map (z.cells[· % z.cells.size]!)) (List.map (fun x => (x.fst, a.eval x.snd)) ps.toList) = some r' := h1
      have hlim : ¬ len * n > 2 ^ 24 := by omega
      by_cases h0 : len * n = 0
      · have h4 : ((Array.range (len * n)).map ((#[] : Array Value)[· % (#[] : Array Value).size]!)) = ((Array.range (len * n)).map (z.cells[· % z.cells.size]!)) := by rw [h0]; simp
        simp only [execOp, Instr.buildSlice, Sem.run_bind, run_underlying hd, run_sizeOf hn, Result.andThen_ok]
        rw [if_neg hlim, if_pos h0]
        simp only [Sem.run_pure, Result.andThen_ok, Sem.run_bind]
        rw [h4]
        simp [h3, newRow]
      · simp only [execOp, Instr.buildSlice, Sem.run_bind, run_underlying hd, run_sizeOf hn, Result.andThen_ok]
        rw [if_neg hlim, if_neg h0]
        simp only [Sem.run_pure, Result.andThen_ok, Sem.run_bind, run_zero hz]
        simp [h3, newRow]
    · cases hc
  case makeSlice t l c =>
    simp only [Option.bind_eq_some_iff] at hc
    obtain ⟨d, hd, hc⟩ := hc
    split at hc
    · rename_i e
      simp only [Option.bind_eq_some_iff] at hc
      obtain ⟨n, hn, z, hz, i, hi, u, hg, hc⟩ := hc
      cases hc
      have hg := guardB_some hg
      simp only [Bool.and_eq_true, bne_iff_ne, ne_eq, beq_iff_eq] at hg
      obtain ⟨⟨g2, g3⟩, g4⟩ := hg
      simp only [cal] at hv
      split at hv
      · rename_i k1 x1 k2 x2 e1 e2
        split at hv
        · rename_i hb
          obtain ⟨b1, b2, b3, b4⟩ := hb
          cases hv
          have h1 := hr l (by simp); rw [e1] at h1
          have h2 := hr c (by simp); rw [e2] at h2
          have hcells : VA φ (List.replicate x2.toNat z.cells.toList).flatten.toArray ((Array.range (x2.toNat * n)).map (z.cells[· % z.cells.size]!)) := by
            have e : (List.replicate x2.toNat z.cells.toList).flatten.toArray = ((Array.range (x2.toNat * n)).map (z.cells[· % z.cells.size]!)) := by
              apply Array.ext'
              have := zeros_eq z.cells x2.toNat
              rw [g4] at this
              rw [g4]
              exact this.symm
            rw [e]
            refine .mk' rfl fun i x y e1 e2 => ?_
            rw [e1] at e2; cases e2
            rw [Array.getElem?_map, Option.map_eq_some_iff] at e1
            obtain ⟨j, _, rfl⟩ := e1
            have hlt : j % z.cells.size < z.cells.size := Nat.mod_lt _ (by omega)
            rw [getElem!_pos z.cells _ hlt]
            exact VR.plain_refl (Array.all_eq_true.1 g2 _ hlt)
          refine ⟨.cells ((Array.range (x2.toNat * n)).map (z.cells[· % z.cells.size]!)) e, { w with heap := w.heap.push (.cells ((Array.range (x2.toNat * n)).map (z.cells[· % z.cells.size]!)) e) }, _, .slice (some ⟨w.heap.size, 0, none⟩) x1.toNat x2.toNat, ?_,
            ⟨rfl, rfl, rfl, rfl, fun ψ hψ u hu => ⟨_, _, _, hu, rfl, ⟨fun _ => .zero _, rfl, fun h => by cases h⟩, ?_⟩⟩, rfl,
            fun m => VR.slc (φ := φ.put m ⟨w.heap.size, 0, _⟩) (L := ⟨w.heap.size, 0, _⟩) (Emb.put_same _ _ _) (by omega)⟩
          · have w1 := wrap_small b1 (by omega)
            have w2 : IntKind.i64.wrap x2 = x2 := wrap_small (by omega) b3
            have t1 : ¬ ((i.bytes : Int) * x2 > 2 ^ 48) := by
              have : (i.bytes : Int) * x2 ≤ 65536 * 1048576 := by
                calc (i.bytes : Int) * x2 ≤ 65536 * x2 := Int.mul_le_mul_of_nonneg_right (by omega) (by omega)
                  _ ≤ 65536 * 1048576 := by omega
              omega
            simp only [execOp, Instr.makeSlice, Sem.run_bind, run_underlying hd, Result.andThen_ok, h1.int_inv, h2.int_inv, asInt, asIntOf, Sem.run_pure, run_typeInfo hi, w1, w2]
            rw [if_neg (by simp; omega)]
            simp only [run_askRoom, Result.andThen_ok, Sem.run_bind, run_sizeOf hn]
            by_cases h0 : x2.toNat * n = 0
            · rw [if_pos h0]
              have h4 : ((Array.range (x2.toNat * n)).map ((#[] : Array Value)[· % (#[] : Array Value).size]!)) = ((Array.range (x2.toNat * n)).map (z.cells[· % z.cells.size]!)) := by rw [h0]; simp
              simp only [pure_bind]
              rw [h4]
              simp [newRow]
            · rw [if_neg h0]
              simp [newRow, run_zero hz]
          · have := (hcells.mono hψ).list
            simpa using this
        · cases hv
      · cases hv
    · cases hc
  case convert sd dd x =>
    simp only [Option.bind_eq_some_iff] at hc
    obtain ⟨s1, hs1, d1, hd1, hc⟩ := hc
    split at hc
    · cases hc; simp [cal] at hv
    · rename_i e
      simp only [Option.bind_eq_some_iff] at hc
      obtain ⟨ed, hed, hc⟩ := hc
      split at hc
      · cases hc
        simp only [cal] at hv
        split at hv
        · rename_i s es
          cases hv
          have hx := hr x (by simp)
          rw [es] at hx
          obtain ⟨cap, hcap, hlt⟩ : ∃ cap, (Question.appendCap s.size 0 e).cut (w.tape w.drawn (.appendCap s.size 0 e)) = cap ∧ s.size ≤ cap := ⟨_, rfl, by simp only [Question.cut]; omega⟩
          obtain ⟨c, hcd⟩ : ∃ c : Array Value, c = (s.data.map fun b => Value.int .u8 b.toNat) ++ Array.replicate (cap - s.size) (.int .u8 0) := ⟨_, rfl⟩
          have hsz : c.size = cap := by rw [hcd]; simp; have : s.data.size = s.size := rfl; omega
          have hca : ∀ ψ : Emb, CellsAt ψ (s.data.toList.map fun b => Value.int .u8 b.toNat) c 0 := fun ψ => by
            rw [hcd]
            refine CellsAt.more (φ := ψ) (sh := 0) ?_ _
            have : VA ψ (s.data.map fun b => Value.int .u8 b.toNat) (s.data.map fun b => Value.int .u8 b.toNat) := .mk' rfl fun i x y e1 e2 => by
              rw [e1] at e2; cases e2
              rw [Array.getElem?_map, Option.map_eq_some_iff] at e1
              obtain ⟨b, _, rfl⟩ := e1
              exact .int _ _
            have := this.list
            simpa using this
          refine ⟨.cells c e (cap, cap + 1), { w with heap := w.heap.push (.cells c e (cap, cap + 1)), drawn := w.drawn + 1 }, cap, .slice (some ⟨w.heap.size, 0, none⟩) s.size cap, ?_,
            ⟨rfl, rfl, rfl, rfl, fun ψ _ u hu => ⟨_, _, _, hu, hsz.symm, ⟨fun _ i hi h => by simp only at h; omega, rfl, fun h => by cases h⟩, hca ψ⟩⟩, rfl,
            fun n => VR.slo (φ := φ.put n ⟨w.heap.size, 0, cap⟩) (L := ⟨w.heap.size, 0, cap⟩) (Emb.put_same _ _ _) (Nat.le_refl _) hlt (by simp)⟩
          have hne : (Question.appendCap s.size 0 e).forced = false := rfl
          simp only [execOp, convert, Sem.run_bind, run_underlying hs1, run_underlying hd1, run_underlying hed, Result.andThen_ok, hx.str_inv, Conv.stringToBytes, run_choose, hne, hcap]
          simp only [Bool.false_eq_true, if_false, Result.andThen_ok, newRow, Sem.run_bind, run_newObj, Sem.run_pure, ← hcd, markStringish, run_shape, World.shape?]
          simp [World.freeze, hsz]
          rw [modify_push]; simp
        · cases hv
      · cases hc
    · simp only [Option.bind_eq_some_iff] at hc
      obtain ⟨ed, _, hc⟩ := hc
      split at hc
      · cases hc; simp [cal] at hv
      · cases hc
    · cases hc
  case load t x =>
    simp only [Option.bind_eq_some_iff] at hc
    obtain ⟨_, _, hc⟩ := hc; cases hc; simp [cal] at hv
  case lookup t x k ok =>
    simp only [Option.bind_eq_some_iff] at hc
    obtain ⟨_, _, hc⟩ := hc
    split at hc
    · simp only [Option.bind_eq_some_iff] at hc
      obtain ⟨_, _, _, _, _, _, _, _, hc⟩ := hc; cases hc; simp [cal] at hv
    · cases hc
  case entry x => cases hc; simp [cal] at hv
  case call c =>
    split at hc
    · split at hc
      · split at hc
        · split at hc
          · cases hc
          · cases hc; simp [cal] at hv
        · split at hc
          · split at hc
            · cases hc; simp [cal] at hv
            · cases hc
          · cases hc
      · cases hc
    · cases hc; simp [cal] at hv
    · cases hc
    · split at hc
      · simp only [Option.bind_eq_some_iff] at hc
        obtain ⟨d, ⟨t, ht, hd⟩, hc⟩ := hc
        split at hc <;> first | (cases hc; simp [cal] at hv; done) | cases hc
      · simp only [Option.bind_eq_some_iff] at hc
        obtain ⟨_, _, _, _, hc⟩ := hc
        split at hc
        · simp only [Option.bind_eq_some_iff] at hc
          obtain ⟨_, _, _, _, _, _, _, _, _, _, hc⟩ := hc
          split at hc
          · cases hc; simp [cal] at hv
          · cases hc; simp [cal] at hv
          · cases hc
        · cases hc
      · simp only [Option.bind_eq_some_iff] at hc
        obtain ⟨_, _, _, _, hc⟩ := hc
        split at hc
        · simp only [Option.bind_eq_some_iff] at hc
          obtain ⟨_, _, hc⟩ := hc
          cases hc; simp [cal] at hv
        · cases hc
      · simp only [Option.bind_eq_some_iff] at hc
        obtain ⟨_, _, _, _, hc⟩ := hc
        split at hc
        · simp only [Option.bind_eq_some_iff] at hc
          obtain ⟨_, _, _, _, hc⟩ := hc
          cases hc; simp [cal] at hv
        · cases hc
      · cases hc; simp [cal] at hv
      · cases hc; simp [cal] at hv
      · cases hc; simp [cal] at hv
      · simp only [Option.bind_eq_some_iff] at hc
        obtain ⟨_, _, _, _, hc⟩ := hc
        split at hc
        · simp only [Option.bind_eq_some_iff] at hc
          obtain ⟨_, _, _, _, hc⟩ := hc
          cases hc; simp [cal] at hv
        · cases hc
      · simp only [Option.bind_eq_some_iff] at hc
        obtain ⟨_, _, _, _, hc⟩ := hc
        split at hc
        · simp only [Option.bind_eq_some_iff] at hc
          obtain ⟨_, _, _, _, hc⟩ := hc
          cases hc; simp [cal] at hv
        · cases hc
      · cases hc
  case move x => cases hc; simp [cal] at hv
  case assign x => cases hc; simp [cal] at hv
  case pick c x y => cases hc; simp [cal] at hv
  case build t ps =>
    simp only [Option.bind_eq_some_iff] at hc
    obtain ⟨_, _, _, _, hc⟩ := hc
    split at hc
    · simp only [Option.bind_eq_some_iff] at hc
      obtain ⟨_, _, _, _, hc⟩ := hc; cases hc; simp [cal] at hv
    · simp only [Option.bind_eq_some_iff] at hc
      obtain ⟨_, _, _, _, hc⟩ := hc; cases hc; simp [cal] at hv
    · cases hc
  case insert t m k x =>
    simp only [Option.bind_eq_some_iff] at hc
    obtain ⟨_, _, hc⟩ := hc
    split at hc
    · simp only [Option.bind_eq_some_iff] at hc
      obtain ⟨_, _, _, _, hc⟩ := hc; cases hc; simp [cal] at hv
    · cases hc
  case mapUpdate t m k x =>
    simp only [Option.bind_eq_some_iff] at hc
    obtain ⟨_, _, hc⟩ := hc
    split at hc
    · simp only [Option.bind_eq_some_iff] at hc
      obtain ⟨_, _, _, _, hc⟩ := hc; cases hc; simp [cal] at hv
    · cases hc
  case store t x y =>
    simp only [Option.bind_eq_some_iff] at hc
    obtain ⟨_, _, hc⟩ := hc; cases hc; simp [cal] at hv
  case nilCheck x => cases hc; simp [cal] at hv
  case binOp op t x y yt =>
    simp only [Option.bind_eq_some_iff] at hc
    obtain ⟨d, _, hc⟩ := hc
    split at hc
    · cases hc; simp [cal] at hv
    · cases hc; simp [cal] at hv
    · split at hc <;> first | (cases hc; simp [cal] at hv; done) | cases hc
    · simp only [Option.bind_eq_some_iff] at hc
      obtain ⟨k, _, hc⟩ := hc
      split at hc
      · split at hc
        · cases hc; simp [cal] at hv
        · split at hc
          · cases hc; simp [cal] at hv
          · cases hc
      · split at hc
        · cases hc; simp [cal] at hv
        · split at hc
          · cases hc; simp [cal] at hv
          · cases hc
      · cases hc
  case unOp op t x => cases hc; simp [cal] at hv
  case makeFunc fn f c =>
    split at hc
    · cases hc; simp [cal] at hv
    · cases hc
  case slice t x lo hi mx =>
    simp only [Option.bind_eq_some_iff] at hc
    obtain ⟨_, _, hc⟩ := hc
    split at hc
    · simp only [Option.bind_eq_some_iff] at hc
      obtain ⟨_, _, hc⟩ := hc; cases hc; simp [cal] at hv
    · simp only [Option.bind_eq_some_iff] at hc
      obtain ⟨_, _, _, _, hc⟩ := hc; cases hc; simp [cal] at hv
    · cases hc
  case fieldAddr t x f =>
    simp only [Option.bind_eq_some_iff] at hc
    obtain ⟨_, _, hc⟩ := hc
    split at hc
    · simp only [Option.bind_eq_some_iff] at hc
      obtain ⟨_, _, _, _, _, _, hc⟩ := hc; cases hc; simp [cal] at hv
    · cases hc
  case field t x f =>
    simp only [Option.bind_eq_some_iff] at hc
    obtain ⟨_, _, hc⟩ := hc
    split at hc
    · simp only [Option.bind_eq_some_iff] at hc
      obtain ⟨_, _, _, _, hc⟩ := hc; cases hc; simp [cal] at hv
    · cases hc
  case indexAddr t x i =>
    simp only [Option.bind_eq_some_iff] at hc
    obtain ⟨_, _, hc⟩ := hc
    split at hc
    · simp only [Option.bind_eq_some_iff] at hc
      obtain ⟨_, _, hc⟩ := hc; cases hc; simp [cal] at hv
    · simp only [Option.bind_eq_some_iff] at hc
      obtain ⟨_, _, hc⟩ := hc; cases hc; simp [cal] at hv
    · cases hc
  case index t x i =>
    simp only [Option.bind_eq_some_iff] at hc
    obtain ⟨_, _, hc⟩ := hc
    split at hc
    · simp only [Option.bind_eq_some_iff] at hc
      obtain ⟨_, _, _, _, hc⟩ := hc; cases hc; simp [cal] at hv
    · cases hc; simp [cal] at hv
    · cases hc
  case range t x =>
    simp only [Option.bind_eq_some_iff] at hc
    obtain ⟨_, _, hc⟩ := hc
    split at hc
    · cases hc; simp [cal] at hv
    · cases hc
  case next x b =>
    simp only [Option.bind_eq_some_iff] at hc
    obtain ⟨_, _, hc⟩ := hc; cases hc; simp [cal] at hv
  case extract x i => cases hc; simp [cal] at hv
  all_goals cases hc
end
end Go.Cn
/-! ## Operations that write. -/
namespace Go.Cn
open Go

theorem VR.one {φ : Emb} {v v' : Value} (h : VR φ v v') (s : scalar v = true) : v'.oneCell' = true := by
  cases h <;> first | rfl | simp [scalar] at s
theorem setCell_heap {w : World} {b off : Nat} {v : Value} {c : Array Value} {el : TypeId} {fz : Nat × Nat} (h : w.heap[b]? = some (.cells c el fz)) :
    (w.setCell ⟨b, off, none⟩ v).heap = w.heap.setIfInBounds b (.cells (c.setIfInBounds off v) el fz) := by
  unfold World.setCell
  apply Array.ext_getElem?
  intro i
  simp only [Array.getElem?_modify, Array.getElem?_setIfInBounds]
  by_cases e : b = i
  · subst e
    have hlt : b < w.heap.size := (Array.getElem?_eq_some_iff.1 h).1
    rw [if_pos rfl, if_pos rfl, if_pos hlt, h]
    rfl
  · simp [e]
theorem run_stores {P : Program} {b off : Nat} {el : TypeId} {fz : Nat × Nat} : ∀ (vs : List Value) (i : Nat) (c : Array Value) (w : World), w.heap[b]? = some (.cells c el fz) → off + i + vs.length ≤ c.size →
    (∀ v ∈ vs, v.oneCell' = true) → FrzFree c fz →
    ∃ c' w', (storeCells ⟨b, off, none⟩ vs i).run P w = .ok () w' ∧ w'.heap = w.heap.setIfInBounds b (.cells c' el fz) ∧ (w'.os = w.os ∧ w'.tape = w.tape ∧ w'.output = w.output) ∧ c'.size = c.size ∧
      ∀ j, c'[j]? = if off + i ≤ j ∧ j < off + i + vs.length then vs[j - (off + i)]? else c[j]? := by
  intro vs
  induction vs with
  | nil =>
    intro i c w h _ _ _
    refine ⟨c, w, rfl, ?_, ⟨rfl, rfl, rfl⟩, rfl, fun j => by rw [if_neg (by simp)]⟩
    apply Array.ext_getElem?
    intro k
    rw [Array.getElem?_setIfInBounds]
    by_cases e : b = k
    · subst e; rw [if_pos rfl, if_pos (Array.getElem?_eq_some_iff.1 h).1, h]
    · rw [if_neg e]
  | cons v vs ih =>
    intro i c w h hsz h1 hf
    simp only [List.length_cons] at hsz
    have hlt : off + i < c.size := by omega
    have hv := h1 v (by simp)
    have hcell : w.cell? ⟨b, off + i, none⟩ = some c[off + i] := by rw [cell_of h]; simp [hlt]
    have hfr : w.frozen? ⟨b, off + i, none⟩ = false := by
      have := hf (off + i) hlt
      simp only [World.frozen?, h]
      simp only [Bool.and_eq_false_iff, decide_eq_false_iff_not]
      by_cases e : fz.1 ≤ off + i
      · exact .inr (fun e2 => this ⟨e, e2⟩)
      · exact .inl e
    have hh := setCell_heap (off := off + i) (v := v) h
    have hb : b < w.heap.size := (Array.getElem?_eq_some_iff.1 h).1
    have h' : (w.setCell ⟨b, off + i, none⟩ v).heap[b]? = some (.cells (c.setIfInBounds (off + i) v) el fz) := by rw [hh]; simp [hb]
    obtain ⟨c', w', r1, r2, r3, r4, r5⟩ := ih (i + 1) (c.setIfInBounds (off + i) v) _ h' (by simp; omega) (fun x hx => h1 x (by simp [hx])) (fun j hj => by simp at hj; exact hf j hj)
    refine ⟨c', w', ?_, ?_, ⟨r3.1, r3.2.1, r3.2.2⟩, by simpa using r4, fun j => ?_⟩
    · simp only [storeCells, Sem.run_bind, Addr.add_none, run_store _ _ _ _ _ hv, hcell, hfr, Bool.false_eq_true, if_false, Result.andThen_ok]
      exact r1
    · rw [r2, hh]
      apply Array.ext_getElem?
      intro k
      simp only [Array.getElem?_setIfInBounds, Array.size_setIfInBounds]
      by_cases e : b = k <;> simp [e]
    · rw [r5 j]
      simp only [List.length_cons]
      by_cases e1 : j = off + i
      · subst e1
        rw [if_neg (by omega), if_pos (by omega)]
        simp [hlt]
      · by_cases e2 : off + (i + 1) ≤ j ∧ j < off + (i + 1) + vs.length
        · rw [if_pos e2, if_pos (by omega)]
          have : j - (off + i) = (j - (off + (i + 1))) + 1 := by omega
          rw [this]; rfl
        · rw [if_neg e2, if_neg (by omega), Array.getElem?_setIfInBounds, if_neg (fun h => e1 h.symm)]

section
variable {P : Program} {φ : Emb} {tm : List Value} {a : Act} {H H1 : CH} {w : World}
theorem cwrite_sound (s : Sim P φ H w) {n off : Nat} {vs : List Value} (h : cwrite H n off vs = some H1) {L : Loc} (hn : φ n = some L) {vs' : List Value} (hv : VA φ vs.toArray vs'.toArray) :
    ∃ w', (storeCells ⟨L.b, L.sh + off, none⟩ vs').run P w = .ok () w' ∧ Sim P φ H1 w' ∧ Next φ H w φ H1 w' := by
  unfold cwrite at h
  split at h
  · rename_i cells t0 hg
    split at h
    · rename_i hk
      obtain ⟨hk, hsc⟩ := hk
      cases h
      obtain ⟨c, el, fz, h1, h2, h3, h4⟩ := s.obj n L _ hn hg
      have hl : vs'.length = vs.length := by have := hv.1; simp at this; exact this.symm
      obtain ⟨c', w', r1, r2, r3, r4, r5⟩ := run_stores (P := P) (off := L.sh + off) vs' 0 c w h1 (by have := h4.1; omega) (fun v' hm => by
        obtain ⟨i, hi⟩ := List.getElem?_of_mem hm
        have hi' : i < vs.length := by rw [← hl]; exact (List.getElem?_eq_some_iff.1 hi).1
        have := hv.rel i vs[i] v' (by simp [hi']) (by simpa using hi)
        exact this.one (List.all_eq_true.1 hsc _ (List.getElem_mem hi'))) (h3.1 rfl)
      have hb : L.b < w.heap.size := (s.dom n L hn).2
      refine ⟨w', r1, s.turn (o := .blk cells false t0) hn hg rfl (by simp [CObj.isLoop]) rfl r2 r3 ⟨c', el, fz, by rw [r2]; simp [hb], by rw [r4]; exact h2, ⟨fun _ i hi => h3.1 rfl i (by rw [← r4]; exact hi), h3.2.1, fun hw => ⟨(h3.2.2 hw).1, by rw [r4, (h3.2.2 hw).2]; simp; omega⟩⟩, ?_, fun i v e => ?_⟩⟩
      · rw [r4]; have := h4.1; simp; omega
      · rw [r5]
        simp only [Nat.add_zero]
        by_cases e1 : i < off
        · rw [List.append_assoc, List.getElem?_append_left (by simp; omega), List.getElem?_take, if_pos e1] at e
          rw [if_neg (by omega)]
          exact h4.2 i v e
        · by_cases e2 : i < off + vs.length
          · rw [List.append_assoc, List.getElem?_append_right (by simp; omega), List.getElem?_append_left (by simp; omega)] at e
            simp only [List.length_take] at e
            rw [if_pos (by omega)]
            have e3 : L.sh + i - (L.sh + off) = i - off := by omega
            have e4 : i - min off cells.length = i - off := by omega
            rw [e4] at e
            rw [e3]
            obtain ⟨v', g1, g2⟩ := hv.get? (i := i - off) (v := v) (by simpa using e)
            exact ⟨v', by simpa using g1, g2⟩
          · rw [List.getElem?_append_right (by simp; omega), List.getElem?_drop] at e
            simp only [List.length_append, List.length_take] at e
            rw [if_neg (by omega)]
            have e4 : off + vs.length + (i - (min off cells.length + vs.length)) = i := by omega
            rw [e4] at e
            exact h4.2 i v e
    · cases h
  · cases h

theorem store_sound (s : Sim P φ H w) {t : TypeId} {k : Nat} (hk : sizeAt P t = some k) {x v x' v' : Value} (hx : VR φ x x') (hv : VR φ v v') {r : Value} {H1 : CH}
    (h : ceff (fun o => match o with | .tmp 0 => x | _ => v) H (.st (.tmp 0) (.tmp 1) k) = some (r, H1)) :
    r = undef ∧ ∃ w', (Instr.storeAt t x' v').run P w = .ok () w' ∧ Sim P φ H1 w' ∧ Next φ H w φ H1 w' := by
  simp only [ceff] at h
  split at h
  · rename_i ad e
    split at h
    · rename_i hsz
      simp only [Option.map_eq_some_iff, Prod.mk.injEq] at h
      obtain ⟨H', hw, rfl, rfl⟩ := h
      refine ⟨rfl, ?_⟩
      obtain ⟨L, h1, h2, h3⟩ := hx.ptr_inv
      have hc := hv.cells
      obtain ⟨w', r1, r2, r3⟩ := cwrite_sound s hw h1 (vs' := v'.cells.toList) (by simpa using hc)
      refine ⟨w', ?_, r2, r3⟩
      have : ¬ v'.cells.size ≠ k := by rw [← hc.1, hsz]; simp
      simp only [Instr.storeAt, h3, Instr.sureAddr, storeVar, Sem.run_bind, Sem.run_pure, Result.andThen_ok, run_sizeOf hk]
      rw [if_neg this]
      exact r1
    · cases h
  · cases h
end
end Go.Cn
/-! ## append. -/
namespace Go.Cn
open Go

section
variable {P : Program} {φ : Emb} {H : CH} {w w' : World}
/-- A block is given up. -/
theorem Sim.kill (s : Sim P φ H w) {n : Nat} {o : CObj} (hn : φ n ≠ none) (ho : H.get n = some o) (hl : o.isLoop = false) :
    Sim P φ (H.set n .dead) w ∧ Next φ H w φ (H.set n .dead) w := by
  constructor
  · constructor
    · intro m M hm; rw [CH.next_set]; exact s.dom m M hm
    · intro a b A B x y ha hb hx hy dx dy e
      rw [CH.get_set] at hx hy
      split at hx
      · cases hx; simp [CObj.isDead] at dx
      · split at hy
        · cases hy; simp [CObj.isDead] at dy
        · exact s.inj _ _ _ _ _ _ ha hb hx hy dx dy e
    · intro m M x hm hx
      rw [CH.get_set] at hx
      split at hx
      · cases hx; trivial
      · exact s.obj m M x hm hx
    · intro m hm
      rw [CH.next_set] at hm
      rw [CH.get_set, if_neg]
      · exact s.fin m hm
      · intro e
        have := s.fin m hm
        rw [e, ho] at this; cases this
  · refine ⟨φ.le_refl, Nat.le_refl _, Nat.le_refl _, fun n L h k => (by rw [h] at k; cases k), fun m _ hm => ?_, fun m x _ hx hxl => ?_, fun _ _ h => h, fun r _ h m M x hm e hx => ?_, fun _ _ _ => rfl, rfl, rfl, rfl⟩
    · rw [CH.get_set, if_neg]; intro e; rw [e] at hm; exact hn hm
    · refine ⟨x, ?_, hxl⟩
      rw [CH.get_set, if_neg]
      · exact hx
      · intro e; rw [e, ho] at hx; cases hx; rw [hl] at hxl; cases hxl
    · rw [CH.get_set] at hx
      split at hx
      · cases hx; rfl
      · exact h m M x hm e hx

/-- A block goes on under another name. -/
theorem Sim.move (s : Sim P φ H w) {n sh : Nat} {L : Loc} {o o1 : CObj} {ob : Obj} (hn : φ n = some L) (ho : H.get n = some o) (hf : o.fixed = false) (hl : o.isLoop = false)
    (hw : w'.heap = w.heap.setIfInBounds L.b ob) (he : w'.os = w.os ∧ w'.tape = w.tape ∧ w'.output = w.output)
    (hob : ∀ ψ : Emb, φ.le ψ → ObjAt P ψ w' ⟨L.b, sh, L.sz⟩ o1) :
    Sim P (φ.put H.next ⟨L.b, sh, L.sz⟩) ((H.set n .dead).add o1) w' ∧ Next φ H w (φ.put H.next ⟨L.b, sh, L.sz⟩) ((H.set n .dead).add o1) w' := by
  have hfr := s.fresh
  have hle := Emb.put_le ⟨L.b, sh, L.sz⟩ hfr
  have hs : w'.heap.size = w.heap.size := by rw [hw]; simp
  have hnd : o.isDead = false := by cases o <;> simp_all [CObj.fixed, CObj.isDead]
  have hget : ∀ m, ((H.set n .dead).add o1).get m = if m = H.next then some o1 else if m = n then some .dead else H.get m := fun m => by
    rw [CH.get_add, CH.next_set, CH.get_set]
  constructor
  · constructor
    · intro m M hm
      rw [CH.next_add, CH.next_set, hs]
      by_cases e : m = H.next
      · subst e; rw [Emb.put_same] at hm; cases hm
        exact ⟨by omega, (s.dom n L hn).2⟩
      · rw [Emb.put_ne _ _ e] at hm
        have := s.dom m M hm; omega
    · intro a b A B x y ha hb hx hy dx dy e
      rw [hget] at hx hy
      by_cases ea : a = H.next
      · by_cases eb : b = H.next
        · rw [ea, eb]
        · rw [if_neg eb] at hy; rw [Emb.put_ne _ _ eb] at hb
          subst ea; rw [Emb.put_same] at ha; cases ha
          split at hy
          · cases hy; simp [CObj.isDead] at dy
          · rename_i ebn
            exact absurd (s.inj _ _ _ _ _ _ hn hb ho hy hnd dy e) (fun h => ebn h.symm)
      · rw [if_neg ea] at hx; rw [Emb.put_ne _ _ ea] at ha
        split at hx
        · cases hx; simp [CObj.isDead] at dx
        · rename_i ean
          by_cases eb : b = H.next
          · subst eb; rw [Emb.put_same] at hb; cases hb
            exact absurd (s.inj _ _ _ _ _ _ ha hn hx ho dx hnd e) ean
          · rw [if_neg eb] at hy; rw [Emb.put_ne _ _ eb] at hb
            split at hy
            · cases hy; simp [CObj.isDead] at dy
            · exact s.inj _ _ _ _ _ _ ha hb hx hy dx dy e
    · intro m M x hm hx
      rw [hget] at hx
      by_cases em : m = H.next
      · subst em; rw [if_pos rfl] at hx; cases hx
        rw [Emb.put_same] at hm; cases hm
        exact hob _ hle
      · rw [if_neg em] at hx; rw [Emb.put_ne _ _ em] at hm
        split at hx
        · cases hx; trivial
        · rename_i emn
          cases hxd : x.isDead with
          | true => cases x <;> simp [CObj.isDead] at hxd; trivial
          | false =>
            refine ((s.obj m M x hm hx).mono hle).heap ?_
            have : M.b ≠ L.b := fun e => emn (s.inj _ _ _ _ _ _ hm hn hx ho hxd hnd e)
            rw [hw, Array.getElem?_setIfInBounds_ne (Ne.symm this)]
    · intro m hm
      rw [CH.next_add, CH.next_set] at hm
      have := (s.dom n L hn).1
      rw [hget, if_neg (by omega), if_neg (by omega)]
      exact s.fin m (by omega)
  · constructor
    · exact hle
    · rw [CH.next_add, CH.next_set]; omega
    · rw [hs]; exact Nat.le_refl _
    · intro m M h k
      by_cases em : m = H.next
      · omega
      · rw [Emb.put_ne _ _ em, h] at k; cases k
    · intro m hm hp
      rw [hget, if_neg (by omega), if_neg]
      intro e; rw [e, hn] at hp; cases hp
    · intro m x hm hx hxl
      refine ⟨x, ?_, hxl⟩
      rw [hget, if_neg, if_neg]
      · exact hx
      · intro e; rw [e, ho] at hx; cases hx; rw [hl] at hxl; cases hxl
      · intro e; rw [e] at hm; exact hm hfr
    · intro r hr h m M hm
      by_cases em : m = H.next
      · subst em; rw [Emb.put_same] at hm; cases hm; exact h n L hn
      · rw [Emb.put_ne _ _ em] at hm; exact h m M hm
    · intro r hr h m M x hm e hx
      rw [hget] at hx
      by_cases em : m = H.next
      · subst em; rw [Emb.put_same] at hm; cases hm
        have := h n L o hn e ho
        rw [hf] at this; cases this
      · rw [if_neg em] at hx; rw [Emb.put_ne _ _ em] at hm
        split at hx
        · cases hx; rfl
        · exact h m M x hm e hx
    · intro r hr h
      have : L.b ≠ r := by
        intro e
        have := h n L o hn e ho
        rw [hf] at this; cases this
      rw [hw, Array.getElem?_setIfInBounds_ne this]
    · exact he.1
    · exact he.2.1
    · exact he.2.2
end

theorem growBy_le (m : Nat) : ∀ (r c : Nat), c ≤ m → Builtin.growBy m r c ≤ 2 * m + 200 := by
  intro r
  induction r with
  | zero => intro c h; simp [Builtin.growBy]; omega
  | succ r ih =>
    intro c h
    simp only [Builtin.growBy]
    split
    · omega
    · by_cases h2 : c + (c + 768) / 4 ≤ m
      · exact ih _ h2
      · cases r with
        | zero => simp only [Builtin.growBy]; omega
        | succ r => simp only [Builtin.growBy]; rw [if_pos (by omega)]; omega
theorem nextcap_le {need cap : Nat} (h : cap < need) : Builtin.nextslicecap need cap ≤ 2 * need + 200 := by
  unfold Builtin.nextslicecap
  split
  · omega
  · split
    · omega
    · exact growBy_le _ _ _ (by omega)

section
variable {P : Program} {φ : Emb} {H H1 : CH} {w : World}
/-- What is appended. -/
theorem cfirst_sound (s : Sim P φ H w) {es n : Nat} {x x' : Value} (hx : VR φ x x') (hn : clenOf x = some n) {l : List Value} (h : cfirst H es n x = some l) :
    (Builtin.lenOf x').run P w = .ok n w ∧ ∃ ys, VA φ l.toArray ys ∧ (Builtin.firstCells es n x').run P w = .ok ys w := by
  have emp : VA φ (#[] : Array Value) #[] := .mk' rfl fun i x y e => by simp at e
  cases hx with
  | string b =>
    simp only [clenOf, Option.some.injEq] at hn
    subst hn
    simp only [cfirst, Option.some.injEq] at h
    subst h
    refine ⟨rfl, _, ?_, rfl⟩
    refine .mk' ?_ fun i x y e1 e2 => ?_
    · simp
    · have e3 : (b.extract 0 b.size).data = b.data := by simp
      rw [e3] at e2
      simp only [List.getElem?_toArray, List.getElem?_map, Option.map_eq_some_iff] at e1
      simp only [Array.getElem?_map, Option.map_eq_some_iff] at e2
      obtain ⟨c, h1, rfl⟩ := e1
      obtain ⟨d, h2, rfl⟩ := e2
      rw [List.take_of_length_le (by simp)] at h1
      rw [Array.getElem?_toList, h2] at h1
      cases h1
      exact .int _ _
  | snil =>
    simp only [clenOf, Option.some.injEq] at hn
    subst hn
    simp only [cfirst, Option.some.injEq] at h
    subst h
    exact ⟨rfl, #[], emp, rfl⟩
  | @slc m off len cap L hφ hl =>
    simp only [clenOf, Option.some.injEq] at hn
    subst hn
    simp only [cfirst] at h
    obtain ⟨c, el, fz, g1, g2, g3, g4, g5⟩ := ccells_sound s h hφ
    exact ⟨rfl, _, g3, g5⟩
  | @slo m off es' len lb cap' L hφ hl hc hz =>
    simp only [clenOf, Option.some.injEq] at hn
    subst hn
    simp only [cfirst] at h
    obtain ⟨c, el, fz, g1, g2, g3, g4, g5⟩ := ccells_sound s h hφ
    exact ⟨rfl, _, g3, g5⟩
  | slz _ =>
    simp only [clenOf, Option.some.injEq] at hn
    subst hn
    simp only [cfirst, Nat.zero_mul] at h
    have hl : l = [] := by
      unfold ccells at h
      split at h
      · split at h
        · cases h; simp
        · cases h
      · cases h
    subst hl
    exact ⟨rfl, #[], emp, by simp [Builtin.firstCells, loadCells, loadCellsFrom]⟩
  | _ => simp [clenOf] at hn
end
end Go.Cn
/-! ## append: the theorem. -/
namespace Go.Cn
open Go

theorem emb_set_next (H : CH) (n : Nat) (o : CObj) : (H.set n o).next = H.next := rfl
theorem VA.append {φ : Emb} {a b c d : Array Value} (h : VA φ a b) (k : VA φ c d) : VA φ (a ++ c) (b ++ d) := by
  refine .mk' (by simp [h.1, k.1]) fun i x y e1 e2 => ?_
  rw [Array.getElem?_append] at e1 e2
  rw [← h.1] at e2
  split at e1
  · rename_i hi
    rw [if_pos hi] at e2
    exact h.rel _ _ _ e1 e2
  · rename_i hi
    rw [if_neg hi] at e2
    exact k.rel _ _ _ e1 e2

section
variable {P : Program} {φ : Emb} {H H1 : CH} {w : World}
/-- append, to where it parts. -/
theorem app_start {argTypes : Array TypeId} {ty st xt e : TypeId} (ht0 : argTypes[0]? = some st) (ht1 : argTypes[1]? = some xt)
    (hst : P.underlying st = some (.slice e)) {xd : TypeDesc} (hxt : P.underlying xt = some xd) (hxi : (∃ q, xd = .slice q) ∨ xd = .string)
    {es : Nat} (hes : sizeAt P e = some es) {i : TypeInfo} (hi : P.info? e = some i) (hb0 : 0 < i.bytes) (hb1 : i.bytes ≤ 4096) {z : Value} (hz : zeroAt P e = some z)
    {base' : Option Addr} {len cap' n : Nat} {x' : Value} (hlen : (Builtin.lenOf x').run P w = .ok n w) (hbnd : ¬ len + n ≤ cap' → i.bytes * (len + n) ≤ 68719476736) :
    (Builtin.append_ argTypes ty #[.slice base' len cap', x']).run P w = (if len + n ≤ cap' then (do
        let new ← Builtin.firstCells es n x'
        match base' with
        | some a => do
          storeCells (a.add (len * es)) new.toList
          pure (.slice base' (len + n) cap')
        | none => pure (.slice base' (len + n) cap') : Sem Value) else (do
        let newCap ← choose (.appendCap (len + n) cap' e)
        let old ← Builtin.firstCells es len (.slice base' len cap')
        let new ← Builtin.firstCells es n x'
        pure (.slice (some (← newRow e (old ++ new ++ Builtin.zeroCells z.cells (newCap - (len + n))))) (len + n) newCap))).run P w := by
  unfold Builtin.append_
  rcases hxi with ⟨q, rfl⟩ | rfl <;>
  · simp only [ht0, ht1, List.getElem?_toArray, List.getElem?_cons_zero, List.getElem?_cons_succ, Sem.run_bind, run_underlying hst, run_underlying hxt, Result.andThen_ok, run_sizeOf hes, Sem.run_pure]
    simp only [Bool.false_eq_true, if_false, hlen, Result.andThen_ok, Bool.not_false, if_true, Sem.run_bind]
    by_cases hle : len + n ≤ cap'
    · rw [if_pos hle, if_pos hle]
      cases base' <;> simp only [Sem.run_bind]
    · rw [if_neg hle, if_neg hle]
      have hb := hbnd hle
      have hnx := nextcap_le (need := len + n) (cap := cap') (by omega)
      have hmul : Builtin.nextslicecap (len + n) cap' * i.bytes ≤ 2 ^ 48 := by
        calc Builtin.nextslicecap (len + n) cap' * i.bytes ≤ (2 * (len + n) + 200) * i.bytes := Nat.mul_le_mul_right _ hnx
          _ = 2 * (i.bytes * (len + n)) + 200 * i.bytes := by rw [Nat.add_mul, Nat.mul_assoc, Nat.mul_comm (len + n)]
          _ ≤ 2 * 68719476736 + 200 * 4096 := by omega
          _ ≤ 2 ^ 48 := by decide
      have hbn : ¬ i.bytes = 0 := by omega
      simp only [run_typeInfo hi, Sem.run_bind, Result.andThen_ok, hbn, and_false, if_false, false_or]
      rw [if_neg (by omega)]
      simp only [Sem.run_bind, run_askRoom, run_zero hz, Result.andThen_ok, run_typeInfo hi]
theorem zc_size (z : Array Value) (n : Nat) : (Builtin.zeroCells z n).size = n * z.size := by simp [Builtin.zeroCells]
/-- A new array. -/
theorem realloc_sound (s : Sim P φ H w) {es len n cap' : Nat} {e : TypeId} {z : Value} (hzs : z.cells.size = es) {base' : Option Addr} {x' : Value} {old news : List Value} {ys : Array Value}
    (hol : old.length = len * es) (hnl : news.length = n * es)
    (ho : ∃ os, VA φ old.toArray os ∧ ∀ u : World, u.heap = w.heap → (Builtin.firstCells es len (.slice base' len cap')).run P u = .ok os u)
    (hnw : VA φ news.toArray ys ∧ ∀ u : World, u.heap = w.heap → (Builtin.firstCells es n x').run P u = .ok ys u) :
    ∃ φ1 w1 v', ((do
        let newCap ← choose (.appendCap (len + n) cap' e)
        let old ← Builtin.firstCells es len (.slice base' len cap')
        let new ← Builtin.firstCells es n x'
        pure (.slice (some (← newRow e (old ++ new ++ Builtin.zeroCells z.cells (newCap - (len + n))))) (len + n) newCap)) : Sem Value).run P w = .ok v' w1 ∧
      VR φ1 (.slice (some ⟨H.next, 0, some es⟩) (len + n) (len + n)) v' ∧ Sim P φ1 (H.add (.blk (old ++ news) false ⟨e, false⟩)) w1 ∧ Next φ H w φ1 (H.add (.blk (old ++ news) false ⟨e, false⟩)) w1 := by
  obtain ⟨os, ho1, ho2⟩ := ho
  obtain ⟨hn1, hn2⟩ := hnw
  obtain ⟨cap, hcap, hlt⟩ : ∃ cap, (Question.appendCap (len + n) cap' e).cut (w.tape w.drawn (.appendCap (len + n) cap' e)) = cap ∧ len + n ≤ cap := ⟨_, rfl, by simp only [Question.cut]; omega⟩
  obtain ⟨c, hc⟩ : ∃ c : Array Value, c = os ++ ys ++ Builtin.zeroCells z.cells (cap - (len + n)) := ⟨_, rfl⟩
  have hsz : c.size = cap * es := by
    rw [hc, Array.size_append, Array.size_append, zc_size, hzs, ← ho1.1, ← hn1.1]
    simp only [List.size_toArray, hol, hnl]
    rw [← Nat.add_mul, ← Nat.add_mul]; congr 1; omega
  have hca : ∀ ψ : Emb, φ.le ψ → CellsAt ψ (old ++ news) c 0 := fun ψ hψ => by
    rw [hc]
    refine CellsAt.more (φ := ψ) (sh := 0) ?_ _
    have := ((ho1.append hn1).mono hψ).list
    simpa using this
  obtain ⟨s1, n1⟩ := s.add (P := P) (w' := { w with heap := w.heap.push (.cells c e), drawn := w.drawn + 1 }) (sz := c.size) (o := .blk (old ++ news) false ⟨e, false⟩) (ob := .cells c e) rfl ⟨rfl, rfl, rfl⟩
    (fun ψ hψ u hu => ⟨_, _, _, hu, rfl, ⟨fun _ => .zero _, rfl, fun h => by cases h⟩, hca ψ hψ⟩)
  refine ⟨_, _, .slice (some ⟨w.heap.size, 0, none⟩) (len + n) cap, ?_, VR.slo (L := ⟨w.heap.size, 0, c.size⟩) (Emb.put_same _ _ _) (Nat.le_refl _) hlt (by simp [hsz]), s1, n1⟩
  have hne : (Question.appendCap (len + n) cap' e).forced = false := rfl
  simp only [Sem.run_bind, run_choose, hne, hcap, Bool.false_eq_true, if_false, Result.andThen_ok]
  rw [ho2 { w with drawn := w.drawn + 1 } rfl]
  simp only [Result.andThen_ok]
  rw [hn2 { w with drawn := w.drawn + 1 } rfl]
  simp only [Result.andThen_ok, newRow, Sem.run_bind, run_newObj, Sem.run_pure, ← hc]

theorem first_any (s : Sim P φ H w) {es k : Nat} {n off : Nat} {L : Loc} (hφ : φ n = some L) {len cap' : Nat} {l : List Value} (h : (if len = 0 then some [] else ccells H n off (len * es)) = some l) (_ : k = len) :
    l.length = len * es ∧ ∃ os, VA φ l.toArray os ∧ ∀ u : World, u.heap = w.heap → (Builtin.firstCells es len (.slice (some ⟨L.b, L.sh + off, none⟩) len cap')).run P u = .ok os u := by
  split at h
  · rename_i h0
    cases h
    subst h0
    exact ⟨by simp, #[], .mk' rfl (fun i x y e => by simp at e), fun u _ => by simp [Builtin.firstCells, loadCells, loadCellsFrom]⟩
  · obtain ⟨c, el, fz, g1, g2, g3, g4, g5⟩ := ccells_sound s h hφ
    exact ⟨g4, _, g3, fun u hu => run_loadCells_at (by rw [hu]; exact g1) (by omega)⟩

theorem app_sound (s : Sim P φ H w) {argTypes : Array TypeId} {ty st xt e : TypeId} (ht0 : argTypes[0]? = some st) (ht1 : argTypes[1]? = some xt)
    (hst : P.underlying st = some (.slice e)) {xd : TypeDesc} (hxt : P.underlying xt = some xd) (hxi : (∃ q, xd = .slice q) ∨ xd = .string)
    {es : Nat} (hes : sizeAt P e = some es) {i : TypeInfo} (hi : P.info? e = some i) (hb0 : 0 < i.bytes) (hb1 : i.bytes ≤ 4096) {z : Value} (hz0 : zeroAt P e = some z) (hzs : z.cells.size = es)
    {sv x sv' x' v : Value} (hs : VR φ sv sv') (hx : VR φ x x') (h : capp H es i.bytes e sv x = some (v, H1)) :
    ∃ φ1 w1 v', (Builtin.append_ argTypes ty #[sv', x']).run P w = .ok v' w1 ∧ VR φ1 v v' ∧ Sim P φ1 H1 w1 ∧ Next φ H w φ1 H1 w1 := by
  unfold capp at h
  simp only [Option.bind_eq_bind, Option.bind_eq_some_iff] at h
  obtain ⟨n, hn, news, hnews, gu, hgu, h⟩ := h
  have hnl : news.length = n * es := by simpa using guardB_some hgu
  obtain ⟨hlen, ys, hys, hfc⟩ := cfirst_sound s hx hn hnews
  have hany : ∀ u : World, u.heap = w.heap → (Builtin.firstCells es n x').run P u = .ok ys u := fun u hu => by
    cases hx with
    | string b => simp only [Builtin.firstCells, Sem.run_pure] at hfc ⊢; cases hfc; rfl
    | snil => simp only [Builtin.firstCells, Sem.run_pure] at hfc ⊢; cases hfc; rfl
    | @slc m off _ _ L hφ hl =>
      simp only [clenOf, Option.some.injEq] at hn; subst hn
      obtain ⟨c, el, fz, g1, g2, g3, g4, g5⟩ := ccells_sound s hnews hφ
      simp only [Builtin.firstCells] at hfc ⊢
      rw [g5] at hfc; cases hfc
      exact run_loadCells_at (by rw [hu]; exact g1) (by omega)
    | @slo m off es' _ lb cap' L hφ hl hc hz =>
      simp only [clenOf, Option.some.injEq] at hn; subst hn
      obtain ⟨c, el, fz, g1, g2, g3, g4, g5⟩ := ccells_sound s hnews hφ
      simp only [Builtin.firstCells] at hfc ⊢
      rw [g5] at hfc; cases hfc
      exact run_loadCells_at (by rw [hu]; exact g1) (by omega)
    | slz _ =>
      simp only [clenOf, Option.some.injEq] at hn; subst hn
      simp [Builtin.firstCells, loadCells, loadCellsFrom] at hfc ⊢
      exact hfc
    | _ => simp [clenOf] at hn
  have bnd : ∀ {q : Nat} {ws : List Value}, i.bytes * q ≤ 68719476736 ∧ ws.all scalar = true → i.bytes * q ≤ 68719476736 := fun h => h.1
  split at h
  case h_2 => cases h
  rename_i base len cap
  split at h
  · -- there is room
    rename_i hroom
    split at h
    · -- nil
      cases h
      cases hs
      have h0 : n = 0 := by omega
      subst h0
      have hnw : news = [] := List.length_eq_zero_iff.1 (by omega)
      subst hnw
      refine ⟨φ, w, .slice none 0 0, ?_, .snil, s, Next.refl _ _ _⟩
      rw [app_start ht0 ht1 hst hxt hxi hes hi hb0 hb1 hz0 hlen (by omega)]
      simp [hfc]
    · rename_i ad
      simp only [Option.bind_eq_some_iff] at h
      obtain ⟨H', hw, h⟩ := h
      cases h
      have hyl : ys.toList.length = news.length := by have := hys.1; simp at this; simp [this]
      split at hw
      · rename_i hem
        cases hw
        have hnw : news = [] := by simpa using hem
        subst hnw
        have hys0 : ys = #[] := Array.eq_empty_of_size_eq_zero (by have := hys.1; simpa using this.symm)
        subst hys0
        obtain ⟨base', cap', e1, hcc⟩ : ∃ b c, sv' = .slice (some b) len c ∧ cap ≤ c := by cases hs <;> exact ⟨_, _, rfl, by omega⟩
        subst e1
        refine ⟨φ, w, .slice (some base') (len + n) cap', ?_, ?_, s, Next.refl _ _ _⟩
        · rw [app_start ht0 ht1 hst hxt hxi hes hi hb0 hb1 hz0 hlen (by omega), if_pos (by omega)]
          simp [hfc, storeCells]
        · cases hs with
          | slc hφ hl => exact .slc hφ hroom
          | slo hφ hl hc hz => exact .slo hφ hroom hc hz
          | slz hh =>
            have : n = 0 := by omega
            subst this
            exact .slz hh
      · rename_i hem
        have run : ∀ (L : Loc) (m off cap' : Nat), φ m = some L → cwrite H m (off + len * es) news = some H1 → len + n ≤ cap' →
            ∃ w1, (Builtin.append_ argTypes ty #[.slice (some ⟨L.b, L.sh + off, none⟩) len cap', x']).run P w = .ok (.slice (some ⟨L.b, L.sh + off, none⟩) (len + n) cap') w1 ∧ Sim P φ H1 w1 ∧ Next φ H w φ H1 w1 := by
          intro L m off cap' hφ hcw hle
          obtain ⟨w1, r1, r2, r3⟩ := cwrite_sound s hcw hφ (vs' := ys.toList) (by simpa using hys)
          refine ⟨w1, ?_, r2, r3⟩
          rw [app_start ht0 ht1 hst hxt hxi hes hi hb0 hb1 hz0 hlen (by omega), if_pos hle]
          simp only [Sem.run_bind, hfc, Result.andThen_ok, Addr.add_none, Nat.add_assoc]
          rw [r1]
          rfl
        cases hs with
        | slc hφ hl =>
          obtain ⟨w1, r1, r2, r3⟩ := run _ _ _ _ hφ hw hroom
          exact ⟨φ, w1, _, r1, .slc hφ hroom, r2, r3⟩
        | slo hφ hl hc hz =>
          obtain ⟨w1, r1, r2, r3⟩ := run _ _ _ _ hφ hw (Nat.le_trans hroom hc)
          exact ⟨φ, w1, _, r1, .slo hφ hroom hc hz, r2, r3⟩
        | slz hh =>
          have h0 : n = 0 := by omega
          subst h0
          have : news = [] := List.length_eq_zero_iff.1 (by omega)
          subst this
          simp at hem
  · -- there may be none
    rename_i hroom
    split at h
    case isFalse => cases h
    rename_i hb'
    have hb := bnd hb'
    split at h
    · -- nil
      cases h
      cases hs
      obtain ⟨φ1, w1, v', r1, r2, r3, r4⟩ := realloc_sound (P := P) (len := 0) (n := n) (cap' := 0) (e := e) s hzs (base' := none) (x' := x') (old := []) (by simp) hnl
        ⟨#[], .mk' rfl (fun i x y e => by simp at e), fun u _ => rfl⟩ ⟨hys, hany⟩
      refine ⟨φ1, w1, v', ?_, by simpa using r2, by simpa using r3, by simpa using r4⟩
      rw [app_start ht0 ht1 hst hxt hxi hes hi hb0 hb1 hz0 hlen (fun _ => hb), if_neg (by omega)]
      exact r1
    · rename_i ad
      simp only [Option.bind_eq_some_iff] at h
      obtain ⟨old, hold, h⟩ := h
      -- a new array
      have anew : ∀ {b' : Option Addr} {cap' : Nat}, sv' = .slice b' len cap' → cap' < len + n → (old.length = len * es ∧ ∃ os, VA φ old.toArray os ∧ ∀ u : World, u.heap = w.heap → (Builtin.firstCells es len (.slice b' len cap')).run P u = .ok os u) →
          ∃ φ1 w1 v', (Builtin.append_ argTypes ty #[sv', x']).run P w = .ok v' w1 ∧ VR φ1 (.slice (some ⟨H.next, 0, some es⟩) (len + n) (len + n)) v' ∧ Sim P φ1 (H.add (.blk (old ++ news) false ⟨e, false⟩)) w1 ∧ Next φ H w φ1 (H.add (.blk (old ++ news) false ⟨e, false⟩)) w1 := by
        intro b' cap' e1 hlt ho
        subst e1
        obtain ⟨φ1, w1, v', r1, r2, r3, r4⟩ := realloc_sound (P := P) (len := len) (n := n) (cap' := cap') (e := e) s hzs (base' := b') (x' := x') (old := old) ho.1 hnl ho.2 ⟨hys, hany⟩
        refine ⟨φ1, w1, v', ?_, r2, r3, r4⟩
        rw [app_start ht0 ht1 hst hxt hxi hes hi hb0 hb1 hz0 hlen (fun _ => hb), if_neg (by omega)]
        exact r1
      have zero : ∀ {a' : Addr}, len = 0 → (old.length = len * es ∧ ∃ os, VA φ old.toArray os ∧ ∀ u : World, u.heap = w.heap → (Builtin.firstCells es len (.slice (some a') len 0)).run P u = .ok os u) := by
        intro a' h0
        rw [if_pos h0] at hold
        cases hold
        subst h0
        exact ⟨by simp, #[], .mk' rfl (fun i x y e => by simp at e), fun u _ => by simp [Builtin.firstCells, loadCells, loadCellsFrom]⟩
      split at h
      · rename_i hsp
        cases h
        cases hs with
        | slc hφ hl => exact anew rfl (by omega) (first_any s hφ hold rfl)
        | slo hφ hl hc hz => simp at hsp
        | slz hh => exact anew rfl (by omega) (zero rfl)
      · rename_i es' hsp
        split at h
        case h_2 => cases h
        rename_i cells t0 hg
        split at h
        case isFalse => cases h
        rename_i hee
        cases h
        have killed : φ ad.block ≠ none → ∀ {b' : Option Addr} {cap' : Nat}, sv' = .slice b' len cap' → cap' < len + n → (old.length = len * es ∧ ∃ os, VA φ old.toArray os ∧ ∀ u : World, u.heap = w.heap → (Builtin.firstCells es len (.slice b' len cap')).run P u = .ok os u) →
            ∃ φ1 w1 v', (Builtin.append_ argTypes ty #[sv', x']).run P w = .ok v' w1 ∧ VR φ1 (.slice (some ⟨H.next, 0, some es⟩) (len + n) (len + n)) v' ∧ Sim P φ1 ((H.set ad.block .dead).add (.blk (old ++ news) false ⟨e, false⟩)) w1 ∧ Next φ H w φ1 ((H.set ad.block .dead).add (.blk (old ++ news) false ⟨e, false⟩)) w1 := by
          intro hφ b' cap' e1 hlt ho
          subst e1
          obtain ⟨s2, n2⟩ := s.kill (P := P) hφ hg rfl
          obtain ⟨φ1, w1, v', r1, r2, r3, r4⟩ := realloc_sound (P := P) (len := len) (n := n) (cap' := cap') (e := e) s2 hzs (base' := b') (x' := x') (old := old) ho.1 hnl ho.2 ⟨hys, hany⟩
          refine ⟨φ1, w1, v', ?_, r2, r3, n2.trans r4⟩
          rw [app_start ht0 ht1 hst hxt hxi hes hi hb0 hb1 hz0 hlen (fun _ => hb), if_neg (by omega)]
          exact r1
        cases hs with
        | slc hφ hl => simp at hsp
        | slz hh =>
          have hφ : φ ad.block ≠ none := by
            rcases hh with h | h
            · rw [h] at hsp; cases hsp
            · exact h
          obtain ⟨hee, het⟩ := hee
          subst hee
          exact killed hφ rfl (by omega) (zero rfl)
        | @slo m off es2 _ _ cap' L hφ hl hc hz =>
          simp only [Option.some.injEq] at hsp
          subst hsp
          obtain ⟨hee, het⟩ := hee
          subst hee
          by_cases hin : len + n ≤ cap'
          · obtain ⟨ho1, os, ho2, ho3⟩ := first_any (P := P) (len := len) (cap' := cap') s hφ hold rfl
            obtain ⟨c, el, fz, g1, g2, g3, g4⟩ := s.obj m L _ hφ hg
            have hyl : ys.toList.length = n * es2 := by have := hys.1; rw [List.size_toArray] at this; rw [Array.length_toList, ← this, hnl]
            have hsp2 : L.sh + off + len * es2 + ys.toList.length ≤ c.size := by
              rw [hyl, Nat.add_assoc, ← Nat.add_mul, ← g2]
              exact Nat.le_trans (Nat.add_le_add_left (Nat.mul_le_mul_right _ hin) _) hz
            obtain ⟨c', w1, r1, r2, r3, r4, r5⟩ := run_stores (P := P) (off := L.sh + off + len * es2) ys.toList 0 c w g1 (by omega) (fun v' hm => by
              obtain ⟨j, hj⟩ := List.getElem?_of_mem hm
              have hj' : j < news.length := by rw [hnl, ← hyl]; exact (List.getElem?_eq_some_iff.1 hj).1
              have := hys.rel j news[j] v' (by simp [hj']) (by rw [← Array.getElem?_toList]; exact hj)
              exact this.one (List.all_eq_true.1 hb'.2 _ (List.getElem_mem hj'))) (g3.1 rfl)
            have hbl : L.b < w.heap.size := (s.dom m L hφ).2
            obtain ⟨s2, n2⟩ := s.move (P := P) (w' := w1) (sh := L.sh + off) (o1 := .blk (old ++ news) false ⟨e, false⟩) hφ hg rfl rfl r2 r3 (fun ψ hψ => by
              refine ⟨c', el, fz, by rw [r2]; simp [hbl], by rw [r4]; exact g2, ⟨fun _ j hj => g3.1 rfl j (by rw [← r4]; exact hj), g3.2.1.trans het, fun h => by cases h⟩, ?_, fun j v e => ?_⟩
              · show L.sh + off + _ ≤ _
                rw [r4, List.length_append, ho1, hnl, ← hyl]; omega
              · show ∃ v', c'[L.sh + off + j]? = some v' ∧ VR ψ v v'
                rw [r5]
                simp only [Nat.add_zero]
                by_cases ej : j < old.length
                · rw [List.getElem?_append_left ej] at e
                  rw [if_neg (by omega)]
                  have hl0 : ¬ len = 0 := by intro h; rw [h] at ho1; simp at ho1; rw [ho1] at ej; simp at ej
                  rw [if_neg hl0] at hold
                  obtain ⟨c2, el2, fz2, q1, q2, q3, q4, q5⟩ := ccells_sound s hold hφ
                  rw [g1] at q1; cases q1
                  obtain ⟨v', t1, t2⟩ := q3.get? (i := j) (v := v) (by simpa using e)
                  refine ⟨v', ?_, t2.mono hψ⟩
                  rw [Array.getElem?_extract] at t1
                  split at t1
                  · exact t1
                  · cases t1
                · rw [List.getElem?_append_right (by omega)] at e
                  have hj2 : j - old.length < news.length := (List.getElem?_eq_some_iff.1 e).1
                  rw [if_pos (by omega)]
                  obtain ⟨v', q1, q2⟩ := hys.get? (i := j - old.length) (v := v) (by simpa using e)
                  refine ⟨v', ?_, q2.mono hψ⟩
                  rw [← q1, ← Array.getElem?_toList]
                  congr 1; omega)
            refine ⟨_, w1, .slice (some ⟨L.b, L.sh + off, none⟩) (len + n) cap', ?_, ?_, s2, n2⟩
            · rw [app_start ht0 ht1 hst hxt hxi hes hi hb0 hb1 hz0 hlen (fun _ => hb), if_pos hin]
              simp only [Sem.run_bind, hfc, Result.andThen_ok, Addr.add_none]
              rw [r1]
              rfl
            · exact VR.slo (L := ⟨L.b, L.sh + off, L.sz⟩) (Emb.put_same _ _ _) (Nat.le_refl _) hin (by simpa using hz)
          · exact killed (by rw [hφ]; simp) rfl (by omega) (first_any s hφ hold rfl)
end
end Go.Cn
/-! ## Maps: written, ranged over. -/
namespace Go.Cn
open Go

theorem ba_eq {a b : ByteArray} : (a == b) = true ↔ a = b := by
  obtain ⟨⟨x⟩⟩ := a
  obtain ⟨⟨y⟩⟩ := b
  show ((⟨x⟩ : Array UInt8) == ⟨y⟩) = true ↔ _
  simp
theorem ckey_eq {k x : Value} (h : ckey k x = some true) : x = k := by
  unfold ckey at h
  split at h
  · split at h
    · simp at h; subst_vars; rfl
    · cases h
  · simp only [Option.some.injEq] at h; rw [ba_eq.1 h]
  · simp at h; rw [h]
  · cases h
theorem cfind_at {k : Value} : ∀ {es : List CEnt} {i0 i : Nat} {v : Value}, cfind k es i0 = some (some (i, v)) → i0 ≤ i ∧ ∃ x, es[i - i0]? = some x ∧ x.key = k ∧ x.val = v := by
  intro es
  induction es with
  | nil => intro i0 i v h; simp [cfind] at h
  | cons e es ih =>
    intro i0 i v h
    simp only [cfind] at h
    split at h
    · rename_i hb
      cases h
      exact ⟨Nat.le_refl _, e, by simp, ckey_eq hb, rfl⟩
    · obtain ⟨h1, x, h2, h3⟩ := ih h
      refine ⟨by omega, x, ?_, h3⟩
      have : i - i0 = (i - (i0 + 1)) + 1 := by omega
      rw [this]; simpa using h2
    · cases h
theorem valKind_basic {v : Value} {n : Nat} (h : valKind v = some n) : basic v = true := by cases v <;> simp [valKind, basic] at *
theorem keyStays {P : Program} {k : Value} (hk : basic k = true) (w : World) : (Instr.keyThatStays k k).run P w = .ok k w := by
  unfold Instr.keyThatStays
  have : Instr.sameBits 10000 k k = true := by
    have e : Instr.sameBits 10000 k k = Instr.sameBits (9999 + 1) k k := rfl
    rw [e]; generalize 9999 = d
    cases k <;> simp [basic] at hk <;> simp [Instr.sameBits]
    exact ba_eq.2 rfl
  rw [if_pos this]; rfl

section
variable {P : Program} {φ : Emb} {H H1 : CH} {w : World}
theorem set_heap {w : World} {b : Nat} {o : Obj} (_ : b < w.heap.size) : ({ w with heap := w.heap.setIfInBounds b o } : World).heap = w.heap.setIfInBounds b o := rfl
theorem run_setObj {r : Nat} {o o' : Obj} {w : World} (h : w.heap[r]? = some o) (hc : (match o with | .cells .. => true | _ => false) = false) : (setObj r o').run P w = .ok () { w with heap := w.heap.setIfInBounds r o' } := by
  simp only [setObj, Sem.run, h]
  cases o <;> simp_all
theorem run_getMap {r : Nat} {en : Array MapEntry} {ck : Nat} {w : World} (h : w.heap[r]? = some (.map en ck)) : (getObj r).run P w = .ok (.map en ck) w := by
  simp [getObj, Sem.run, h]

theorem mup_sound (s : Sim P φ H w) {t kt et : TypeId} (ht : P.underlying t = some (.map kt et)) {kd : TypeDesc} (hd : P.underlying kt = some kd) {kk : Nat} (hk : keyKind kd = some kk)
    {m k x m' k' x' v : Value} (hm : VR φ m m') (hkk : VR φ k k') (hx : VR φ x x')
    (h : ceff (fun o => match o with | .tmp 0 => m | .tmp 1 => k | _ => x) H (.mup kk (.tmp 0) (.tmp 1) (.tmp 2)) = some (v, H1)) :
    v = undef ∧ ∃ w', (Instr.mapUpdate t m' k' x').run P w = .ok () w' ∧ Sim P φ H1 w' ∧ Next φ H w φ H1 w' := by
  simp only [ceff] at h
  split at h
  case h_2 => cases h
  rename_i n
  split at h
  case h_2 => cases h
  rename_i es ck hg
  split at h
  case isFalse => cases h
  rename_i hv
  cases hm with
  | @map _ L hφ =>
  have hk' := hkk.basic_eq hv
  subst hk'
  obtain ⟨en, h1, h2⟩ := s.obj _ L _ hφ hg
  have hb : L.b < w.heap.size := (s.dom _ L hφ).2
  split at h
  · rename_i i v0 hf
    cases h
    refine ⟨rfl, ?_⟩
    obtain ⟨r', f1, f2⟩ := find_sound (P := P) hd hk hv h2 hf
    obtain ⟨_, e0, g1, g2, g3⟩ := cfind_at hf
    simp only [Nat.sub_zero] at g1
    obtain ⟨e', q1, q2, q3, q4, q5⟩ := h2.ent i e0 g1
    cases r' with
    | none => simp [Found] at f1
    | some p =>
      obtain ⟨i1, v1⟩ := p
      obtain ⟨rfl, f3⟩ := f1
      refine ⟨{ w with heap := w.heap.setIfInBounds L.b (.map (en.modify i fun e => { e with key := k', val := x' }) ck) }, ?_, ?_⟩
      · have hkey : (((en[i]?).map (·.key)).getD k') = k' := by rw [q1]; simp [q2, g2]
        simp only [Instr.mapUpdate, Sem.run_bind, run_underlying ht, Result.andThen_ok, run_getMap h1, checkKey_sound hd hk, f2, hkey, keyStays (valKind_basic hv)]
        exact run_setObj h1 rfl
      · refine s.turn hφ hg rfl (by simp [CObj.isLoop]) rfl rfl ⟨rfl, rfl, rfl⟩ ⟨en.modify i fun e => { e with key := k', val := x' }, by simp [hb], ?_⟩
        refine ⟨by simp [h2.size], fun j y hy => ?_⟩
        rw [List.getElem?_modify, Option.map_eq_map, Option.map_eq_some_iff] at hy
        obtain ⟨y0, hy0, hy1⟩ := hy
        obtain ⟨e2, p1, p2, p3, p4, p5⟩ := h2.ent j y0 hy0
        refine ⟨if i = j then { e2 with key := k', val := x' } else e2, by rw [Array.getElem?_modify, p1]; split <;> simp_all, ?_⟩
        split at hy1
        · rename_i hij
          simp only [hij, if_true]; subst hy1
          exact ⟨rfl, hx, p4, valKind_basic hv⟩
        · rename_i hij
          simp only [hij, if_false]; subst hy1
          exact ⟨p2, p3, p4, p5⟩
  · rename_i hf
    cases h
    refine ⟨rfl, ?_⟩
    obtain ⟨r', f1, f2⟩ := find_sound (P := P) hd hk hv h2 hf
    cases r' with
    | some p => simp [Found] at f1
    | none =>
      refine ⟨{ w with heap := w.heap.setIfInBounds L.b (.map (en.push { key := k', val := x', born := ck }) (ck + 1)) }, ?_, ?_⟩
      · simp only [Instr.mapUpdate, Sem.run_bind, run_underlying ht, Result.andThen_ok, run_getMap h1, checkKey_sound hd hk, f2]
        exact run_setObj h1 rfl
      · refine s.turn hφ hg rfl (by simp [CObj.isLoop]) rfl rfl ⟨rfl, rfl, rfl⟩ ⟨en.push { key := k', val := x', born := ck }, by simp [hb], ?_⟩
        refine ⟨by simp [h2.size], fun j y hy => ?_⟩
        rw [Array.getElem?_push, ← h2.size]
        by_cases hj : j = es.length
        · subst hj
          rw [List.getElem?_append_right (Nat.le_refl _)] at hy
          simp at hy; subst hy
          rw [if_pos rfl]
          exact ⟨_, rfl, rfl, hx, rfl, valKind_basic hv⟩
        · rw [if_neg hj]
          have : j < es.length := by
            have := (List.getElem?_eq_some_iff.1 hy).1
            simp at this; omega
          rw [List.getElem?_append_left this] at hy
          exact h2.ent j y hy
  · cases h

theorem del_sound (s : Sim P φ H w) {argTypes : Array TypeId} {ty t kt et : TypeId} (ha : argTypes[0]? = some t) (ht : P.underlying t = some (.map kt et)) {kd : TypeDesc} (hd : P.underlying kt = some kd) {kk : Nat} (hk : keyKind kd = some kk)
    {m k m' k' v : Value} (hm : VR φ m m') (hkk : VR φ k k')
    (h : ceff (fun o => match o with | .tmp 0 => m | _ => k) H (.del kk (.tmp 0) (.tmp 1)) = some (v, H1)) :
    v = undef ∧ ∃ w', (Builtin.delete_ argTypes ty #[m', k']).run P w = .ok (.tuple #[]) w' ∧ Sim P φ H1 w' ∧ Next φ H w φ H1 w' := by
  simp only [ceff] at h
  split at h
  · split at h
    · cases h
      refine ⟨rfl, w, ?_, s, Next.refl _ _ _⟩
      cases hm
      simp [Builtin.delete_, ha, run_underlying ht, checkKey_sound hd hk]
    · cases h
  case h_3 => cases h
  rename_i n
  split at h
  case h_2 => cases h
  rename_i es ck hg
  split at h
  case isFalse => cases h
  rename_i hv
  cases hm with
  | @map _ L hφ =>
  have hk' := hkk.basic_eq hv
  subst hk'
  obtain ⟨en, h1, h2⟩ := s.obj _ L _ hφ hg
  have hb : L.b < w.heap.size := (s.dom _ L hφ).2
  split at h
  · rename_i i v0 hf
    cases h
    refine ⟨rfl, ?_⟩
    obtain ⟨r', f1, f2⟩ := find_sound (P := P) hd hk hv h2 hf
    obtain ⟨_, e0, g1, g2, g3⟩ := cfind_at hf
    simp only [Nat.sub_zero] at g1
    cases r' with
    | none => simp [Found] at f1
    | some p =>
      obtain ⟨i1, v1⟩ := p
      obtain ⟨rfl, f3⟩ := f1
      refine ⟨{ w with heap := w.heap.setIfInBounds L.b (.map (en.eraseIdxIfInBounds i) ck) }, ?_, ?_⟩
      · simp only [Builtin.delete_, ha, List.getElem?_toArray, List.getElem?_cons_zero, List.getElem?_cons_succ, Sem.run_bind, run_underlying ht, Result.andThen_ok, run_getMap h1, checkKey_sound hd hk, f2]
        rw [run_setObj h1 rfl]
        rfl
      · refine s.turn hφ hg rfl (by simp [CObj.isLoop]) rfl rfl ⟨rfl, rfl, rfl⟩ ⟨en.eraseIdxIfInBounds i, by simp [hb], ?_⟩
        have hi : i < es.length := (List.getElem?_eq_some_iff.1 g1).1
        have hi' : i < en.size := by rw [← h2.size]; exact hi
        have hE : ∀ j : Nat, (en.eraseIdxIfInBounds i)[j]? = if j < i then en[j]? else en[j + 1]? := fun j => by
          rw [Array.eraseIdxIfInBounds, dif_pos hi', Array.getElem?_eraseIdx]
        refine ⟨?_, fun j y hy => ?_⟩
        · rw [Array.eraseIdxIfInBounds, dif_pos hi', Array.size_eraseIdx, List.length_eraseIdx, if_pos hi, h2.size]
        · rw [List.getElem?_eraseIdx] at hy
          rw [hE]
          split at hy
          · rename_i hj; rw [if_pos hj]; exact h2.ent j y hy
          · rename_i hj; rw [if_neg hj]; exact h2.ent (j + 1) y hy
  · rename_i hf
    cases h
    refine ⟨rfl, ?_⟩
    obtain ⟨r', f1, f2⟩ := find_sound (P := P) hd hk hv h2 hf
    cases r' with
    | some p => simp [Found] at f1
    | none =>
      refine ⟨{ w with heap := w.heap.setIfInBounds L.b (.map en ck) }, ?_, ?_⟩
      · simp only [Builtin.delete_, ha, List.getElem?_toArray, List.getElem?_cons_zero, List.getElem?_cons_succ, Sem.run_bind, run_underlying ht, Result.andThen_ok, run_getMap h1, checkKey_sound hd hk, f2]
        rw [run_setObj h1 rfl]
        rfl
      · exact s.turn hφ hg rfl (by simp [CObj.isLoop]) rfl rfl ⟨rfl, rfl, rfl⟩ ⟨en, by simp [hb], h2⟩
  · cases h

theorem rng_sound (s : Sim P φ H w) {t kt et : TypeId} (ht : P.underlying t = some (.map kt et)) {x x' v : Value} (hx : VR φ x x')
    (h : ceff (fun _ => x) H (.rng (.tmp 0)) = some (v, H1)) :
    ∃ φ1 w1 v', (Instr.range t x').run P w = .ok v' w1 ∧ VR φ1 v v' ∧ Sim P φ1 H1 w1 ∧ Next φ H w φ1 H1 w1 := by
  have pt : VR (φ.put H.next ⟨w.heap.size, 0, 0⟩) (.pointer (some ⟨H.next, 0, none⟩)) (.pointer (some ⟨w.heap.size, 0, none⟩)) := VR.ptr (L := ⟨w.heap.size, 0, 0⟩) (Emb.put_same _ _ _)
  simp only [ceff] at h
  split at h
  · cases h
    cases hx
    obtain ⟨s1, n1⟩ := s.add (P := P) (w' := { w with heap := w.heap.push (.mapIter none 0 #[] 0) }) (sz := 0) (o := .iter none 0 #[] 0) (ob := .mapIter none 0 #[] 0) rfl ⟨rfl, rfl, rfl⟩ (fun ψ hψ u hu => ⟨rfl, hu⟩)
    exact ⟨_, _, _, by simp [Instr.range, run_underlying ht], pt, s1, n1⟩
  · rename_i m
    split at h
    · rename_i es ck hg
      cases h
      cases hx with
      | @map _ L hφ =>
      obtain ⟨en, h1, h2⟩ := s.obj _ L _ hφ hg
      obtain ⟨s1, n1⟩ := s.add (P := P) (w' := { w with heap := w.heap.push (.mapIter (some L.b) ck #[] ck) }) (sz := 0) (o := .iter (some m) ck #[] ck) (ob := .mapIter (some L.b) ck #[] ck) rfl ⟨rfl, rfl, rfl⟩ (fun ψ hψ u hu => ⟨rfl, L, hψ _ _ hφ, hu⟩)
      exact ⟨_, _, _, by simp [Instr.range, run_underlying ht, run_getMap h1], pt, s1, n1⟩
    · cases h
  · cases h
theorem entry_sound (s : Sim P φ H w) {x x' v : Value} (hx : VR φ x x') (h : ceff (fun _ => x) H (.entry (.tmp 0)) = some (v, H1)) :
    H1 = H ∧ ∃ v', (Instr.entry x').run P w = .ok v' w ∧ VR φ v v' := by
  simp only [ceff] at h
  split at h
  case h_2 => cases h
  rename_i n
  split at h
  case h_2 => cases h
  rename_i m since seen last hg
  split at h
  case h_2 => cases h
  rename_i stamp es ck hst hgm
  split at h
  case isFalse => cases h
  rename_i hck
  simp only [Option.map_eq_some_iff, Prod.mk.injEq] at h
  obtain ⟨e, he, rfl, rfl⟩ := h
  refine ⟨rfl, ?_⟩
  cases hx with
  | @ptr _ _ L hφ =>
  obtain ⟨hs0, Lm, hm, hit⟩ := s.obj _ L _ hφ hg
  obtain ⟨en, h1, h2⟩ := s.obj _ Lm _ hm hgm
  have key : ∀ (es : List CEnt) (en : List MapEntry), es.length = en.length → (∀ (i : Nat) (x : CEnt), es[i]? = some x → ∃ e : MapEntry, en[i]? = some e ∧ e.key = x.key ∧ VR φ x.val e.val ∧ e.born = x.born ∧ basic x.key = true) →
      es.find? (fun e => e.born == stamp) = some e → ∃ e', en.find? (fun e => e.born == stamp) = some e' ∧ e'.key = e.key ∧ VR φ e.val e'.val ∧ basic e.key = true := by
    intro es
    induction es with
    | nil => intro en _ _ h; simp at h
    | cons y es ih =>
      intro en hl hr hf
      cases en with
      | nil => simp at hl
      | cons z en =>
        obtain ⟨z', p1, p2, p3, p4, p5⟩ := hr 0 y rfl
        simp at p1; subst p1
        simp only [List.find?_cons, p4] at hf ⊢
        split at hf
        · cases hf; exact ⟨z, rfl, p2, p3, p5⟩
        · exact ih en (by simpa using hl) (fun i x hi => hr (i + 1) x (by simpa using hi)) hf
  obtain ⟨e', q1, q2, q3, q4⟩ := key es en.toList (by simpa using h2.size) (fun i x hi => by
    obtain ⟨y, a, b⟩ := h2.ent i x hi; exact ⟨y, by simpa using a, b⟩) he
  refine ⟨.tuple #[e'.key, e'.val], ?_, ?_⟩
  · have hit' : (getObj L.b).run P w = .ok (.mapIter (some Lm.b) since seen last) w := by simp [getObj, Sem.run, hit]
    have hq : en.find? (fun e => e.born == stamp) = some e' := by rw [← Array.find?_toList]; exact q1
    simp only [Instr.entry, hs0, Nat.add_zero, Sem.run_bind, hit', Result.andThen_ok, hst, run_getMap h1, hck]
    simp [hq]
  · refine VA.tuple (.mk' rfl fun i x y e1 e2 => ?_)
    rcases i with _ | _ | i
    · cases e1; cases e2
      rw [q2]
      refine VR.flat_refl ?_
      generalize e.key = kk at q4
      cases kk <;> simp [basic] at q4 <;> rfl
    · cases e1; cases e2; exact q3
    · simp at e1
end
end Go.Cn
/-! ## unsafe.String over canonical heaps: the bytes are copied, the block is read only from then on. -/
namespace Go.Cn
open Go

theorem liesAt_row {P : Program} {e : TypeId} (hc : P.cellsOf e = 1) (count off n : Nat) (hn : off + n ≤ count) : liesAt P P.depth e count off e n = true := by
  have hd : P.depth = (2 * (P.types.size + Made.depth) + 1) + 1 := rfl
  rw [hd]
  simp only [liesAt, Bool.or_eq_true]
  left
  rw [hd]
  simp [rowAt, hc, hn, sameLayout, Nat.mod_one]
theorem freeze_heap {w : World} {b off n : Nat} (hn : n ≠ 0) {c : Array Value} {el : TypeId} {fz : Nat × Nat} (h : w.heap[b]? = some (.cells c el fz)) :
    ∃ fz', (w.freeze ⟨b, off, none⟩ n).heap = w.heap.setIfInBounds b (.cells c el fz') ∧ (w.freeze ⟨b, off, none⟩ n).os = w.os ∧ (w.freeze ⟨b, off, none⟩ n).tape = w.tape ∧ (w.freeze ⟨b, off, none⟩ n).output = w.output := by
  obtain ⟨lo, hi⟩ := fz
  refine ⟨if lo == hi then (off, off + n) else (min lo off, max hi (off + n)), ?_, ?_, ?_, ?_⟩ <;> unfold World.freeze <;> rw [if_neg hn]
  apply Array.ext_getElem?
  intro i
  simp only [Array.getElem?_modify, Array.getElem?_setIfInBounds]
  by_cases e : b = i
  · subst e
    have hb : b < w.heap.size := (Array.getElem?_eq_some_iff.1 h).1
    have hw : w.heap[b] = .cells c el (lo, hi) := by rw [Array.getElem?_eq_getElem hb] at h; exact Option.some.inj h
    simp [hb, hw]
  · simp [e]
theorem run_loadB {P : Program} (w : World) : ∀ (l : List Value) (b : List UInt8) (g off : Nat) (acc : ByteArray), cbytes l = some b → (∀ j x, l[j]? = some x → w.cell? ⟨g, off + j, none⟩ = some x) →
    (loadBytes ⟨g, off, none⟩ acc l.length).run P w = .ok ⟨acc.data ++ b.toArray⟩ w := by
  intro l
  induction l with
  | nil => intro b g off acc h _; simp [cbytes] at h; subst h; simp [loadBytes]
  | cons v l ih =>
    intro b g off acc h hcell
    unfold cbytes at h
    split at h
    · rename_i e; cases e
    · rename_i n r e
      cases e
      simp only [Option.map_eq_some_iff] at h
      obtain ⟨b', h1, rfl⟩ := h
      have h0 : w.cell? ⟨g, off, none⟩ = some (.int .u8 n) := hcell 0 _ rfl
      have := ih b' g (off + 1) (acc.push n.toNat.toUInt8) h1 (fun j x hj => by
        have := hcell (j + 1) x (by simpa using hj)
        have e : off + 1 + j = off + (j + 1) := by omega
        rw [e]; exact this)
      have ea : (⟨g, off, none⟩ : Addr).add 1 = ⟨g, off + 1, none⟩ := by simp [Addr.add]
      simp only [List.length_cons, loadBytes, Sem.run_bind, run_load, h0, Result.andThen, ea]
      rw [this]
      congr 1
      apply ByteArray.ext
      simp [ByteArray.push]
    · cases h
theorem us_some (argTypes : Array TypeId) (ty : TypeId) (a : Addr) (nv : Value) : Builtin.unsafeString_ argTypes ty #[.pointer (some a), nv] = (do
    let n ← asInt nv
    let some pt := argTypes[0]? | stuck "unsafe.String: no argument types"
    if n < 0 then runtimePanic (.error "unsafe.String: len out of range")
    if n > IntKind.i64.max then unsupported (.unsafePointer "String: a length above the largest int")
    if n = 0 then pure (.string .empty)
    else if ← variablesAt a (← elemOf pt) n.toNat then do
      let s ← loadBytes a .empty n.toNat
      freeze a n.toNat
      pure (.string s)
    else unsupported (.unsafePointer "String: not so many bytes at ptr")) := rfl
theorem us_none (argTypes : Array TypeId) (ty : TypeId) (nv : Value) : Builtin.unsafeString_ argTypes ty #[.pointer none, nv] = (do
    let n ← asInt nv
    let some _ := argTypes[0]? | stuck "unsafe.String: no argument types"
    if n < 0 then runtimePanic (.error "unsafe.String: len out of range")
    if n > IntKind.i64.max then unsupported (.unsafePointer "String: a length above the largest int")
    if n = 0 then pure (.string .empty)
    else runtimePanic (.error "unsafe.String: ptr is nil and len is not zero")) := rfl
theorem custr_sound {P : Program} {φ : Emb} {H H1 : CH} {w : World} (s : Sim P φ H w) {argTypes : Array TypeId} {pt ty e : TypeId} (hpt : argTypes[0]? = some pt) (hp : P.underlying pt = some (.pointer e)) (hc : sizeAt P e = some 1)
    {x x' nv nv' v : Value} (hx : VR φ x x') (hn : VR φ nv nv') (h : custr H e x nv = some (v, H1)) :
    ∃ w1 v', (Builtin.unsafeString_ argTypes ty #[x', nv']).run P w = .ok v' w1 ∧ VR φ v v' ∧ Sim P φ H1 w1 ∧ Next φ H w φ H1 w1 := by
  have hmax : IntKind.i64.max = 9223372036854775807 := rfl
  unfold custr at h
  split at h
  · rename_i j
    cases hx; cases hn
    split at h
    · rename_i h0
      cases h
      subst h0
      exact ⟨w, .string .empty, by rw [us_none]; simp [hpt, asInt, asIntOf, hmax], .string _, s, Next.refl _ _ _⟩
    · cases h
  · rename_i a j
    obtain ⟨L, hL, hsp, ex⟩ := hx.ptr_inv
    subst ex
    cases hn
    split at h
    · rename_i h0
      cases h
      subst h0
      exact ⟨w, .string .empty, by rw [us_some]; simp [hpt, asInt, asIntOf, hmax], .string _, s, Next.refl _ _ _⟩
    · rename_i h0
      split at h
      · rename_i hj
        split at h
        · rename_i cs t l hg hl
          simp only [Option.bind_eq_some_iff] at h
          obtain ⟨b, hb, h⟩ := h
          split at h
          · rename_i hte
            cases h
            obtain ⟨c, el, fz, q1, q2, q3, q4, _⟩ := ccells_sound s hl hL
            obtain ⟨c', el', fz', o1, o2, ⟨o3, o4, o5⟩, o6⟩ := s.obj _ _ _ hL hg
            rw [q1] at o1; cases o1
            obtain ⟨n, rfl⟩ : ∃ n : Nat, j = n := ⟨j.toNat, by omega⟩
            have hn0 : n ≠ 0 := by intro e; subst e; exact h0 rfl
            rw [show ((n : Int).toNat) = n from rfl] at q2 q3 q4
            have hlen : l.length = n := q4
            have hel : el = e := by rw [o4]; exact hte
            subst hel
            have hcells : P.cellsOf el = 1 := by
              unfold Program.cellsOf
              unfold sizeAt at hc
              rw [hc]; rfl
            -- the bytes as they lie
            have hcell : ∀ k y, l[k]? = some y → w.cell? ⟨L.b, L.sh + a.off + k, none⟩ = some y := by
              obtain ⟨ys, hys⟩ : ∃ ys, ys = (c.extract (L.sh + a.off) (L.sh + a.off + n)).toList := ⟨_, rfl⟩
              have hsz : l.length = ys.length := by
                have := q3.1; simp only [List.size_toArray] at this; rw [hys, Array.length_toList]; exact this
              obtain ⟨e1, _⟩ := cbytes_sound (φ := φ) hb hsz (fun k y y' g1 g2 => q3.rel k y y' (by simpa using g1) (by rw [hys] at g2; rw [← Array.getElem?_toList]; exact g2))
              intro k y hk
              rw [← e1, hys, Array.getElem?_toList, Array.getElem?_extract] at hk
              split at hk
              · simp only [World.cell?, q1]; simpa using hk
              · cases hk
            have hlb := run_loadB (P := P) w l b L.b (L.sh + a.off) .empty hb hcell
            rw [hlen] at hlb
            have hlies := liesAt_row (P := P) hcells (c.size / P.cellsOf el) (L.sh + a.off) n (by rw [hcells]; simpa using q2)
            obtain ⟨fz1, f1, f2, f3, f4⟩ := freeze_heap (off := L.sh + a.off) hn0 q1
            have hneg : ¬ (n : Int) < 0 := by omega
            have h63 : ¬ (9223372036854775807 : Int) < (n : Int) := by omega
            have hsh : w.shape? L.b = some (el, c.size) := by simp [World.shape?, q1]
            have hlt : L.b < w.heap.size := (s.dom _ L hL).2
            obtain ⟨s1, n1⟩ := s.turn (w' := w.freeze ⟨L.b, L.sh + a.off, none⟩ n) (o1 := .blk cs true t) hL hg rfl (fun h => by cases h) rfl f1 ⟨f2, f3, f4⟩
              ⟨c, el, fz1, by rw [f1]; simp [hlt], o2, ⟨fun h => (by cases h), o4, o5⟩, o6⟩
            refine ⟨_, .string ⟨b.toArray⟩, ?_, .string _, s1, n1⟩
            rw [us_some]
            simp [hpt, asInt, asIntOf, hmax, h63, hneg, hn0, variablesAt, hsh, elemOf, run_underlying hp, hlies, hlb]
          · cases h
        · cases h
      · cases h
  · cases h
end Go.Cn
/-! ## A step over a map. -/
namespace Go.Cn
open Go

def EntAt (φ : Emb) (x : CEnt) (e : MapEntry) : Prop := e.key = x.key ∧ VR φ x.val e.val ∧ e.born = x.born ∧ basic x.key = true
inductive EL (φ : Emb) : List CEnt → List MapEntry → Prop where
  | nil : EL φ [] []
  | cons {x : CEnt} {e : MapEntry} {xs : List CEnt} {es : List MapEntry} (h : EntAt φ x e) (t : EL φ xs es) : EL φ (x :: xs) (e :: es)
theorem EL.of {φ : Emb} : ∀ {xs : List CEnt} {es : List MapEntry}, xs.length = es.length → (∀ (i : Nat) (x : CEnt), xs[i]? = some x → ∃ e : MapEntry, es[i]? = some e ∧ EntAt φ x e) → EL φ xs es := by
  intro xs
  induction xs with
  | nil => intro es h _; cases es with | nil => exact .nil | cons => simp at h
  | cons x xs ih =>
    intro es h hr
    cases es with
    | nil => simp at h
    | cons e es =>
      obtain ⟨e', h1, h2⟩ := hr 0 x rfl
      simp at h1; subst h1
      exact .cons h2 (ih (by simpa using h) fun i x hi => hr (i + 1) x (by simpa using hi))
theorem EL.filter {φ : Emb} {p : Nat → Bool} {xs : List CEnt} {es : List MapEntry} (h : EL φ xs es) : EL φ (xs.filter fun x => p x.born) (es.filter fun e => p e.born) := by
  induction h with
  | nil => exact .nil
  | @cons x e xs es h t ih =>
    have hb : e.born = x.born := h.2.2.1
    simp only [List.filter_cons, hb]
    split
    · exact .cons h ih
    · exact ih
theorem EL.append {φ : Emb} {xs ys : List CEnt} {es fs : List MapEntry} (h : EL φ xs es) (k : EL φ ys fs) : EL φ (xs ++ ys) (es ++ fs) := by
  induction h with
  | nil => exact k
  | cons h t ih => exact .cons h ih
theorem EL.len {φ : Emb} {xs : List CEnt} {es : List MapEntry} (h : EL φ xs es) : xs.length = es.length := by
  induction h with
  | nil => rfl
  | cons h t ih => simp [ih]
theorem EL.all {φ : Emb} {p : Nat → Bool} {xs : List CEnt} {es : List MapEntry} (h : EL φ xs es) : (xs.all fun x => p x.born) = (es.all fun e => p e.born) := by
  induction h with
  | nil => rfl
  | @cons x e xs es h t ih =>
    have hb : e.born = x.born := h.2.2.1
    simp [hb, ih]
theorem EL.get {φ : Emb} {xs : List CEnt} {es : List MapEntry} (h : EL φ xs es) : ∀ {i : Nat} {x : CEnt}, xs[i]? = some x → ∃ e, es[i]? = some e ∧ EntAt φ x e := by
  induction h with
  | nil => intro i x h; simp at h
  | @cons x e xs es h t ih =>
    intro i y hy
    cases i with
    | zero => simp at hy; subst hy; exact ⟨e, rfl, h⟩
    | succ i => exact ih (by simpa using hy)
theorem MapAt.el {φ : Emb} {es : List CEnt} {en : Array MapEntry} (h : MapAt φ es en) : EL φ es en.toList :=
  .of (by simpa using h.size) fun i x hi => by
    obtain ⟨e, a, b, c, d, f⟩ := h.ent i x hi
    exact ⟨e, by simpa using a, b, c, d, f⟩
theorem basic_refl {φ : Emb} {k : Value} (h : basic k = true) : VR φ k k := VR.flat_refl (by cases k <;> simp [basic] at h <;> rfl)

section
variable {P : Program} {φ : Emb} {H : CH} {w : World}
theorem next_sound (s : Sim P φ H w) {x x' : Value} (hx : VR φ x x') {ty : TypeId} {K : Value → CH → Prop} (h : cnext H x K) :
    ∃ v H1 w1 v', K v H1 ∧ (Instr.next x' false ty).run P w = .ok v' w1 ∧ VR φ v v' ∧ Sim P φ H1 w1 ∧ Next φ H w φ H1 w1 := by
  have over : VR φ (.tuple #[.bool false]) (.tuple #[.bool false]) := VA.tuple (.mk' rfl fun i x y e1 e2 => by
    rcases i with _ | i
    · cases e1; cases e2; exact .bool _
    · simp at e1)
  unfold cnext at h
  split at h
  case h_2 => exact h.elim
  rename_i n
  cases hx with
  | @ptr _ _ L hφ =>
  split at h
  · rename_i since seen last hg
    obtain ⟨hs0, hit⟩ := s.obj _ L _ hφ hg
    refine ⟨_, H, w, _, h, ?_, over, s, Next.refl _ _ _⟩
    have hit' : (getObj L.b).run P w = .ok (.mapIter none since seen last) w := by simp [getObj, Sem.run, hit]
    simp [Instr.next, hs0, hit']
  case h_3 => exact h.elim
  rename_i m since seen last hg
  split at h
  case h_2 => exact h.elim
  rename_i es ck hgm
  obtain ⟨hne, h⟩ := h
  obtain ⟨hs0, Lm, hm, hit⟩ := s.obj _ L _ hφ hg
  obtain ⟨en, h1, h2⟩ := s.obj _ Lm _ hm hgm
  have hit' : (getObj L.b).run P w = .ok (.mapIter (some Lm.b) since seen last) w := by simp [getObj, Sem.run, hit]
  have hel := h2.el
  have hemp : es.isEmpty = en.isEmpty := by
    have := h2.size
    rw [Bool.eq_iff_iff]; simp [List.isEmpty_iff, ← List.length_eq_zero_iff, this]
  have hall : (es.all fun e => decide (e.born ≥ last)) = en.all fun e => decide (e.born ≥ last) := by
    rw [EL.all (p := fun b => decide (b ≥ last)) hel, Array.all_toList]
  have hne' : ¬ (!seen.isEmpty && !en.isEmpty && en.all fun e => decide (e.born ≥ last)) = true := by rw [← hemp, ← hall]; exact hne
  -- the candidates
  obtain ⟨left, hleft⟩ : ∃ l, l = en.filter fun e => !seen.contains e.born := ⟨_, rfl⟩
  obtain ⟨old, hold⟩ : ∃ l, l = left.filter fun e => decide (e.born < since) := ⟨_, rfl⟩
  obtain ⟨new, hnew⟩ : ∃ l, l = left.filter fun e => decide (e.born ≥ since) := ⟨_, rfl⟩
  have e1 : EL φ (es.filter fun e => !seen.contains e.born) left.toList := by
    rw [hleft, Array.toList_filter]; exact EL.filter (p := fun b => !seen.contains b) hel
  have e2 : EL φ ((es.filter fun e => !seen.contains e.born).filter fun e => decide (e.born < since)) old.toList := by
    rw [hold, Array.toList_filter]; exact EL.filter (p := fun b => decide (b < since)) e1
  have e3 : EL φ ((es.filter fun e => !seen.contains e.born).filter fun e => decide (e.born ≥ since)) new.toList := by
    rw [hnew, Array.toList_filter]; exact EL.filter (p := fun b => decide (b ≥ since)) e1
  obtain ⟨cs, hcs⟩ : ∃ c : Array (Option MapEntry), c = (if old.isEmpty then #[none] else #[]) ++ (old ++ new).map some := ⟨_, rfl⟩
  obtain ⟨co, hco⟩ : ∃ l, l = (es.filter fun e => !seen.contains e.born).filter fun e => decide (e.born < since) := ⟨_, rfl⟩
  obtain ⟨cn, hcn⟩ : ∃ l, l = (es.filter fun e => !seen.contains e.born).filter fun e => decide (e.born ≥ since) := ⟨_, rfl⟩
  rw [← hco] at e2; rw [← hcn] at e3
  have hca : cands es since seen = (if co.isEmpty then [none] else []) ++ (co ++ cn).map some := by rw [cands, hco, hcn]
  have hoe : co.isEmpty = old.isEmpty := by
    have := e2.len
    rw [Bool.eq_iff_iff]; simp [List.isEmpty_iff, ← List.length_eq_zero_iff, this]
  have hlen : (cands es since seen).length = cs.size := by
    rw [hca, hcs, hoe, List.length_append, Array.size_append, List.length_map, Array.size_map, List.length_append, Array.size_append, e2.len, e3.len]
    cases old.isEmpty <;> simp
  have hpos : 0 < cs.size := by
    rw [hcs, Array.size_append, Array.size_map, Array.size_append]
    by_cases he : old.isEmpty = true
    · simp [he]; omega
    · have : old.size ≠ 0 := by intro h0; exact he (by simp [Array.isEmpty, h0])
      omega
  have hat : ∀ j, j < cs.size → ∃ c, (cands es since seen)[j]? = some c ∧ ((c = none ∧ cs[j]? = some none) ∨ ∃ x e, c = some x ∧ cs[j]? = some (some e) ∧ EntAt φ x e) := by
    intro j hj
    have hj2 : j < (cands es since seen).length := by omega
    obtain ⟨c, hc⟩ : ∃ c, (cands es since seen)[j]? = some c := ⟨_, List.getElem?_eq_getElem hj2⟩
    refine ⟨c, hc, ?_⟩
    have e4 := e2.append e3
    rw [hca, hoe] at hc
    have hcl : cs.toList = (if old.isEmpty then [none] else []) ++ (old.toList ++ new.toList).map some := by
      rw [hcs]; cases old.isEmpty <;> simp
    rw [← Array.getElem?_toList, hcl]
    cases hb : old.isEmpty with
    | true =>
      rw [hb] at hc
      simp only [if_true] at hc ⊢
      cases j with
      | zero =>
        simp at hc
        left; exact ⟨hc.symm, by simp⟩
      | succ j =>
        simp only [List.singleton_append, List.getElem?_cons_succ, List.getElem?_map, Option.map_eq_some_iff] at hc ⊢
        obtain ⟨x, hx, rfl⟩ := hc
        obtain ⟨e, he, hea⟩ := e4.get hx
        right; exact ⟨x, e, rfl, ⟨e, he, rfl⟩, hea⟩
    | false =>
      rw [hb] at hc
      simp only [Bool.false_eq_true, if_false, List.nil_append, List.getElem?_map, Option.map_eq_some_iff] at hc ⊢
      obtain ⟨x, hx, rfl⟩ := hc
      obtain ⟨e, he, hea⟩ := e4.get hx
      right; exact ⟨x, e, rfl, ⟨e, he, rfl⟩, hea⟩
  -- what is chosen
  obtain ⟨j, w2, hch, hj, hw2⟩ : ∃ j w2, (choose (.mapNext cs.size)).run P w = .ok j w2 ∧ j < cs.size ∧ (w2.heap = w.heap ∧ w2.os = w.os ∧ w2.tape = w.tape ∧ w2.output = w.output) := by
    rw [run_choose]
    by_cases hf : (Question.mapNext cs.size).forced = true
    · exact ⟨0, w, by rw [if_pos hf], hpos, rfl, rfl, rfl, rfl⟩
    · exact ⟨(Question.mapNext cs.size).cut (w.tape w.drawn (Question.mapNext cs.size)), { w with drawn := w.drawn + 1 }, by rw [if_neg hf], Nat.mod_lt _ hpos, rfl, rfl, rfl, rfl⟩
  obtain ⟨c, hc1, hc2⟩ := hat j hj
  have hK := h c (List.mem_of_getElem? hc1)
  obtain ⟨s2, n2⟩ := s.same (P := P) hw2
  have run : ∀ R, (match cs[j]? with
      | some (some e) => (do setObj L.b (.mapIter (some Lm.b) since (seen.push e.born) ck); pure (.tuple #[.bool true, e.key, e.val]) : Sem Value)
      | some none => pure (.tuple #[.bool false])
      | none => stuck "Next: no such candidate").run P w2 = R → (Instr.next (.pointer (some ⟨L.b, L.sh + 0, none⟩)) false ty).run P w = R := by
    intro R hR
    simp only [Instr.next, hs0, Nat.add_zero, Sem.run_bind, hit', Result.andThen_ok, run_getMap h1]
    rw [if_neg hne']
    simp only [Sem.run_bind, ← hleft, ← hold, ← hnew, ← hcs, hch, Result.andThen_ok]
    exact hR
  rcases hc2 with ⟨rfl, hn⟩ | ⟨x, e, rfl, he, hk, hv, hb, hbk⟩
  · refine ⟨_, H, w2, .tuple #[.bool false], hK, run _ (by rw [hn]; rfl), over, s2, n2⟩
  · have hb2 : L.b < w2.heap.size := (s2.dom _ L hφ).2
    obtain ⟨s3, n3⟩ := s2.turn (P := P) (w' := { w2 with heap := w2.heap.setIfInBounds L.b (.mapIter (some Lm.b) since (seen.push e.born) ck) }) (o1 := .iter (some m) since (seen.push x.born) ck) hφ hg rfl (by simp [CObj.isLoop]) rfl rfl ⟨rfl, rfl, rfl⟩
      ⟨hs0, Lm, hm, by rw [← hb]; simp [hb2]⟩
    refine ⟨_, _, _, .tuple #[.bool true, e.key, e.val], hK, run _ ?_, ?_, s3, n2.trans n3⟩
    · rw [he]
      have hset : (setObj L.b (.mapIter (some Lm.b) since (seen.push e.born) ck)).run P w2 = .ok () { w2 with heap := w2.heap.setIfInBounds L.b (.mapIter (some Lm.b) since (seen.push e.born) ck) } :=
        run_setObj (o := .mapIter (some Lm.b) since seen last) (by rw [hw2.1]; exact hit) rfl
      simp only [Sem.run_bind, hset, Result.andThen_ok, Sem.run_pure]
    · refine VA.tuple (.mk' rfl fun i x y e1 e2 => ?_)
      rcases i with _ | _ | _ | i
      · cases e1; cases e2; exact .bool _
      · cases e1; cases e2; rw [hk]; exact basic_refl hbk
      · cases e1; cases e2; exact hv
      · simp at e1
end
end Go.Cn
