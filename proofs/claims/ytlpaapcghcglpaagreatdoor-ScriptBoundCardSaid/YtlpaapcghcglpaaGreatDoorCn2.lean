/- A program logic over canonical heaps, any program: part 3 of 4. Conditions: none; each theorem bears its own. -/
import Derived.Test.YtlpaapcghcglpaaGreatDoorCn1
import Derived.RangeFuncLeaves
import Derived.RangeFuncRecord
import Derived.RangeFuncNested
import Derived.Orders
/-! ## Every operation but calls and steps over maps: the theorem. -/
namespace Go.Cn
open Go

section
variable {P : Program} {φ : Emb} {H H1 : CH} {w : World}
theorem cfirst_any (s : Sim P φ H w) {es k m : Nat} {x x' : Value} (hx : VR φ x x') (hm : clenOf x = some m) (hk : k ≤ m) {l : List Value} (h : cfirst H es k x = some l) :
    (Builtin.lenOf x').run P w = .ok m w ∧ ∃ ys, VA φ l.toArray ys ∧ (Builtin.firstCells es k x').run P w = .ok ys w := by
  have emp : VA φ (#[] : Array Value) #[] := .mk' rfl fun i x y e => by simp at e
  cases hx with
  | string b =>
    simp only [clenOf, Option.some.injEq] at hm
    subst hm
    simp only [cfirst, Option.some.injEq] at h
    subst h
    refine ⟨rfl, _, ?_, rfl⟩
    refine .mk' ?_ fun i x y e1 e2 => ?_
    · simp
    · have e3 : (b.extract 0 k).data = b.data.extract 0 k := by simp
      rw [e3] at e2
      simp only [List.getElem?_toArray, List.getElem?_map, Option.map_eq_some_iff] at e1
      simp only [Array.getElem?_map, Option.map_eq_some_iff] at e2
      obtain ⟨c, h1, rfl⟩ := e1
      obtain ⟨d, h2, rfl⟩ := e2
      rw [← Array.getElem?_toList] at h2
      simp only [Array.toList_extract, List.extract_eq_take_drop, List.drop_zero, Nat.sub_zero] at h2
      rw [h2] at h1; cases h1
      exact .int _ _
  | snil =>
    simp only [clenOf, Option.some.injEq] at hm
    subst hm
    simp only [cfirst, Option.some.injEq] at h
    subst h
    exact ⟨rfl, #[], emp, rfl⟩
  | @slc m off len cap L hφ hl =>
    simp only [clenOf, Option.some.injEq] at hm
    subst hm
    simp only [cfirst] at h
    obtain ⟨c, el, fz, g1, g2, g3, g4, g5⟩ := ccells_sound s h hφ
    exact ⟨rfl, _, g3, g5⟩
  | @slo m off es' len lb cap' L hφ hl hc hz =>
    simp only [clenOf, Option.some.injEq] at hm
    subst hm
    simp only [cfirst] at h
    obtain ⟨c, el, fz, g1, g2, g3, g4, g5⟩ := ccells_sound s h hφ
    exact ⟨rfl, _, g3, g5⟩
  | slz _ =>
    simp only [clenOf, Option.some.injEq] at hm
    subst hm
    have hk0 : k = 0 := by omega
    subst hk0
    simp only [cfirst, Nat.zero_mul] at h
    have hl : l = [] := by
      unfold ccells at h
      split at h
      · split at h
        · cases h; simp
        · cases h
      · cases h
    subst hl
    exact ⟨rfl, #[], emp, by simp [Builtin.firstCells, loadCells, loadCellsFrom]⟩
  | _ => simp [clenOf] at hm
theorem cpy_sound (s : Sim P φ H w) {argTypes : Array TypeId} {ty t e : TypeId} (ht0 : argTypes[0]? = some t) (ht : P.underlying t = some (.slice e)) {es : Nat} (hes : sizeAt P e = some es)
    {x y x' y' v : Value} (hx : VR φ x x') (hy : VR φ y y') (h : ceff (fun o => match o with | .tmp 0 => x | _ => y) H (.cpy es (.tmp 0) (.tmp 1)) = some (v, H1)) :
    ∃ w', (Builtin.copy_ argTypes ty #[x', y']).run P w = .ok v w' ∧ VR φ v v ∧ Sim P φ H1 w' ∧ Next φ H w φ H1 w' := by
  simp only [ceff] at h
  split at h
  case h_2 => cases h
  rename_i base len cap
  simp only [Option.bind_eq_bind, Option.bind_eq_some_iff] at h
  obtain ⟨m, hm, l, hl, h⟩ := h
  obtain ⟨h1, ys, h2, h3⟩ := cfirst_any s hy hm (Nat.min_le_left _ _) hl
  obtain ⟨base', cap', rfl⟩ : ∃ b c, x' = .slice b len c := by cases hx <;> exact ⟨_, _, rfl⟩
  have start : (Builtin.copy_ argTypes ty #[.slice base' len cap', y']).run P w = ((match base' with | some a => do storeCells a ys.toList; pure (goInt ((min m len : Nat) : Int)) | none => pure (goInt ((min m len : Nat) : Int)) : Sem Value)).run P w := by
    simp only [Builtin.copy_, ht0, List.getElem?_toArray, List.getElem?_cons_zero, List.getElem?_cons_succ, Sem.run_bind, run_underlying ht, Result.andThen_ok, h1, run_sizeOf hes]
    have e : Nat.min m len = min m len := rfl
    rw [e, h3]
    simp only [Result.andThen_ok]
    cases base' <;> simp only [Sem.run_bind]
  split at h
  · rename_i ad
    simp only [Option.bind_eq_some_iff] at h
    obtain ⟨H', hw, h⟩ := h
    cases h
    split at hw
    · rename_i hem
      cases hw
      have hl0 : l = [] := by simpa using hem
      subst hl0
      have hys0 : ys = #[] := Array.eq_empty_of_size_eq_zero (by have := h2.1; simpa using this.symm)
      subst hys0
      refine ⟨w, ?_, .int _ _, s, Next.refl _ _ _⟩
      rw [start]
      cases base' <;> simp [storeCells]
    · rename_i hem
      have run : ∀ (L : Loc) (n off : Nat), φ n = some L → cwrite H n off l = some H1 → base' = some ⟨L.b, L.sh + off, none⟩ →
          ∃ w', (Builtin.copy_ argTypes ty #[.slice base' len cap', y']).run P w = .ok (goInt ((min m len : Nat) : Int)) w' ∧ VR φ (goInt ((min m len : Nat) : Int)) (goInt ((min m len : Nat) : Int)) ∧ Sim P φ H1 w' ∧ Next φ H w φ H1 w' := by
        intro L n off hφ hcw hb
        obtain ⟨w1, r1, r2, r3⟩ := cwrite_sound s hcw hφ (vs' := ys.toList) (by simpa using h2)
        refine ⟨w1, ?_, .int _ _, r2, r3⟩
        subst hb
        rw [start]
        simp only [Sem.run_bind, r1, Result.andThen_ok, Sem.run_pure]
      cases hx with
      | slc hφ _ => exact run _ _ _ hφ hw rfl
      | slo hφ _ _ _ => exact run _ _ _ hφ hw rfl
      | slz _ =>
        exfalso
        have : min m 0 = 0 := by omega
        rw [this] at hl
        unfold cfirst at hl
        split at hl
        · unfold ccells at hl
          split at hl
          · split at hl
            · cases hl; simp at hem
            · cases hl
          · cases hl
        · cases hl; simp at hem
        · cases hl; simp at hem
        · cases hl
  · cases h
    cases hx
    refine ⟨w, ?_, .int _ _, s, Next.refl _ _ _⟩
    rw [start]
    rfl
theorem clr_sound (s : Sim P φ H w) {argTypes : Array TypeId} {ty t e : TypeId} (ht0 : argTypes[0]? = some t) (ht : P.underlying t = some (.slice e)) {z : Value} (hz : zeroAt P e = some z) (hp : z.cells.all plain = true)
    {x x' v : Value} (hx : VR φ x x') (h : ceff (fun _ => x) H (.clr z.cells.toList (.tmp 0)) = some (v, H1)) :
    ∃ w', (Builtin.clear_ argTypes ty #[x']).run P w = .ok v w' ∧ VR φ v v ∧ Sim P φ H1 w' ∧ Next φ H w φ H1 w' := by
  simp only [ceff] at h
  have emp : VR φ (.tuple #[]) (.tuple #[]) := VR.undef φ
  split at h
  · cases h
    obtain ⟨l, c, e1⟩ : ∃ l c, x' = .slice none l c := by cases hx; exact ⟨_, _, rfl⟩
    subst e1
    refine ⟨w, ?_, emp, s, Next.refl _ _ _⟩
    simp only [Builtin.clear_, ht0, List.getElem?_toArray, List.getElem?_cons_zero, Sem.run_bind, run_underlying ht, Result.andThen_ok]
    rfl
  · rename_i ad n k
    split at h
    · rename_i hn
      cases h
      subst hn
      obtain ⟨a', c, e1⟩ : ∃ a' c, x' = .slice a' 0 c := by cases hx <;> exact ⟨_, _, rfl⟩
      subst e1
      refine ⟨w, ?_, emp, s, Next.refl _ _ _⟩
      simp only [Builtin.clear_, ht0, List.getElem?_toArray, List.getElem?_cons_zero, Sem.run_bind, run_underlying ht, Result.andThen_ok]
      cases a' <;> rfl
    · rename_i hn
      simp only [Option.map_eq_some_iff, Prod.mk.injEq] at h
      obtain ⟨H', hw, rfl, rfl⟩ := h
      obtain ⟨L, c, hφ, e1⟩ : ∃ L c, φ ad.block = some L ∧ x' = .slice (some ⟨L.b, L.sh + ad.off, none⟩) n c := by
        cases hx with
        | slc h _ => exact ⟨_, _, h, rfl⟩
        | slo h _ _ _ => exact ⟨_, _, h, rfl⟩
        | slz _ => exact absurd rfl hn
      subst e1
      obtain ⟨w1, r1, r2, r3⟩ := cwrite_sound s hw hφ (vs' := (Builtin.zeroCells z.cells n).toList) (by
        rw [show (Builtin.zeroCells z.cells n).toList = (List.replicate n z.cells.toList).flatten from zeros_eq z.cells n]
        refine .mk' rfl fun i a b e1 e2 => ?_
        rw [e1] at e2; cases e2
        refine VR.plain_refl ?_
        have hm : a ∈ (List.replicate n z.cells.toList).flatten := by simpa using Array.mem_of_getElem? e1
        obtain ⟨l, hl, hal⟩ := List.mem_flatten.1 hm
        obtain rfl := (List.mem_replicate.1 hl).2
        exact Array.all_eq_true_iff_forall_mem.1 hp a (by simpa using hal))
      refine ⟨w1, ?_, emp, r2, r3⟩
      have hzr := run_zero (w := w) hz
      simp only [Builtin.clear_, ht0, List.getElem?_toArray, List.getElem?_cons_zero, Sem.run_bind, run_underlying ht, Result.andThen_ok]
      match n, hn with
      | n + 1, _ =>
        simp only [hzr, Result.andThen_ok, r1]
        rfl
  · cases h
end

/-- What an instruction that is no call, no step, comes to. -/
def cdet (ρ : Operand → Value) (H : CH) (ci : CI) : Option (Value × CH) :=
  match cpure ρ ci with
  | some v => some (v, H)
  | none => match crd ρ H ci with
    | some v => some (v, H)
    | none => match cal ρ ci with
      | some (o, f) => some (f H.next, H.add o)
      | none => ceff ρ H ci

/-- An operation is done. -/
def Done (P : Program) (a : Act) (o : Oper) (w : World) (v' : Value) (w1 : World) : Prop :=
  (execOp a.eval o).run P w = .ok (.value v') w1 ∨ ((execOp a.eval o).run P w = .ok .skip w1 ∧ v' = undef)

section
variable {P : Program} {φ : Emb} {tm : List Value} {a : Act} {H H1 : CH} {w : World}
theorem eff_sound (s : Sim P φ H w) {o : Oper} {ci : CI} {v : Value} (hc : compOp P o = some ci) (hv : ceff (cev tm) H ci = some (v, H1))
    (hr : ∀ x ∈ o.op.operands.toList, VR φ (cev tm x) (a.eval x)) :
    ∃ φ1 w1 v', Done P a o w v' w1 ∧ VR φ1 v v' ∧ Sim P φ1 H1 w1 ∧ Next φ H w φ1 H1 w1 := by
  obtain ⟨dst, op, type, pos, after, guard⟩ := o
  unfold compOp at hc
  simp only [Option.bind_eq_bind, Option.bind_eq_some_iff] at hc
  obtain ⟨_, hok, hc⟩ := hc; clear hok
  cases op <;> simp only [Op.operands] at hr <;> simp only at hc
  case store t x y =>
    simp only [Option.bind_eq_some_iff] at hc
    obtain ⟨k, hk, hc⟩ := hc
    cases hc
    obtain ⟨rfl, w', h1, h2, h3⟩ := store_sound s hk (hr x (by simp)) (hr y (by simp)) (H1 := H1) (r := v) hv
    exact ⟨φ, w', undef, .inr ⟨by simp [execOp, h1], rfl⟩, VR.undef _, h2, h3⟩
  case insert t m k x =>
    simp only [Option.bind_eq_some_iff] at hc
    obtain ⟨d, hd, hc⟩ := hc
    split at hc
    · simp only [Option.bind_eq_some_iff] at hc
      obtain ⟨kd, hkd, kk, hkk, hc⟩ := hc
      cases hc
      obtain ⟨rfl, w', h1, h2, h3⟩ := mup_sound s hd hkd hkk (hr m (by simp)) (hr k (by simp)) (hr x (by simp)) (H1 := H1) (v := v) hv
      exact ⟨φ, w', undef, .inr ⟨by simp [execOp, h1], rfl⟩, VR.undef _, h2, h3⟩
    · cases hc
  case mapUpdate t m k x =>
    simp only [Option.bind_eq_some_iff] at hc
    obtain ⟨d, hd, hc⟩ := hc
    split at hc
    · simp only [Option.bind_eq_some_iff] at hc
      obtain ⟨kd, hkd, kk, hkk, hc⟩ := hc
      cases hc
      obtain ⟨rfl, w', h1, h2, h3⟩ := mup_sound s hd hkd hkk (hr m (by simp)) (hr k (by simp)) (hr x (by simp)) (H1 := H1) (v := v) hv
      exact ⟨φ, w', undef, .inr ⟨by simp [execOp, h1], rfl⟩, VR.undef _, h2, h3⟩
    · cases hc
  case range t x =>
    simp only [Option.bind_eq_some_iff] at hc
    obtain ⟨d, hd, hc⟩ := hc
    split at hc
    · cases hc
      obtain ⟨φ1, w1, v', h1, h2, h3, h4⟩ := rng_sound s hd (hr x (by simp)) (H1 := H1) (v := v) hv
      exact ⟨φ1, w1, v', .inl (by simp [execOp, h1]), h2, h3, h4⟩
    · cases hc
  case entry x =>
    cases hc
    obtain ⟨rfl, v', h1, h2⟩ := entry_sound s (hr x (by simp)) (H1 := H1) (v := v) hv
    exact ⟨φ, w, v', .inl (by simp [execOp, h1]), h2, s, Next.refl _ _ _⟩
  case call c =>
    split at hc
    · split at hc
      · split at hc
        · split at hc
          · cases hc
          · cases hc; simp [ceff] at hv
        · split at hc
          · split at hc
            · cases hc; simp [ceff] at hv
            · cases hc
          · cases hc
      · cases hc
    · cases hc; simp [ceff] at hv
    · cases hc
    · rename_i b hcal
      have hop : ∀ x ∈ c.args.toList, VR φ (cev tm x) (a.eval x) := fun x hx => hr x (by simp [Call.operands, hcal]; simpa using hx)
      obtain ⟨cs, hrun⟩ : ∃ cs, ∀ w, (execOp a.eval ⟨dst, .call c, type, pos, after, guard⟩).run P w = (builtin b c.argTypes type cs (c.args.map a.eval)).run P w :=
        ⟨_, fun w => by simp only [execOp, resolve, hcal, Sem.run_bind, Sem.run_pure, Result.andThen_ok, invoke]; rfl⟩
      split at hc
      · simp only [Option.bind_eq_some_iff] at hc
        obtain ⟨d, ⟨t, ht, hd⟩, hc⟩ := hc
        split at hc <;> first | (cases hc; simp [ceff] at hv; done) | cases hc
      · rename_i x y hargs
        have hx := hop x (by rw [hargs]; simp)
        have hy := hop y (by rw [hargs]; simp)
        have ha : c.args.map a.eval = #[a.eval x, a.eval y] := by rw [← Array.toArray_toList (xs := c.args), hargs]; simp
        simp only [Option.bind_eq_some_iff] at hc
        obtain ⟨t, ht, d, hd, hc⟩ := hc
        split at hc
        · rename_i e
          simp only [Option.bind_eq_some_iff] at hc
          obtain ⟨n, hn, i, hi, z, hz, u, hg, d1, ⟨t1, ht1, hd1⟩, hc⟩ := hc
          have hg := guardB_some hg
          simp only [Bool.and_eq_true, decide_eq_true_eq, bne_iff_ne, ne_eq, beq_iff_eq] at hg
          obtain ⟨⟨⟨⟨⟨g1, g2⟩, g3⟩, g4⟩, g5⟩, g6⟩ := hg
          split at hc
          · cases hc
            obtain ⟨φ1, w1, v', r1, r2, r3, r4⟩ := app_sound (ty := type) s ht ht1 hd hd1 (.inl ⟨_, rfl⟩) hn hi g4 g3 hz g6 hx hy hv
            refine ⟨φ1, w1, v', .inl ?_, r2, r3, r4⟩
            rw [hrun, ha]; simp [builtin, r1]
          · cases hc
            obtain ⟨φ1, w1, v', r1, r2, r3, r4⟩ := app_sound (ty := type) s ht ht1 hd hd1 (.inr rfl) hn hi g4 g3 hz g6 hx hy hv
            refine ⟨φ1, w1, v', .inl ?_, r2, r3, r4⟩
            rw [hrun, ha]; simp [builtin, r1]
          · cases hc
        · cases hc
      · rename_i x y hargs
        have hx := hop x (by rw [hargs]; simp)
        have hy := hop y (by rw [hargs]; simp)
        have ha : c.args.map a.eval = #[a.eval x, a.eval y] := by rw [← Array.toArray_toList (xs := c.args), hargs]; simp
        simp only [Option.bind_eq_some_iff] at hc
        obtain ⟨t, ht, d, hd, hc⟩ := hc
        split at hc
        · simp only [Option.bind_eq_some_iff] at hc
          obtain ⟨n, hn, hc⟩ := hc
          cases hc
          obtain ⟨w1, r1, r2, r3, r4⟩ := cpy_sound (ty := type) s ht hd hn hx hy (H1 := H1) (v := v) hv
          refine ⟨φ, w1, v, .inl ?_, r2, r3, r4⟩
          rw [hrun, ha]; simp [builtin, r1]
        · cases hc
      · rename_i x y hargs
        have hx := hop x (by rw [hargs]; simp)
        have hy := hop y (by rw [hargs]; simp)
        have ha : c.args.map a.eval = #[a.eval x, a.eval y] := by rw [← Array.toArray_toList (xs := c.args), hargs]; simp
        simp only [Option.bind_eq_some_iff] at hc
        obtain ⟨t, ht, d, hd, hc⟩ := hc
        split at hc
        · simp only [Option.bind_eq_some_iff] at hc
          obtain ⟨kd, hkd, kk, hkk, hc⟩ := hc
          cases hc
          obtain ⟨rfl, w1, r1, r3, r4⟩ := del_sound (ty := type) s ht hd hkd hkk hx hy (H1 := H1) (v := v) hv
          refine ⟨φ, w1, undef, .inl ?_, VR.undef _, r3, r4⟩
          rw [hrun, ha]; simp [builtin, r1]; rfl
        · cases hc
      · cases hc; simp [ceff] at hv
      · cases hc; simp [ceff] at hv
      · rename_i x hargs
        have hx := hop x (by rw [hargs]; simp)
        have ha : c.args.map a.eval = #[a.eval x] := by rw [← Array.toArray_toList (xs := c.args), hargs]; simp
        cases hc
        simp only [ceff] at hv
        split at hv
        · rename_i e
          rw [e] at hx
          cases hv
          have e2 : a.eval x = .slice none 0 0 := by generalize a.eval x = u at hx; cases hx; rfl
          refine ⟨φ, w, .pointer none, .inl ?_, .pnil, s, Next.refl _ _ _⟩
          rw [hrun, ha, e2]; rfl
        · rename_i ad n k e
          rw [e] at hx
          split at hv
          · cases hv
          · rename_i hk
            cases hv
            obtain ⟨L, c', hφ, e2, hc'⟩ : ∃ L c', φ ad.block = some L ∧ a.eval x = .slice (some ⟨L.b, L.sh + ad.off, none⟩) n c' ∧ c' ≠ 0 := by
              generalize a.eval x = u at hx
              cases hx with
              | slc h hl => exact ⟨_, _, h, rfl, hk⟩
              | slo h hl hc hz => exact ⟨_, _, h, rfl, by omega⟩
              | slz h => exact absurd rfl hk
            refine ⟨φ, w, .pointer (some ⟨L.b, L.sh + ad.off, none⟩), .inl ?_, .ptr hφ, s, Next.refl _ _ _⟩
            rw [hrun, ha, e2]
            simp [builtin, Lib.run_unsafeSliceData_row _ _ _ _ _ _ hc']
        · cases hv
      · rename_i x y hargs
        have hx := hop x (by rw [hargs]; simp)
        have hy := hop y (by rw [hargs]; simp)
        have ha : c.args.map a.eval = #[a.eval x, a.eval y] := by rw [← Array.toArray_toList (xs := c.args), hargs]; simp
        simp only [Option.bind_eq_some_iff] at hc
        obtain ⟨t, ht, d, hd, hc⟩ := hc
        split at hc
        · simp only [Option.bind_eq_some_iff] at hc
          obtain ⟨n, hn, u, hg, hc⟩ := hc
          have hg := guardB_some hg
          obtain rfl : n = 1 := by simpa using hg
          cases hc
          obtain ⟨w1, v', r1, r2, r3, r4⟩ := custr_sound (ty := type) s ht hd hn hx hy (H1 := H1) (v := v) hv
          refine ⟨φ, w1, v', .inl ?_, r2, r3, r4⟩
          rw [hrun, ha]; simp [builtin, r1]
        · cases hc
      · rename_i x hargs
        have hx := hop x (by rw [hargs]; simp)
        have ha : c.args.map a.eval = #[a.eval x] := by rw [← Array.toArray_toList (xs := c.args), hargs]; simp
        simp only [Option.bind_eq_some_iff] at hc
        obtain ⟨t, ht, d, hd, hc⟩ := hc
        split at hc
        · simp only [Option.bind_eq_some_iff] at hc
          obtain ⟨z, hz, u, hg, hc⟩ := hc
          have hg := guardB_some hg
          cases hc
          obtain ⟨w1, r1, r2, r3, r4⟩ := clr_sound (ty := type) s ht hd hz hg hx (H1 := H1) (v := v) hv
          refine ⟨φ, w1, v, .inl ?_, r2, r3, r4⟩
          rw [hrun, ha]; simp [builtin, r1]
        · cases hc
      · cases hc
  case convert sd dd x =>
    simp only [Option.bind_eq_some_iff] at hc
    obtain ⟨s1, hs1, d1, hd1, hc⟩ := hc
    split at hc
    · cases hc; simp [ceff] at hv
    · simp only [Option.bind_eq_some_iff] at hc
      obtain ⟨ed, _, hc⟩ := hc
      split at hc
      · cases hc; simp [ceff] at hv
      · cases hc
    · simp only [Option.bind_eq_some_iff] at hc
      obtain ⟨ed, _, hc⟩ := hc
      split at hc
      · cases hc; simp [ceff] at hv
      · cases hc
    · cases hc
  case load t x =>
    simp only [Option.bind_eq_some_iff] at hc
    obtain ⟨_, _, hc⟩ := hc; cases hc; simp [ceff] at hv
  case lookup t x k ok =>
    simp only [Option.bind_eq_some_iff] at hc
    obtain ⟨_, _, hc⟩ := hc
    split at hc
    · simp only [Option.bind_eq_some_iff] at hc
      obtain ⟨_, _, _, _, _, _, _, _, hc⟩ := hc; cases hc; simp [ceff] at hv
    · cases hc
  case move x => cases hc; simp [ceff] at hv
  case assign x => cases hc; simp [ceff] at hv
  case pick c x y => cases hc; simp [ceff] at hv
  case alloc t =>
    simp only [Option.bind_eq_some_iff] at hc
    obtain ⟨_, _, _, _, hc⟩ := hc; cases hc; simp [ceff] at hv
  case box t x =>
    simp only [Option.bind_eq_some_iff] at hc
    obtain ⟨_, _, hc⟩ := hc; cases hc; simp [ceff] at hv
  case build t ps =>
    simp only [Option.bind_eq_some_iff] at hc
    obtain ⟨_, _, _, _, hc⟩ := hc
    split at hc
    · simp only [Option.bind_eq_some_iff] at hc
      obtain ⟨_, _, _, _, hc⟩ := hc; cases hc; simp [ceff] at hv
    · simp only [Option.bind_eq_some_iff] at hc
      obtain ⟨_, _, _, _, hc⟩ := hc; cases hc; simp [ceff] at hv
    · cases hc
  case buildSlice t n ps =>
    simp only [Option.bind_eq_some_iff] at hc
    obtain ⟨_, _, hc⟩ := hc
    split at hc
    · simp only [Option.bind_eq_some_iff] at hc
      obtain ⟨_, _, _, _, _, _, hc⟩ := hc; cases hc; simp [ceff] at hv
    · cases hc
  case makeMap t r =>
    simp only [Option.bind_eq_some_iff] at hc
    obtain ⟨_, _, hc⟩ := hc; cases hc; simp [ceff] at hv
  case makeSlice t l c =>
    simp only [Option.bind_eq_some_iff] at hc
    obtain ⟨_, _, hc⟩ := hc
    split at hc
    · simp only [Option.bind_eq_some_iff] at hc
      obtain ⟨_, _, _, _, _, _, _, _, hc⟩ := hc; cases hc; simp [ceff] at hv
    · cases hc
  case nilCheck x => cases hc; simp [ceff] at hv
  case binOp op t x y yt =>
    simp only [Option.bind_eq_some_iff] at hc
    obtain ⟨d, _, hc⟩ := hc
    split at hc
    · cases hc; simp [ceff] at hv
    · cases hc; simp [ceff] at hv
    · split at hc <;> first | (cases hc; simp [ceff] at hv; done) | cases hc
    · simp only [Option.bind_eq_some_iff] at hc
      obtain ⟨k, _, hc⟩ := hc
      split at hc
      · split at hc
        · cases hc; simp [ceff] at hv
        · split at hc
          · cases hc; simp [ceff] at hv
          · cases hc
      · split at hc
        · cases hc; simp [ceff] at hv
        · split at hc
          · cases hc; simp [ceff] at hv
          · cases hc
      · cases hc
  case unOp op t x => cases hc; simp [ceff] at hv
  case makeFunc fn f c =>
    split at hc
    · cases hc; simp [ceff] at hv
    · cases hc
  case slice t x lo hi mx =>
    simp only [Option.bind_eq_some_iff] at hc
    obtain ⟨_, _, hc⟩ := hc
    split at hc
    · simp only [Option.bind_eq_some_iff] at hc
      obtain ⟨_, _, hc⟩ := hc; cases hc; simp [ceff] at hv
    · simp only [Option.bind_eq_some_iff] at hc
      obtain ⟨_, _, _, _, hc⟩ := hc; cases hc; simp [ceff] at hv
    · cases hc
  case fieldAddr t x f =>
    simp only [Option.bind_eq_some_iff] at hc
    obtain ⟨_, _, hc⟩ := hc
    split at hc
    · simp only [Option.bind_eq_some_iff] at hc
      obtain ⟨_, _, _, _, _, _, hc⟩ := hc; cases hc; simp [ceff] at hv
    · cases hc
  case field t x f =>
    simp only [Option.bind_eq_some_iff] at hc
    obtain ⟨_, _, hc⟩ := hc
    split at hc
    · simp only [Option.bind_eq_some_iff] at hc
      obtain ⟨_, _, _, _, hc⟩ := hc; cases hc; simp [ceff] at hv
    · cases hc
  case indexAddr t x i =>
    simp only [Option.bind_eq_some_iff] at hc
    obtain ⟨_, _, hc⟩ := hc
    split at hc
    · simp only [Option.bind_eq_some_iff] at hc
      obtain ⟨_, _, hc⟩ := hc; cases hc; simp [ceff] at hv
    · simp only [Option.bind_eq_some_iff] at hc
      obtain ⟨_, _, hc⟩ := hc; cases hc; simp [ceff] at hv
    · cases hc
  case index t x i =>
    simp only [Option.bind_eq_some_iff] at hc
    obtain ⟨_, _, hc⟩ := hc
    split at hc
    · simp only [Option.bind_eq_some_iff] at hc
      obtain ⟨_, _, _, _, hc⟩ := hc; cases hc; simp [ceff] at hv
    · cases hc; simp [ceff] at hv
    · cases hc
  case next x b =>
    simp only [Option.bind_eq_some_iff] at hc
    obtain ⟨_, _, hc⟩ := hc; cases hc; simp [ceff] at hv
  case extract x i => cases hc; simp [ceff] at hv
  all_goals cases hc
end
end Go.Cn
/-! ## Calls; what a function's body says of its calls; rounds of a range over a function. -/
namespace Go.Cn
open Go

/-- A function that may be entered. -/
def Ent (P : Program) (f : FuncId) : Prop := ∃ fn, P.funcs[f]? = some fn ∧ fn.body.isSome = true ∧ (fn.name == "runtime.NumGoroutine") = false
def CCall (P : Program) (f : FuncId) (args : List Value) (H : CH) (Q : Value → CH → Prop) : Prop :=
  Ent P f ∧ ∀ (φ : Emb) (w : World) (args' : Array Value), Sim P φ H w → Glob P φ → VRs φ args args' →
    Calls P f args' w fun e w1 => ∃ v', e = .returned v' ∧ ∃ φ1 v H1, Q v H1 ∧ Next φ H w φ1 H1 w1 ∧ Sim P φ1 H1 w1 ∧ VR φ1 v v'
theorem CCall.mono {P : Program} {f : FuncId} {args : List Value} {H : CH} {Q Q' : Value → CH → Prop} (h : CCall P f args H Q) (hq : ∀ v h, Q v h → Q' v h) : CCall P f args H Q' :=
  ⟨h.1, fun φ w args' s g a => (h.2 φ w args' s g a).mono fun _ _ ⟨v', e1, φ1, v, H1, q, r⟩ => ⟨v', e1, φ1, v, H1, hq _ _ q, r⟩⟩
def setParams (tm : List Value) (ps : Array Tmp) (args : List Value) : List Value := (ps.toList.zip args).foldl (fun tm p => tm.set p.1 p.2) tm
def CYield (P : Program) (n : Nat) (args : List Value) (H : CH) (Q : Value → CH → Prop) : Prop :=
  ∃ pend tm ps ca cb, H.get n = some (.loop .ready pend tm ps ca cb) ∧ args.length = ps.size ∧
    CW P ca (fun e tm1 H1 => e = none ∧ ∃ pend1, H1.get n = some (.loop .ready pend1 tm ps ca cb) ∧
      CW P cb (fun e2 _ H2 => ∃ pend2, H2.get n = some (.loop .busy pend2 tm ps ca cb) ∧
        Q (.bool e2.isNone) (H2.set n (.loop (if e2.isNone then .ready else .done) e2 tm ps ca cb)))
        tm1 (H1.set n (.loop .busy pend1 tm ps ca cb)))
      (setParams tm ps args) H
def CCallV (P : Program) (f : Value) (args : List Value) (H : CH) (Q : Value → CH → Prop) : Prop :=
  match f with
  | .func (.func g) fi ca => CCall P g (fi.toList ++ args ++ ca.toList) H Q
  | .func (.yield n) _ _ => CYield P n args H Q
  | _ => False
def cstep (P : Program) (tm : List Value) (H : CH) (K : Value → CH → Prop) : CI → Prop
  | .call f args => CCall P f (args.map (cev tm)) H K
  | .callv f args => CCallV P (cev tm f) (args.map (cev tm)) H K
  | .nxt x => cnext H (cev tm x) K
  | ci => ∃ v H1, cdet (cev tm) H ci = some (v, H1) ∧ K v H1

theorem VRs.map {φ : Emb} {ρ ρ' : Operand → Value} (xs : Array Operand) (h : ∀ x ∈ xs.toList, VR φ (ρ x) (ρ' x)) : VRs φ (xs.toList.map ρ) (xs.map ρ') := by
  have := VA.arr xs h
  refine ⟨by simp, fun i => ?_⟩
  by_cases hi : i < xs.size
  · refine this.rel i _ _ ?_ ?_
    · simp [hi]
    · simp [hi]
  · simp [hi, VR.undef]
theorem VRs.of {φ : Emb} {xs : List Value} {ys : Array Value} (h : VA φ xs.toArray ys) : VRs φ xs ys := by
  refine ⟨by have := h.1; simpa using this, fun i => ?_⟩
  by_cases hi : i < xs.length
  · have hi' : i < ys.size := by have := h.1; simp at this; omega
    exact h.rel i _ _ (by simp [hi]) (by simp [hi'])
  · have hi' : ¬ i < ys.size := by have := h.1; simp at this; omega
    simp [hi, hi', VR.undef]
theorem VRs.va {φ : Emb} {xs : List Value} {ys : Array Value} (h : VRs φ xs ys) : VA φ xs.toArray ys := by
  refine .mk' (by simp [h.1]) fun i x y e1 e2 => ?_
  have := h.2 i
  simp only [List.getElem?_toArray] at e1
  simpa [e1, e2] using this
theorem VRs.append {φ : Emb} {xs us : List Value} {ys vs : Array Value} (h : VRs φ xs ys) (k : VRs φ us vs) : VRs φ (xs ++ us) (ys ++ vs) := by
  refine .of ?_
  have := h.va.append k.va
  simpa using this
theorem VRs.undefs (φ : Emb) (k : Nat) : VRs φ (List.replicate k undef) (Array.replicate k undef) := by
  refine .of (.mk' (by simp) fun i x y e1 e2 => ?_)
  simp only [List.getElem?_toArray, List.getElem?_replicate, Array.getElem?_replicate] at e1 e2
  split at e1
  · rename_i h; rw [if_pos h] at e2; cases e1; cases e2; exact VR.undef _
  · cases e1

/-! ### the results of a function -/
def cres1 (tm : List Value) (H : CH) : CRes → Option Value
  | .tmp t => some (tm.getD t undef)
  | .cell a n => crd (cev tm) H (.ld (.tmp a) n)
def cres (tm : List Value) (H : CH) (rs : List CRes) : Option Value :=
  (rs.mapM (cres1 tm H)).map fun
    | [v] => v
    | vs => .tuple vs.toArray
section
variable {P : Program} {φ : Emb} {tm : List Value} {a : Act} {H : CH} {w : World}
def compRes (P : Program) : ResultVar → Option CRes
  | .tmp t => some (CRes.tmp t)
  | .cell a t => do some (CRes.cell a (← wide P t))
/-- A result, as the model reads it. -/
def rres (tmps : Array Value) : ResultVar → Sem Value
  | .tmp t => pure (tmps.getD t undef)
  | .cell a t => do loadVar t (← asAddr (tmps.getD a undef))
theorem results_eq (fn : Func) (tmps : Array Value) : results fn tmps = (do let vs ← fn.results.mapM (rres tmps); pure (if h : vs.size = 1 then vs[0] else .tuple vs)) := by
  unfold results
  congr 1
theorem res1_sound (s : Sim P φ H w) (ht : VRs φ tm a.tmps) {r : ResultVar} {c : CRes} (hc : compRes P r = some c) {v : Value} (h : cres1 tm H c = some v) :
    ∃ v', VR φ v v' ∧ (rres a.tmps r).run P w = .ok v' w := by
  cases r with
  | tmp t =>
    simp [compRes] at hc; subst hc
    simp only [cres1, Option.some.injEq] at h
    subst h
    exact ⟨_, ht.2 t, rfl⟩
  | cell x t =>
    simp only [compRes, Option.bind_eq_bind, Option.bind_eq_some_iff, Option.some.injEq] at hc
    obtain ⟨wd, hw, rfl⟩ := hc
    simp only [cres1] at h
    have hx : VR φ (tm.getD x undef) (a.tmps.getD x undef) := ht.2 x
    obtain ⟨r, h1, h2⟩ := load_sound s hw hx (v := v) (by cases wd <;> exact h)
    refine ⟨r, h1, ?_⟩
    have hp : ∃ ad, a.tmps.getD x undef = .pointer (some ad) := by
      have : ∃ ad, tm.getD x undef = .pointer (some ad) := by
        cases wd <;> simp only [crd, cev] at h <;> (split at h) <;> first | (rename_i ad e; exact ⟨ad, e⟩) | cases h
      obtain ⟨ad, e⟩ := this
      rw [e] at hx
      obtain ⟨L, _, _, e2⟩ := hx.ptr_inv
      exact ⟨_, e2⟩
    obtain ⟨ad, hp⟩ := hp
    rw [hp] at h2
    simp only [rres, hp]
    simp only [Instr.loadAt, Instr.sureAddr, Sem.run_bind, Sem.run_pure, Result.andThen_ok] at h2
    simp only [asAddr, Sem.run_bind, Sem.run_pure, Result.andThen_ok]
    exact h2
theorem resM_sound (s : Sim P φ H w) (ht : VRs φ tm a.tmps) : ∀ {rs : List ResultVar} {cs : List CRes} {vs : List Value}, rs.mapM (compRes P) = some cs → cs.mapM (cres1 tm H) = some vs →
    ∃ vs', VA φ vs.toArray vs'.toArray ∧ (rs.mapM (rres a.tmps)).run P w = .ok vs' w := by
  intro rs
  induction rs with
  | nil =>
    intro cs vs h1 h2
    simp at h1; subst h1
    simp at h2; subst h2
    exact ⟨[], .mk' rfl (fun i x y e => by simp at e), rfl⟩
  | cons r rs ih =>
    intro cs vs h1 h2
    simp only [List.mapM_cons, Option.bind_eq_bind, Option.bind_eq_some_iff, Option.pure_def, Option.some.injEq] at h1
    obtain ⟨c, hc, cs', hcs, rfl⟩ := h1
    simp only [List.mapM_cons, Option.bind_eq_bind, Option.bind_eq_some_iff, Option.pure_def, Option.some.injEq] at h2
    obtain ⟨v, hv, vs2, hvs, rfl⟩ := h2
    obtain ⟨v', g1, g2⟩ := res1_sound s ht hc hv
    obtain ⟨vs', g3, g4⟩ := ih hcs hvs
    refine ⟨v' :: vs', ?_, ?_⟩
    · have one : VA φ #[v] #[v'] := ⟨rfl, fun i hi => by
        have : i = 0 := by simpa using hi
        subst this; exact g1⟩
      have := one.append g3
      simpa using this
    · simp only [List.mapM_cons, Sem.run_bind, g2, Result.andThen_ok]
      rw [g4]
      rfl
theorem results_sound (s : Sim P φ H w) (ht : VRs φ tm a.tmps) {fn : Func} {cs : List CRes} (hc : fn.results.toList.mapM (compRes P) = some cs) {v : Value} (h : cres tm H cs = some v) :
    ∃ v', VR φ v v' ∧ (results fn a.tmps).run P w = .ok v' w := by
  simp only [cres, Option.map_eq_some_iff] at h
  obtain ⟨vs, hvs, h⟩ := h
  obtain ⟨vs', g1, g2⟩ := resM_sound s ht hc hvs
  have hl : vs.length = vs'.length := by have := g1.1; simpa using this
  refine ⟨if h : vs'.toArray.size = 1 then vs'.toArray[0] else .tuple vs'.toArray, ?_, ?_⟩
  · split at h
    · rename_i x
      subst h
      have : vs'.length = 1 := by rw [← hl]; rfl
      match vs', this with
      | [y], _ => exact g1.rel 0 x y rfl rfl
    · rename_i hne
      subst h
      have : ¬ vs'.toArray.size = 1 := by
        intro h1
        simp at h1
        rw [← hl] at h1
        match vs, h1 with
        | [x], _ => exact hne x rfl
      rw [dif_neg this]
      exact g1.tuple
  · rw [results_eq]
    simp only [Sem.run_bind, Array.mapM_eq_mapM_toList, Sem.run_map]
    rw [g2]
    rfl
end
end Go.Cn
/-! ## One operation, done by the machine. -/
namespace Go.Cn
open Go

section
variable {P : Program} {φ : Emb} {tm : List Value} {a : Act} {H H1 : CH} {w : World}
theorem det_sound (s : Sim P φ H w) {o : Oper} {ci : CI} {v : Value} (hc : compOp P o = some ci) (hv : cdet (cev tm) H ci = some (v, H1))
    (hr : ∀ x ∈ o.op.operands.toList, VR φ (cev tm x) (a.eval x)) :
    ∃ φ1 w1 v', Done P a o w v' w1 ∧ VR φ1 v v' ∧ Sim P φ1 H1 w1 ∧ Next φ H w φ1 H1 w1 := by
  unfold cdet at hv
  split at hv
  · rename_i u e
    cases hv
    obtain ⟨v', h1, h2⟩ := pure_sound hc e hr
    exact ⟨φ, w, v', .inl (h2 w), h1, s, Next.refl _ _ _⟩
  · split at hv
    · rename_i u e
      cases hv
      obtain ⟨v', h1, h2⟩ := read_sound s hc e hr
      exact ⟨φ, w, v', .inl h2, h1, s, Next.refl _ _ _⟩
    · split at hv
      · rename_i ob f e
        cases hv
        obtain ⟨rob, w1, sz, v', h1, h2, _, h4⟩ := alloc_sound hc e hr w
        obtain ⟨h5, h6⟩ := s.add (sz := sz) (o := ob) h2.heap ⟨h2.os, h2.tape, h2.out⟩ h2.obj
        exact ⟨_, w1, v', .inl h1, h4 _, h5, h6⟩
      · exact eff_sound s hc hv hr
theorem done_defer {o : Oper} {ci : CI} (hc : compOp P o = some ci) : ∀ c, o.op ≠ .defer c := by
  intro c e
  simp [compOp, e] at hc
/-- The machine does an operation. -/
theorem step_done {b : Frame} {k : List Item} {cs : List Frame} {w1 : World} {ops : Array Oper} {i : Nat} {rest : List Nat} {o : Oper} {v' : Value}
    (ho : ops[i]? = some o) (hw : Region.wanted o (yielded ops a.tmps) = true) (hd : ∀ c, o.op ≠ .defer c) (h : Done P a o w v' w1) :
    Steps P (lone (b.atR a (.inRegion ops (i :: rest) :: k)) cs w) (lone (b.atR (a.put o.dst v') (.inRegion ops rest :: k)) cs w1) := by
  refine .one (step_lone_go ?_)
  have hfin : (b.atR a (.inRegion ops (i :: rest) :: k)).finish v' = b.atR (a.put o.dst v') (.inRegion ops rest :: k) := by
    rw [Frame.finish_atR, ho]; rfl
  rw [stepGR_op ho hw, Oper.semAt_eq _ _ _ hd, ← hfin]
  rcases h with h | ⟨h, rfl⟩ <;> simp [stepG.apply, h]
/-- The machine enters a function, which comes back. -/
theorem step_call {b : Frame} {k : List Item} {cs : List Frame} {w2 : World} {ops : Array Oper} {i : Nat} {rest : List Nat} {o : Oper} {f : FuncId} {args : Array Value} {R : Ending → World → Prop}
    (ho : ops[i]? = some o) (hw : Region.wanted o (yielded ops a.tmps) = true) (hd : ∀ c, o.op ≠ .defer c)
    (h : (execOp a.eval o).run P w = .ok (.enter f args) w2) (hcall : Calls P f args w2 R) (hR : ∀ e w1, R e w1 → ∃ v, e = .returned v) :
    ∃ v' w1, R (.returned v') w1 ∧ Steps P (lone (b.atR a (.inRegion ops (i :: rest) :: k)) cs w) (lone (b.atR (a.put o.dst v') (.inRegion ops rest :: k)) cs w1) := by
  obtain ⟨e, w1, fr, r, hsteps, _, hleave⟩ := hcall (b.atR a (.inRegion ops (i :: rest) :: k) :: cs)
  obtain ⟨v', rfl⟩ := hR e w1 r
  refine ⟨v', w1, r, ?_⟩
  have hfin : (b.atR a (.inRegion ops (i :: rest) :: k)).finish v' = b.atR (a.put o.dst v') (.inRegion ops rest :: k) := by
    rw [Frame.finish_atR, ho]; rfl
  have henter : step P (lone (b.atR a (.inRegion ops (i :: rest) :: k)) cs w) =
      .next (lone (Frame.enter P f args .normal) (b.atR a (.inRegion ops (i :: rest) :: k) :: cs) w2) :=
    step_lone_go (by rw [stepGR_op ho hw, Oper.semAt_eq _ _ _ hd]; simp [stepG.apply, h, Frame.atR])
  refine .head henter (Steps.trans hsteps (.one ?_))
  rw [← hfin]; exact step_leave_returned hleave
end
end Go.Cn
/-! ## A range over a function: its rounds, the statement; a function from its body. -/
namespace Go.Cn
open Go

section
variable {P : Program} {φ : Emb} {tm : List Value} {a : Act} {H H1 : CH} {w : World}
theorem setParams_rel : ∀ (ps : List Tmp) {xs : List Value} {ys : List Value} {tm : List Value} {tm' : Array Value}, VRs φ tm tm' → VA φ xs.toArray ys.toArray →
    VRs φ ((ps.zip xs).foldl (fun tm p => tm.set p.1 p.2) tm) ((ps.zip ys).foldl (fun tm p => tm.setIfInBounds p.1 p.2) tm') := by
  intro ps
  induction ps with
  | nil => intro xs ys tm tm' h _; exact h
  | cons p ps ih =>
    intro xs ys tm tm' h v
    have hl : xs.length = ys.length := by have := v.1; simpa using this
    match xs, ys, hl with
    | [], [], _ => exact h
    | x :: xs, y :: ys, hl =>
      simp only [List.zip_cons_cons, List.foldl_cons]
      refine ih (h.set (v.rel 0 x y rfl rfl) p) (.mk' (by simpa using hl) fun i a b e1 e2 => v.rel (i + 1) a b ?_ ?_)
      · simpa using e1
      · simpa using e2
theorem loop_turn (s : Sim P φ H w) {n : Nat} {L : Loc} (hn : φ n = some L) {st : LoopState} {pend : Ex} {tm : List Value} {ps : Array Tmp} {ca cb : CCode} (ho : H.get n = some (.loop st pend tm ps ca cb))
    {r : Loop} (hr : w.heap[L.b]? = some (.loop r)) {st1 : LoopState} {pend1 : Ex} :
    Sim P φ (H.set n (.loop st1 pend1 tm ps ca cb)) (w.putObj L.b (.loop { r with state := st1, pending := pend1.map Jump.code })) ∧
    Next φ H w φ (H.set n (.loop st1 pend1 tm ps ca cb)) (w.putObj L.b (.loop { r with state := st1, pending := pend1.map Jump.code })) := by
  obtain ⟨r0, h0, h1, h2, h3, h4, h5, h6⟩ := s.obj n L _ hn ho
  rw [hr] at h0; cases h0
  refine s.turn hn ho rfl (fun _ => rfl) rfl rfl ⟨rfl, rfl, rfl⟩ ?_
  refine ⟨_, World.putObj_heap_same (s.dom n L hn).2, rfl, rfl, h3, h4, h5, h6⟩
theorem yield_sound (s : Sim P φ H w) (g0 : Glob P φ) {n : Nat} {L : Loc} (hn : φ n = some L) {args : List Value} {args' : Array Value} (ha : VRs φ args args') {Q : Value → CH → Prop} (h : CYield P n args H Q) :
    ∃ fn tmps assign body, (Instr.yield L.b args').run P w = .ok (.round L.b fn tmps assign body) w ∧
      ∀ (c : Frame) (cs : List Frame), ∃ v v' φ1 H1 w1, Q v H1 ∧ VR φ1 v v' ∧ Sim P φ1 H1 w1 ∧ Next φ H w φ1 H1 w1 ∧
        Steps P (lone (Frame.round L.b fn tmps assign body .normal) (c :: cs) w) (lone (c.finish v') cs w1) := by
  obtain ⟨pend, tm, ps, ca, cb, ho, hl, h⟩ := h
  obtain ⟨r, hr, h1, h2, h3, h4, h5, h6⟩ := s.obj n L _ hn ho
  refine ⟨_, _, _, _, run_yield hr (by rw [h4, ← hl]; exact ha.1.symm), fun c cs => ?_⟩
  let b : Frame := { (default : Frame) with fn := r.fn, kind := .normal, roundOf := some L.b }
  have hps : (r.params.zip args').foldl (fun tmps (t, a) => tmps.setIfInBounds t a) r.tmps = (ps.toList.zip args'.toList).foldl (fun tm p => tm.setIfInBounds p.1 p.2) r.tmps := by
    rw [h4, ← Array.foldl_toList]; simp [Array.toList_zip]
  rw [hps]
  have htr : VRs φ (setParams tm ps args) ((ps.toList.zip args'.toList).foldl (fun tm p => tm.setIfInBounds p.1 p.2) r.tmps) := setParams_rel _ h3 (by simpa using ha.va)
  generalize (ps.toList.zip args'.toList).foldl (fun tm p => tm.setIfInBounds p.1 p.2) r.tmps = tmps at htr ⊢
  have hb0 : Frame.round L.b r.fn tmps r.assign r.body .normal = b.atR { tmps := tmps, defers := [] } [.code r.assign, .beginRound, .code r.body] := by
    simp [Frame.round, Frame.atR, b]
  rw [hb0]
  have hround : RoundOk φ H b := fun l hl => by cases hl; exact ⟨n, L, _, hn, rfl, ho, rfl⟩
  have p0 : Pre P φ (setParams tm ps args) H b { tmps := tmps, defers := [] } w 0 := ⟨s, g0, htr, hround, ⟨[], rfl, List.nodup_nil, fun _ h => by cases h⟩, Nat.zero_le _⟩
  obtain ⟨e, tm1, H1, φ1, a1, w1, q, n1, p1, r1⟩ := h _ h5 b [.beginRound, .code r.body] (c :: cs) φ _ w 0 p0
  obtain ⟨rfl, pend1, ho1, q⟩ := q
  have hn1 := n1.le _ _ hn
  obtain ⟨ra, hra, g1, g2, g3, g4, g5, g6⟩ := p1.sim.obj n L _ hn1 ho1
  obtain ⟨s2, n2⟩ := loop_turn p1.sim hn1 ho1 hra (st1 := .busy) (pend1 := pend1)
  have ebusy : (w1.putObj L.b (.loop { ra with state := .busy })) = (w1.putObj L.b (.loop { ra with state := .busy, pending := pend1.map Jump.code })) := by rw [← g2]
  have st2 := stepR_beginRound (P := P) (b := b) (a := a1) (k := [.code r.body]) (cs := c :: cs) (l := L.b) rfl (run_beginRound hra g1)
  rw [ebusy] at st2
  have p2 : Pre P φ1 tm1 _ b a1 _ 0 := p1.next n2 s2 p1.tr rfl
  obtain ⟨e2, tm2, H2, φ2, a2, w2, q2, n3, p3, r3⟩ := q _ h6 b [] (c :: cs) φ1 a1 _ 0 p2
  obtain ⟨pend2, ho2, q2⟩ := q2
  have hn2 := n3.le _ _ hn1
  obtain ⟨rb, hrb, k1, k2, k3, k4, k5, k6⟩ := p3.sim.obj n L _ hn2 ho2
  obtain ⟨s4, n4⟩ := loop_turn p3.sim hn2 ho2 hrb (st1 := if e2.isNone then .ready else .done) (pend1 := e2)
  refine ⟨.bool e2.isNone, .bool e2.isNone, φ2, _, _, q2, .bool _, s4, ((n1.trans n2).trans n3).trans n4, Steps.trans r1 (.head st2 ?_)⟩
  cases e2 with
  | none => exact Steps.trans r3 (.one (stepR_round_end rfl rfl (run_endRound none hrb)))
  | some j => cases j with
    | exit id =>
      obtain ⟨k2, ek, s3⟩ := r3
      exact Steps.trans s3 (.one (stepR_round_exit rfl rfl (by rw [ek]; rfl) (run_endRound (some (.exit id)) hrb)))
    | goto l =>
      obtain ⟨k2, ek, s3⟩ := r3
      exact Steps.trans s3 (.one (stepR_round_goto rfl rfl (by rw [ek]; rfl) (run_endRound (some (.goto l)) hrb)))
    | ret =>
      obtain ⟨k2, s3⟩ := r3
      exact Steps.trans s3 (.one (stepR_round_ret rfl rfl (run_endRound (some .ret) hrb)))

/-! ### worlds that differ elsewhere -/
theorem Sim.other (s : Sim P φ H w) {r : Nat} (hr : NotIn φ r) (ob : Obj) : Sim P φ H (w.putObj r ob) :=
  ⟨fun n L h => by rw [World.putObj_size]; exact s.dom n L h, s.inj, fun n L o h k => (s.obj n L o h k).heap (World.putObj_heap_other (hr n L h)), s.fin⟩
theorem Next.other {φ0 : Emb} {H0 : CH} {w0 : World} (n : Next φ0 H0 w0 φ H w) {r : Nat} (hr : w0.heap.size ≤ r) (ob : Obj) : Next φ0 H0 w0 φ H (w.putObj r ob) :=
  ⟨n.le, n.nx, by rw [World.putObj_size]; exact n.sz, n.news, n.olds, n.loops, n.notin, n.free, fun q hq h => (World.putObj_heap_other (by omega)).trans (n.same q hq h), n.os, n.tape, n.out⟩
theorem Sim.push (s : Sim P φ H w) (ob : Obj) : Sim P φ H (w.alloc ob) ∧ Next φ H w φ H (w.alloc ob) := by
  have hold : ∀ r, r < w.heap.size → (w.alloc ob).heap[r]? = w.heap[r]? := fun r hr => by
    show (w.heap.push ob)[r]? = _
    rw [Array.getElem?_push, if_neg (by omega)]
  have hsz : (w.alloc ob).heap.size = w.heap.size + 1 := by show (w.heap.push ob).size = _; simp
  refine ⟨⟨fun n L h => ⟨(s.dom n L h).1, by rw [hsz]; exact Nat.lt_succ_of_lt (s.dom n L h).2⟩, s.inj, fun n L o h k => (s.obj n L o h k).heap (hold _ (s.dom n L h).2), s.fin⟩, ?_⟩
  exact ⟨φ.le_refl, Nat.le_refl _, by omega, fun n L h k => (by rw [h] at k; cases k), fun _ _ _ => rfl, fun _ o _ h k => ⟨o, h, k⟩, fun _ _ h => h, fun _ _ h => h, fun r hr _ => hold r hr, rfl, rfl, rfl⟩

/-! ### a function's way out -/
theorem leave_marks {cs : List Frame} {φ0 : Emb} {H0 : CH} {w0 : World} : ∀ (rs : List Nat) {w : World} {fr : Frame}, fr.mode = .returning → fr.defers = rs.map mk → rs.Nodup →
    (∀ r ∈ rs, w0.heap.size ≤ r ∧ r < w.heap.size ∧ w.heap[r]? = some (.deferred (some [])) ∧ NotIn φ r) → Sim P φ H w → Next φ0 H0 w0 φ H w →
    ∃ w1, Steps P (lone fr cs w) (lone { fr with defers := [] } cs w1) ∧ Sim P φ H w1 ∧ Next φ0 H0 w0 φ H w1 := by
  intro rs
  induction rs with
  | nil =>
    intro w fr hm hd _ _ s n
    refine ⟨w, ?_, s, n⟩
    have : ({ fr with defers := [] } : Frame) = fr := by cases fr; simp at hd; subst hd; rfl
    rw [this]; exact .refl _ _
  | cons r rs ih =>
    intro w fr hm hd nd hr s n
    obtain ⟨h1, h2, h3, h4⟩ := hr r (by simp)
    have hst := step_collected (P := P) (cs := cs) (by rw [hm]; simp) hd rfl (run_takeDeferred h3)
    obtain ⟨nr, nd⟩ := List.nodup_cons.1 nd
    obtain ⟨w1, q1, q2, q3⟩ := ih (w := w.putObj r (.deferred none)) (fr := { fr with defers := [] ++ rs.map mk }) hm rfl nd (fun q hq => by
      obtain ⟨a1, a2, a3, a4⟩ := hr q (by simp [hq])
      exact ⟨a1, by rw [World.putObj_size]; exact a2, by rw [World.putObj_heap_other (fun e : q = r => nr (by rw [← e]; exact hq))]; exact a3, a4⟩) (s.other h4 _) (n.other h1 _)
    exact ⟨w1, .head hst q1, q2, q3⟩
theorem ccall_of_body {f : FuncId} {fn : Func} {cf : CFun} {args : List Value} {Q : Value → CH → Prop} (hf : P.funcs[f]? = some fn) (hname : (fn.name == "runtime.NumGoroutine") = false)
    (hc : compFun P fn = some cf)
    (h : CW P cf.body (fun e tm1 H1 => (e = none ∨ e = some .ret) ∧ ∃ v, cres tm1 H1 cf.results = some v ∧ Q v H1) (args ++ List.replicate (cf.ntmps - args.length) undef) H) : CCall P f args H Q := by
  unfold compFun at hc
  simp only [Option.bind_eq_bind, Option.bind_eq_some_iff, Option.some.injEq] at hc
  obtain ⟨c, hbody, body, hcomp, results, hres, rfl⟩ := hc
  refine ⟨⟨fn, hf, by rw [hbody]; rfl, hname⟩, fun φ w args' s g0 ha cs => ?_⟩
  let b : Frame := { (default : Frame) with fn := f, kind := .normal, roundOf := none }
  have henter : Frame.enter P f args' .normal = b.atR { tmps := args' ++ Array.replicate (fn.ntmps - args'.size) undef, defers := [] } [.code c] := by
    simp [Frame.enter, Frame.atR, hf, hbody, b]
  have htr : VRs φ (args ++ List.replicate (fn.ntmps - args.length) undef) (args' ++ Array.replicate (fn.ntmps - args'.size) undef) := by
    rw [← ha.1]; exact ha.append (VRs.undefs _ _)
  have p0 : Pre P φ _ H b { tmps := args' ++ Array.replicate (fn.ntmps - args'.size) undef, defers := [] } w w.heap.size :=
    ⟨s, g0, htr, fun l hl => (by cases hl), ⟨[], rfl, List.nodup_nil, fun _ h => by cases h⟩, Nat.le_refl _⟩
  obtain ⟨e, tm1, H1, φ1, a1, w1, ⟨he, v, hv, hq⟩, n1, p1, r1⟩ := h _ hcomp b [] cs φ _ w _ p0
  rw [← henter] at r1
  obtain ⟨rs, hd, nd, hrs⟩ := p1.marks
  have hleave : ∃ todo, Steps P (lone (Frame.enter P f args' .normal) cs w) (lone { b.atR a1 todo with mode := .returning } cs w1) := by
    rcases he with rfl | rfl
    · exact ⟨[], Steps.trans r1 (.one (stepR_end rfl))⟩
    · obtain ⟨k2, s2⟩ := r1
      exact ⟨.code .ret :: k2, Steps.trans s2 (.one (stepR_ret rfl))⟩
  obtain ⟨todo, hst⟩ := hleave
  obtain ⟨w2, q1, q2, q3⟩ := leave_marks (P := P) (φ := φ1) (H := H1) (cs := cs) rs (w := w1) (fr := { b.atR a1 todo with mode := .returning }) rfl hd nd hrs p1.sim n1
  obtain ⟨v', z1, z2⟩ := results_sound (P := P) (fn := fn) q2 p1.tr (by exact hres) hv
  exact ⟨.returned v', w2, _, ⟨v', rfl, φ1, v, H1, hq, q3, q2, z1⟩, Steps.trans hst q1, rfl, rfl, rfl, rfl, fn, hf, z2⟩
end
end Go.Cn
/-! ## The rules for a range over a function, for a scope. -/
namespace Go.Cn
open Go

section
variable {P : Program} {φ : Emb} {tm : List Value} {a : Act} {H H1 : CH} {w : World} {Q : Post}
theorem run_callFunc {f : FuncId} (h : Ent P f) (args : Array Value) (w : World) : (callFunc f args).run P w = .ok (.enter f args) w := by
  obtain ⟨fn, h1, h2, h3⟩ := h
  have h4 : ¬ fn.body = none := by intro e; rw [e] at h2; cases h2
  have h5 : ¬ fn.name = "runtime.NumGoroutine" := by intro e; rw [e] at h3; simp at h3
  unfold callFunc
  simp [Sem.run_bind, h1, Result.andThen]
  rw [if_neg h5, if_neg h4]
theorem VR.func_inv {φ : Emb} {f : FuncId} {fi ca : Array Value} {v : Value} (h : VR φ (.func (.func f) fi ca) v) : ∃ fi' ca', v = .func (.func f) fi' ca' ∧ VA φ fi fi' ∧ VA φ ca ca' := by
  cases h with
  | func h1 h2 v1 v2 => exact ⟨_, _, rfl, ⟨h1, v1⟩, ⟨h2, v2⟩⟩
theorem VR.yield_inv {φ : Emb} {n : Nat} {v : Value} {fi ca : Array Value} (h : VR φ (.func (.yield n) fi ca) v) : ∃ L, φ n = some L ∧ v = .func (.yield L.b) #[] #[] ∧ fi = #[] ∧ ca = #[] := by
  cases h with
  | yield h => exact ⟨_, h, rfl, rfl, rfl⟩
theorem cw_rangeFunc {f : Operand} {ps : Array Tmp} {ca cb : CCode} {g : FuncId} {fi cap : Array Value} (hf : cev tm f = .func (.func g) fi cap)
    (h : CCall P g (fi.toList ++ [.func (.yield H.next) #[] #[]] ++ cap.toList) (H.add (.loop .ready none tm ps ca cb)) fun _ H1 =>
      ∃ st pend, H1.get H.next = some (.loop st pend tm ps ca cb) ∧ st ≠ .busy ∧ Q pend tm (H1.set H.next (.loop .exhausted pend tm ps ca cb))) :
    CW P (.rangeFunc f ps ca cb) Q tm H := by
  intro c hc b k cs φ a w lo p
  obtain ⟨x, y, rfl, ok, hx, hy⟩ := of_comp hc
  -- the loop's record is laid
  obtain ⟨hent, hcall⟩ := h
  have hv := VR.ev p.glob p.tr ok
  rw [hf] at hv
  obtain ⟨fi', cap', e1, v1, v2⟩ := hv.func_inv
  have key : ∃ mark w1 l sz, (Instr.enterLoop b.fn a.tmps ps x y b.roundOf).run P w = .ok (l, mark) w1 ∧
      ∃ φ1, φ1 = φ.put H.next ⟨l, 0, sz⟩ ∧ Sim P φ1 (H.add (.loop .ready none tm ps ca cb)) w1 ∧ Next φ H w φ1 (H.add (.loop .ready none tm ps ca cb)) w1 ∧ Marks φ1 w1 lo (mark ++ a.defers) := by
    cases hb : b.roundOf with
    | none =>
      obtain ⟨s1, n1⟩ := p.sim.push (.deferred (some []))
      have hsz : (w.alloc (.deferred (some []))).heap.size = w.heap.size + 1 := by show (w.heap.push _).size = _; simp
      obtain ⟨s2, n2⟩ := s1.add (w' := (w.alloc (.deferred (some []))).alloc (.loop { state := .ready, pending := none, fn := b.fn, tmps := a.tmps, params := ps, assign := x, body := y, defers := w.heap.size })) (sz := 0)
        (o := .loop .ready none tm ps ca cb) rfl ⟨rfl, rfl, rfl⟩ (fun ψ hψ u hu => ⟨_, hu, rfl, rfl, p.tr.mono hψ, rfl, hx, hy⟩)
      refine ⟨_, _, _, 0, run_enterLoop_outer _ _ _ _ _, _, rfl, ?_, ?_, ?_⟩
      · rw [hsz] at s2; exact s2
      · rw [hsz] at n2; exact n1.trans n2
      · obtain ⟨rs, hd, nd, hr⟩ := p.marks
        have hM := Marks.next ⟨rs, hd, nd, hr⟩ (n1.trans n2)
        rw [hsz] at hM
        obtain ⟨rs', hd', nd', hr'⟩ := hM
        have : rs' = rs := by
          have : rs'.map mk = rs.map mk := by rw [← hd, ← hd']
          have inj : ∀ {xs ys : List Nat}, xs.map mk = ys.map mk → xs = ys := by
            intro xs
            induction xs with
            | nil => intro ys h; cases ys <;> simp_all
            | cons x xs ih =>
              intro ys h
              cases ys with
              | nil => simp at h
              | cons y ys =>
                simp only [List.map_cons, List.cons.injEq] at h
                obtain ⟨h1, h2⟩ := h
                simp only [mk, Deferred.mk.injEq, Target.collected.injEq, and_true] at h1
                rw [h1, ih h2]
          exact inj this
        subst this
        refine ⟨w.heap.size :: rs', ?_, ?_, ?_⟩
        · rw [hd]; rfl
        · refine List.nodup_cons.2 ⟨fun hm => ?_, nd⟩
          have := (hr _ hm).2.1
          omega
        · intro r hm
          rcases List.mem_cons.1 hm with rfl | hm
          · refine ⟨p.lo, ?_, ?_, ?_⟩
            · show w.heap.size < ((w.heap.push _).push _).size
              simp
              omega
            · show ((w.heap.push _).push _)[w.heap.size]? = _
              rw [Array.getElem?_push, if_neg (by simp), Array.getElem?_push, if_pos rfl]
            · intro n L hL
              by_cases e : n = H.next
              · subst e; rw [Emb.put_same] at hL; cases hL; simp
              · rw [Emb.put_ne _ _ e] at hL
                have := (p.sim.dom n L hL).2
                omega
          · exact hr' r hm
    | some l =>
      obtain ⟨n, L, o, q1, q2, q3, q4⟩ := p.round l hb
      have hloop : ∃ r0 : Loop, w.heap[l]? = some (.loop r0) := by
        have := p.sim.obj n L o q1 q3
        cases o <;> simp [CObj.isLoop] at q4
        obtain ⟨r, hr, _⟩ := this
        rw [← q2]; exact ⟨r, hr⟩
      obtain ⟨r0, hr0⟩ := hloop
      obtain ⟨s2, n2⟩ := p.sim.add (w' := w.alloc (.loop { state := .ready, pending := none, fn := b.fn, tmps := a.tmps, params := ps, assign := x, body := y, defers := r0.defers })) (sz := 0)
        (o := .loop .ready none tm ps ca cb) rfl ⟨rfl, rfl, rfl⟩ (fun ψ hψ u hu => ⟨_, hu, rfl, rfl, p.tr.mono hψ, rfl, hx, hy⟩)
      refine ⟨_, _, _, 0, run_enterLoop_inner hr0 _ _ _ _ _, _, rfl, s2, n2, ?_⟩
      simpa using p.marks.next n2
  obtain ⟨mark, w1, l, sz, he, φ1, rfl, s1, n1, m1⟩ := key
  have hn1 : (φ.put H.next ⟨l, 0, sz⟩) H.next = some ⟨l, 0, sz⟩ := Emb.put_same _ _ _
  have hres : (resolve a.eval (rangeCall f l) 0).run P w1 = .ok { target := .fn (.func g) cap', args := fi' ++ #[.func (.yield l) #[] #[]] } w1 := by
    show (Deferred.ofValue (a.eval f) _).run P w1 = _
    rw [e1]
    simp [Deferred.ofValue, Act.eval]
  have hinv : (invoke (.fn (.func g) cap') (fi' ++ #[.func (.yield l) #[] #[]])).run P w1 = .ok (.enter g (fi' ++ #[.func (.yield l) #[] #[]] ++ cap')) w1 := run_callFunc hent _ _
  have hargs : VRs (φ.put H.next ⟨l, 0, sz⟩) (fi.toList ++ [.func (.yield H.next) #[] #[]] ++ cap.toList) (fi' ++ #[.func (.yield l) #[] #[]] ++ cap') := by
    refine ((VRs.of ?_).append (VRs.of ?_)).append (VRs.of ?_)
    · simpa using v1.mono n1.le
    · exact .mk' rfl fun i x y e1 e2 => by
        rcases i with _ | i
        · cases e1; cases e2; exact .yield hn1
        · simp at e1
    · simpa using v2.mono n1.le
  obtain ⟨e, w2, fr, ⟨v', rfl, φ2, v, H2, ⟨st, pend, ho, hst, hq⟩, n2, s2, _⟩, hsteps, _, hleave⟩ :=
    hcall _ _ _ s1 (p.glob.next n1) hargs (b.atR { a with defers := mark ++ a.defers } (.inRangeFunc l :: k) :: cs)
  have hn2 := n2.le _ _ hn1
  obtain ⟨r, hr, h1, h2, h3, h4, h5, h6⟩ := s2.obj _ _ _ hn2 ho
  obtain ⟨s3, n3⟩ := loop_turn s2 hn2 ho hr (st1 := .exhausted) (pend1 := pend)
  have hend := run_endLoop (P := P) hr (by rw [h1]; exact hst)
  have eend : (w2.putObj l (.loop { r with state := .exhausted })) = (w2.putObj l (.loop { r with state := .exhausted, pending := pend.map Jump.code })) := by rw [← h2]
  rw [show (⟨l, 0, sz⟩ : Loc).b = l from rfl] at hend
  rw [eend, h2] at hend
  have hback : Steps P (lone (b.atR a (.code (.rangeFunc f ps x y) :: k)) cs w) (lone (b.atR { a with defers := mark ++ a.defers } (((pend.map Jump.code).map Item.code).toList ++ k)) cs (w2.putObj l (.loop { r with state := .exhausted, pending := pend.map Jump.code }))) := by
    refine .head (stepR_rangeFunc he hres hinv) (Steps.trans hsteps (.head ?_ (.one (stepR_endRangeFunc hend))))
    rw [← finish_atR_inRangeFunc l v']; exact step_leave_returned hleave
  have n23 := (n1.trans n2).trans n3
  have m3 : Marks φ2 _ lo (mark ++ a.defers) := (m1.next n2).next n3
  refine ⟨pend, tm, _, φ2, { a with defers := mark ++ a.defers }, _, hq, n23, ⟨s3, p.glob.next n23, p.tr.mono n23.le, p.round.next n23, m3, Nat.le_trans p.lo n23.sz⟩, ?_⟩
  cases pend with
  | none => exact hback
  | some j => cases j with
    | exit id => exact ⟨k, rfl, hback⟩
    | goto t => exact ⟨k, rfl, hback⟩
    | ret => exact ⟨k, hback⟩

/-! ### scopes -/
def clabel (l : Nat) : CCode → Option CCode
  | .seq a b => match clabel l a with
    | some r => some (.seq r b)
    | none => clabel l b
  | .label m => if m == l then some .skip else none
  | _ => none
theorem find_comp {l : Nat} : ∀ {c : Code} {cc : CCode}, comp P c = some cc → match clabel l cc with
    | some r => ∃ x, findLabel c l = some x ∧ comp P x = some r
    | none => findLabel c l = none := by
  intro c
  induction c with
  | seq a b iha ihb =>
    intro cc h
    simp [comp, Option.bind_eq_some_iff] at h
    obtain ⟨x, hx, y, hy, rfl⟩ := h
    have ia := iha hx
    have ib := ihb hy
    simp only [clabel]
    cases ea : clabel l x with
    | some r1 =>
      rw [ea] at ia
      obtain ⟨z, z1, z2⟩ := ia
      exact ⟨.seq z b, by simp [findLabel, z1], by simp [comp, z2, hy]⟩
    | none =>
      rw [ea] at ia
      simp only at ia ⊢
      cases eb : clabel l y with
      | none => rw [eb] at ib; simp only at ib ⊢; simp [findLabel, ia, ib]
      | some r =>
        rw [eb] at ib
        obtain ⟨z, z1, z2⟩ := ib
        exact ⟨z, by simp [findLabel, ia, z1], z2⟩
  | label m =>
    intro cc h
    simp [comp] at h
    subst h
    simp only [clabel, findLabel]
    by_cases e : (m == l) = true
    · simp only [e, if_true]; exact ⟨_, rfl, rfl⟩
    · simp only [e]; rfl
  | skip => intro cc h; obtain rfl : _ = cc := by simpa [comp] using h
            rfl
  | region id ops d => intro cc h; simp [comp] at h; obtain ⟨l, _, rfl⟩ := h; rfl
  | cond o a b => intro cc h; simp [comp, guardB, Option.bind_eq_some_iff] at h; obtain ⟨_, x, _, y, _, rfl⟩ := h; rfl
  | block id a => intro cc h; simp [comp, Option.bind_eq_some_iff] at h; obtain ⟨x, _, rfl⟩ := h; rfl
  | loop a => intro cc h; simp [comp, Option.bind_eq_some_iff] at h; obtain ⟨x, _, rfl⟩ := h; rfl
  | rangeFunc f ps a b => intro cc h; simp [comp, guardB, Option.bind_eq_some_iff] at h; obtain ⟨_, x, _, y, _, rfl⟩ := h; rfl
  | exit id => intro cc h; obtain rfl : _ = cc := by simpa [comp] using h
               rfl
  | scope a => intro cc h; simp [comp, Option.bind_eq_some_iff] at h; obtain ⟨x, _, rfl⟩ := h; rfl
  | goto l => intro cc h; obtain rfl : _ = cc := by simpa [comp] using h
              rfl
  | ret => intro cc h; obtain rfl : _ = cc := by simpa [comp] using h
           rfl
  | refuse w => intro cc h; obtain rfl : _ = cc := by simpa [comp] using h
                rfl
/-- Within a scope, a piece of its body ahead. -/
def CWS (P : Program) (body cc : CCode) (Q : Post) (tm : List Value) (H : CH) : Prop :=
  ∀ x c, comp P x = some body → comp P c = some cc → Reach P (fun k => .code c :: .inScope x :: k) Q tm H
/-- What follows a piece within a scope. -/
def inScope (P : Program) (body : CCode) (Q : Post) : Post
  | some (.goto l), t, h => match clabel l body with
    | some r => CWS P body r Q t h
    | none => Q (some (.goto l)) t h
  | e, t, h => Q e t h
theorem stepR_inScope {b : Frame} {k : List Item} {cs : List Frame} {x : Code} : step P (lone (b.atR a (.inScope x :: k)) cs w) = .next (lone (b.atR a k) cs w) :=
  step_lone_go (by simp [stepG, stepG.exec, Frame.atR])
theorem stepR_scope {b : Frame} {k : List Item} {cs : List Frame} {x : Code} : step P (lone (b.atR a (.code (.scope x) :: k)) cs w) = .next (lone (b.atR a (.code x :: .inScope x :: k)) cs w) :=
  step_lone_go (by simp [stepG, stepG.exec, Frame.atR])
theorem cws_of {body cc : CCode} (h : CW P cc (inScope P body Q) tm H) : CWS P body cc Q tm H := by
  intro x c hx hc b k cs φ a w lo p
  obtain ⟨e, t1, H1, φ1, a1, w1, q, n1, p1, r1⟩ := h c hc b (.inScope x :: k) cs φ a w lo p
  cases e with
  | none => exact ⟨none, t1, H1, φ1, a1, w1, q, n1, p1, Steps.trans r1 (.one stepR_inScope)⟩
  | some j => cases j with
    | exit i =>
      obtain ⟨k2, e2, s⟩ := r1
      exact ⟨some (.exit i), t1, H1, φ1, a1, w1, q, n1, p1, k2, by rw [e2]; rfl, s⟩
    | ret =>
      obtain ⟨k2, s⟩ := r1
      exact ⟨some .ret, t1, H1, φ1, a1, w1, q, n1, p1, k2, s⟩
    | goto l =>
      obtain ⟨k2, e2, s⟩ := r1
      have hf := find_comp (l := l) hx
      simp only [inScope] at q
      cases er : clabel l body with
      | none =>
        rw [er] at hf q
        exact ⟨some (.goto l), t1, H1, φ1, a1, w1, q, n1, p1, k2, by rw [e2]; simp only at hf; simp [gotoIn, hf], s⟩
      | some r =>
        rw [er] at hf q
        obtain ⟨z, z1, z2⟩ := hf
        have e3 : gotoIn l k2 = some (.code z :: .inScope x :: k) := by rw [e2]; simp [gotoIn, z1]
        obtain ⟨e, t2, H2, φ2, a2, w2, q2, n2, p2, r2⟩ := q x z hx z2 b k cs φ1 a1 w1 lo p1
        exact ⟨e, t2, H2, φ2, a2, w2, q2, n1.trans n2, p2, .head s (.head (.one (stepR_goto e3)) r2)⟩
theorem cw_scope {body : CCode} (h : CWS P body body Q tm H) : CW P (.scope body) Q tm H := by
  intro c hc b k cs φ a w lo p
  obtain ⟨x, rfl, hx⟩ := of_comp hc
  obtain ⟨e, t2, H2, φ2, a2, w2, q2, n2, p2, r2⟩ := h x x hx hx b k cs φ a w lo p
  exact ⟨e, t2, H2, φ2, a2, w2, q2, n2, p2, .head (.one stepR_scope) r2⟩
end
end Go.Cn
/-! ## One operation, calls among them, done by the machine; what a region's list comes to. -/
namespace Go.Cn
open Go

section
variable {P : Program} {φ : Emb} {tm : List Value} {a : Act} {H H1 : CH} {w : World}
theorem comp_call {o : Oper} {f : FuncId} {args : List Operand} (hc : compOp P o = some (.call f args)) : ∃ c, o.op = .call c ∧ c.callee = .value (.func f) ∧ c.args.toList = args := by
  obtain ⟨dst, op, type, pos, after, guard⟩ := o
  unfold compOp at hc
  simp only [Option.bind_eq_bind, Option.bind_eq_some_iff] at hc
  obtain ⟨_, hok, hc⟩ := hc; clear hok
  cases op <;> simp only at hc
  case call c =>
    refine ⟨c, rfl, ?_⟩
    split at hc
    · rename_i g hcal
      split at hc
      · split at hc
        · split at hc
          · cases hc
          · cases hc; exact ⟨hcal, rfl⟩
        · split at hc
          · split at hc <;> cases hc
          · cases hc
      · cases hc
    · cases hc
    · cases hc
    · (repeat' (first | (cases hc; done) | (split at hc) | (simp only [Option.bind_eq_some_iff] at hc) | (obtain ⟨_, _, hc⟩ := hc)))
  all_goals (repeat' (first | (cases hc; done) | (split at hc) | (simp only [Option.bind_eq_some_iff] at hc) | (obtain ⟨_, _, hc⟩ := hc)))
theorem comp_callv {o : Oper} {f : Operand} {args : List Operand} (hc : compOp P o = some (.callv f args)) : ∃ c, o.op = .call c ∧ c.callee = .value f ∧ c.args.toList = args := by
  obtain ⟨dst, op, type, pos, after, guard⟩ := o
  unfold compOp at hc
  simp only [Option.bind_eq_bind, Option.bind_eq_some_iff] at hc
  obtain ⟨_, hok, hc⟩ := hc; clear hok
  cases op <;> simp only at hc
  case call c =>
    refine ⟨c, rfl, ?_⟩
    split at hc
    · (repeat' (first | (cases hc; done) | (split at hc)))
    · rename_i hcal; cases hc; exact ⟨hcal, rfl⟩
    · cases hc
    · (repeat' (first | (cases hc; done) | (split at hc) | (simp only [Option.bind_eq_some_iff] at hc) | (obtain ⟨_, _, hc⟩ := hc)))
  all_goals (repeat' (first | (cases hc; done) | (split at hc) | (simp only [Option.bind_eq_some_iff] at hc) | (obtain ⟨_, _, hc⟩ := hc)))
theorem comp_nxt {o : Oper} {x : Operand} (hc : compOp P o = some (.nxt x)) : o.op = .next x false := by
  obtain ⟨dst, op, type, pos, after, guard⟩ := o
  unfold compOp at hc
  simp only [Option.bind_eq_bind, Option.bind_eq_some_iff] at hc
  obtain ⟨_, hok, hc⟩ := hc; clear hok
  cases op <;> simp only at hc
  case next y b =>
    simp only [Option.bind_eq_some_iff] at hc
    obtain ⟨_, hg, hc⟩ := hc
    cases hc
    cases b
    · rfl
    · cases hg
  all_goals (repeat' (first | (cases hc; done) | (split at hc) | (simp only [Option.bind_eq_some_iff] at hc) | (obtain ⟨_, _, hc⟩ := hc)))
theorem run_callv {o : Oper} {c : Call} {f : Operand} (ho : o.op = .call c) (hf : c.callee = .value f) {g : FuncId} {fi ca : Array Value} (hv : a.eval f = .func (.func g) fi ca) (he : Ent P g) :
    (execOp a.eval o).run P w = .ok (.enter g (fi ++ c.args.map a.eval ++ ca)) w := by
  unfold execOp
  simp only [ho, Sem.run_bind, resolve, hf, hv, Deferred.ofValue, Sem.run_pure, Result.andThen_ok, invoke]
  exact run_callFunc he _ _
theorem run_yieldv {o : Oper} {c : Call} {f : Operand} (ho : o.op = .call c) (hf : c.callee = .value f) {l : Nat} (hv : a.eval f = .func (.yield l) #[] #[]) :
    (execOp a.eval o).run P w = (Instr.yield l (c.args.map a.eval)).run P w := by
  unfold execOp
  simp only [ho, Sem.run_bind, resolve, hf, hv, Deferred.ofValue, Sem.run_pure, Result.andThen_ok, invoke]
  simp
theorem cstep_sound {b : Frame} {k : List Item} {cs : List Frame} {ops : Array Oper} {i : Nat} {rest : List Nat} {o : Oper} {ci : CI} {K : Value → CH → Prop}
    (s : Sim P φ H w) (g0 : Glob P φ) (hc : compOp P o = some ci) (hr : ∀ x ∈ o.op.operands.toList, VR φ (cev tm x) (a.eval x))
    (ho : ops[i]? = some o) (hw : Region.wanted o (yielded ops a.tmps) = true) (h : cstep P tm H K ci) :
    ∃ v v' φ1 H1 w1, K v H1 ∧ VR φ1 v v' ∧ Sim P φ1 H1 w1 ∧ Next φ H w φ1 H1 w1 ∧
      Steps P (lone (b.atR a (.inRegion ops (i :: rest) :: k)) cs w) (lone (b.atR (a.put o.dst v') (.inRegion ops rest :: k)) cs w1) := by
  have hd := done_defer hc
  have det : (∃ v H1, cdet (cev tm) H ci = some (v, H1) ∧ K v H1) → ∃ v v' φ1 H1 w1, K v H1 ∧ VR φ1 v v' ∧ Sim P φ1 H1 w1 ∧ Next φ H w φ1 H1 w1 ∧
      Steps P (lone (b.atR a (.inRegion ops (i :: rest) :: k)) cs w) (lone (b.atR (a.put o.dst v') (.inRegion ops rest :: k)) cs w1) := by
    rintro ⟨v, H1, hv, hk⟩
    obtain ⟨φ1, w1, v', q1, q2, q3, q4⟩ := det_sound s hc hv hr
    exact ⟨v, v', φ1, H1, w1, hk, q2, q3, q4, step_done ho hw hd q1⟩
  have enter : ∀ {g : FuncId} {args : List Value} {args' : Array Value}, CCall P g args H K → VRs φ args args' → (execOp a.eval o).run P w = .ok (.enter g args') w →
      ∃ v v' φ1 H1 w1, K v H1 ∧ VR φ1 v v' ∧ Sim P φ1 H1 w1 ∧ Next φ H w φ1 H1 w1 ∧
      Steps P (lone (b.atR a (.inRegion ops (i :: rest) :: k)) cs w) (lone (b.atR (a.put o.dst v') (.inRegion ops rest :: k)) cs w1) := by
    intro g args args' hg hargs hrun
    obtain ⟨v', w1, ⟨v'', e1, φ1, v, H1, q1, q2, q3, q4⟩, hst⟩ := step_call (b := b) (k := k) (cs := cs) (rest := rest) ho hw hd hrun (hg.2 φ w args' s g0 hargs) (fun e w1 r => ⟨r.choose, r.choose_spec.1⟩)
    cases e1
    exact ⟨v, v', φ1, H1, w1, q1, q4, q3, q2, hst⟩
  cases ci with
  | call f args =>
    obtain ⟨c, e1, e2, e3⟩ := comp_call hc
    have hargs : VRs φ (args.map (cev tm)) (c.args.map a.eval) := by
      rw [← e3]
      exact VRs.map _ fun x hx => hr x (by rw [e1]; simp only [Op.operands, Call.operands]; simp at hx ⊢; simp [hx])
    exact enter h (by simpa using hargs) (run_callv (fi := #[]) (ca := #[]) e1 e2 rfl h.1)
  | callv f args =>
    obtain ⟨c, e1, e2, e3⟩ := comp_callv hc
    have hargs : VRs φ (args.map (cev tm)) (c.args.map a.eval) := by
      rw [← e3]
      exact VRs.map _ fun x hx => hr x (by rw [e1]; simp only [Op.operands, Call.operands]; simp at hx ⊢; simp [hx])
    have hf := hr f (by rw [e1]; simp [Op.operands, Call.operands, e2])
    simp only [cstep] at h
    unfold CCallV at h
    split at h
    · rename_i g fi ca e
      rw [e] at hf
      obtain ⟨fi', ca', h1, h2, h3⟩ := hf.func_inv
      refine enter h (VRs.append (VRs.append (.of (by simpa using h2)) hargs) (.of (by simpa using h3))) (run_callv e1 e2 h1 h.1)
    · rename_i n fi ca e
      rw [e] at hf
      obtain ⟨L, hn, h1, _, _⟩ := hf.yield_inv
      obtain ⟨fn, tmps, assign, body, hrun, hgo⟩ := yield_sound s g0 hn hargs h
      obtain ⟨v, v', φ1, H1, w1, q1, q2, q3, q4, q5⟩ := hgo (b.atR a (.inRegion ops (i :: rest) :: k)) cs
      refine ⟨v, v', φ1, H1, w1, q1, q2, q3, q4, ?_⟩
      have hfin : (b.atR a (.inRegion ops (i :: rest) :: k)).finish v' = b.atR (a.put o.dst v') (.inRegion ops rest :: k) := by
        rw [Frame.finish_atR, ho]; rfl
      rw [hfin] at q5
      refine .head (step_lone_go ?_) q5
      rw [stepGR_op ho hw, Oper.semAt_eq _ _ _ hd]
      simp [stepG.apply, run_yieldv e1 e2 h1, hrun]
    · exact h.elim
  | nxt x =>
    have e1 := comp_nxt hc
    have hx := hr x (by rw [e1]; simp [Op.operands])
    obtain ⟨v, H1, w1, v', q1, q2, q3, q4, q5⟩ := next_sound (ty := o.type) s hx h
    refine ⟨v, v', φ, H1, w1, q1, q3, q4, q5, step_done ho hw hd (.inl ?_)⟩
    simp [execOp, e1, q2]
  | _ => exact det h
end
end Go.Cn
/-! ## What a region's list of operations comes to; a region whose order is given. -/
namespace Go.Cn
open Go

def wantC (tm : List Value) : Option (Option Tmp × Bool) → Bool
  | none => true
  | some (t, b) => match t.bind (tm[·]?) with
    | some (.bool c) => c == b
    | _ => false
/-- The object behind a value. -/
def blkOf : Value → Option Nat
  | .pointer (some a) => some a.block
  | .slice (some a) _ _ => some a.block
  | .map m => m
  | _ => none
def stable (H H1 : CH) (v : Value) : Prop := ∀ n, blkOf v = some n → H1.get n = H.get n
def wpops (P : Program) (Q : List Value → CH → Prop) : List CE → List Value → CH → Prop
  | [], tm, H => Q tm H
  | e :: l, tm, H =>
    if wantC tm e.guard then cstep P tm H (fun v H1 => (∀ x ∈ e.pend, stable H H1 (cev tm x)) ∧ wpops P Q l (tput tm e.dst v) H1) e.ci
    else wpops P Q l (tput tm e.dst undef) H

/-- A canonical entry is of an operation. -/
structure EOk (P : Program) (ops : Array Oper) (e : CE) : Prop where
  op : ∃ o, ops[e.i]? = some o ∧ e.ci = (compOp P o).getD .bad ∧ e.dst = o.dst ∧ e.guard = guardOf ops o
theorem ces_spec {P : Program} {ops : Array Oper} {bf : Array Nat} : ∀ {l ahead : List Nat} {r : List CE}, ces ops (ops.map fun o => (compOp P o).getD .bad) bf ahead l = some r →
    r.map (·.i) = l ∧ (∀ e ∈ r, EOk P ops e) ∧
    (∀ e ∈ r, e.ci.isEff = true → ∀ j ∈ ahead, ∀ c, (ops.map fun o => (compOp P o).getD .bad)[j]? = some c → c.isEff = false → anc bf j e.i = false → ∀ x ∈ c.reads, x ∈ e.pend) ∧
    r.Pairwise fun p e => e.ci.isEff = true → p.ci.isEff = false → anc bf p.i e.i = false → ∀ x ∈ p.ci.reads, x ∈ e.pend := by
  intro l
  induction l with
  | nil =>
    intro ahead r h
    simp only [ces, Option.some.injEq] at h
    subst h
    exact ⟨rfl, fun _ h => (by cases h), fun _ h => (by cases h), .nil⟩
  | cons i l ih =>
    intro ahead r h
    simp only [ces, Option.bind_eq_bind, Option.bind_eq_some_iff, Option.some.injEq] at h
    obtain ⟨e, he, r2, hr2, rfl⟩ := h
    obtain ⟨q1, q2, q3, q4⟩ := ih hr2
    simp only [ceAt, Option.bind_eq_bind, Option.bind_eq_some_iff, Option.some.injEq] at he
    obtain ⟨o, ho, ci, hci, he⟩ := he
    have hci2 : ci = (compOp P o).getD .bad := by
      rw [Array.getElem?_map, ho] at hci; simpa using hci.symm
    have hpend : ∀ j ∈ ahead, ci.isEff = true → ∀ c, (ops.map fun o => (compOp P o).getD .bad)[j]? = some c → c.isEff = false → anc bf j i = false → ∀ x ∈ c.reads, x ∈ e.pend := by
      intro j hj hE c hc hcE ha x hx
      subst he
      simp only [hE, if_true]
      refine List.mem_flatMap.2 ⟨j, hj, ?_⟩
      rw [hc]
      simp [hcE, ha, hx]
    have ei : e.i = i := by rw [← he]
    have eci : e.ci = ci := by rw [← he]
    refine ⟨by simp [q1, ei], ?_, ?_, List.pairwise_cons.2 ⟨?_, q4⟩⟩
    · intro x hx
      rcases List.mem_cons.1 hx with rfl | hx
      · exact ⟨o, by rw [ei]; exact ho, by rw [eci, hci2], by rw [← he], by rw [← he]⟩
      · exact q2 x hx
    · intro x hx hE j hj c hc hcE ha y hy
      rcases List.mem_cons.1 hx with rfl | hx
      · exact hpend j hj (by rw [← eci]; exact hE) c hc hcE (by rw [← ei]; exact ha) y hy
      · exact q3 x hx hE j (by simp [hj]) c hc hcE ha y hy
    · intro x hx hE hcE ha y hy
      rw [ei] at ha
      exact q3 x hx hE i (by simp) e.ci (by rw [eci]; exact hci) hcE ha y hy

section
variable {P : Program} {φ : Emb} {tm : List Value} {a : Act} {H H1 : CH} {w : World}
theorem cstep_bad {K : Value → CH → Prop} (h : cstep P tm H K .bad) : False := by
  obtain ⟨v, H1, e, _⟩ := h
  simp [cdet, cpure, crd, cal, ceff] at e
theorem cstep_comp {K : Value → CH → Prop} {o : Oper} (h : cstep P tm H K ((compOp P o).getD .bad)) : ∃ ci, compOp P o = some ci := by
  cases e : compOp P o with
  | none => rw [e] at h; exact (cstep_bad h).elim
  | some ci => exact ⟨ci, rfl⟩
theorem VR.get? {φ : Emb} {tm : List Value} {ys : Array Value} {t : Nat} (hl : tm.length = ys.size) (h : VR φ (tm.getD t Go.undef) (ys.getD t Go.undef)) :
    (∀ v, tm[t]? = some v → ∃ v', ys[t]? = some v' ∧ VR φ v v') ∧ (tm[t]? = none → ys[t]? = none) := by
  refine ⟨fun v hv => ?_, fun hn => ?_⟩
  · have ht : t < tm.length := (List.getElem?_eq_some_iff.1 hv).1
    have ht' : t < ys.size := by omega
    refine ⟨ys[t], by simp [ht'], ?_⟩
    simp only [List.getD_eq_getElem?_getD, hv, Option.getD_some, Array.getD_eq_getD_getElem?] at h
    simpa [ht'] using h
  · have : tm.length ≤ t := by simpa using hn
    simp; omega
theorem want_eq (ops : Array Oper) {o : Oper} (hl : tm.length = a.tmps.size) (h : ∀ t ∈ looks ops o, VR φ (tm.getD t undef) (a.tmps.getD t undef)) :
    Region.wanted o (yielded ops a.tmps) = wantC tm (guardOf ops o) := by
  unfold Region.wanted guardOf
  cases hg : o.guard with
  | none => rfl
  | some g =>
    obtain ⟨j, b⟩ := g
    simp only [Option.map_some, wantC, yielded]
    cases hd : (ops[j]?).bind (·.dst) with
    | none => rfl
    | some t =>
      have ht := h t (by simp [looks, hg, hd])
      obtain ⟨g1, g2⟩ := ht.get? hl
      simp only [Option.bind_some]
      cases e : tm[t]? with
      | none => rw [g2 e]; rfl
      | some v =>
        obtain ⟨v', e2, r⟩ := g1 v e
        rw [e2]
        cases r <;> first | rfl | (simp)
theorem ev_looks (ops : Array Oper) {o : Oper} {ci : CI} (g0 : Glob P φ) (hc : compOp P o = some ci) (h : ∀ t ∈ looks ops o, VR φ (tm.getD t undef) (a.tmps.getD t undef)) :
    ∀ x ∈ o.op.operands.toList, VR φ (cev tm x) (a.eval x) := by
  intro x hx
  have hok : opOk P x = true := by
    unfold compOp at hc
    simp only [Option.bind_eq_bind, Option.bind_eq_some_iff] at hc
    obtain ⟨_, hok, _⟩ := hc
    have := guardB_some hok
    have hx' : x ∈ o.op.operands := by simpa using hx
    exact (Array.all_eq_true_iff_forall_mem.1 this) x hx'
  cases x with
  | tmp t =>
    refine h t ?_
    unfold looks tmpsOf
    exact List.mem_append_left _ (List.mem_filterMap.2 ⟨.tmp t, hx, rfl⟩)
  | const v => exact VR.plain_refl hok
  | global g =>
    obtain ⟨sz, h1⟩ := g0 g (by simpa [opOk] using hok)
    have := VR.ptr (off := 0) h1
    simp only [Nat.zero_add] at this
    exact this
  | func f => exact .func rfl rfl (fun i hi => absurd hi (by simp)) (fun i hi => absurd hi (by simp))

/-- The operations one after another as they stand. -/
theorem ops_sound {Q : List Value → CH → Prop} {ops : Array Oper} {b : Frame} {k : List Item} {cs : List Frame} {lo : Nat} : ∀ {l : List CE} {φ : Emb} {tm : List Value} {H : CH} {a : Act} {w : World},
    (∀ e ∈ l, EOk P ops e) → Pre P φ tm H b a w lo → wpops P Q l tm H →
    ∃ tm1 H1 φ1 a1 w1, Q tm1 H1 ∧ Next φ H w φ1 H1 w1 ∧ Pre P φ1 tm1 H1 b a1 w1 lo ∧
      Steps P (lone (b.atR a (.inRegion ops (l.map (·.i)) :: k)) cs w) (lone (b.atR a1 k) cs w1) := by
  intro l
  induction l with
  | nil =>
    intro φ tm H a w _ p h
    exact ⟨tm, H, φ, a, w, h, Next.refl _ _ _, p, .one stepR_region_end⟩
  | cons e l ih =>
    intro φ tm H a w he p h
    obtain ⟨o, ho, hci, hd, hg⟩ := (he e (by simp)).op
    have hwant := want_eq (φ := φ) (tm := tm) (a := a) ops (o := o) p.tr.1 (fun t _ => p.tr.2 t)
    rw [← hg] at hwant
    simp only [wpops] at h
    split at h
    · rename_i hw
      rw [hci] at h
      obtain ⟨ci, hc⟩ := cstep_comp h
      rw [hc] at h
      obtain ⟨v, v', φ1, H1, w1, ⟨_, hk⟩, q2, q3, q4, q5⟩ := cstep_sound (b := b) (k := k) (cs := cs) (rest := l.map (·.i)) p.sim p.glob hc (ev_looks ops p.glob hc fun t _ => p.tr.2 t) ho (by rw [hwant]; exact hw) h
      have p1 : Pre P φ1 (tput tm e.dst v) H1 b (a.put e.dst v') w1 lo := p.next q4 q3 ((p.tr.mono q4.le).put q2 _) (put_defers _ _ _)
      obtain ⟨tm2, H2, φ2, a2, w2, r1, r2, r3, r4⟩ := ih (fun x hx => he x (by simp [hx])) p1 hk
      refine ⟨tm2, H2, φ2, a2, w2, r1, q4.trans r2, r3, ?_⟩
      rw [← hd] at q5
      exact Steps.trans q5 r4
    · rename_i hw
      have p1 : Pre P φ (tput tm e.dst undef) H b (a.put e.dst undef) w lo := p.next (Next.refl _ _ _) p.sim (p.tr.put (VR.undef _) _) (put_defers _ _ _)
      obtain ⟨tm2, H2, φ2, a2, w2, r1, r2, r3, r4⟩ := ih (fun x hx => he x (by simp [hx])) p1 h
      refine ⟨tm2, H2, φ2, a2, w2, r1, r2, r3, .head ?_ r4⟩
      have hst := stepR_op_skip (P := P) (b := b) (a := a) (k := k) (cs := cs) (w := w) (ops := ops) (i := e.i) (rest := l.map (·.i)) (by simp only [ho, Option.map_some, Option.getD_some, hwant]; simpa using hw)
      rw [ho] at hst
      simp only [Option.bind_some] at hst
      rw [hd]
      exact hst
end
end Go.Cn
/-! ## What canonical instructions look at; the order of a region's operations. -/
namespace Go.Cn
open Go

theorem cpure_congr {ρ ρ' : Operand → Value} {ci : CI} (h : ∀ x ∈ ci.uses, ρ x = ρ' x) : cpure ρ ci = cpure ρ' ci := by
  cases ci with
  | build zero ps =>
    have : ps.map (fun (o, s, x) => (o, s, ρ x)) = ps.map (fun (o, s, x) => (o, s, ρ' x)) := List.map_congr_left fun p hp => by
      obtain ⟨o, s, x⟩ := p
      simp only
      rw [h x (List.mem_map.2 ⟨_, hp, rfl⟩)]
    simp only [cpure, this]
  | mkfn f fi ca =>
    have h1 : fi.map ρ = fi.map ρ' := List.map_congr_left fun p hp => h p (by simp [CI.uses, hp])
    have h2 : ca.map ρ = ca.map ρ' := List.map_congr_left fun p hp => h p (by simp [CI.uses, hp])
    simp only [cpure, h1, h2]
  | slcStr x lo hi =>
    have h1 : lo.map ρ = lo.map ρ' := by cases lo <;> simp_all [CI.uses]
    have h2 : hi.map ρ = hi.map ρ' := by cases hi <;> simp_all [CI.uses]
    simp only [cpure, h1, h2, h x (by simp [CI.uses])]
  | slcS x lo hi mx es =>
    have h1 : lo.map ρ = lo.map ρ' := by cases lo <;> simp_all [CI.uses]
    have h2 : hi.map ρ = hi.map ρ' := by cases hi <;> simp_all [CI.uses]
    have h3 : mx.map ρ = mx.map ρ' := by cases mx <;> simp_all [CI.uses]
    simp only [cpure, h1, h2, h3, h x (by simp [CI.uses])]
  | _ => simp_all [CI.uses, cpure]
theorem crd_congr {ρ ρ' : Operand → Value} {H : CH} {ci : CI} (h : ∀ x ∈ ci.uses, ρ x = ρ' x) : crd ρ H ci = crd ρ' H ci := by
  cases ci with
  | ld x n => cases n <;> simp_all [CI.uses, crd]
  | _ => simp_all [CI.uses, crd]
theorem cal_congr {ρ ρ' : Operand → Value} {ci : CI} (h : ∀ x ∈ ci.uses, ρ x = ρ' x) : cal ρ ci = cal ρ' ci := by
  cases ci with
  | bslc len es zero ps el =>
    have : ps.map (fun (o, s, x) => (o, s, ρ x)) = ps.map (fun (o, s, x) => (o, s, ρ' x)) := List.map_congr_left fun p hp => by
      obtain ⟨o, s, x⟩ := p
      simp only
      rw [h x (List.mem_map.2 ⟨_, hp, rfl⟩)]
    simp only [cal, this]
  | _ => simp_all [CI.uses, cal]
theorem ccells_stable {H H1 : CH} {n off k : Nat} (h : H.get n ≠ none → H1.get n = H.get n) {l : List Value} (e : ccells H n off k = some l) : ccells H1 n off k = some l := by
  unfold ccells at *
  rw [h]
  · exact e
  · intro hn; rw [hn] at e; cases e
theorem crd_stable {ρ : Operand → Value} {H H1 : CH} {ci : CI} (h : ∀ x ∈ ci.reads, ∀ n, blkOf (ρ x) = some n → H.get n ≠ none → H1.get n = H.get n) {v : Value} (e : crd ρ H ci = some v) : crd ρ H1 ci = some v := by
  cases ci with
  | ld x k =>
    cases k with
    | none =>
      simp only [crd] at *
      split at e
      · rename_i ad hx
        have := h x (by simp [CI.reads]) ad.block (by rw [hx]; rfl)
        rw [this]
        · exact e
        · intro hn; rw [hn] at e; cases e
      · cases e
    | some k =>
      simp only [crd] at *
      split at e
      · rename_i ad hx
        simp only [Option.map_eq_some_iff] at *
        obtain ⟨l, h1, h2⟩ := e
        exact ⟨l, ccells_stable (h x (by simp [CI.reads]) ad.block (by rw [hx]; rfl)) h1, h2⟩
      · cases e
  | lenM x =>
    simp only [crd] at *
    split at e
    · exact e
    · rename_i m hx
      have := h x (by simp [CI.reads]) m (by rw [hx]; rfl)
      rw [this]
      · exact e
      · intro hn; rw [hn] at e; cases e
    · cases e
  | lkp kk x k zero ok =>
    simp only [crd] at *
    have : cmapOf H (ρ x) ≠ none → cmapOf H1 (ρ x) = cmapOf H (ρ x) := by
      intro hne
      unfold cmapOf at *
      split
      · rfl
      · rename_i m hx
        rw [hx] at hne
        have := h x (by simp [CI.reads]) m (by rw [hx]; rfl)
        rw [this]
        intro hn; simp only [hn] at hne; exact hne rfl
      · rfl
    rw [this]
    · exact e
    · intro hn; rw [hn] at e; cases e
  | b2s x =>
    simp only [crd] at *
    split at e
    · exact e
    · rename_i ad len cap hx
      simp only [Option.bind_eq_bind, Option.bind_eq_some_iff] at *
      obtain ⟨l, h1, h2⟩ := e
      exact ⟨l, ccells_stable (h x (by simp [CI.reads]) ad.block (by rw [hx]; rfl)) h1, h2⟩
    · cases e
  | _ => simp [crd] at e
theorem float_cases {ρ : Operand → Value} {H H1 : CH} {ci : CI} {v : Value} (hE : ci.isEff = false) (h : cdet ρ H ci = some (v, H1)) :
    (H1 = H ∧ (cpure ρ ci = some v ∨ crd ρ H ci = some v)) ∨ ∃ o g, cal ρ ci = some (o, g) ∧ v = g H.next ∧ H1 = H.add o := by
  unfold cdet at h
  split at h
  · rename_i u e; cases h; exact .inl ⟨rfl, .inl e⟩
  · split at h
    · rename_i u e; cases h; exact .inl ⟨rfl, .inr e⟩
    · split at h
      · rename_i o f e; cases h; exact .inr ⟨o, f, e, rfl, rfl⟩
      · exfalso
        cases ci <;> simp [CI.isEff] at hE <;> simp [ceff] at h

/-! ### what comes before -/
theorem before_fold (acc : Array Nat) (j : Nat) : ∀ (l : List Edge) (s : Nat), (l.foldl (fun s e => if Region.binds .any e then s ||| 2 ^ e.on ||| acc.getD e.on 0 else s) s).testBit j = true →
    s.testBit j = true ∨ ∃ e ∈ l, Region.binds .any e = true ∧ (j = e.on ∨ (acc.getD e.on 0).testBit j = true) := by
  intro l
  induction l with
  | nil => intro s h; exact .inl h
  | cons e l ih =>
    intro s h
    simp only [List.foldl_cons] at h
    rcases ih _ h with h | ⟨x, h1, h2⟩
    · split at h
      · rename_i hb
        simp only [Nat.testBit_or, Bool.or_eq_true, Nat.testBit_two_pow, decide_eq_true_eq] at h
        rcases h with (h | h) | h
        · exact .inl h
        · exact .inr ⟨e, by simp, hb, .inl h.symm⟩
        · exact .inr ⟨e, by simp, hb, .inr h⟩
      · exact .inl h
    · exact .inr ⟨x, by simp [h1], h2⟩
def BOk (done : List Oper) (acc : Array Nat) : Prop := acc.size = done.length ∧ ∀ i j, (acc.getD i 0).testBit j = true →
  ∃ o, done[i]? = some o ∧ ∃ e ∈ o.after, Region.binds .any e = true ∧ (j = e.on ∨ (acc.getD e.on 0).testBit j = true)
theorem bok_push {done : List Oper} {acc : Array Nat} (h : BOk done acc) (o : Oper) :
    BOk (done ++ [o]) (acc.push (o.after.foldl (fun s e => if Region.binds .any e then s ||| 2 ^ e.on ||| acc.getD e.on 0 else s) 0)) := by
  obtain ⟨hs, h⟩ := h
  have hv : ∀ j, (o.after.foldl (fun s e => if Region.binds .any e then s ||| 2 ^ e.on ||| acc.getD e.on 0 else s) 0).testBit j = true → ∃ e ∈ o.after, Region.binds .any e = true ∧ (j = e.on ∨ (acc.getD e.on 0).testBit j = true) := by
    intro j hb
    rw [← Array.foldl_toList] at hb
    rcases before_fold acc j _ _ hb with h0 | ⟨e, h1, h2, h3⟩
    · simp at h0
    · exact ⟨e, by simpa using h1, h2, h3⟩
  generalize o.after.foldl (fun s e => if Region.binds .any e then s ||| 2 ^ e.on ||| acc.getD e.on 0 else s) 0 = v at hv ⊢
  have old : ∀ (v : Nat) i j, (acc.getD i 0).testBit j = true → i < acc.size ∧ ((acc.push v).getD i 0).testBit j = true := by
    intro v i j hb
    have hi : i < acc.size := by
      rcases Nat.lt_or_ge i acc.size with h' | h'
      · exact h'
      · simp [Array.getElem?_eq_none h'] at hb
    refine ⟨hi, ?_⟩
    simp only [Array.getD_eq_getD_getElem?, Array.getElem?_push, if_neg (Nat.ne_of_lt hi)] at *
    exact hb
  refine ⟨by simp [hs], fun i j hb => ?_⟩
  by_cases hi : i < acc.size
  · have hb' : (acc.getD i 0).testBit j = true := by
      simp only [Array.getD_eq_getD_getElem?, Array.getElem?_push, if_neg (Nat.ne_of_lt hi)] at *
      exact hb
    obtain ⟨o', h1, e, h2, h3, h4⟩ := h i j hb'
    refine ⟨o', ?_, e, h2, h3, h4.imp id fun h => (old _ _ _ h).2⟩
    rw [List.getElem?_append_left (by omega)]; exact h1
  · by_cases he : i = acc.size
    · subst he
      simp only [Array.getD_eq_getD_getElem?, Array.getElem?_push, if_true, Option.getD_some] at hb
      obtain ⟨e, h1, h2, h3⟩ := hv j hb
      refine ⟨o, ?_, e, h1, h2, h3.imp id fun h => (old _ _ _ h).2⟩
      rw [List.getElem?_append_right (by omega), hs]; simp
    · exfalso
      have : (acc.push v).size ≤ i := by simp; omega
      rw [Array.getD_eq_getD_getElem?, Array.getElem?_eq_none this] at hb
      simp at hb
theorem bok_fold : ∀ (l : List Oper) (done : List Oper) (acc : Array Nat), BOk done acc →
    BOk (done ++ l) (l.foldl (fun acc o => acc.push (o.after.foldl (fun s e => if Region.binds .any e then s ||| 2 ^ e.on ||| acc.getD e.on 0 else s) 0)) acc) := by
  intro l
  induction l with
  | nil => intro done acc h; simpa using h
  | cons o l ih =>
    intro done acc h
    have := ih _ _ (bok_push h o)
    simpa using this
theorem before_spec {ops : Array Oper} {i j : Nat} (h : anc (Region.before ops) j i = true) :
    ∃ o, ops[i]? = some o ∧ ∃ e ∈ o.after, Region.binds .any e = true ∧ (j = e.on ∨ anc (Region.before ops) j e.on = true) := by
  have := bok_fold ops.toList [] #[] ⟨rfl, fun i j h => by simp at h⟩
  rw [Array.foldl_toList] at this
  obtain ⟨o, h1, h2⟩ := this.2 i j h
  exact ⟨o, by simpa using h1, h2⟩
theorem binds_any {md : Region.Mode} {e : Edge} (h : Region.binds .any e = true) : Region.binds md e = true := by
  unfold Region.binds at *
  split at h <;> simp_all

/-! ### a schedule comes to its end -/
theorem ext_all {md : Region.Mode} {ops : Array Oper} {listed : Array Bool} (hs : listed.size = ops.size) (hr : Region.ready md ops listed = []) : ∀ {l done : List Nat}, extOk md ops done l = true →
    (∀ j ∈ done, listed.getD j false = true) → ∀ j, j < ops.size → listed.getD j false = true := by
  intro l
  induction l with
  | nil =>
    intro done h hd j hj
    simp only [extOk, List.all_eq_true, List.mem_range] at h
    exact hd j (by have := h j hj; simpa using this)
  | cons i l ih =>
    intro done h hd
    simp only [extOk, Bool.and_eq_true, decide_eq_true_eq] at h
    obtain ⟨⟨⟨hi, _⟩, hdep⟩, h⟩ := h
    refine ih h fun j hj => ?_
    rcases List.mem_cons.1 hj with rfl | hj
    · cases hl : listed.getD j false with
      | true => rfl
      | false =>
        exfalso
        have : j ∈ Region.ready md ops listed := by
          rw [mem_ready]
          refine ⟨?_, ?_⟩
          · have : j < listed.size := by omega
            simp [this] at hl ⊢; exact hl
          · cases ho : ops[j]? with
            | none => have := Array.getElem?_eq_none_iff.1 ho; omega
            | some o =>
              refine ⟨o, rfl, fun e he hb => ?_⟩
              rw [ho] at hdep
              simp only [Option.map_some, Option.getD_some, Array.all_eq_true_iff_forall_mem, Bool.or_eq_true, Bool.not_eq_true'] at hdep
              rcases hdep e he with h | h
              · rw [hb] at h; cases h
              · exact hd _ (by simpa using h)
        rw [hr] at this; cases this
    · exact hd j hj
end Go.Cn
/-! ## A region whose order is drawn. -/
namespace Go.Cn
open Go

def Ahead (ops : Array Oper) (bf : Array Nat) (e q : CE) : Prop :=
  pairOk ops bf e q = true ∧ (q.ci.isEff = true → e.ci.isEff = false → anc bf e.i q.i = false → ∀ x ∈ e.ci.reads, x ∈ q.pend)
/-- An entry that the canonical run has done and the machine has not. -/
structure Pd where
  e : CE
  v : Value
  nm : Option Nat
/-- What the entry comes to, whenever it is done. -/
def PdVal (B : Nat) (φ : Emb) (tm : List Value) (H : CH) (p : Pd) : Prop :=
  (wantC tm p.e.guard = false ∧ p.v = undef ∧ p.nm = none) ∨
  (wantC tm p.e.guard = true ∧ ((p.nm = none ∧ (cpure (cev tm) p.e.ci = some p.v ∨ crd (cev tm) H p.e.ci = some p.v)) ∨
    ∃ n o g, p.nm = some n ∧ cal (cev tm) p.e.ci = some (o, g) ∧ p.v = g n ∧ φ n = none ∧ B ≤ n ∧ n < H.next ∧ H.get n = some o))
structure PdOk (P : Program) (ops : Array Oper) (B : Nat) (φ : Emb) (tm : List Value) (H : CH) (p : Pd) : Prop where
  eok : EOk P ops p.e
  flt : p.e.ci.isEff = false
  dst : ∀ t, p.e.dst = some t → t < tm.length → tm[t]? = some p.v
  val : PdVal B φ tm H p

section
variable {P : Program} {ops : Array Oper} {bf : Array Nat} {B : Nat} {φ φ' : Emb} {tm tm' : List Value} {H H' : CH}
theorem cev_same {x : Operand} (h : ∀ t, x = .tmp t → tm'[t]? = tm[t]?) : cev tm' x = cev tm x := by
  cases x with
  | tmp t => simp [cev, List.getD_eq_getElem?_getD, h t rfl]
  | _ => rfl
theorem eok_looks {e : CE} {o : Oper} (ho : ops[e.i]? = some o) : looks ops (ops.getD e.i default) = looks ops o := by
  have : ops.getD e.i default = o := by rw [Array.getD_eq_getD_getElem?, ho]; rfl
  rw [this]
theorem uses_same {e : CE} (h : ∀ t ∈ useOf ops e, tm'[t]? = tm[t]?) : ∀ x ∈ e.ci.uses, cev tm' x = cev tm x := fun x hx => cev_same fun t ht => h t (by
  unfold useOf tmpsOf
  refine List.mem_append_right _ (List.mem_filterMap.2 ⟨x, hx, ?_⟩)
  rw [ht])
theorem want_same {e : CE} (hk : EOk P ops e) (h : ∀ t ∈ useOf ops e, tm'[t]? = tm[t]?) : wantC tm' e.guard = wantC tm e.guard := by
  obtain ⟨o, ho, _, _, hg⟩ := hk.op
  rw [hg]
  unfold guardOf
  cases hgo : o.guard with
  | none => rfl
  | some g =>
    obtain ⟨j, b⟩ := g
    simp only [Option.map_some, wantC]
    cases hd : (ops[j]?).bind (·.dst) with
    | none => rfl
    | some t =>
      have := h t (by
        unfold useOf
        refine List.mem_append_left _ ?_
        rw [eok_looks ho]
        simp [looks, hgo, hd])
      simp only [Option.bind_some, this]
theorem PdOk.keep {p : Pd} (h : PdOk P ops B φ tm H p) (hu : ∀ t ∈ useOf ops p.e, tm'[t]? = tm[t]?) (hd : ∀ t, p.e.dst = some t → tm'[t]? = tm[t]?) (hl : tm'.length = tm.length)
    (hr : ∀ x ∈ p.e.ci.reads, ∀ n, blkOf (cev tm x) = some n → H.get n ≠ none → H'.get n = H.get n)
    (ha : ∀ n, p.nm = some n → φ n = none → n < H.next → φ' n = none ∧ H'.get n = H.get n ∧ n < H'.next) : PdOk P ops B φ' tm' H' p := by
  refine ⟨h.eok, h.flt, fun t ht hlt => by rw [hd t ht]; exact h.dst t ht (by rw [← hl]; exact hlt), ?_⟩
  have hus := uses_same hu
  rcases h.val with ⟨h1, h2⟩ | ⟨h1, h2⟩
  · exact .inl ⟨by rw [want_same h.eok hu]; exact h1, h2⟩
  · refine .inr ⟨by rw [want_same h.eok hu]; exact h1, ?_⟩
    rcases h2 with ⟨h2, h3⟩ | ⟨n, o, g, h2, h3, h4, h5, h6, h7, h8⟩
    · refine .inl ⟨h2, h3.imp (fun h3 => ?_) fun h3 => ?_⟩
      · rw [cpure_congr hus]; exact h3
      · rw [crd_congr hus]; exact crd_stable hr h3
    · obtain ⟨a1, a2, a3⟩ := ha n h2 h5 h7
      exact .inr ⟨n, o, g, h2, by rw [cal_congr hus]; exact h3, h4, a1, h6, a3, by rw [a2]; exact h8⟩
end

structure Inv (P : Program) (ops : Array Oper) (b : Frame) (φ0 : Emb) (H0 : CH) (w0 : World) (a0 : Act) (listed : Array Bool) (ps : List Pd) (l : List CE) (tm : List Value) (H : CH) (φ : Emb) (a : Act) (w : World) : Prop where
  sim : Sim P φ H w
  glob : Glob P φ
  nx : Next φ0 H0 w0 φ H w
  defers : a.defers = a0.defers
  len : tm.length = a.tmps.size
  tr : ∀ t, (∀ p ∈ ps, p.e.dst ≠ some t) → VR φ (tm.getD t undef) (a.tmps.getD t undef)
  pds : ∀ p ∈ ps, PdOk P ops H0.next φ tm H p
  nms : (ps.filterMap (·.nm)).Nodup
  oks : ∀ e ∈ l, EOk P ops e
  rel : (ps.map (·.e) ++ l).Pairwise (Ahead ops (Region.before ops))
  nod : ((ps.map (·.e) ++ l).map (·.i)).Nodup
  lst : ∀ j, j < ops.size → (listed.getD j true = false ↔ j ∈ (ps.map (·.e) ++ l).map (·.i))
  lsz : listed.size = ops.size
  down : ∀ i j, listed.getD i false = true → anc (Region.before ops) j i = true → listed.getD j false = true
  self : ∀ e ∈ ps.map (·.e) ++ l, ∀ t, e.dst = some t → t ∉ useOf ops e

section
variable {P : Program} {ops : Array Oper} {b : Frame} {φ0 : Emb} {H0 : CH} {w0 : World} {a0 : Act} {listed : Array Bool} {ps : List Pd} {l : List CE} {tm : List Value} {H : CH} {φ : Emb} {a : Act} {w : World} {md : Region.Mode}
theorem pair_dst {bf : Array Nat} {e q : CE} (h : pairOk ops bf e q = true) (hE : anc bf e.i q.i = true → q.ci.isEff = false) (he : e.ci.isEff = false) {t : Tmp} (ht : q.dst = some t) : t ∉ useOf ops e ∧ e.dst ≠ some t := by
  unfold pairOk at h
  simp only [he, ht] at h
  cases hb : anc bf e.i q.i with
  | true =>
    rw [hb] at h
    simp only [if_true, Bool.false_or, hE hb, Bool.or_false, Bool.not_eq_true', Bool.or_eq_false_iff, dstIs] at h
    refine ⟨by simpa using h.1, fun hd => ?_⟩
    rw [hd] at h; simp at h
  | false =>
    rw [hb] at h
    simp only [Bool.false_eq_true, if_false, Bool.not_false, Bool.true_and, Bool.and_eq_true, Bool.not_eq_true', Bool.or_eq_false_iff, dstIs] at h
    refine ⟨by simpa using h.1.1, fun hd => ?_⟩
    rw [hd] at h; simp at h
theorem pair_look {bf : Array Nat} {e q : CE} (h : pairOk ops bf e q = true) (hb : anc bf e.i q.i = false) : e.ci.isEff = false ∧ ∀ t, e.dst = some t → t ∉ useOf ops q := by
  unfold pairOk at h
  rw [hb] at h
  simp only [Bool.false_eq_true, if_false, Bool.and_eq_true, Bool.not_eq_true'] at h
  refine ⟨h.1.1, fun t ht => ?_⟩
  rw [ht] at h
  simpa using h.2
theorem tput_get (tm : List Value) (d : Option Tmp) (v : Value) (t : Nat) : (tput tm d v)[t]? = if d = some t ∧ t < tm.length then some v else tm[t]? := by
  cases d with
  | none => simp [tput]
  | some u =>
    simp only [tput, List.getElem?_set, Option.some.injEq]
    by_cases e : u = t
    · subst e
      by_cases hl : u < tm.length <;> simp [hl]
    · simp [e]
theorem tput_length (tm : List Value) (d : Option Tmp) (v : Value) : (tput tm d v).length = tm.length := by cases d <;> simp [tput]
theorem put_get (a : Act) (d : Option Tmp) (v : Value) (t : Nat) : (a.put d v).tmps[t]? = if d = some t ∧ t < a.tmps.size then some v else a.tmps[t]? := by
  cases d with
  | none => simp [Act.put]
  | some u =>
    simp only [Act.put, Array.getElem?_setIfInBounds, Option.some.injEq]
    by_cases e : u = t
    · subst e
      by_cases hl : u < a.tmps.size <;> simp [hl]
    · simp [e]
theorem put_size (a : Act) (d : Option Tmp) (v : Value) : (a.put d v).tmps.size = a.tmps.size := by cases d <;> simp [Act.put]

/-- The canonical run goes on by an entry that doesn't act. -/
theorem Inv.advance {Q : List Value → CH → Prop} {e : CE} (I : Inv P ops b φ0 H0 w0 a0 listed ps (e :: l) tm H φ a w) (hE : e.ci.isEff = false) (h : wpops P Q (e :: l) tm H) :
    ∃ p tm' H', p.e = e ∧ Inv P ops b φ0 H0 w0 a0 listed (ps ++ [p]) l tm' H' φ a w ∧ wpops P Q l tm' H' := by
  have hself := I.self e (by simp)
  have key : ∃ v nm H', wpops P Q l (tput tm e.dst v) H' ∧ PdVal H0.next φ tm H' ⟨e, v, nm⟩ ∧ (H' = H ∧ nm = none ∨ ∃ o, H' = H.add o ∧ nm = some H.next) := by
    simp only [wpops] at h
    split at h
    · rename_i hw
      have h' : ∃ v H1, cdet (cev tm) H e.ci = some (v, H1) ∧ ((∀ x ∈ e.pend, stable H H1 (cev tm x)) ∧ wpops P Q l (tput tm e.dst v) H1) := by
        generalize e.ci = ci at h hE
        cases ci <;> first | exact h | (simp [CI.isEff] at hE)
      obtain ⟨v, H1, h1, _, h2⟩ := h'
      rcases float_cases hE h1 with ⟨rfl, h3⟩ | ⟨o, g, h3, h4, rfl⟩
      · exact ⟨v, none, _, h2, .inr ⟨hw, .inl ⟨rfl, h3⟩⟩, .inl ⟨rfl, rfl⟩⟩
      · refine ⟨v, some H.next, _, h2, .inr ⟨hw, .inr ⟨H.next, o, g, rfl, h3, h4, I.sim.fresh, I.nx.nx, by rw [CH.next_add]; omega, by rw [CH.get_add, if_pos rfl]⟩⟩, .inr ⟨o, rfl, rfl⟩⟩
    · rename_i hw
      exact ⟨undef, none, _, h, .inl ⟨by simpa using hw, rfl, rfl⟩, .inl ⟨rfl, rfl⟩⟩
  obtain ⟨v, nm, H', h1, h2, h3⟩ := key
  refine ⟨⟨e, v, nm⟩, tput tm e.dst v, H', rfl, ?_, h1⟩
  -- what the new object turns: nothing that was there
  have hget : ∀ n, H.get n ≠ none → H'.get n = H.get n := by
    intro n hn
    rcases h3 with ⟨rfl, _⟩ | ⟨o, rfl, _⟩
    · rfl
    · rw [CH.get_add, if_neg]
      intro e'; rw [e'] at hn; exact hn (I.sim.fin _ (Nat.le_refl _))
  have hnx : H.next ≤ H'.next := by
    rcases h3 with ⟨rfl, _⟩ | ⟨o, rfl, _⟩
    · exact Nat.le_refl _
    · rw [CH.next_add]; omega
  have hsim : Sim P φ H' w ∧ Next φ H w φ H' w := by
    rcases h3 with ⟨rfl, _⟩ | ⟨o, rfl, _⟩
    · exact ⟨I.sim, Next.refl _ _ _⟩
    · have hne : ∀ n, φ n ≠ none → n ≠ H.next := fun n hn e => hn (by rw [e]; exact I.sim.fresh)
      have hg : ∀ n, φ n ≠ none → (H.add o).get n = H.get n := fun n hn => by rw [CH.get_add, if_neg (hne n hn)]
      refine ⟨⟨fun n L h => ?_, fun n m L M x y hn hm hx hy => ?_, fun n L x hn hx => ?_, fun n hn => ?_⟩, ?_⟩
      · have := I.sim.dom n L h; rw [CH.next_add]; omega
      · rw [hg n (by rw [hn]; simp)] at hx; rw [hg m (by rw [hm]; simp)] at hy
        exact I.sim.inj n m L M x y hn hm hx hy
      · rw [hg n (by rw [hn]; simp)] at hx
        exact I.sim.obj n L x hn hx
      · rw [CH.next_add] at hn
        rw [CH.get_add, if_neg (by omega)]
        exact I.sim.fin n (by omega)
      · exact ⟨φ.le_refl, hnx, Nat.le_refl _, fun n L h k => (by rw [h] at k; cases k), fun n hn _ => (by rw [CH.get_add, if_neg (by omega)]),
          fun n x hn hx hl => ⟨x, by rw [hg n hn]; exact hx, hl⟩, fun _ _ h => h, fun r _ h n L x hn he hx => h n L x hn he (by rw [hg n (by rw [hn]; simp)] at hx; exact hx), fun _ _ _ => rfl, rfl, rfl, rfl⟩
  have hrel := I.rel
  have happ : ((ps ++ [⟨e, v, nm⟩] : List Pd).map (·.e) ++ l) = ps.map (·.e) ++ e :: l := by simp
  have hahead : ∀ p ∈ ps, Ahead ops (Region.before ops) p.e e := fun p hp => (List.pairwise_append.1 hrel).2.2 p.e (List.mem_map.2 ⟨p, hp, rfl⟩) e (by simp)
  refine ⟨hsim.1, I.glob, I.nx.trans hsim.2, I.defers, by rw [tput_length]; exact I.len, fun t ht => ?_, fun p hp => ?_, ?_, fun x hx => I.oks x (by simp [hx]), by rw [happ]; exact I.rel, by rw [happ]; exact I.nod, fun j hj => by rw [happ]; exact I.lst j hj, I.lsz, I.down, fun x hx => I.self x (by rw [happ] at hx; exact hx)⟩
  · have h1 : e.dst ≠ some t := ht ⟨e, v, nm⟩ (by simp)
    have := I.tr t (fun p hp => ht p (by simp [hp]))
    rw [List.getD_eq_getElem?_getD, tput_get, if_neg (fun h => h1 h.1)]
    rw [List.getD_eq_getElem?_getD] at this
    exact this
  · rcases List.mem_append.1 hp with hp | hp
    · have hpd := I.pds p hp
      have ha := hahead p hp
      have hdst : ∀ t, e.dst = some t → t ∉ useOf ops p.e ∧ p.e.dst ≠ some t := fun t ht => pair_dst ha.1 (fun _ => hE) hpd.flt ht
      refine hpd.keep (fun t ht => ?_) (fun t ht => ?_) (tput_length _ _ _) (fun x _ n _ hn => hget n hn) (fun n hn h0 hlt => ?_)
      · rw [tput_get, if_neg]; intro h; exact (hdst t h.1).1 ht
      · rw [tput_get, if_neg]; intro h; exact (hdst t h.1).2 ht
      · refine ⟨h0, ?_, by omega⟩
        rcases h3 with ⟨rfl, _⟩ | ⟨o, rfl, _⟩
        · rfl
        · rw [CH.get_add, if_neg (by omega)]
    · rw [List.mem_singleton] at hp; subst hp
      have hu : ∀ t ∈ useOf ops e, (tput tm e.dst v)[t]? = tm[t]? := fun t ht => by
        rw [tput_get, if_neg]; intro h; exact hself t h.1 ht
      have hok : EOk P ops e := I.oks e (by simp)
      refine ⟨hok, hE, fun t ht hlt => ?_, ?_⟩
      · rw [tput_length] at hlt
        rw [tput_get, if_pos ⟨ht, hlt⟩]
      · have hus := uses_same hu
        rcases h2 with ⟨g1, g2⟩ | ⟨g1, g2⟩
        · exact .inl ⟨by rw [← g1]; exact want_same hok hu, g2⟩
        · refine .inr ⟨by rw [← g1]; exact want_same hok hu, ?_⟩
          rcases g2 with ⟨g2, g3⟩ | ⟨n, o, g, q1, q2, q3⟩
          · exact .inl ⟨g2, g3.imp (fun z => by rw [cpure_congr hus]; exact z) fun z => by rw [crd_congr hus]; exact z⟩
          · exact .inr ⟨n, o, g, q1, by rw [cal_congr hus]; exact q2, q3⟩
  · rcases h3 with ⟨_, rfl⟩ | ⟨o, _, rfl⟩
    · simpa using I.nms
    · simp only [List.filterMap_append, List.filterMap_cons, List.filterMap_nil]
      refine List.nodup_append.2 ⟨I.nms, by simp, fun n hn m hm => ?_⟩
      rw [List.mem_singleton] at hm; subst hm
      obtain ⟨p, hp, hpn⟩ := List.mem_filterMap.1 hn
      rcases (I.pds p hp).val with ⟨_, _, h⟩ | ⟨_, ⟨h, _⟩ | ⟨k, _, _, h, _, _, _, _, hlt, _⟩⟩
      · rw [hpn] at h; cases h
      · rw [hpn] at h; cases h
      · rw [hpn] at h; cases h; omega
end
end Go.Cn
/-! ## A region whose order is drawn: the machine's steps. -/
namespace Go.Cn
open Go

section
variable {P : Program} {ops : Array Oper} {b : Frame} {φ0 : Emb} {H0 : CH} {w0 : World} {a0 : Act} {listed : Array Bool} {ps : List Pd} {l : List CE} {tm : List Value} {H : CH} {φ : Emb} {a : Act} {w : World} {md : Region.Mode}
  {k : List Item} {cs : List Frame} {rest : List Nat} {i : Nat}
theorem Inv.ready (I : Inv P ops b φ0 H0 w0 a0 listed ps l tm H φ a w) (hr : i ∈ Region.ready md ops listed) :
    i < ops.size ∧ i ∈ (ps.map (·.e) ++ l).map (·.i) ∧ (∀ j, anc (Region.before ops) j i = true → listed.getD j false = true) ∧ (∀ e ∈ ps.map (·.e) ++ l, anc (Region.before ops) e.i i = false) := by
  rw [mem_ready] at hr
  obtain ⟨h0, o, ho, hdep⟩ := hr
  have hi : i < ops.size := (Array.getElem?_eq_some_iff.1 ho).1
  have hanc : ∀ j, anc (Region.before ops) j i = true → listed.getD j false = true := by
    intro j hj
    obtain ⟨o', ho', e, he, hb, h⟩ := before_spec hj
    rw [ho] at ho'; cases ho'
    have := hdep e he (binds_any hb)
    rcases h with rfl | h
    · exact this
    · exact I.down _ _ this h
  refine ⟨hi, (I.lst i hi).1 h0, hanc, fun e he => ?_⟩
  cases h : anc (Region.before ops) e.i i with
  | false => rfl
  | true =>
    exfalso
    have h1 := hanc _ h
    have hlt : e.i < ops.size := by
      rcases Nat.lt_or_ge e.i listed.size with h' | h'
      · rw [I.lsz] at h'; exact h'
      · simp [Array.getElem?_eq_none h'] at h1
    have h2 := (I.lst e.i hlt).2 (List.mem_map.2 ⟨e, he, rfl⟩)
    have hlt' : e.i < listed.size := by rw [I.lsz]; exact hlt
    simp [hlt'] at h1 h2
    rw [h1] at h2; cases h2
/-- What is listed, when one more is done. -/
theorem listed_set (I : Inv P ops b φ0 H0 w0 a0 listed ps l tm H φ a w) (hr : i ∈ Region.ready md ops listed) {L1 L2 : List CE} {e : CE} (he : e.i = i) (hL : ps.map (·.e) ++ l = L1 ++ e :: L2) :
    (∀ j, j < ops.size → ((listed.setIfInBounds i true).getD j true = false ↔ j ∈ (L1 ++ L2).map (·.i))) ∧ (listed.setIfInBounds i true).size = ops.size ∧
    (∀ x y, (listed.setIfInBounds i true).getD x false = true → anc (Region.before ops) y x = true → (listed.setIfInBounds i true).getD y false = true) := by
  obtain ⟨hi, _, hanc, _⟩ := I.ready hr
  have hnod := I.nod
  rw [hL] at hnod
  have hlst := I.lst
  rw [hL] at hlst
  refine ⟨fun j hj => ?_, by simp [I.lsz], fun x y hx hy => ?_⟩
  · by_cases hij : i = j
    · subst hij
      have : i < listed.size := by rw [I.lsz]; exact hi
      simp only [List.map_append, List.map_cons] at hnod
      have hn : i ∉ (L1 ++ L2).map (·.i) := by
        rw [List.map_append]
        have := (List.nodup_append.1 hnod)
        obtain ⟨n1, n2, n3⟩ := this
        obtain ⟨n4, _⟩ := List.nodup_cons.1 n2
        intro hm
        rcases List.mem_append.1 hm with hm | hm
        · exact n3 _ hm _ (by simp) he.symm
        · exact n4 (by rw [he]; exact hm)
      constructor
      · intro h; simp [this] at h
      · intro h; exact absurd h hn
    · rw [getD_set_ne true hij, hlst j hj]
      simp only [List.map_append, List.map_cons, List.mem_append, List.mem_cons]
      constructor
      · rintro (h | h | h)
        · exact .inl h
        · exact absurd (he ▸ h.symm) hij
        · exact .inr h
      · rintro (h | h)
        · exact .inl h
        · exact .inr (.inr h)
  · by_cases hix : i = x
    · subst hix; exact getD_set_true (hanc _ hy)
    · rw [getD_set_ne false hix] at hx
      exact getD_set_true (I.down _ _ hx hy)

/-- A pending entry is done. -/
theorem Inv.float {A Bs : List Pd} {p : Pd} (I : Inv P ops b φ0 H0 w0 a0 listed (A ++ p :: Bs) l tm H φ a w) (hr : p.e.i ∈ Region.ready md ops listed) :
    ∃ φ' a' w', Inv P ops b φ0 H0 w0 a0 (listed.setIfInBounds p.e.i true) (A ++ Bs) l tm H φ' a' w' ∧
      Steps P (lone (b.atR a (.inRegion ops (p.e.i :: rest) :: k)) cs w) (lone (b.atR a' (.inRegion ops rest :: k)) cs w') := by
  have hp : p ∈ A ++ p :: Bs := by simp
  have hpd := I.pds p hp
  obtain ⟨o, ho, hci, hd, hg⟩ := hpd.eok.op
  obtain ⟨hi, _, _, hna⟩ := I.ready hr
  have hL : (A ++ p :: Bs).map (·.e) ++ l = A.map (·.e) ++ p.e :: (Bs.map (·.e) ++ l) := by simp
  have hrel := I.rel
  rw [hL] at hrel
  obtain ⟨r1, r2, r3⟩ := List.pairwise_append.1 hrel
  obtain ⟨r4, r5⟩ := List.pairwise_cons.1 r2
  -- what the operation looks at has come
  have hlook : ∀ t ∈ useOf ops p.e, VR φ (tm.getD t undef) (a.tmps.getD t undef) := by
    intro t ht
    refine I.tr t fun q hq hqd => ?_
    rcases List.mem_append.1 hq with hq | hq
    · have ha := r3 q.e (List.mem_map.2 ⟨q, hq, rfl⟩) p.e (by simp)
      exact (pair_look ha.1 (hna q.e (List.mem_append_left _ (List.mem_map.2 ⟨q, by simp [hq], rfl⟩)))).2 t hqd ht
    · rcases List.mem_cons.1 hq with rfl | hq
      · exact I.self q.e (List.mem_append_left _ (List.mem_map.2 ⟨q, hp, rfl⟩)) t hqd ht
      · have ha := r4 q.e (List.mem_append_left _ (List.mem_map.2 ⟨q, hq, rfl⟩))
        exact (pair_dst ha.1 (fun _ => (I.pds q (by simp [hq])).flt) hpd.flt hqd).1 ht
  have hlook2 : ∀ t ∈ looks ops o, VR φ (tm.getD t undef) (a.tmps.getD t undef) := fun t ht => hlook t (by
    unfold useOf; rw [eok_looks ho]; exact List.mem_append_left _ ht)
  have hwant := want_eq (φ := φ) (tm := tm) (a := a) ops (o := o) I.len hlook2
  rw [← hg] at hwant
  -- the machine's step
  have key : ∃ φ' v' w', VR φ' p.v v' ∧ Sim P φ' H w' ∧ Next φ0 H0 w0 φ' H w' ∧ φ.le φ' ∧ (∀ n, φ n = none → p.nm ≠ some n → φ' n = none) ∧
      Steps P (lone (b.atR a (.inRegion ops (p.e.i :: rest) :: k)) cs w) (lone (b.atR (a.put o.dst v') (.inRegion ops rest :: k)) cs w') := by
    rcases hpd.val with ⟨h1, h2, _⟩ | ⟨h1, h2⟩
    · refine ⟨φ, undef, w, ?_, I.sim, I.nx, φ.le_refl, fun n h _ => h, .one ?_⟩
      · rw [h2]; exact VR.undef _
      · have hst := stepR_op_skip (P := P) (b := b) (a := a) (k := k) (cs := cs) (w := w) (ops := ops) (i := p.e.i) (rest := rest) (by simp only [ho, Option.map_some, Option.getD_some, hwant]; exact h1)
        rw [ho] at hst
        exact hst
    · have hw : Region.wanted o (yielded ops a.tmps) = true := by rw [hwant]; exact h1
      have hc : ∃ ci, compOp P o = some ci := by
        cases e : compOp P o with
        | some ci => exact ⟨ci, rfl⟩
        | none =>
          exfalso
          rw [e] at hci
          simp only [Option.getD_none] at hci
          rw [hci] at h2
          rcases h2 with ⟨_, h | h⟩ | ⟨_, _, _, _, h, _⟩
          · simp [cpure] at h
          · simp [crd] at h
          · simp [cal] at h
      obtain ⟨ci, hc⟩ := hc
      rw [hc] at hci
      simp only [Option.getD_some] at hci
      have hev := ev_looks ops I.glob hc hlook2
      have hdd := done_defer hc
      rcases h2 with ⟨h2, h3 | h3⟩ | ⟨n, ob, g, h2, h3, h4, h5, h6, h7, h8⟩
      · rw [hci] at h3
        obtain ⟨v', g1, g2⟩ := pure_sound hc h3 hev
        exact ⟨φ, v', w, g1, I.sim, I.nx, φ.le_refl, fun n h _ => h, step_done ho hw hdd (.inl (g2 w))⟩
      · rw [hci] at h3
        obtain ⟨v', g1, g2⟩ := read_sound I.sim hc h3 hev
        exact ⟨φ, v', w, g1, I.sim, I.nx, φ.le_refl, fun n h _ => h, step_done ho hw hdd (.inl g2)⟩
      · rw [hci] at h3
        obtain ⟨rob, w1, sz, v', g1, g2, g3, g4⟩ := alloc_sound hc h3 hev w
        have hle := Emb.put_le ⟨w.heap.size, 0, sz⟩ h5
        have hs : w1.heap.size = w.heap.size + 1 := by rw [g2.heap]; simp
        have hold : ∀ r, r < w.heap.size → w1.heap[r]? = w.heap[r]? := fun r hr => by
          rw [g2.heap, Array.getElem?_push, if_neg (by omega)]
        refine ⟨φ.put n ⟨w.heap.size, 0, sz⟩, v', w1, by rw [h4]; exact g4 n, ?_, ?_, hle, fun m hm hmn => ?_, step_done ho hw hdd (.inl g1)⟩
        · refine ⟨fun m M hm => ?_, fun x y X Y ox oy hx hy hox hoy dx dy e => ?_, fun m M x hm hx => ?_, I.sim.fin⟩
          · by_cases e : m = n
            · subst e; rw [Emb.put_same] at hm; cases hm
              exact ⟨h7, by rw [hs]; exact Nat.lt_succ_self _⟩
            · rw [Emb.put_ne _ _ e] at hm
              have := I.sim.dom m M hm; omega
          · by_cases ex : x = n
            · by_cases ey : y = n
              · rw [ex, ey]
              · subst ex; rw [Emb.put_same] at hx; cases hx
                rw [Emb.put_ne _ _ ey] at hy
                have := (I.sim.dom y Y hy).2
                simp only at e; omega
            · rw [Emb.put_ne _ _ ex] at hx
              by_cases ey : y = n
              · subst ey; rw [Emb.put_same] at hy; cases hy
                have := (I.sim.dom x X hx).2
                simp only at e; omega
              · rw [Emb.put_ne _ _ ey] at hy
                exact I.sim.inj _ _ _ _ _ _ hx hy hox hoy dx dy e
          · by_cases em : m = n
            · subst em; rw [Emb.put_same] at hm; cases hm
              rw [h8] at hx; cases hx
              refine g2.obj _ hle _ ?_
              rw [g2.heap, Array.getElem?_push, if_pos rfl]
            · rw [Emb.put_ne _ _ em] at hm
              exact ((I.sim.obj m M x hm hx).mono hle).heap (hold _ (I.sim.dom m M hm).2)
        · have N := I.nx
          refine ⟨Emb.le_trans N.le hle, N.nx, by have := N.sz; omega, fun m L hm hL => ?_, N.olds, N.loops, fun r hr hnr m M hm => ?_, fun r hr hf m M x hm e hx => ?_, fun r hr hf => ?_, g2.os.trans N.os, g2.tape.trans N.tape, g2.out.trans N.out⟩
          · by_cases em : m = n
            · rw [em]; exact h6
            · rw [Emb.put_ne _ _ em] at hL; exact N.news m L hm hL
          · by_cases em : m = n
            · subst em; rw [Emb.put_same] at hm; cases hm
              have := N.sz; simp only; omega
            · rw [Emb.put_ne _ _ em] at hm; exact N.notin r hr hnr m M hm
          · by_cases em : m = n
            · subst em; rw [Emb.put_same] at hm; cases hm
              have := N.sz; simp only at e; omega
            · rw [Emb.put_ne _ _ em] at hm
              exact N.free r hr hf m M x hm e hx
          · rw [hold r (by have := N.sz; omega)]; exact N.same r hr hf
        · rw [Emb.put_ne _ _ (fun e => hmn (by rw [e]; exact h2))]; exact hm
  obtain ⟨φ', v', w', k1, k2, k3, k4, k5, k6⟩ := key
  obtain ⟨s1, s2, s3⟩ := listed_set I hr rfl hL
  have happ : (A ++ Bs).map (·.e) ++ l = A.map (·.e) ++ (Bs.map (·.e) ++ l) := by simp
  have hsub : ((A ++ Bs).map (·.e) ++ l).Sublist ((A ++ p :: Bs).map (·.e) ++ l) := by
    refine List.Sublist.append_right (List.Sublist.map _ ?_) l
    exact List.Sublist.append_left (List.sublist_cons_self _ _) A
  have hmem : ∀ q ∈ A ++ Bs, q ∈ A ++ p :: Bs := fun q hq => by
    rcases List.mem_append.1 hq with h | h <;> simp [h]
  refine ⟨φ', a.put o.dst v', w', ⟨k2, fun g hg => ?_, k3, by rw [put_defers]; exact I.defers, by rw [put_size]; exact I.len, fun t ht => ?_, fun q hq => ?_, ?_, I.oks, I.rel.sublist hsub, I.nod.sublist (hsub.map _), fun j hj => by rw [happ]; exact s1 j hj, s2, s3, fun e he => I.self e (hsub.subset he)⟩, k6⟩
  · obtain ⟨sz, h⟩ := I.glob g hg; exact ⟨sz, k4 _ _ h⟩
  · by_cases hdt : p.e.dst = some t
    · by_cases hlt : t < tm.length
      · have h1 := hpd.dst t hdt hlt
        rw [List.getD_eq_getElem?_getD, h1, Array.getD_eq_getD_getElem?, put_get, if_pos ⟨by rw [← hd]; exact hdt, by rw [← I.len]; exact hlt⟩]
        exact k1
      · have h1 : tm[t]? = none := List.getElem?_eq_none (Nat.le_of_not_lt hlt)
        have h2 : (a.put o.dst v').tmps[t]? = none := Array.getElem?_eq_none (by rw [put_size, ← I.len]; exact Nat.le_of_not_lt hlt)
        rw [List.getD_eq_getElem?_getD, h1, Array.getD_eq_getD_getElem?, h2]
        exact VR.undef _
    · have h1 := (I.tr t (fun q hq hqd => by
        rcases List.mem_append.1 hq with h | h
        · exact ht q (by simp [h]) hqd
        · rcases List.mem_cons.1 h with rfl | h
          · exact hdt hqd
          · exact ht q (by simp [h]) hqd)).mono k4
      rw [Array.getD_eq_getD_getElem?, put_get, if_neg (fun h => hdt (by rw [hd]; exact h.1))]
      rw [Array.getD_eq_getD_getElem?] at h1
      exact h1
  · have hq' := I.pds q (hmem q hq)
    refine hq'.keep (fun _ _ => rfl) (fun _ _ => rfl) rfl (fun _ _ _ _ _ => rfl) (fun n hn h0 hlt => ⟨k5 n h0 (fun hpn => ?_), rfl, hlt⟩)
    -- two names are apart
    have hn2 := I.nms
    simp only [List.filterMap_append, List.filterMap_cons, hpn] at hn2
    obtain ⟨_, m2, m3⟩ := List.nodup_append.1 hn2
    obtain ⟨m4, _⟩ := List.nodup_cons.1 m2
    rcases List.mem_append.1 hq with h | h
    · exact m3 n (List.mem_filterMap.2 ⟨q, h, hn⟩) n (by simp) rfl
    · exact m4 (List.mem_filterMap.2 ⟨q, h, hn⟩)
  · refine I.nms.sublist (List.Sublist.filterMap _ ?_)
    exact List.Sublist.append_left (List.sublist_cons_self _ _) A
/-- An entry that acts is done, by both. -/
theorem Inv.eff {Q : List Value → CH → Prop} {q : CE} (I : Inv P ops b φ0 H0 w0 a0 listed ps (q :: l) tm H φ a w) (hr : q.i ∈ Region.ready md ops listed) (h : wpops P Q (q :: l) tm H) (hE : q.ci.isEff = true) :
    ∃ tm' H' φ' a' w', Inv P ops b φ0 H0 w0 a0 (listed.setIfInBounds q.i true) ps l tm' H' φ' a' w' ∧ wpops P Q l tm' H' ∧
      Steps P (lone (b.atR a (.inRegion ops (q.i :: rest) :: k)) cs w) (lone (b.atR a' (.inRegion ops rest :: k)) cs w') := by
  have hok := I.oks q (by simp)
  obtain ⟨o, ho, hci, hd, hg⟩ := hok.op
  obtain ⟨hi, _, _, hna⟩ := I.ready hr
  obtain ⟨r1, r2, r3⟩ := List.pairwise_append.1 I.rel
  have hah : ∀ p ∈ ps, Ahead ops (Region.before ops) p.e q := fun p hp => r3 p.e (List.mem_map.2 ⟨p, hp, rfl⟩) q (by simp)
  have hnp : ∀ p ∈ ps, anc (Region.before ops) p.e.i q.i = false := fun p hp => hna p.e (List.mem_append_left _ (List.mem_map.2 ⟨p, hp, rfl⟩))
  have hlook : ∀ t ∈ useOf ops q, VR φ (tm.getD t undef) (a.tmps.getD t undef) := fun t ht => I.tr t fun p hp hpd => (pair_look (hah p hp).1 (hnp p hp)).2 t hpd ht
  have hlook2 : ∀ t ∈ looks ops o, VR φ (tm.getD t undef) (a.tmps.getD t undef) := fun t ht => hlook t (by
    unfold useOf; rw [eok_looks ho]; exact List.mem_append_left _ ht)
  have hwant := want_eq (φ := φ) (tm := tm) (a := a) ops (o := o) I.len hlook2
  rw [← hg] at hwant
  have key : ∃ v v' φ' H' w', wpops P Q l (tput tm q.dst v) H' ∧ (∀ x ∈ q.pend, stable H H' (cev tm x)) ∧ VR φ' v v' ∧ Sim P φ' H' w' ∧ Next φ H w φ' H' w' ∧
      Steps P (lone (b.atR a (.inRegion ops (q.i :: rest) :: k)) cs w) (lone (b.atR (a.put o.dst v') (.inRegion ops rest :: k)) cs w') := by
    simp only [wpops] at h
    split at h
    · rename_i hw
      rw [hci] at h
      obtain ⟨ci, hc⟩ := cstep_comp h
      rw [hc] at h
      obtain ⟨v, v', φ1, H1, w1, ⟨g1, g2⟩, q2, q3, q4, q5⟩ := cstep_sound (b := b) (k := k) (cs := cs) (rest := rest) I.sim I.glob hc (ev_looks ops I.glob hc hlook2) ho (by rw [hwant]; exact hw) h
      exact ⟨v, v', φ1, H1, w1, g2, g1, q2, q3, q4, q5⟩
    · rename_i hw
      refine ⟨undef, undef, φ, H, w, h, fun _ _ _ _ => rfl, VR.undef _, I.sim, Next.refl _ _ _, .one ?_⟩
      have hst := stepR_op_skip (P := P) (b := b) (a := a) (k := k) (cs := cs) (w := w) (ops := ops) (i := q.i) (rest := rest) (by simp only [ho, Option.map_some, Option.getD_some, hwant]; simpa using hw)
      rw [ho] at hst
      exact hst
  obtain ⟨v, v', φ', H', w', k1, k2, k3, k4, k5, k6⟩ := key
  obtain ⟨s1, s2, s3⟩ := listed_set I hr rfl (L1 := ps.map (·.e)) (L2 := l) rfl
  have hsub : (ps.map (·.e) ++ l).Sublist (ps.map (·.e) ++ q :: l) := List.Sublist.append_left (List.sublist_cons_self _ _) _
  refine ⟨tput tm q.dst v, H', φ', a.put o.dst v', w', ⟨k4, I.glob.next k5, I.nx.trans k5, by rw [put_defers]; exact I.defers, by rw [tput_length, put_size]; exact I.len, fun t ht => ?_, fun p hp => ?_, I.nms,
    fun e he => I.oks e (by simp [he]), I.rel.sublist hsub, I.nod.sublist (hsub.map _), s1, s2, s3, fun e he => I.self e (hsub.subset he)⟩, k1, k6⟩
  · have h1 := (I.tr t ht).mono k5.le
    rw [List.getD_eq_getElem?_getD, Array.getD_eq_getD_getElem?, tput_get, put_get, ← hd]
    by_cases hc : q.dst = some t ∧ t < tm.length
    · rw [if_pos hc, if_pos ⟨hc.1, by rw [← I.len]; exact hc.2⟩]; exact k3
    · rw [if_neg hc, if_neg (fun h => hc ⟨h.1, by rw [I.len]; exact h.2⟩)]
      rw [List.getD_eq_getElem?_getD, Array.getD_eq_getD_getElem?] at h1
      exact h1
  · have hpd := I.pds p hp
    have hdst : ∀ t, q.dst = some t → t ∉ useOf ops p.e ∧ p.e.dst ≠ some t := fun t ht => pair_dst (hah p hp).1 (fun hb => by rw [hnp p hp] at hb; cases hb) hpd.flt ht
    refine hpd.keep (fun t ht => ?_) (fun t ht => ?_) (tput_length _ _ _) (fun x hx n hn _ => k2 x ((hah p hp).2 hE hpd.flt (hnp p hp) x hx) n hn) (fun n hn h0 hlt => ?_)
    · rw [tput_get, if_neg]; intro h; exact (hdst t h.1).1 ht
    · rw [tput_get, if_neg]; intro h; exact (hdst t h.1).2 ht
    · refine ⟨?_, k5.olds n hlt h0, Nat.lt_of_lt_of_le hlt k5.nx⟩
      cases e : φ' n with
      | none => rfl
      | some L => exact absurd (k5.news n L h0 e) (by omega)
theorem Inv.advances {Q : List Value → CH → Prop} : ∀ {l1 : List CE} {l2 : List CE} {ps : List Pd} {tm : List Value} {H : CH}, (∀ e ∈ l1, e.ci.isEff = false) → Inv P ops b φ0 H0 w0 a0 listed ps (l1 ++ l2) tm H φ a w → wpops P Q (l1 ++ l2) tm H →
    ∃ ps' tm' H', ps'.map (·.e) = ps.map (·.e) ++ l1 ∧ Inv P ops b φ0 H0 w0 a0 listed ps' l2 tm' H' φ a w ∧ wpops P Q l2 tm' H' := by
  intro l1
  induction l1 with
  | nil => intro l2 ps tm H _ I h; exact ⟨ps, tm, H, by simp, I, h⟩
  | cons e l1 ih =>
    intro l2 ps tm H hE I h
    obtain ⟨p, tm1, H1, e1, I1, h1⟩ := I.advance (hE e (by simp)) h
    obtain ⟨ps', tm', H', e2, I2, h2⟩ := ih (fun x hx => hE x (by simp [hx])) I1 h1
    exact ⟨ps', tm', H', by rw [e2]; simp [e1], I2, h2⟩
theorem draw_run {Q : List Value → CH → Prop} {L : List Nat} (hext : extOk md ops [] L = true) : ∀ (fuel t : Nat) {listed : Array Bool} {ps : List Pd} {l : List CE} {tm : List Value} {H : CH} {φ : Emb} {a : Act} {w : World},
    ps.length + l.length ≤ fuel → Inv P ops b φ0 H0 w0 a0 listed ps l tm H φ a w → wpops P Q l tm H →
    ∃ tm1 H1 φ1 a1 w1, Q tm1 H1 ∧ Next φ0 H0 w0 φ1 H1 w1 ∧ Sim P φ1 H1 w1 ∧ VRs φ1 tm1 a1.tmps ∧ a1.defers = a0.defers ∧
      Steps P (lone (b.atR a (.inRegion ops (Region.linearise.go md ops fuel t listed []) :: k)) cs w) (lone (b.atR a1 (.inRegion ops [] :: k)) cs w1) := by
  have fin : ∀ {listed : Array Bool} {ps : List Pd} {l : List CE} {tm : List Value} {H : CH} {φ : Emb} {a : Act} {w : World}, ps.length + l.length = 0 → Inv P ops b φ0 H0 w0 a0 listed ps l tm H φ a w → wpops P Q l tm H →
      ∃ tm1 H1 φ1 a1 w1, Q tm1 H1 ∧ Next φ0 H0 w0 φ1 H1 w1 ∧ Sim P φ1 H1 w1 ∧ VRs φ1 tm1 a1.tmps ∧ a1.defers = a0.defers ∧
        Steps P (lone (b.atR a (.inRegion ops [] :: k)) cs w) (lone (b.atR a1 (.inRegion ops [] :: k)) cs w1) := by
    intro listed ps l tm H φ a w hz I h
    have hp : ps = [] := List.eq_nil_of_length_eq_zero (by omega)
    have hl : l = [] := List.eq_nil_of_length_eq_zero (by omega)
    subst hp; subst hl
    exact ⟨tm, H, φ, a, w, h, I.nx, I.sim, ⟨I.len, fun t => I.tr t (fun p hp => by cases hp)⟩, I.defers, .refl _ _⟩
  intro fuel
  induction fuel with
  | zero => intro t listed ps l tm H φ a w hf I h; exact fin (by omega) I h
  | succ fuel ih =>
    intro t listed ps l tm H φ a w hf I h
    have hgo : Region.linearise.go md ops (fuel + 1) t listed [] = match (Region.ready md ops listed)[t % (Region.ready md ops listed).length]? with
      | some i => Region.linearise.go md ops fuel (t / (Region.ready md ops listed).length) (listed.setIfInBounds i true) [i]
      | none => [].reverse := rfl
    rw [hgo]
    cases hi : (Region.ready md ops listed)[t % (Region.ready md ops listed).length]? with
    | none =>
      have hnil : Region.ready md ops listed = [] := by
        cases hr : Region.ready md ops listed with
        | nil => rfl
        | cons x xs =>
          rw [hr] at hi
          have hlt : t % (x :: xs).length < (x :: xs).length := Nat.mod_lt _ (by simp)
          simp at hi
          simp at hlt
          omega
      have hall := ext_all I.lsz hnil hext (fun j hj => by cases hj)
      refine fin ?_ I h
      have hnone : ∀ e ∈ ps.map (·.e) ++ l, False := by
        intro e he
        have hok : EOk P ops e := by
          rcases List.mem_append.1 he with h | h
          · obtain ⟨p, hp, rfl⟩ := List.mem_map.1 h
            exact (I.pds p hp).eok
          · exact I.oks e h
        obtain ⟨o, ho, _⟩ := hok.op
        have hlt : e.i < ops.size := (Array.getElem?_eq_some_iff.1 ho).1
        have h1 := hall e.i hlt
        have h2 := (I.lst e.i hlt).2 (List.mem_map.2 ⟨e, he, rfl⟩)
        have hlt' : e.i < listed.size := by rw [I.lsz]; exact hlt
        simp [hlt'] at h1 h2
        rw [h1] at h2; cases h2
      cases hps : ps.map (·.e) ++ l with
      | nil =>
        have := congrArg List.length hps
        simpa using this
      | cons x xs => exact (hnone x (by rw [hps]; simp)).elim
    | some i =>
      simp only []
      rw [linearise_go_acc, List.reverse_singleton, List.singleton_append]
      have hr : i ∈ Region.ready md ops listed := List.mem_of_getElem? hi
      obtain ⟨hlt, hmem, _, hna⟩ := I.ready hr
      -- a pending entry
      have fl : ∀ {ps : List Pd} {l : List CE} {tm : List Value} {H : CH}, ps.length + l.length ≤ fuel + 1 → Inv P ops b φ0 H0 w0 a0 listed ps l tm H φ a w → wpops P Q l tm H → i ∈ ps.map (·.e.i) →
          ∃ tm1 H1 φ1 a1 w1, Q tm1 H1 ∧ Next φ0 H0 w0 φ1 H1 w1 ∧ Sim P φ1 H1 w1 ∧ VRs φ1 tm1 a1.tmps ∧ a1.defers = a0.defers ∧
          Steps P (lone (b.atR a (.inRegion ops (i :: Region.linearise.go md ops fuel (t / (Region.ready md ops listed).length) (listed.setIfInBounds i true) []) :: k)) cs w) (lone (b.atR a1 (.inRegion ops [] :: k)) cs w1) := by
        intro ps l tm H hf I h hm
        obtain ⟨p, hp, rfl⟩ := List.mem_map.1 hm
        obtain ⟨A, B, rfl⟩ := List.append_of_mem hp
        obtain ⟨φ', a', w', I', st⟩ := I.float (k := k) (cs := cs) (rest := Region.linearise.go md ops fuel (t / (Region.ready md ops listed).length) (listed.setIfInBounds p.e.i true) []) hr
        obtain ⟨tm1, H1, φ1, a1, w1, q1, q2, q3, q4, q5, q6⟩ := ih (t / (Region.ready md ops listed).length) (by simp at hf ⊢; omega) I' h
        exact ⟨tm1, H1, φ1, a1, w1, q1, q2, q3, q4, q5, Steps.trans st q6⟩
      rw [List.map_append, List.mem_append] at hmem
      rcases hmem with hm | hm
      · exact fl hf I h (by simpa using hm)
      · obtain ⟨q, hq, hqi⟩ := List.mem_map.1 hm
        obtain ⟨l1, l2, rfl⟩ := List.append_of_mem hq
        have hfl : ∀ e ∈ l1, e.ci.isEff = false := by
          intro e he
          obtain ⟨_, r2, _⟩ := List.pairwise_append.1 I.rel
          obtain ⟨_, _, r3⟩ := List.pairwise_append.1 r2
          have ha := r3 e he q (by simp)
          refine (pair_look ha.1 ?_).1
          rw [hqi]
          exact hna e (by simp [he])
        obtain ⟨ps', tm', H', e1, I', h'⟩ := Inv.advances hfl I h
        have hlen : ps'.length = ps.length + l1.length := by
          have := congrArg List.length e1; simpa using this
        cases hE : q.ci.isEff with
        | false =>
          obtain ⟨p, tm2, H2, e2, I2, h2⟩ := I'.advance hE h'
          refine fl (by simp at hf ⊢; omega) I2 h2 ?_
          simp only [List.map_append, List.map_cons, List.map_nil, List.mem_append, List.mem_singleton]
          exact .inr (by rw [e2, hqi])
        | true =>
          subst hqi
          obtain ⟨tm2, H2, φ', a', w', I2, h2, st⟩ := I'.eff (k := k) (cs := cs) (rest := Region.linearise.go md ops fuel (t / (Region.ready md ops listed).length) (listed.setIfInBounds q.i true) []) hr h' hE
          obtain ⟨tm1, H1, φ1, a1, w1, q1, q2, q3, q4, q5, q6⟩ := ih (t / (Region.ready md ops listed).length) (by simp at hf ⊢; omega) I2 h2
          exact ⟨tm1, H1, φ1, a1, w1, q1, q2, q3, q4, q5, Steps.trans st q6⟩
theorem pairs_rel {bf : Array Nat} : ∀ {l : List CE}, pairsOk ops bf l = true → l.Pairwise fun e q => pairOk ops bf e q = true := by
  intro l
  induction l with
  | nil => intro _; exact .nil
  | cons e l ih =>
    intro h
    simp only [pairsOk, Bool.and_eq_true, List.all_eq_true] at h
    exact List.pairwise_cons.2 ⟨h.1, ih h.2⟩
theorem ext_nodup {md : Region.Mode} : ∀ {l done : List Nat}, extOk md ops done l = true → done.Nodup → (done.Nodup ∧ l.Nodup ∧ (∀ i ∈ l, i ∉ done) ∧ (∀ i ∈ l, i < ops.size) ∧ ∀ i, i < ops.size → i ∈ done ∨ i ∈ l) := by
  intro l
  induction l with
  | nil =>
    intro done h hd
    simp only [extOk, List.all_eq_true, List.mem_range] at h
    exact ⟨hd, .nil, fun _ h => (by cases h), fun _ h => (by cases h), fun i hi => .inl (by simpa using h i hi)⟩
  | cons i l ih =>
    intro done h hd
    simp only [extOk, Bool.and_eq_true, decide_eq_true_eq, Bool.not_eq_true'] at h
    obtain ⟨⟨⟨hi, hn⟩, _⟩, h⟩ := h
    have hn' : i ∉ done := by simpa using hn
    obtain ⟨_, q2, q3, q4, q5⟩ := ih h (List.nodup_cons.2 ⟨hn', hd⟩)
    refine ⟨hd, List.nodup_cons.2 ⟨fun hm => q3 i hm (by simp), q2⟩, fun j hj => ?_, fun j hj => ?_, fun j hj => ?_⟩
    · rcases List.mem_cons.1 hj with rfl | hj
      · exact hn'
      · exact fun hm => q3 j hj (by simp [hm])
    · rcases List.mem_cons.1 hj with rfl | hj
      · exact hi
      · exact q4 j hj
    · rcases q5 j hj with h | h
      · rcases List.mem_cons.1 h with rfl | h
        · exact .inr (by simp)
        · exact .inl h
      · exact .inr (by simp [h])
/-- **A REGION.** -/
theorem cw_reg {Q : Post} {l : List CE} (h : wpops P (Q none) l tm H) : CW P (.reg l) Q tm H := by
  intro c hc b k cs φ a w lo p
  obtain ⟨id, ops, draw, rfl, hreg⟩ := of_comp hc
  unfold compRegion at hreg
  cases draw with
  | false =>
    simp only [Bool.false_eq_true, if_false, Option.map_eq_some_iff] at hreg
    obtain ⟨l0, hl0, rfl⟩ := hreg
    obtain ⟨q1, q2, _, _⟩ := ces_spec hl0
    have hidx : (l0.map fun e => { e with pend := [] }).map (·.i) = List.range ops.size := by rw [← q1]; simp
    obtain ⟨tm1, H1, φ1, a1, w1, r1, r2, r3, r4⟩ := ops_sound (b := b) (k := k) (cs := cs) (ops := ops) (l := l0.map fun e => { e with pend := [] }) (fun e he => by
      obtain ⟨e0, he0, rfl⟩ := List.mem_map.1 he
      exact ⟨(q2 e0 he0).op⟩) p h
    rw [hidx] at r4
    exact ⟨none, tm1, H1, φ1, a1, w1, r1, r2, r3, Steps.head stepR_region r4⟩
  | true =>
    simp only [if_true, Option.bind_eq_bind, Option.bind_eq_some_iff, Option.some.injEq] at hreg
    obtain ⟨l0, hl0, u, hdr, rfl⟩ := hreg
    have hdr := guardB_some hdr
    simp only [drawOk, Bool.and_eq_true] at hdr
    obtain ⟨⟨⟨⟨⟨⟨_, hself⟩, hx0⟩, hpairs⟩, hx1⟩, hx2⟩, hx3⟩ := hdr
    obtain ⟨q1, q2, _, q4⟩ := ces_spec hl0
    obtain ⟨_, n1, _, n2, n3⟩ := ext_nodup hx0 List.nodup_nil
    have w1sim := p.sim.same (w' := { w with drawn := w.drawn + 1 }) ⟨rfl, rfl, rfl, rfl⟩
    have I : Inv P ops b φ H w a (Array.replicate ops.size false) [] l0 tm H φ a { w with drawn := w.drawn + 1 } := by
      refine ⟨w1sim.1, p.glob, w1sim.2, rfl, p.tr.1, fun t _ => p.tr.2 t, fun p hp => (by cases hp), .nil, q2, ?_, by simpa using n1, fun j hj => ?_, by simp, fun i j hi => ?_, fun e he t ht => ?_⟩
      · have := List.Pairwise.and (pairs_rel hpairs) q4
        rw [List.map_nil, List.nil_append]
        exact this.imp fun h => h
      · have h1 : (Array.replicate ops.size false).getD j true = false := by simp [hj]
        rw [h1]
        simp only [true_iff, List.map_nil, List.nil_append]
        rcases n3 j hj with h | h
        · cases h
        · exact h
      · exfalso
        rcases Nat.lt_or_ge i ops.size with h' | h'
        · simp [h'] at hi
        · rw [Array.getD_eq_getD_getElem?, Array.getElem?_eq_none (by simpa using h')] at hi; cases hi
      · have := List.all_eq_true.1 hself e (by simpa using he)
        rw [ht] at this
        simpa using this
    have hfuel : ([] : List Pd).length + l0.length ≤ ops.size := by
      have : l0.length = (l0.map (·.i)).length := by simp
      rw [List.length_nil, Nat.zero_add, this]
      have hs := List.Nodup.length_le_of_subset n1 (l₂ := List.range ops.size) (fun i hi => List.mem_range.2 (n2 i hi))
      simpa using hs
    have hgo : ∀ md L t, extOk md ops [] L = true → ∃ tm1 H1 φ1 a1 w1, Q none tm1 H1 ∧ Next φ H w φ1 H1 w1 ∧ Sim P φ1 H1 w1 ∧ VRs φ1 tm1 a1.tmps ∧ a1.defers = a.defers ∧
      Steps P (lone (b.atR a (.inRegion ops (Region.linearise md ops t) :: k)) cs { w with drawn := w.drawn + 1 }) (lone (b.atR a1 (.inRegion ops [] :: k)) cs w1) :=
      fun md L t hL => draw_run hL ops.size t hfuel I h
    have hsch : ∃ tm1 H1 φ1 a1 w1, Q none tm1 H1 ∧ Next φ H w φ1 H1 w1 ∧ Sim P φ1 H1 w1 ∧ VRs φ1 tm1 a1.tmps ∧ a1.defers = a.defers ∧
      Steps P (lone (b.atR a (.inRegion ops (Region.schedule (P.follows .mixedOrders) ops (w.tape w.drawn (.order b.fn id))) :: k)) cs { w with drawn := w.drawn + 1 }) (lone (b.atR a1 (.inRegion ops [] :: k)) cs w1) := by
      unfold Region.schedule
      split
      · exact hgo _ _ _ hx1
      · split
        · exact hgo _ _ _ hx2
        · exact hgo _ _ _ hx3
    obtain ⟨tm1, H1, φ1, a1, w1, r1, r2, r3, r4, r5, r6⟩ := hsch
    exact ⟨none, tm1, H1, φ1, a1, w1, r1, r2, p.next r2 r3 r4 r5, Steps.head stepR_region_draw (Steps.trans r6 (.one stepR_region_end))⟩
end
end Go.Cn
