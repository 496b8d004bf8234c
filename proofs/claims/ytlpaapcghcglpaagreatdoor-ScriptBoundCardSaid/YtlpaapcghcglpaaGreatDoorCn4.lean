/- A program logic over canonical heaps, any program: part 5 of 5. Conditions: none; each theorem bears its own. -/
import Derived.Test.YtlpaapcghcglpaaGreatDoorCn3
/-! ## Working out code with unknown values: what each operation comes to. Nothing that is still to come stands under a binder. -/
namespace Go.Cn
open Go

/-- There is a value, and it is so. -/
def onv (o : Option Value) (K : Value → CH → Prop) (H : CH) : Prop := match o with | some v => K v H | none => False
theorem onv_some (v : Value) (K : Value → CH → Prop) (H : CH) : onv (some v) K H = K v H := rfl
theorem onv_ite (c : Prop) [Decidable c] (v : Value) (K : Value → CH → Prop) (H : CH) : onv (if c then some v else none) K H = (c ∧ K v H) := by
  by_cases h : c <;> simp [onv, h]
section
variable {P : Program} {tm : List Value} {H : CH} {K : Value → CH → Prop}
/-- An operation and a heap. -/
def onr (o : Option (Value × CH)) (K : Value → CH → Prop) : Prop := match o with | some r => K r.1 r.2 | none => False
theorem onr_some (v : Value) (H : CH) (K : Value → CH → Prop) : onr (some (v, H)) K = K v H := rfl
theorem cstep_eq {ci : CI} (hc : (∀ f a, ci ≠ .call f a) ∧ (∀ f a, ci ≠ .callv f a) ∧ ∀ x, ci ≠ .nxt x) : cstep P tm H K ci = onr (cdet (cev tm) H ci) K := by
  have : (∃ v H1, cdet (cev tm) H ci = some (v, H1) ∧ K v H1) = onr (cdet (cev tm) H ci) K := by
    cases e : cdet (cev tm) H ci with
    | none => simp [onr]
    | some r => obtain ⟨v, H1⟩ := r; simp [onr]; exact ⟨fun ⟨_, _, ⟨e1, e2⟩, h⟩ => by subst e1; subst e2; exact h, fun h => ⟨_, _, ⟨rfl, rfl⟩, h⟩⟩
  cases ci <;> first | exact this | exact absurd rfl (hc.1 _ _) | exact absurd rfl (hc.2.1 _ _) | exact absurd rfl (hc.2.2 _)
theorem cs_pure {ci : CI} (hc : (∀ f a, ci ≠ .call f a) ∧ (∀ f a, ci ≠ .callv f a) ∧ ∀ x, ci ≠ .nxt x) (h1 : crd (cev tm) H ci = none) (h2 : cal (cev tm) ci = none) (h3 : ceff (cev tm) H ci = none) :
    cstep P tm H K ci = onv (cpure (cev tm) ci) K H := by
  rw [cstep_eq hc]
  unfold cdet
  cases cpure (cev tm) ci with
  | some v => rfl
  | none => simp only [h1, h2, h3]; rfl
theorem cs_mov (x : Operand) : cstep P tm H K (.mov x) = K (cev tm x) H := cs_pure ⟨fun _ _ => nofun, fun _ _ => nofun, fun _ => nofun⟩ rfl rfl rfl
theorem cs_asg (x : Operand) : cstep P tm H K (.asg x) = K (cev tm x) H := cs_pure ⟨fun _ _ => nofun, fun _ _ => nofun, fun _ => nofun⟩ rfl rfl rfl
theorem cs_bin (op : BinOp) (x y : Operand) : cstep P tm H K (.bin op x y) = onv (cbin op (cev tm x) (cev tm y)) K H := cs_pure ⟨fun _ _ => nofun, fun _ _ => nofun, fun _ => nofun⟩ rfl rfl rfl
theorem cs_un (op : UnOp) (x : Operand) : cstep P tm H K (.un op x) = onv (cun op (cev tm x)) K H := cs_pure ⟨fun _ _ => nofun, fun _ _ => nofun, fun _ => nofun⟩ rfl rfl rfl
theorem cs_call (f : FuncId) (args : List Operand) : cstep P tm H K (.call f args) = CCall P f (args.map (cev tm)) H K := rfl
/-- One of two, by a value. -/
def vsel (v a b : Value) : Option Value := match v with | .bool true => some a | .bool false => some b | _ => none
theorem vsel_true (a b : Value) : vsel (.bool true) a b = some a := rfl
theorem vsel_false (a b : Value) : vsel (.bool false) a b = some b := rfl
theorem cs_pick (c a b : Operand) : cstep P tm H K (.pick c a b) = onv (vsel (cev tm c) (cev tm a) (cev tm b)) K H := by
  rw [cs_pure (ci := .pick c a b) ⟨fun _ _ => nofun, fun _ _ => nofun, fun _ => nofun⟩ rfl rfl rfl]
  rw [show cpure (cev tm) (.pick c a b) = (match cev tm c with | .bool t => some (if t = true then cev tm a else cev tm b) | _ => none) from rfl]
  generalize cev tm c = v
  cases v with
  | bool t => cases t <;> rfl
  | _ => rfl
end
/-! ### whole numbers -/
section
variable {k : IntKind} {a b : Int}
theorem bin_add : cbin .add (.int k a) (.int k b) = some (.int k (k.wrap (a + b))) := by simp [cbin, Go.binOp, Op.intArith, semPure, pure]
theorem bin_sub : cbin .sub (.int k a) (.int k b) = some (.int k (k.wrap (a - b))) := by simp [cbin, Go.binOp, Op.intArith, semPure, pure]
theorem bin_mul : cbin .mul (.int k a) (.int k b) = some (.int k (k.wrap (a * b))) := by simp [cbin, Go.binOp, Op.intArith, semPure, pure]
theorem bin_quo (h : b ≠ 0) : cbin .quo (.int k a) (.int k b) = some (.int k (k.wrap (a.tdiv b))) := by simp [cbin, Go.binOp, Op.intDiv, semPure, pure, h]
theorem bin_rem (h : b ≠ 0) : cbin .rem (.int k a) (.int k b) = some (.int k (a.tmod b)) := by simp [cbin, Go.binOp, Op.intDiv, semPure, pure, h]
theorem bin_eql : cbin .eql (.int k a) (.int k b) = some (.bool (decide (a = b))) := by simp [cbin, Go.binOp, Op.intCmp, semPure, pure]; rfl
theorem bin_neq : cbin .neq (.int k a) (.int k b) = some (.bool (decide (a ≠ b))) := by simp [cbin, Go.binOp, Op.intCmp, semPure, pure]; rfl
theorem bin_lss : cbin .lss (.int k a) (.int k b) = some (.bool (decide (a < b))) := by simp [cbin, Go.binOp, Op.intCmp, semPure, pure]
theorem bin_leq : cbin .leq (.int k a) (.int k b) = some (.bool (decide (a ≤ b))) := by simp [cbin, Go.binOp, Op.intCmp, semPure, pure]
theorem bin_gtr : cbin .gtr (.int k a) (.int k b) = some (.bool (decide (b < a))) := by simp [cbin, Go.binOp, Op.intCmp, semPure, pure]
theorem bin_geq : cbin .geq (.int k a) (.int k b) = some (.bool (decide (b ≤ a))) := by simp [cbin, Go.binOp, Op.intCmp, semPure, pure]
theorem wrap64 (h1 : -9223372036854775808 ≤ a) (h2 : a ≤ 9223372036854775807) : IntKind.wrap .i64 a = a := by
  have e : IntKind.wrap .i64 a = if a % 18446744073709551616 ≥ 9223372036854775808 then a % 18446744073709551616 - 18446744073709551616 else a % 18446744073709551616 := by
    simp [IntKind.wrap, IntKind.bits, IntKind.signed]
  rw [e]
  split <;> omega
end
/-! ### code -/
section
variable {P : Program} {Q : Post} {tm : List Value} {H : CH}
/-- What comes behind an operation. -/
def goon (P : Program) (K : List Value → CH → Prop) (l : List CE) (d : Option Tmp) (tm : List Value) (v : Value) (H : CH) : Prop := wpops P K l (tput tm d v) H
theorem goon_some (K : List Value → CH → Prop) (l : List CE) (t : Tmp) (v : Value) : goon P K l (some t) tm v H = wpops P K l (tm.set t v) H := rfl
theorem goon_none (K : List Value → CH → Prop) (l : List CE) (v : Value) : goon P K l none tm v H = wpops P K l tm H := rfl
theorem wp_nil (K : List Value → CH → Prop) : wpops P K [] tm H = K tm H := rfl
theorem wp_cons (K : List Value → CH → Prop) (i : Nat) (ci : CI) (d : Option Tmp) (l : List CE) :
    wpops P K (⟨i, ci, d, none, []⟩ :: l) tm H = cstep P tm H (goon P K l d tm) ci := by
  have : (fun v H1 => (∀ x ∈ ([] : List Operand), stable H H1 (cev tm x)) ∧ wpops P K l (tput tm d v) H1) = goon P K l d tm := by funext v H1; simp [goon]
  simp only [wpops, wantC, if_true, this]
/-- An operation under a guard. -/
def gated (P : Program) (K : List Value → CH → Prop) (ci : CI) (d : Option Tmp) (b : Bool) (l : List CE) (tm : List Value) (H : CH) (v : Value) : Prop :=
  match v with
  | .bool c => match c == b with
    | true => cstep P tm H (goon P K l d tm) ci
    | false => goon P K l d tm undef H
  | _ => goon P K l d tm undef H
theorem wp_guard (K : List Value → CH → Prop) (t : Tmp) (i : Nat) (ci : CI) (d : Option Tmp) (b : Bool) (l : List CE) :
    wpops P K (⟨i, ci, d, some (some t, b), []⟩ :: l) tm H = gated P K ci d b l tm H (tm.getD t undef) := by
  have this : (fun v H1 => (∀ x ∈ ([] : List Operand), stable H H1 (cev tm x)) ∧ wpops P K l (tput tm d v) H1) = goon P K l d tm := by funext v H1; simp [goon]
  have hw : wantC tm (some (some t, b)) = match tm.getD t undef with | .bool c => c == b | _ => false := by
    simp only [wantC, Option.bind_some, List.getD_eq_getElem?_getD]
    cases e : tm[t]? with
    | none => rfl
    | some v => cases v <;> rfl
  have h1 : wpops P K (⟨i, ci, d, some (some t, b), []⟩ :: l) tm H = match wantC tm (some (some t, b)) with | true => cstep P tm H (goon P K l d tm) ci | false => goon P K l d tm undef H := by
    simp only [wpops, this]
    cases wantC tm (some (some t, b)) <;> simp [goon]
  rw [h1, hw]
  generalize tm.getD t undef = v
  cases v <;> rfl
theorem gate_tt (K : List Value → CH → Prop) (ci : CI) (d : Option Tmp) (l : List CE) : gated P K ci d true l tm H (.bool true) = cstep P tm H (goon P K l d tm) ci := rfl
theorem gate_tf (K : List Value → CH → Prop) (ci : CI) (d : Option Tmp) (l : List CE) : gated P K ci d true l tm H (.bool false) = goon P K l d tm undef H := rfl
theorem gate_ft (K : List Value → CH → Prop) (ci : CI) (d : Option Tmp) (l : List CE) : gated P K ci d false l tm H (.bool true) = goon P K l d tm undef H := rfl
theorem gate_ff (K : List Value → CH → Prop) (ci : CI) (d : Option Tmp) (l : List CE) : gated P K ci d false l tm H (.bool false) = cstep P tm H (goon P K l d tm) ci := rfl
theorem cev_tmp (t : Tmp) : cev tm (.tmp t) = tm.getD t undef := rfl
theorem cev_func (f : FuncId) : cev tm (.func f) = .func (.func f) #[] #[] := rfl
theorem cev_global (g : Nat) : cev tm (.global g) = .pointer (some ⟨g, 0, none⟩) := rfl
/-- What comes behind a piece of code. -/
def seqK (P : Program) (y : CCode) (Q : Post) (e : Ex) (tm : List Value) (H : CH) : Prop := match e with | none => CW P y Q tm H | some j => Q (some j) tm H
theorem seqK_none (y : CCode) : seqK P y Q none tm H = CW P y Q tm H := rfl
theorem seqK_some (y : CCode) (j : Jump) : seqK P y Q (some j) tm H = Q (some j) tm H := rfl
theorem vc_seq {x y : CCode} (h : CW P x (seqK P y Q) tm H) : CW P (.seq x y) Q tm H := cw_seq (h.mono fun e t h q => by cases e <;> exact q)
theorem vc_reg {l : List CE} (h : wpops P (Q none) l tm H) : CW P (.reg l) Q tm H := cw_reg h
/-- What a function hands back. -/
def retK (rs : List CRes) (Q : Value → CH → Prop) (e : Ex) (tm : List Value) (H : CH) : Prop := (e = none ∨ e = some .ret) ∧ ∃ v, cres tm H rs = some v ∧ Q v H
theorem ret_one (i : Tmp) (Q : Value → CH → Prop) : retK [.tmp i] Q (some .ret) tm H = Q (tm.getD i undef) H := by
  simp [retK, show cres tm H [.tmp i] = some (tm.getD i undef) from rfl]
theorem ret_two (i j : Tmp) (Q : Value → CH → Prop) : retK [.tmp i, .tmp j] Q (some .ret) tm H = Q (.tuple #[tm.getD i undef, tm.getD j undef]) H := by
  simp [retK, show cres tm H [.tmp i, .tmp j] = some (.tuple #[tm.getD i undef, tm.getD j undef]) from rfl]
theorem ret_three (i j k : Tmp) (Q : Value → CH → Prop) : retK [.tmp i, .tmp j, .tmp k] Q (some .ret) tm H = Q (.tuple #[tm.getD i undef, tm.getD j undef, tm.getD k undef]) H := by
  simp [retK, show cres tm H [.tmp i, .tmp j, .tmp k] = some (.tuple #[tm.getD i undef, tm.getD j undef, tm.getD k undef]) from rfl]
theorem ret_nil (Q : Value → CH → Prop) : retK [] Q (some .ret) tm H = Q (.tuple #[]) H := by
  simp [retK, show cres tm H [] = some (.tuple #[]) from rfl]
theorem end_one (i : Tmp) (Q : Value → CH → Prop) : retK [.tmp i] Q none tm H = Q (tm.getD i undef) H := by
  simp [retK, show cres tm H [.tmp i] = some (tm.getD i undef) from rfl]
theorem end_nil (Q : Value → CH → Prop) : retK [] Q none tm H = Q (.tuple #[]) H := by
  simp [retK, show cres tm H [] = some (.tuple #[]) from rfl]
theorem out_exit (id : Nat) : outOf id Q (some (.exit id)) tm H = Q none tm H := by simp [outOf]
theorem out_other {id i : Nat} (h : i ≠ id) : outOf id Q (some (.exit i)) tm H = Q (some (.exit i)) tm H := by simp [outOf, h]
theorem out_none (id : Nat) : outOf id Q none tm H = Q none tm H := rfl
theorem out_ret (id : Nat) : outOf id Q (some .ret) tm H = Q (some .ret) tm H := rfl
theorem out_goto (id l : Nat) : outOf id Q (some (.goto l)) tm H = Q (some (.goto l)) tm H := rfl
theorem vc_if {x : Operand} {c d : CCode} {t : Bool} (ht : cev tm x = .bool t) (h1 : t = true → CW P c Q tm H) (h2 : t = false → CW P d Q tm H) : CW P (.cond x c d) Q tm H := by
  refine cw_cond ht ?_
  cases t
  · exact h2 rfl
  · exact h1 rfl
theorem vc_call {f : FuncId} {fn : Func} {cf : CFun} {args : List Value} {R : Value → CH → Prop} (hf : P.funcs[f]? = some fn) (hname : (fn.name == "runtime.NumGoroutine") = false)
    (hc : compFun P fn = some cf) (h : CW P cf.body (retK cf.results R) (args ++ List.replicate (cf.ntmps - args.length) undef) H) : CCall P f args H R :=
  ccall_of_body hf hname hc h
end
end Go.Cn
