/- "ammonite/ammonitelaw25.ScriptBound" returns true for every number, in every world in which the program may call it. Conditions: those of the given row, no other. -/
import Derived.Test.YtlpaapcghcglpaaGreatDoorSrr
import Derived.Test.YtlpaapcghcglpaaGreatDoorSbw
import Derived.Test.YtlpaapcghcglpaaGreatDoorCards
import Derived.Test.YtlpaapcghcglpaaGreatDoorTie
import Derived.ProofKit
import Derived.OpenShut
import Derived.LaidMore
import Derived.Lay
import Derived.SevenTiedAt
namespace Go.Proofs.YtlpaapcghcglpaaGreatDoor.scriptBound
open Go.ChangeShapes Go.WideShapes Go.ChangeAt Go.RowKit
theorem own : ownKnob Tryz.prog.godebug = none := by kernel_rfl
theorem runs (H : Cn.CH) : Cn.CCall Tryz.prog 5 [] H (fun v H1 => v = .bool true ∧ H1 = H) := Cn.ccall_forget rfl rfl Sr.runs H
theorem walk (a0 : Int) (w : World) (hw : Tryz.prog.globals.size ≤ w.heap.size) : Calls Tryz.prog 6 #[.int .i64 a0] w fun e w' => e = .returned (.bool true) ∧ Cn.Same w w' :=
  Cn.calls_of_bare (args := [.int .i64 a0]) (v := .bool true) rfl rfl ((Sb.bound_law runs a0 _).mono fun _ _ h => h.1) hw
set_option maxRecDepth 100000 in
theorem lifted (os : Os) (started : os.Started) (H : Type) (enc : TypeId × Value → H) :
    ReturnsInHanded {} Tryz.checked os 6 .any (fun w args => (Rows.scriptBoundSpec.pre enc Tryz.prog Tryz.f6 Rows.scriptBoundRow.domain false w args ∧ laidMetH Tryz.prog Rows.scriptBoundRow.laid w) ∧ sizedMet enc Tryz.prog Tryz.f6 (OpenSpec.ofChange Rows.scriptBoundSpec) false w args)
      (Rows.scriptBoundSpec.post enc Tryz.prog Tryz.f6 false true false false) := by
  refine Cn.handed_of (C := Tryz.checked) (X := fun w _ => laidMetH Tryz.prog Rows.scriptBoundRow.laid w) (fun _ _ _ hh h => h.of_heap hh) (of_decide_eq_true (by kernel_rfl)) own started (by kernel_rfl) Tryz.func6
    (ChangeSpec.witness_shaped (enc := enc) (C := Tryz.checked) (os := os) (X := fun w _ => laidMetH Tryz.prog Rows.scriptBoundRow.laid w) false (World.laidAll Tryz.prog os Rows.scriptBoundRow.laid) #[.int .i64 0] 8 (World.laidAll_os _ _ _)
      (World.shaped_of_ZipB (by kernel_rfl) (by kernel_rfl)) (by kernel_rfl) (by kernel_rfl) (by kernel_rfl)
      (by rw [MakeChecks.laidMetH_plain _ _ _ (by kernel_rfl)]; exact laidMet_laidAll _ (by kernel_rfl) (by kernel_rfl))) ?_
  intro W base args ds gs before hsz hval0 hW hc _ hL
  have hW' := hW
  obtain ⟨p, q, hA0, hV, rfl, _, _⟩ := hW
  have hA : DataW.TrodAll enc Tryz.prog W 0 (fun _ => true) true Tryz.f6.params.toList args.toList ds p := hA0
  have hval : ∀ (j : Nat) t v, Tryz.f6.params[j]? = some t → args[j]? = some v → Value.okWide Tryz.prog W .any base t v := hval0
  rw [Tryz.params6] at hA hval
  obtain ⟨v0, vs0, d0, ds0, p0, q0, hargs, rfl, rfl, h0, r0⟩ := trodAll_cons hA
  obtain ⟨rfl, rfl, rfl⟩ := trodAll_nil r0
  obtain rfl : args = #[v0] := by cases args; simp_all
  obtain ⟨rfl, rfl⟩ := trodVars_none hV
  obtain ⟨a0, rfl, rfl, rfl, w0⟩ := open_int Tryz.underlying3 (hval 0 3 v0 rfl rfl) h0
  simp only [List.append_nil] at hW'
  refine (walk a0 W hsz).mono fun e W' ⟨he, hg⟩ => ?_
  subst he
  exact ⟨_, rfl, Cn.post_same (pa := []) (pv := []) hW' (fun _ _ _ => trodAll_mk1 (shut_bool Tryz.underlying4 _)) (fun sp _ => (trodAll_cons_mk (shut_int Tryz.underlying3 w0) trodAll_mk0)) (fun _ _ => rfl) hg⟩
theorem fact_in : (Rows.scriptBoundRow.inPlace == Tryz.pinned.checked.prog.inPlace 6) = true := by kernel_rfl
theorem fact_un : (Rows.scriptBoundRow.unfollowed == Tryz.pinned.checked.prog.unfollowed 6) = true := by kernel_rfl
theorem fact_rec : (Rows.scriptBoundRow.recurses == Tryz.pinned.checked.prog.recurses 6) = true := by kernel_rfl
theorem fact_named : (Rows.scriptBoundRow.named == Tryz.pinned.checked.prog.varsNamed 6) = true := by kernel_rfl
theorem facts : joinedFacts Tryz.pinned.checked.prog 6 Tryz.f6 Rows.scriptBoundSpec Rows.scriptBoundRow = true := by
  unfold joinedFacts
  rw [fact_in, fact_un, fact_rec, fact_named]
  kernel_rfl
theorem named_fn : Tryz.pinned.checked.prog.funcNamed Rows.scriptBoundRow.func = some 6 := by kernel_rfl
theorem inst_fn : Tryz.f6.isInstance Tryz.pinned.checked.prog Rows.scriptBoundRow.origin Rows.scriptBoundRow.targs := of_decide_eq_true (by kernel_rfl)
theorem wrap_fn : Tryz.f6.isWrapper Tryz.pinned.checked.prog Rows.scriptBoundRow.wrapper Rows.scriptBoundRow.mainSum := by
  unfold Func.isWrapper
  first | (rw [if_pos (by decide +kernel)]; kernel_rfl) | (rw [if_neg (by decide +kernel)]; exact ⟨rfl, rfl⟩)
theorem holds : Rows.ScriptBoundSaid :=
  OpenClaim.holds_of_wide 6 Tryz.f6 rfl rfl rfl rfl rfl rfl rfl ⟨rfl, rfl, rfl, rfl, rfl⟩ rfl rfl rfl rfl rfl named_fn Tryz.func6 facts inst_fn wrap_fn
    (fun os started H enc _ => lifted os started H enc)
theorem card_holds : Rows.ScriptBoundCardSaid :=
  Claim7.holds_tied_plain_at .later [] [.data, .pinned] true (true, "d474db1321f24a0833f4c11a0a61df24e24810c7854dad58bbefcd848b284be8") true holds (fun _ h => by cases h) (by kernel_rfl) (fun _ h => by cases h) scriptBound_row_tie rfl ⟨rfl, rfl⟩ (by kernel_rfl) rfl
    (fun f fn hf hfn => by
      obtain rfl : f = 6 := Option.some.inj ((show Tryz.prog.funcNamed "ammonite/ammonitelaw25.ScriptBound" = some 6 by kernel_rfl).symm.trans hf) |>.symm
      obtain rfl : fn = Tryz.f6 := (Option.some.inj (Tryz.func6.symm.trans hfn)).symm
      exact ⟨by kernel_rfl, fun j t ht => by
        rw [Tryz.params6] at ht
        have hm : t ∈ [3] := by simpa using Array.mem_of_getElem? ht
        have hall : ([3].all fun u => !Tryz.prog.wantsStandIn u) = true := by kernel_rfl
        exact (show Tryz.prog.wantsStandIn t = false by simpa using List.all_eq_true.1 hall t hm)⟩)
    (by kernel_rfl)
end Go.Proofs.YtlpaapcghcglpaaGreatDoor.scriptBound
