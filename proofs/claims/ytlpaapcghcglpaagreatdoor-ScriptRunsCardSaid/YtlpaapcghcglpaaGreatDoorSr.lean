/- "ammonite/ammonitelaw25.ScriptRuns" returns true, in every world in which the program may call it. Conditions: those of the given row, no other. -/
import Derived.Test.YtlpaapcghcglpaaGreatDoorSrr
import Derived.Test.YtlpaapcghcglpaaGreatDoorCards
import Derived.Test.YtlpaapcghcglpaaGreatDoorTie
import Derived.ProofKit
import Derived.OpenShut
import Derived.LaidMore
import Derived.Lay
import Derived.SevenTiedAt
namespace Go.Proofs.YtlpaapcghcglpaaGreatDoor.scriptRuns
open Go.ChangeShapes Go.WideShapes Go.ChangeAt Go.RowKit
theorem own : ownKnob Tryz.prog.godebug = none := by kernel_rfl
theorem walk (w : World) (hw : Tryz.prog.globals.size ≤ w.heap.size) : Calls Tryz.prog 5 #[] w fun e w' => e = .returned (.bool true) ∧ Cn.Same w w' :=
  Cn.calls_of_bare (args := []) (v := .bool true) rfl rfl Sr.runs hw
set_option maxRecDepth 100000 in
theorem lifted (os : Os) (started : os.Started) (H : Type) (enc : TypeId × Value → H) :
    ReturnsInHanded {} Tryz.checked os 5 .any (fun w args => (Rows.scriptRunsSpec.pre enc Tryz.prog Tryz.f5 Rows.scriptRunsRow.domain false w args ∧ laidMetH Tryz.prog Rows.scriptRunsRow.laid w) ∧ sizedMet enc Tryz.prog Tryz.f5 (OpenSpec.ofChange Rows.scriptRunsSpec) false w args)
      (Rows.scriptRunsSpec.post enc Tryz.prog Tryz.f5 false true false false) := by
  refine Cn.handed_of (C := Tryz.checked) (X := fun w _ => laidMetH Tryz.prog Rows.scriptRunsRow.laid w) (fun _ _ _ hh h => h.of_heap hh) (of_decide_eq_true (by kernel_rfl)) own started (by kernel_rfl) Tryz.func5
    (ChangeSpec.witness_shaped (enc := enc) (C := Tryz.checked) (os := os) (X := fun w _ => laidMetH Tryz.prog Rows.scriptRunsRow.laid w) false (World.laidAll Tryz.prog os Rows.scriptRunsRow.laid) #[] 8 (World.laidAll_os _ _ _)
      (World.shaped_of_ZipB (by kernel_rfl) (by kernel_rfl)) (by kernel_rfl) (by kernel_rfl) (by kernel_rfl)
      (by rw [MakeChecks.laidMetH_plain _ _ _ (by kernel_rfl)]; exact laidMet_laidAll _ (by kernel_rfl) (by kernel_rfl))) ?_
  intro W base args ds gs before hsz hval0 hW hc _ hL
  have hW' := hW
  obtain ⟨p, q, hA0, hV, rfl, _, _⟩ := hW
  have hA : DataW.TrodAll enc Tryz.prog W 0 (fun _ => true) true Tryz.f5.params.toList args.toList ds p := hA0
  rw [Tryz.params5] at hA
  obtain ⟨rfl, rfl, rfl⟩ := trodAll_none hA
  obtain ⟨rfl, rfl⟩ := trodVars_none hV
  simp only [List.append_nil] at hW'
  refine (walk W hsz).mono fun e W' ⟨he, hg⟩ => ?_
  subst he
  exact ⟨_, rfl, Cn.post_same (pa := []) (pv := []) hW' (fun _ _ _ => trodAll_mk1 (shut_bool Tryz.underlying4 _)) (fun sp _ => trodAll_mk0) (fun _ _ => rfl) hg⟩
theorem fact_in : (Rows.scriptRunsRow.inPlace == Tryz.pinned.checked.prog.inPlace 5) = true := by kernel_rfl
theorem fact_un : (Rows.scriptRunsRow.unfollowed == Tryz.pinned.checked.prog.unfollowed 5) = true := by kernel_rfl
theorem fact_rec : (Rows.scriptRunsRow.recurses == Tryz.pinned.checked.prog.recurses 5) = true := by kernel_rfl
theorem fact_named : (Rows.scriptRunsRow.named == Tryz.pinned.checked.prog.varsNamed 5) = true := by kernel_rfl
theorem facts : joinedFacts Tryz.pinned.checked.prog 5 Tryz.f5 Rows.scriptRunsSpec Rows.scriptRunsRow = true := by
  unfold joinedFacts
  rw [fact_in, fact_un, fact_rec, fact_named]
  kernel_rfl
theorem named_fn : Tryz.pinned.checked.prog.funcNamed Rows.scriptRunsRow.func = some 5 := by kernel_rfl
theorem inst_fn : Tryz.f5.isInstance Tryz.pinned.checked.prog Rows.scriptRunsRow.origin Rows.scriptRunsRow.targs := of_decide_eq_true (by kernel_rfl)
theorem wrap_fn : Tryz.f5.isWrapper Tryz.pinned.checked.prog Rows.scriptRunsRow.wrapper Rows.scriptRunsRow.mainSum := by
  unfold Func.isWrapper
  first | (rw [if_pos (by decide +kernel)]; kernel_rfl) | (rw [if_neg (by decide +kernel)]; exact ⟨rfl, rfl⟩)
theorem holds : Rows.ScriptRunsSaid :=
  OpenClaim.holds_of_wide 5 Tryz.f5 rfl rfl rfl rfl rfl rfl rfl ⟨rfl, rfl, rfl, rfl, rfl⟩ rfl rfl rfl rfl rfl named_fn Tryz.func5 facts inst_fn wrap_fn
    (fun os started H enc _ => lifted os started H enc)
theorem card_holds : Rows.ScriptRunsCardSaid :=
  Claim7.holds_tied_plain_at .later [] [.data, .pinned] true (true, "d474db1321f24a0833f4c11a0a61df24e24810c7854dad58bbefcd848b284be8") true holds (fun _ h => by cases h) (by kernel_rfl) (fun _ h => by cases h) scriptRuns_row_tie rfl ⟨rfl, rfl⟩ (by kernel_rfl) rfl
    (fun f fn hf hfn => by
      obtain rfl : f = 5 := Option.some.inj ((show Tryz.prog.funcNamed "ammonite/ammonitelaw25.ScriptRuns" = some 5 by kernel_rfl).symm.trans hf) |>.symm
      obtain rfl : fn = Tryz.f5 := (Option.some.inj (Tryz.func5.symm.trans hfn)).symm
      exact ⟨by kernel_rfl, fun j t ht => by
        rw [Tryz.params5] at ht
        exact absurd ht (by simp)⟩)
    (by kernel_rfl)
end Go.Proofs.YtlpaapcghcglpaaGreatDoor.scriptRuns
