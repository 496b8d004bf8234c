/- "ammonite/ammonitelaw23.PeerRuns" returns true, in every world in which the program may call it. Conditions: those of the given row, no other. -/
import Derived.Test.YtpfomnfaemidpaaGreatDoorPe0
import Derived.Test.YtpfomnfaemidpaaGreatDoorLaid
import Derived.Test.YtpfomnfaemidpaaGreatDoorCards
import Derived.Test.YtpfomnfaemidpaaGreatDoorTie
import Derived.ProofKit
import Derived.OpenShut
import Derived.LaidMore
import Derived.Lay
import Derived.SevenTiedAt
namespace Go.Proofs.YtpfomnfaemidpaaGreatDoor
open Go Go.Cn Go.Proofs
set_option maxRecDepth 100000
theorem s33 : EntOk Tryz.prog 33 (.sum (plainSum repRes)) :=
  repSum_ok (ent_of Tryz.func33 (by kernel_rfl) (by kernel_rfl)) (fun s c w h1 h2 h3 h4 => Tryz.strings_Repeat_main s c w h1 h2 h3 h4) (fun s w => Tryz.strings_Repeat_zero s w) (fun s w => Tryz.strings_Repeat_one s w) (fun s c w h1 h2 h3 => Tryz.strings_Repeat_empty s c w h1 h2 h3)
theorem s96 : EntOk Tryz.prog 96 (.sum joinSum) :=
  joinSum_ok (ent_of Tryz.func96 (by kernel_rfl) (by kernel_rfl)) (fun a c sep w => Tryz.strings_Join_none a c sep w) (fun bk o c xs sep w h1 h2 h3 h4 h5 => Tryz.strings_Join bk o c xs sep w h1 h2 h3 h4 h5)
theorem x240 : Lays.n240 Tryz.prog Tryz.lays156_ren := { Tryz.lays156 with }
theorem s105 : EntOk Tryz.prog 105 (.sum (copySum 136)) :=
  copySum_ok (ent_of Tryz.func105 (by kernel_rfl) (by kernel_rfl)) (fun b w h => Any.Builder_copyCheck_used x240 Tryz.Builder_Extra_156.toX72 b w h) (fun b w h1 h2 h3 => Any.Builder_copyCheck_fresh x240 Tryz.Builder_Extra_156.toX72 b w h1 h2 h3)
theorem s119 : EntOk Tryz.prog 119 (.sum (plainSum cntRes)) :=
  cntSum_ok (ent_of Tryz.func119 (by kernel_rfl) (by kernel_rfl)) (fun s c w => Tryz.strings_Count_one s c w)
theorem s134 : EntOk Tryz.prog 134 (.sum cloneSum) :=
  cloneSum_ok (ent_of Tryz.func134 (by kernel_rfl) (by kernel_rfl)) (fun w => AnyW.maps_Clone_nil Tryz.lClone w) (fun b es clock w h => AnyW.maps_Clone Tryz.lClone b es clock w h)
theorem s18 : EntOk Tryz.prog 18 (.sum (tabSum [(in0, .string ⟨out0.toArray⟩), (in2, .string ⟨out2.toArray⟩), (in4, .string ⟨out4.toArray⟩)])) :=
  tabSum_ok (tab_cons rfl tab0 (tab_cons rfl tab2 (tab_cons rfl tab4 tab_nil)))
theorem s39 : EntOk Tryz.prog 39 (.sum (tabSum [(in1, .bool true), (in3, .bool true), (in5, .bool true)])) :=
  tabSum_ok (tab_cons rfl tab1 (tab_cons rfl tab3 (tab_cons rfl tab5 tab_nil)))
noncomputable def envPL : List (Nat × FEnt) := [(3, .fn c3), (4, .fn c4), (5, .fn c5), (6, .fn c6), (7, .fn c7), (8, .fn c8), (9, .fn c9), (10, .fn c10), (11, .fn c11), (12, .fn c12), (13, .fn c13), (14, .fn c14), (15, .fn c15), (16, .fn c16), (17, .fn c17), (19, .fn c19), (20, .fn c20), (21, .fn c21), (22, .fn c22), (23, .fn c23), (24, .fn c24), (25, .fn c25), (26, .fn c26), (27, .fn c27), (28, .fn c28), (29, .fn c29), (30, .fn c30), (31, .fn c31), (32, .fn c32), (34, .fn c34), (35, .fn c35), (36, .fn c36), (37, .fn c37), (38, .fn c38), (40, .fn c40), (41, .fn c41), (42, .fn c42), (43, .fn c43), (44, .fn c44), (45, .fn c45), (46, .fn c46), (47, .fn c47), (48, .fn c48), (49, .fn c49), (50, .fn c50), (51, .fn c51), (52, .fn c52), (53, .fn c53), (54, .fn c54), (55, .fn c55), (56, .fn c56), (57, .fn c57), (58, .fn c58), (59, .fn c59), (60, .fn c60), (61, .fn c61), (62, .fn c62), (63, .fn c63), (64, .fn c64), (65, .fn c65), (67, .fn c67), (69, .fn c69), (70, .fn c70), (72, .fn c72), (74, .fn c74), (75, .fn c75), (76, .fn c76), (77, .fn c77), (78, .fn c78), (83, .fn c83), (84, .fn c84), (85, .fn c85), (86, .fn c86), (87, .fn c87), (88, .fn c88), (89, .fn c89), (92, .fn c92), (93, .fn c93), (94, .fn c94), (95, .fn c95), (97, .fn c97), (98, .fn c98), (99, .fn c99), (101, .fn c101), (102, .fn c102), (104, .fn c104), (107, .fn c107), (112, .fn c112), (113, .fn c113), (114, .fn c114), (115, .fn c115), (116, .fn c116), (117, .fn c117), (120, .fn c120), (121, .fn c121), (128, .fn c128), (129, .fn c129), (130, .fn c130), (131, .fn c131), (132, .fn c132), (133, .fn c133), (135, .fn c135), (136, .fn c136), (137, .fn c137), (138, .fn c138), (139, .fn c139), (145, .fn c145), (146, .fn c146), (147, .fn c147), (157, .fn c157), (158, .fn c158), (159, .fn c159), (161, .fn c161), (165, .fn c165), (166, .fn c166), (167, .fn c167), (177, .fn c177), (33, .sum (plainSum repRes)), (96, .sum joinSum), (105, .sum (copySum 136)), (119, .sum (plainSum cntRes)), (134, .sum cloneSum), (18, .sum (tabSum [(in0, .string ⟨out0.toArray⟩), (in2, .string ⟨out2.toArray⟩), (in4, .string ⟨out4.toArray⟩)])), (39, .sum (tabSum [(in1, .bool true), (in3, .bool true), (in5, .bool true)]))]
theorem envP_ok : EnvOk Tryz.prog (mkE envPL) :=
  env_mk (.cons (ent_fn Tryz.func3 (by kernel_rfl) e3) (
  .cons (ent_fn Tryz.func4 (by kernel_rfl) e4) (
  .cons (ent_fn Tryz.func5 (by kernel_rfl) e5) (
  .cons (ent_fn Tryz.func6 (by kernel_rfl) e6) (
  .cons (ent_fn Tryz.func7 (by kernel_rfl) e7) (
  .cons (ent_fn Tryz.func8 (by kernel_rfl) e8) (
  .cons (ent_fn Tryz.func9 (by kernel_rfl) e9) (
  .cons (ent_fn Tryz.func10 (by kernel_rfl) e10) (
  .cons (ent_fn Tryz.func11 (by kernel_rfl) e11) (
  .cons (ent_fn Tryz.func12 (by kernel_rfl) e12) (
  .cons (ent_fn Tryz.func13 (by kernel_rfl) e13) (
  .cons (ent_fn Tryz.func14 (by kernel_rfl) e14) (
  .cons (ent_fn Tryz.func15 (by kernel_rfl) e15) (
  .cons (ent_fn Tryz.func16 (by kernel_rfl) e16) (
  .cons (ent_fn Tryz.func17 (by kernel_rfl) e17) (
  .cons (ent_fn Tryz.func19 (by kernel_rfl) e19) (
  .cons (ent_fn Tryz.func20 (by kernel_rfl) e20) (
  .cons (ent_fn Tryz.func21 (by kernel_rfl) e21) (
  .cons (ent_fn Tryz.func22 (by kernel_rfl) e22) (
  .cons (ent_fn Tryz.func23 (by kernel_rfl) e23) (
  .cons (ent_fn Tryz.func24 (by kernel_rfl) e24) (
  .cons (ent_fn Tryz.func25 (by kernel_rfl) e25) (
  .cons (ent_fn Tryz.func26 (by kernel_rfl) e26) (
  .cons (ent_fn Tryz.func27 (by kernel_rfl) e27) (
  .cons (ent_fn Tryz.func28 (by kernel_rfl) e28) (
  .cons (ent_fn Tryz.func29 (by kernel_rfl) e29) (
  .cons (ent_fn Tryz.func30 (by kernel_rfl) e30) (
  .cons (ent_fn Tryz.func31 (by kernel_rfl) e31) (
  .cons (ent_fn Tryz.func32 (by kernel_rfl) e32) (
  .cons (ent_fn Tryz.func34 (by kernel_rfl) e34) (
  .cons (ent_fn Tryz.func35 (by kernel_rfl) e35) (
  .cons (ent_fn Tryz.func36 (by kernel_rfl) e36) (
  .cons (ent_fn Tryz.func37 (by kernel_rfl) e37) (
  .cons (ent_fn Tryz.func38 (by kernel_rfl) e38) (
  .cons (ent_fn Tryz.func40 (by kernel_rfl) e40) (
  .cons (ent_fn Tryz.func41 (by kernel_rfl) e41) (
  .cons (ent_fn Tryz.func42 (by kernel_rfl) e42) (
  .cons (ent_fn Tryz.func43 (by kernel_rfl) e43) (
  .cons (ent_fn Tryz.func44 (by kernel_rfl) e44) (
  .cons (ent_fn Tryz.func45 (by kernel_rfl) e45) (
  .cons (ent_fn Tryz.func46 (by kernel_rfl) e46) (
  .cons (ent_fn Tryz.func47 (by kernel_rfl) e47) (
  .cons (ent_fn Tryz.func48 (by kernel_rfl) e48) (
  .cons (ent_fn Tryz.func49 (by kernel_rfl) e49) (
  .cons (ent_fn Tryz.func50 (by kernel_rfl) e50) (
  .cons (ent_fn Tryz.func51 (by kernel_rfl) e51) (
  .cons (ent_fn Tryz.func52 (by kernel_rfl) e52) (
  .cons (ent_fn Tryz.func53 (by kernel_rfl) e53) (
  .cons (ent_fn Tryz.func54 (by kernel_rfl) e54) (
  .cons (ent_fn Tryz.func55 (by kernel_rfl) e55) (
  .cons (ent_fn Tryz.func56 (by kernel_rfl) e56) (
  .cons (ent_fn Tryz.func57 (by kernel_rfl) e57) (
  .cons (ent_fn Tryz.func58 (by kernel_rfl) e58) (
  .cons (ent_fn Tryz.func59 (by kernel_rfl) e59) (
  .cons (ent_fn Tryz.func60 (by kernel_rfl) e60) (
  .cons (ent_fn Tryz.func61 (by kernel_rfl) e61) (
  .cons (ent_fn Tryz.func62 (by kernel_rfl) e62) (
  .cons (ent_fn Tryz.func63 (by kernel_rfl) e63) (
  .cons (ent_fn Tryz.func64 (by kernel_rfl) e64) (
  .cons (ent_fn Tryz.func65 (by kernel_rfl) e65) (
  .cons (ent_fn Tryz.func67 (by kernel_rfl) e67) (
  .cons (ent_fn Tryz.func69 (by kernel_rfl) e69) (
  .cons (ent_fn Tryz.func70 (by kernel_rfl) e70) (
  .cons (ent_fn Tryz.func72 (by kernel_rfl) e72) (
  .cons (ent_fn Tryz.func74 (by kernel_rfl) e74) (
  .cons (ent_fn Tryz.func75 (by kernel_rfl) e75) (
  .cons (ent_fn Tryz.func76 (by kernel_rfl) e76) (
  .cons (ent_fn Tryz.func77 (by kernel_rfl) e77) (
  .cons (ent_fn Tryz.func78 (by kernel_rfl) e78) (
  .cons (ent_fn Tryz.func83 (by kernel_rfl) e83) (
  .cons (ent_fn Tryz.func84 (by kernel_rfl) e84) (
  .cons (ent_fn Tryz.func85 (by kernel_rfl) e85) (
  .cons (ent_fn Tryz.func86 (by kernel_rfl) e86) (
  .cons (ent_fn Tryz.func87 (by kernel_rfl) e87) (
  .cons (ent_fn Tryz.func88 (by kernel_rfl) e88) (
  .cons (ent_fn Tryz.func89 (by kernel_rfl) e89) (
  .cons (ent_fn Tryz.func92 (by kernel_rfl) e92) (
  .cons (ent_fn Tryz.func93 (by kernel_rfl) e93) (
  .cons (ent_fn Tryz.func94 (by kernel_rfl) e94) (
  .cons (ent_fn Tryz.func95 (by kernel_rfl) e95) (
  .cons (ent_fn Tryz.func97 (by kernel_rfl) e97) (
  .cons (ent_fn Tryz.func98 (by kernel_rfl) e98) (
  .cons (ent_fn Tryz.func99 (by kernel_rfl) e99) (
  .cons (ent_fn Tryz.func101 (by kernel_rfl) e101) (
  .cons (ent_fn Tryz.func102 (by kernel_rfl) e102) (
  .cons (ent_fn Tryz.func104 (by kernel_rfl) e104) (
  .cons (ent_fn Tryz.func107 (by kernel_rfl) e107) (
  .cons (ent_fn Tryz.func112 (by kernel_rfl) e112) (
  .cons (ent_fn Tryz.func113 (by kernel_rfl) e113) (
  .cons (ent_fn Tryz.func114 (by kernel_rfl) e114) (
  .cons (ent_fn Tryz.func115 (by kernel_rfl) e115) (
  .cons (ent_fn Tryz.func116 (by kernel_rfl) e116) (
  .cons (ent_fn Tryz.func117 (by kernel_rfl) e117) (
  .cons (ent_fn Tryz.func120 (by kernel_rfl) e120) (
  .cons (ent_fn Tryz.func121 (by kernel_rfl) e121) (
  .cons (ent_fn Tryz.func128 (by kernel_rfl) e128) (
  .cons (ent_fn Tryz.func129 (by kernel_rfl) e129) (
  .cons (ent_fn Tryz.func130 (by kernel_rfl) e130) (
  .cons (ent_fn Tryz.func131 (by kernel_rfl) e131) (
  .cons (ent_fn Tryz.func132 (by kernel_rfl) e132) (
  .cons (ent_fn Tryz.func133 (by kernel_rfl) e133) (
  .cons (ent_fn Tryz.func135 (by kernel_rfl) e135) (
  .cons (ent_fn Tryz.func136 (by kernel_rfl) e136) (
  .cons (ent_fn Tryz.func137 (by kernel_rfl) e137) (
  .cons (ent_fn Tryz.func138 (by kernel_rfl) e138) (
  .cons (ent_fn Tryz.func139 (by kernel_rfl) e139) (
  .cons (ent_fn Tryz.func145 (by kernel_rfl) e145) (
  .cons (ent_fn Tryz.func146 (by kernel_rfl) e146) (
  .cons (ent_fn Tryz.func147 (by kernel_rfl) e147) (
  .cons (ent_fn Tryz.func157 (by kernel_rfl) e157) (
  .cons (ent_fn Tryz.func158 (by kernel_rfl) e158) (
  .cons (ent_fn Tryz.func159 (by kernel_rfl) e159) (
  .cons (ent_fn Tryz.func161 (by kernel_rfl) e161) (
  .cons (ent_fn Tryz.func165 (by kernel_rfl) e165) (
  .cons (ent_fn Tryz.func166 (by kernel_rfl) e166) (
  .cons (ent_fn Tryz.func167 (by kernel_rfl) e167) (
  .cons (ent_fn Tryz.func177 (by kernel_rfl) e177) (
  .cons s33 (
  .cons s96 (
  .cons s105 (
  .cons s119 (
  .cons s134 (
  .cons s18 (
  .cons s39 .nil))))))))))))))))))))))))))))))))))))))))))))))))))))))))))))))))))))))))))))))))))))))))))))))))))))))))))))))))))))))))))))
theorem runs : CCall Tryz.prog 3 [] (bare Tryz.prog.globals.size) (fun u _ => u = .bool true) :=
  run_true envP_ok (n := 100000) (show fcall (mkE envPL) (frun (mkE envPL) 100000) 3 [] (bare Tryz.prog.globals.size) (fun v _ => isTrue v) = true by kernel_rfl)
end Go.Proofs.YtpfomnfaemidpaaGreatDoor
namespace Go.Proofs.YtpfomnfaemidpaaGreatDoor.peerRuns
open Go.ChangeShapes Go.WideShapes Go.ChangeAt Go.RowKit
theorem own : ownKnob Tryz.prog.godebug = none := by kernel_rfl
theorem walk (w : World) (hw : Tryz.prog.globals.size ≤ w.heap.size) : Calls Tryz.prog 3 #[] w fun e w' => e = .returned (.bool true) ∧ Cn.Same w w' :=
  Cn.calls_of_bare (args := []) (v := .bool true) rfl rfl runs hw
set_option maxRecDepth 100000 in
theorem lifted (os : Os) (started : os.Started) (H : Type) (enc : TypeId × Value → H) :
    ReturnsInHanded {} Tryz.checked os 3 .any (fun w args => (Rows.peerRunsSpec.pre enc Tryz.prog Tryz.f3 Rows.peerRunsRow.domain false w args ∧ laidMetH Tryz.prog Rows.peerRunsRow.laid w) ∧ sizedMet enc Tryz.prog Tryz.f3 (OpenSpec.ofChange Rows.peerRunsSpec) false w args)
      (Rows.peerRunsSpec.post enc Tryz.prog Tryz.f3 false true false false) := by
  refine Cn.handed_of (C := Tryz.checked) (X := fun w _ => laidMetH Tryz.prog Rows.peerRunsRow.laid w) (fun _ _ _ hh h => h.of_heap hh) (of_decide_eq_true (by kernel_rfl)) own started (by kernel_rfl) Tryz.func3
    (ChangeSpec.witness_shaped (enc := enc) (C := Tryz.checked) (os := os) (X := fun w _ => laidMetH Tryz.prog Rows.peerRunsRow.laid w) false (World.laidAll Tryz.prog os Rows.peerRunsRow.laid) #[] 8 (World.laidAll_os _ _ _)
      (World.shaped_of_ZipB (by kernel_rfl) (by kernel_rfl)) (by kernel_rfl) (by kernel_rfl) (by kernel_rfl)
      (by rw [MakeChecks.laidMetH_plain _ _ _ (by kernel_rfl)]; exact laidMet_laidAll _ (by kernel_rfl) (by kernel_rfl))) ?_
  intro W base args ds gs before hsz hval0 hW hc _ hL
  have hW' := hW
  obtain ⟨p, q, hA0, hV, rfl, _, _⟩ := hW
  have hA : DataW.TrodAll enc Tryz.prog W 0 (fun _ => true) true Tryz.f3.params.toList args.toList ds p := hA0
  rw [Tryz.params3] at hA
  obtain ⟨rfl, rfl, rfl⟩ := trodAll_none hA
  obtain ⟨rfl, rfl⟩ := trodVars_none hV
  simp only [List.append_nil] at hW'
  refine (walk W hsz).mono fun e W' ⟨he, hg⟩ => ?_
  subst he
  exact ⟨_, rfl, Cn.post_same (pa := []) (pv := []) hW' (fun _ _ _ => trodAll_mk1 (shut_bool Tryz.underlying4 _)) (fun sp _ => trodAll_mk0) (fun _ _ => rfl) hg⟩
theorem holds : Rows.PeerRunsSaid :=
  OpenClaim.holds_of_wide 3 Tryz.f3 rfl rfl rfl rfl rfl rfl rfl ⟨rfl, rfl, rfl, rfl, rfl⟩ rfl rfl rfl rfl rfl (by kernel_rfl) Tryz.func3 (by kernel_rfl)
    (of_decide_eq_true (by kernel_rfl)) (by unfold Func.isWrapper; first | (rw [if_pos (by decide +kernel)]; kernel_rfl) | (rw [if_neg (by decide +kernel)]; exact ⟨rfl, rfl⟩))
    (fun os started H enc _ => lifted os started H enc)
theorem card_holds : Rows.PeerRunsCardSaid :=
  Claim7.holds_tied_plain_at .later [] [.data, .pinned] true (true, "390c1bcd38d55d614a1b196b5214b99a3e099d0fcbd2f2fbdb05ceecc973bb56") true holds (fun _ h => by cases h) (by kernel_rfl) (fun _ h => by cases h) peerRuns_row_tie rfl ⟨rfl, rfl⟩ (by kernel_rfl) rfl
    (fun f fn hf hfn => by
      obtain rfl : f = 3 := Option.some.inj ((show Tryz.prog.funcNamed "ammonite/ammonitelaw23.PeerRuns" = some 3 by kernel_rfl).symm.trans hf) |>.symm
      obtain rfl : fn = Tryz.f3 := (Option.some.inj (Tryz.func3.symm.trans hfn)).symm
      exact ⟨by kernel_rfl, fun j t ht => by
        rw [Tryz.params3] at ht
        exact absurd ht (by simp)⟩)
    (by kernel_rfl)
end Go.Proofs.YtpfomnfaemidpaaGreatDoor.peerRuns
