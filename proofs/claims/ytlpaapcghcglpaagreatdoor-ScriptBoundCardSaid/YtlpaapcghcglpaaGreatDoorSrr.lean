/- The run of "ammonite/ammonitelaw25.ScriptRuns", worked out by the kernel over a canonical heap. -/
import Derived.Test.YtlpaapcghcglpaaGreatDoorSre0
import Derived.Test.YtlpaapcghcglpaaGreatDoorLaid
namespace Go.Proofs.YtlpaapcghcglpaaGreatDoor.Sr
open Go Go.Cn Go.Proofs
set_option maxRecDepth 100000
theorem s77 : EntOk Tryz.prog 77 (.sum (plainSum repRes)) :=
  repSum_ok (ent_of Tryz.func77 (by kernel_rfl) (by kernel_rfl)) (fun s c w h1 h2 h3 h4 => Tryz.strings_Repeat_main s c w h1 h2 h3 h4) (fun s w => Tryz.strings_Repeat_zero s w) (fun s w => Tryz.strings_Repeat_one s w) (fun s c w h1 h2 h3 => Tryz.strings_Repeat_empty s c w h1 h2 h3)
theorem s146 : EntOk Tryz.prog 146 (.sum joinSum) :=
  joinSum_ok (ent_of Tryz.func146 (by kernel_rfl) (by kernel_rfl)) (fun a c sep w => Tryz.strings_Join_none a c sep w) (fun bk o c xs sep w h1 h2 h3 h4 h5 => Tryz.strings_Join bk o c xs sep w h1 h2 h3 h4 h5)
theorem x240 : Lays.n240 Tryz.prog Tryz.lays156_ren := { Tryz.lays156 with }
theorem s187 : EntOk Tryz.prog 187 (.sum (copySum 208)) :=
  copySum_ok (ent_of Tryz.func187 (by kernel_rfl) (by kernel_rfl)) (fun b w h => Any.Builder_copyCheck_used x240 Tryz.Builder_Extra_156.toX72 b w h) (fun b w h1 h2 h3 => Any.Builder_copyCheck_fresh x240 Tryz.Builder_Extra_156.toX72 b w h1 h2 h3)
theorem s197 : EntOk Tryz.prog 197 (.sum cloneSum) :=
  cloneSum_ok (ent_of Tryz.func197 (by kernel_rfl) (by kernel_rfl)) (fun w => AnyW.maps_Clone_nil Tryz.lClone w) (fun b es clock w h => AnyW.maps_Clone Tryz.lClone b es clock w h)
theorem s241 : EntOk Tryz.prog 241 (.sum (plainSum cntRes)) :=
  cntSum_ok (ent_of Tryz.func241 (by kernel_rfl) (by kernel_rfl)) (fun s c w => Tryz.strings_Count_one s c w)
theorem s70 : EntOk Tryz.prog 70 (.sum (tabSum [(in0, .string ⟨out0.toArray⟩), (in2, .string ⟨out2.toArray⟩), (in4, .string ⟨out4.toArray⟩)])) :=
  tabSum_ok (tab_cons rfl tab0 (tab_cons rfl tab2 (tab_cons rfl tab4 tab_nil)))
theorem s79 : EntOk Tryz.prog 79 (.sum (tabSum [(in1, .bool true), (in3, .bool true), (in5, .bool true)])) :=
  tabSum_ok (tab_cons rfl tab1 (tab_cons rfl tab3 (tab_cons rfl tab5 tab_nil)))
noncomputable def envPL : List (Nat × FEnt) := [(5, .fn c5), (7, .fn c7), (8, .fn c8), (9, .fn c9), (10, .fn c10), (12, .fn c12), (13, .fn c13), (17, .fn c17), (18, .fn c18), (19, .fn c19), (20, .fn c20), (21, .fn c21), (22, .fn c22), (23, .fn c23), (24, .fn c24), (26, .fn c26), (28, .fn c28), (29, .fn c29), (30, .fn c30), (34, .fn c34), (35, .fn c35), (36, .fn c36), (37, .fn c37), (38, .fn c38), (39, .fn c39), (40, .fn c40), (41, .fn c41), (42, .fn c42), (43, .fn c43), (44, .fn c44), (45, .fn c45), (46, .fn c46), (53, .fn c53), (54, .fn c54), (55, .fn c55), (56, .fn c56), (57, .fn c57), (59, .fn c59), (60, .fn c60), (61, .fn c61), (62, .fn c62), (64, .fn c64), (65, .fn c65), (66, .fn c66), (67, .fn c67), (68, .fn c68), (69, .fn c69), (71, .fn c71), (72, .fn c72), (73, .fn c73), (74, .fn c74), (75, .fn c75), (76, .fn c76), (78, .fn c78), (80, .fn c80), (81, .fn c81), (83, .fn c83), (85, .fn c85), (86, .fn c86), (87, .fn c87), (88, .fn c88), (89, .fn c89), (90, .fn c90), (92, .fn c92), (93, .fn c93), (94, .fn c94), (95, .fn c95), (96, .fn c96), (97, .fn c97), (98, .fn c98), (104, .fn c104), (108, .fn c108), (109, .fn c109), (110, .fn c110), (111, .fn c111), (112, .fn c112), (113, .fn c113), (114, .fn c114), (115, .fn c115), (116, .fn c116), (117, .fn c117), (118, .fn c118), (119, .fn c119), (120, .fn c120), (121, .fn c121), (123, .fn c123), (125, .fn c125), (126, .fn c126), (128, .fn c128), (130, .fn c130), (131, .fn c131), (132, .fn c132), (133, .fn c133), (134, .fn c134), (135, .fn c135), (136, .fn c136), (137, .fn c137), (138, .fn c138), (139, .fn c139), (140, .fn c140), (143, .fn c143), (144, .fn c144), (145, .fn c145), (147, .fn c147), (148, .fn c148), (149, .fn c149), (150, .fn c150), (151, .fn c151), (152, .fn c152), (153, .fn c153), (154, .fn c154), (155, .fn c155), (157, .fn c157), (163, .fn c163), (164, .fn c164), (165, .fn c165), (166, .fn c166), (167, .fn c167), (169, .fn c169), (175, .fn c175), (176, .fn c176), (177, .fn c177), (181, .fn c181), (183, .fn c183), (184, .fn c184), (186, .fn c186), (192, .fn c192), (193, .fn c193), (194, .fn c194), (195, .fn c195), (196, .fn c196), (198, .fn c198), (199, .fn c199), (204, .fn c204), (205, .fn c205), (206, .fn c206), (207, .fn c207), (208, .fn c208), (209, .fn c209), (211, .fn c211), (212, .fn c212), (213, .fn c213), (218, .fn c218), (219, .fn c219), (220, .fn c220), (223, .fn c223), (224, .fn c224), (226, .fn c226), (227, .fn c227), (228, .fn c228), (234, .fn c234), (235, .fn c235), (236, .fn c236), (238, .fn c238), (239, .fn c239), (242, .fn c242), (246, .fn c246), (247, .fn c247), (254, .fn c254), (266, .fn c266), (267, .fn c267), (268, .fn c268), (269, .fn c269), (277, .fn c277), (279, .fn c279), (298, .fn c298), (77, .sum (plainSum repRes)), (146, .sum joinSum), (187, .sum (copySum 208)), (197, .sum cloneSum), (241, .sum (plainSum cntRes)), (70, .sum (tabSum [(in0, .string ⟨out0.toArray⟩), (in2, .string ⟨out2.toArray⟩), (in4, .string ⟨out4.toArray⟩)])), (79, .sum (tabSum [(in1, .bool true), (in3, .bool true), (in5, .bool true)]))]
theorem envP_ok : EnvOk Tryz.prog (mkE envPL) :=
  env_mk (.cons (ent_fn Tryz.func5 (by kernel_rfl) e5) (
  .cons (ent_fn Tryz.func7 (by kernel_rfl) e7) (
  .cons (ent_fn Tryz.func8 (by kernel_rfl) e8) (
  .cons (ent_fn Tryz.func9 (by kernel_rfl) e9) (
  .cons (ent_fn Tryz.func10 (by kernel_rfl) e10) (
  .cons (ent_fn Tryz.func12 (by kernel_rfl) e12) (
  .cons (ent_fn Tryz.func13 (by kernel_rfl) e13) (
  .cons (ent_fn Tryz.func17 (by kernel_rfl) e17) (
  .cons (ent_fn Tryz.func18 (by kernel_rfl) e18) (
  .cons (ent_fn Tryz.func19 (by kernel_rfl) e19) (
  .cons (ent_fn Tryz.func20 (by kernel_rfl) e20) (
  .cons (ent_fn Tryz.func21 (by kernel_rfl) e21) (
  .cons (ent_fn Tryz.func22 (by kernel_rfl) e22) (
  .cons (ent_fn Tryz.func23 (by kernel_rfl) e23) (
  .cons (ent_fn Tryz.func24 (by kernel_rfl) e24) (
  .cons (ent_fn Tryz.func26 (by kernel_rfl) e26) (
  .cons (ent_fn Tryz.func28 (by kernel_rfl) e28) (
  .cons (ent_fn Tryz.func29 (by kernel_rfl) e29) (
  .cons (ent_fn Tryz.func30 (by kernel_rfl) e30) (
  .cons (ent_fn Tryz.func34 (by kernel_rfl) e34) (
  .cons (ent_fn Tryz.func35 (by kernel_rfl) e35) (
  .cons (ent_fn Tryz.func36 (by kernel_rfl) e36) (
  .cons (ent_fn Tryz.func37 (by kernel_rfl) e37) (
  .cons (ent_fn Tryz.func38 (by kernel_rfl) e38) (
  .cons (ent_fn Tryz.func39 (by kernel_rfl) e39) (
  .cons (ent_fn Tryz.func40 (by kernel_rfl) e40) (
  .cons (ent_fn Tryz.func41 (by kernel_rfl) e41) (
  .cons (ent_fn Tryz.func42 (by kernel_rfl) e42) (
  .cons (ent_fn Tryz.func43 (by kernel_rfl) e43) (
  .cons (ent_fn Tryz.func44 (by kernel_rfl) e44) (
  .cons (ent_fn Tryz.func45 (by kernel_rfl) e45) (
  .cons (ent_fn Tryz.func46 (by kernel_rfl) e46) (
  .cons (ent_fn Tryz.func53 (by kernel_rfl) e53) (
  .cons (ent_fn Tryz.func54 (by kernel_rfl) e54) (
  .cons (ent_fn Tryz.func55 (by kernel_rfl) e55) (
  .cons (ent_fn Tryz.func56 (by kernel_rfl) e56) (
  .cons (ent_fn Tryz.func57 (by kernel_rfl) e57) (
  .cons (ent_fn Tryz.func59 (by kernel_rfl) e59) (
  .cons (ent_fn Tryz.func60 (by kernel_rfl) e60) (
  .cons (ent_fn Tryz.func61 (by kernel_rfl) e61) (
  .cons (ent_fn Tryz.func62 (by kernel_rfl) e62) (
  .cons (ent_fn Tryz.func64 (by kernel_rfl) e64) (
  .cons (ent_fn Tryz.func65 (by kernel_rfl) e65) (
  .cons (ent_fn Tryz.func66 (by kernel_rfl) e66) (
  .cons (ent_fn Tryz.func67 (by kernel_rfl) e67) (
  .cons (ent_fn Tryz.func68 (by kernel_rfl) e68) (
  .cons (ent_fn Tryz.func69 (by kernel_rfl) e69) (
  .cons (ent_fn Tryz.func71 (by kernel_rfl) e71) (
  .cons (ent_fn Tryz.func72 (by kernel_rfl) e72) (
  .cons (ent_fn Tryz.func73 (by kernel_rfl) e73) (
  .cons (ent_fn Tryz.func74 (by kernel_rfl) e74) (
  .cons (ent_fn Tryz.func75 (by kernel_rfl) e75) (
  .cons (ent_fn Tryz.func76 (by kernel_rfl) e76) (
  .cons (ent_fn Tryz.func78 (by kernel_rfl) e78) (
  .cons (ent_fn Tryz.func80 (by kernel_rfl) e80) (
  .cons (ent_fn Tryz.func81 (by kernel_rfl) e81) (
  .cons (ent_fn Tryz.func83 (by kernel_rfl) e83) (
  .cons (ent_fn Tryz.func85 (by kernel_rfl) e85) (
  .cons (ent_fn Tryz.func86 (by kernel_rfl) e86) (
  .cons (ent_fn Tryz.func87 (by kernel_rfl) e87) (
  .cons (ent_fn Tryz.func88 (by kernel_rfl) e88) (
  .cons (ent_fn Tryz.func89 (by kernel_rfl) e89) (
  .cons (ent_fn Tryz.func90 (by kernel_rfl) e90) (
  .cons (ent_fn Tryz.func92 (by kernel_rfl) e92) (
  .cons (ent_fn Tryz.func93 (by kernel_rfl) e93) (
  .cons (ent_fn Tryz.func94 (by kernel_rfl) e94) (
  .cons (ent_fn Tryz.func95 (by kernel_rfl) e95) (
  .cons (ent_fn Tryz.func96 (by kernel_rfl) e96) (
  .cons (ent_fn Tryz.func97 (by kernel_rfl) e97) (
  .cons (ent_fn Tryz.func98 (by kernel_rfl) e98) (
  .cons (ent_fn Tryz.func104 (by kernel_rfl) e104) (
  .cons (ent_fn Tryz.func108 (by kernel_rfl) e108) (
  .cons (ent_fn Tryz.func109 (by kernel_rfl) e109) (
  .cons (ent_fn Tryz.func110 (by kernel_rfl) e110) (
  .cons (ent_fn Tryz.func111 (by kernel_rfl) e111) (
  .cons (ent_fn Tryz.func112 (by kernel_rfl) e112) (
  .cons (ent_fn Tryz.func113 (by kernel_rfl) e113) (
  .cons (ent_fn Tryz.func114 (by kernel_rfl) e114) (
  .cons (ent_fn Tryz.func115 (by kernel_rfl) e115) (
  .cons (ent_fn Tryz.func116 (by kernel_rfl) e116) (
  .cons (ent_fn Tryz.func117 (by kernel_rfl) e117) (
  .cons (ent_fn Tryz.func118 (by kernel_rfl) e118) (
  .cons (ent_fn Tryz.func119 (by kernel_rfl) e119) (
  .cons (ent_fn Tryz.func120 (by kernel_rfl) e120) (
  .cons (ent_fn Tryz.func121 (by kernel_rfl) e121) (
  .cons (ent_fn Tryz.func123 (by kernel_rfl) e123) (
  .cons (ent_fn Tryz.func125 (by kernel_rfl) e125) (
  .cons (ent_fn Tryz.func126 (by kernel_rfl) e126) (
  .cons (ent_fn Tryz.func128 (by kernel_rfl) e128) (
  .cons (ent_fn Tryz.func130 (by kernel_rfl) e130) (
  .cons (ent_fn Tryz.func131 (by kernel_rfl) e131) (
  .cons (ent_fn Tryz.func132 (by kernel_rfl) e132) (
  .cons (ent_fn Tryz.func133 (by kernel_rfl) e133) (
  .cons (ent_fn Tryz.func134 (by kernel_rfl) e134) (
  .cons (ent_fn Tryz.func135 (by kernel_rfl) e135) (
  .cons (ent_fn Tryz.func136 (by kernel_rfl) e136) (
  .cons (ent_fn Tryz.func137 (by kernel_rfl) e137) (
  .cons (ent_fn Tryz.func138 (by kernel_rfl) e138) (
  .cons (ent_fn Tryz.func139 (by kernel_rfl) e139) (
  .cons (ent_fn Tryz.func140 (by kernel_rfl) e140) (
  .cons (ent_fn Tryz.func143 (by kernel_rfl) e143) (
  .cons (ent_fn Tryz.func144 (by kernel_rfl) e144) (
  .cons (ent_fn Tryz.func145 (by kernel_rfl) e145) (
  .cons (ent_fn Tryz.func147 (by kernel_rfl) e147) (
  .cons (ent_fn Tryz.func148 (by kernel_rfl) e148) (
  .cons (ent_fn Tryz.func149 (by kernel_rfl) e149) (
  .cons (ent_fn Tryz.func150 (by kernel_rfl) e150) (
  .cons (ent_fn Tryz.func151 (by kernel_rfl) e151) (
  .cons (ent_fn Tryz.func152 (by kernel_rfl) e152) (
  .cons (ent_fn Tryz.func153 (by kernel_rfl) e153) (
  .cons (ent_fn Tryz.func154 (by kernel_rfl) e154) (
  .cons (ent_fn Tryz.func155 (by kernel_rfl) e155) (
  .cons (ent_fn Tryz.func157 (by kernel_rfl) e157) (
  .cons (ent_fn Tryz.func163 (by kernel_rfl) e163) (
  .cons (ent_fn Tryz.func164 (by kernel_rfl) e164) (
  .cons (ent_fn Tryz.func165 (by kernel_rfl) e165) (
  .cons (ent_fn Tryz.func166 (by kernel_rfl) e166) (
  .cons (ent_fn Tryz.func167 (by kernel_rfl) e167) (
  .cons (ent_fn Tryz.func169 (by kernel_rfl) e169) (
  .cons (ent_fn Tryz.func175 (by kernel_rfl) e175) (
  .cons (ent_fn Tryz.func176 (by kernel_rfl) e176) (
  .cons (ent_fn Tryz.func177 (by kernel_rfl) e177) (
  .cons (ent_fn Tryz.func181 (by kernel_rfl) e181) (
  .cons (ent_fn Tryz.func183 (by kernel_rfl) e183) (
  .cons (ent_fn Tryz.func184 (by kernel_rfl) e184) (
  .cons (ent_fn Tryz.func186 (by kernel_rfl) e186) (
  .cons (ent_fn Tryz.func192 (by kernel_rfl) e192) (
  .cons (ent_fn Tryz.func193 (by kernel_rfl) e193) (
  .cons (ent_fn Tryz.func194 (by kernel_rfl) e194) (
  .cons (ent_fn Tryz.func195 (by kernel_rfl) e195) (
  .cons (ent_fn Tryz.func196 (by kernel_rfl) e196) (
  .cons (ent_fn Tryz.func198 (by kernel_rfl) e198) (
  .cons (ent_fn Tryz.func199 (by kernel_rfl) e199) (
  .cons (ent_fn Tryz.func204 (by kernel_rfl) e204) (
  .cons (ent_fn Tryz.func205 (by kernel_rfl) e205) (
  .cons (ent_fn Tryz.func206 (by kernel_rfl) e206) (
  .cons (ent_fn Tryz.func207 (by kernel_rfl) e207) (
  .cons (ent_fn Tryz.func208 (by kernel_rfl) e208) (
  .cons (ent_fn Tryz.func209 (by kernel_rfl) e209) (
  .cons (ent_fn Tryz.func211 (by kernel_rfl) e211) (
  .cons (ent_fn Tryz.func212 (by kernel_rfl) e212) (
  .cons (ent_fn Tryz.func213 (by kernel_rfl) e213) (
  .cons (ent_fn Tryz.func218 (by kernel_rfl) e218) (
  .cons (ent_fn Tryz.func219 (by kernel_rfl) e219) (
  .cons (ent_fn Tryz.func220 (by kernel_rfl) e220) (
  .cons (ent_fn Tryz.func223 (by kernel_rfl) e223) (
  .cons (ent_fn Tryz.func224 (by kernel_rfl) e224) (
  .cons (ent_fn Tryz.func226 (by kernel_rfl) e226) (
  .cons (ent_fn Tryz.func227 (by kernel_rfl) e227) (
  .cons (ent_fn Tryz.func228 (by kernel_rfl) e228) (
  .cons (ent_fn Tryz.func234 (by kernel_rfl) e234) (
  .cons (ent_fn Tryz.func235 (by kernel_rfl) e235) (
  .cons (ent_fn Tryz.func236 (by kernel_rfl) e236) (
  .cons (ent_fn Tryz.func238 (by kernel_rfl) e238) (
  .cons (ent_fn Tryz.func239 (by kernel_rfl) e239) (
  .cons (ent_fn Tryz.func242 (by kernel_rfl) e242) (
  .cons (ent_fn Tryz.func246 (by kernel_rfl) e246) (
  .cons (ent_fn Tryz.func247 (by kernel_rfl) e247) (
  .cons (ent_fn Tryz.func254 (by kernel_rfl) e254) (
  .cons (ent_fn Tryz.func266 (by kernel_rfl) e266) (
  .cons (ent_fn Tryz.func267 (by kernel_rfl) e267) (
  .cons (ent_fn Tryz.func268 (by kernel_rfl) e268) (
  .cons (ent_fn Tryz.func269 (by kernel_rfl) e269) (
  .cons (ent_fn Tryz.func277 (by kernel_rfl) e277) (
  .cons (ent_fn Tryz.func279 (by kernel_rfl) e279) (
  .cons (ent_fn Tryz.func298 (by kernel_rfl) e298) (
  .cons s77 (
  .cons s146 (
  .cons s187 (
  .cons s197 (
  .cons s241 (
  .cons s70 (
  .cons s79 .nil)))))))))))))))))))))))))))))))))))))))))))))))))))))))))))))))))))))))))))))))))))))))))))))))))))))))))))))))))))))))))))))))))))))))))))))))))))))))))))))))))))))))))))))
theorem runs : CCall Tryz.prog 5 [] (bare Tryz.prog.globals.size) (fun u _ => u = .bool true) :=
  run_true envP_ok (n := 100000) (show fcall (mkE envPL) (frun (mkE envPL) 100000) 5 [] (bare Tryz.prog.globals.size) (fun v _ => isTrue v) = true by kernel_rfl)
end Go.Proofs.YtlpaapcghcglpaaGreatDoor.Sr
