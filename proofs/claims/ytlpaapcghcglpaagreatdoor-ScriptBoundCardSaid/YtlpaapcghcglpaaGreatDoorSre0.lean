/- The few hashes that this law's run asks for, worked out by the kernel. -/
import Derived.Test.YtlpaapcghcglpaaGreatDoorSrc0
import Derived.Test.YtlpaapcghcglpaaGreatDoorSrc1
import Derived.Test.YtlpaapcghcglpaaGreatDoorSrc2
import Derived.Test.YtlpaapcghcglpaaGreatDoorSrc3
namespace Go.Proofs.YtlpaapcghcglpaaGreatDoor.Sr
open Go Go.Cn Go.Proofs
set_option maxRecDepth 100000
noncomputable def envHL : List (Nat × FEnt) := [(70, .fn c70), (79, .fn c79), (109, .fn c109), (110, .fn c110), (134, .fn c134), (164, .fn c164), (165, .fn c165), (166, .fn c166), (192, .fn c192)]
theorem envH_ok : EnvOk Tryz.prog (mkE envHL) :=
  env_mk (.cons (ent_fn Tryz.func70 (by kernel_rfl) e70) (
  .cons (ent_fn Tryz.func79 (by kernel_rfl) e79) (
  .cons (ent_fn Tryz.func109 (by kernel_rfl) e109) (
  .cons (ent_fn Tryz.func110 (by kernel_rfl) e110) (
  .cons (ent_fn Tryz.func134 (by kernel_rfl) e134) (
  .cons (ent_fn Tryz.func164 (by kernel_rfl) e164) (
  .cons (ent_fn Tryz.func165 (by kernel_rfl) e165) (
  .cons (ent_fn Tryz.func166 (by kernel_rfl) e166) (
  .cons (ent_fn Tryz.func192 (by kernel_rfl) e192) .nil)))))))))
noncomputable def in0 : ByteArray := ⟨#[120]⟩
noncomputable def out0 : List UInt8 := [49, 49, 102, 54, 97, 100, 56, 101, 99, 53, 50, 97, 50, 57, 56, 52, 97, 98, 97, 97, 102, 100, 55, 99, 51, 98, 53, 49, 54, 53, 48, 51, 55, 56, 53, 99, 50, 48, 55, 50]
theorem tab0 : CCall Tryz.prog 70 [.string in0] (bare Tryz.prog.globals.size) (fun u _ => u = .string ⟨out0.toArray⟩) :=
  run_str envH_ok (n := 10000) (show fcall (mkE envHL) (frun (mkE envHL) 10000) 70 [.string in0] (bare Tryz.prog.globals.size) (fun v _ => isStr out0 v) = true by kernel_rfl)
noncomputable def in1 : ByteArray := ⟨#[49, 49, 102, 54, 97, 100, 56, 101, 99, 53, 50, 97, 50, 57, 56, 52, 97, 98, 97, 97, 102, 100, 55, 99, 51, 98, 53, 49, 54, 53, 48, 51, 55, 56, 53, 99, 50, 48, 55, 50]⟩
theorem tab1 : CCall Tryz.prog 79 [.string in1] (bare Tryz.prog.globals.size) (fun u _ => u = .bool true) :=
  run_bool envH_ok (n := 10000) (show fcall (mkE envHL) (frun (mkE envHL) 10000) 79 [.string in1] (bare Tryz.prog.globals.size) (fun v _ => isBool true v) = true by kernel_rfl)
noncomputable def in2 : ByteArray := ⟨#[109, 101, 10, 115, 101, 99, 114, 101, 116, 10, 114, 111, 117, 110, 100, 32, 49, 10, 112, 117, 115, 104, 10, 112, 117, 108, 108, 10, 105, 103, 111, 116, 32, 49, 49, 102, 54, 97, 100, 56, 101, 99, 53, 50, 97, 50, 57, 56, 52, 97, 98, 97, 97, 102, 100, 55, 99, 51, 98, 53, 49, 54, 53, 48, 51, 55, 56, 53, 99, 50, 48, 55, 50, 10]⟩
noncomputable def out2 : List UInt8 := [52, 50, 57, 53, 52, 55, 102, 97, 100, 55, 98, 99, 98, 54, 55, 98, 49, 97, 99, 54, 49, 48, 100, 48, 54, 99, 55, 99, 101, 102, 52, 56, 57, 97, 101, 48, 48, 102, 99, 98]
theorem tab2 : CCall Tryz.prog 70 [.string in2] (bare Tryz.prog.globals.size) (fun u _ => u = .string ⟨out2.toArray⟩) :=
  run_str envH_ok (n := 10000) (show fcall (mkE envHL) (frun (mkE envHL) 10000) 70 [.string in2] (bare Tryz.prog.globals.size) (fun v _ => isStr out2 v) = true by kernel_rfl)
noncomputable def in3 : ByteArray := ⟨#[52, 50, 57, 53, 52, 55, 102, 97, 100, 55, 98, 99, 98, 54, 55, 98, 49, 97, 99, 54, 49, 48, 100, 48, 54, 99, 55, 99, 101, 102, 52, 56, 57, 97, 101, 48, 48, 102, 99, 98]⟩
theorem tab3 : CCall Tryz.prog 79 [.string in3] (bare Tryz.prog.globals.size) (fun u _ => u = .bool true) :=
  run_bool envH_ok (n := 10000) (show fcall (mkE envHL) (frun (mkE envHL) 10000) 79 [.string in3] (bare Tryz.prog.globals.size) (fun v _ => isBool true v) = true by kernel_rfl)
noncomputable def in4 : ByteArray := ⟨#[109, 101, 10, 115, 101, 99, 114, 101, 116, 10, 114, 111, 117, 110, 100, 32, 50, 10, 112, 117, 115, 104, 10, 112, 117, 108, 108, 10, 105, 103, 111, 116, 32, 49, 49, 102, 54, 97, 100, 56, 101, 99, 53, 50, 97, 50, 57, 56, 52, 97, 98, 97, 97, 102, 100, 55, 99, 51, 98, 53, 49, 54, 53, 48, 51, 55, 56, 53, 99, 50, 48, 55, 50, 10, 102, 105, 108, 101, 32, 49, 49, 102, 54, 97, 100, 56, 101, 99, 53, 50, 97, 50, 57, 56, 52, 97, 98, 97, 97, 102, 100, 55, 99, 51, 98, 53, 49, 54, 53, 48, 51, 55, 56, 53, 99, 50, 48, 55, 50, 32, 49, 10, 120, 10]⟩
noncomputable def out4 : List UInt8 := [102, 50, 98, 55, 98, 97, 48, 54, 50, 101, 51, 57, 97, 101, 98, 51, 102, 101, 99, 100, 97, 101, 98, 57, 55, 56, 54, 100, 49, 98, 101, 98, 57, 54, 50, 52, 53, 52, 57, 99]
theorem tab4 : CCall Tryz.prog 70 [.string in4] (bare Tryz.prog.globals.size) (fun u _ => u = .string ⟨out4.toArray⟩) :=
  run_str envH_ok (n := 10000) (show fcall (mkE envHL) (frun (mkE envHL) 10000) 70 [.string in4] (bare Tryz.prog.globals.size) (fun v _ => isStr out4 v) = true by kernel_rfl)
noncomputable def in5 : ByteArray := ⟨#[102, 50, 98, 55, 98, 97, 48, 54, 50, 101, 51, 57, 97, 101, 98, 51, 102, 101, 99, 100, 97, 101, 98, 57, 55, 56, 54, 100, 49, 98, 101, 98, 57, 54, 50, 52, 53, 52, 57, 99]⟩
theorem tab5 : CCall Tryz.prog 79 [.string in5] (bare Tryz.prog.globals.size) (fun u _ => u = .bool true) :=
  run_bool envH_ok (n := 10000) (show fcall (mkE envHL) (frun (mkE envHL) 10000) 79 [.string in5] (bare Tryz.prog.globals.size) (fun v _ => isBool true v) = true by kernel_rfl)
end Go.Proofs.YtlpaapcghcglpaaGreatDoor.Sr
