/- The few hashes that this law's run asks for, worked out by the kernel. -/
import Derived.Test.YtpfomnfaemidpaaGreatDoorPc0
import Derived.Test.YtpfomnfaemidpaaGreatDoorPc1
import Derived.Test.YtpfomnfaemidpaaGreatDoorPc2
import Derived.Test.YtpfomnfaemidpaaGreatDoorPc3
namespace Go.Proofs.YtpfomnfaemidpaaGreatDoor
open Go Go.Cn Go.Proofs
set_option maxRecDepth 100000
noncomputable def envHL : List (Nat × FEnt) := [(18, .fn c18), (34, .fn c34), (35, .fn c35), (39, .fn c39), (75, .fn c75), (76, .fn c76), (77, .fn c77), (83, .fn c83), (112, .fn c112)]
theorem envH_ok : EnvOk Tryz.prog (mkE envHL) :=
  env_mk (.cons (ent_fn Tryz.func18 (by kernel_rfl) e18) (
  .cons (ent_fn Tryz.func34 (by kernel_rfl) e34) (
  .cons (ent_fn Tryz.func35 (by kernel_rfl) e35) (
  .cons (ent_fn Tryz.func39 (by kernel_rfl) e39) (
  .cons (ent_fn Tryz.func75 (by kernel_rfl) e75) (
  .cons (ent_fn Tryz.func76 (by kernel_rfl) e76) (
  .cons (ent_fn Tryz.func77 (by kernel_rfl) e77) (
  .cons (ent_fn Tryz.func83 (by kernel_rfl) e83) (
  .cons (ent_fn Tryz.func112 (by kernel_rfl) e112) .nil)))))))))
noncomputable def in0 : ByteArray := ⟨#[120]⟩
noncomputable def out0 : List UInt8 := [49, 49, 102, 54, 97, 100, 56, 101, 99, 53, 50, 97, 50, 57, 56, 52, 97, 98, 97, 97, 102, 100, 55, 99, 51, 98, 53, 49, 54, 53, 48, 51, 55, 56, 53, 99, 50, 48, 55, 50]
theorem tab0 : CCall Tryz.prog 18 [.string in0] (bare Tryz.prog.globals.size) (fun u _ => u = .string ⟨out0.toArray⟩) :=
  run_str envH_ok (n := 10000) (show fcall (mkE envHL) (frun (mkE envHL) 10000) 18 [.string in0] (bare Tryz.prog.globals.size) (fun v _ => isStr out0 v) = true by kernel_rfl)
noncomputable def in1 : ByteArray := ⟨#[49, 49, 102, 54, 97, 100, 56, 101, 99, 53, 50, 97, 50, 57, 56, 52, 97, 98, 97, 97, 102, 100, 55, 99, 51, 98, 53, 49, 54, 53, 48, 51, 55, 56, 53, 99, 50, 48, 55, 50]⟩
theorem tab1 : CCall Tryz.prog 39 [.string in1] (bare Tryz.prog.globals.size) (fun u _ => u = .bool true) :=
  run_bool envH_ok (n := 10000) (show fcall (mkE envHL) (frun (mkE envHL) 10000) 39 [.string in1] (bare Tryz.prog.globals.size) (fun v _ => isBool true v) = true by kernel_rfl)
noncomputable def in2 : ByteArray := ⟨#[109, 101, 10, 115, 101, 99, 114, 101, 116, 10, 114, 111, 117, 110, 100, 32, 49, 10, 112, 117, 115, 104, 10, 112, 117, 108, 108, 10, 105, 103, 111, 116, 32, 49, 49, 102, 54, 97, 100, 56, 101, 99, 53, 50, 97, 50, 57, 56, 52, 97, 98, 97, 97, 102, 100, 55, 99, 51, 98, 53, 49, 54, 53, 48, 51, 55, 56, 53, 99, 50, 48, 55, 50, 10]⟩
noncomputable def out2 : List UInt8 := [52, 50, 57, 53, 52, 55, 102, 97, 100, 55, 98, 99, 98, 54, 55, 98, 49, 97, 99, 54, 49, 48, 100, 48, 54, 99, 55, 99, 101, 102, 52, 56, 57, 97, 101, 48, 48, 102, 99, 98]
theorem tab2 : CCall Tryz.prog 18 [.string in2] (bare Tryz.prog.globals.size) (fun u _ => u = .string ⟨out2.toArray⟩) :=
  run_str envH_ok (n := 10000) (show fcall (mkE envHL) (frun (mkE envHL) 10000) 18 [.string in2] (bare Tryz.prog.globals.size) (fun v _ => isStr out2 v) = true by kernel_rfl)
noncomputable def in3 : ByteArray := ⟨#[52, 50, 57, 53, 52, 55, 102, 97, 100, 55, 98, 99, 98, 54, 55, 98, 49, 97, 99, 54, 49, 48, 100, 48, 54, 99, 55, 99, 101, 102, 52, 56, 57, 97, 101, 48, 48, 102, 99, 98]⟩
theorem tab3 : CCall Tryz.prog 39 [.string in3] (bare Tryz.prog.globals.size) (fun u _ => u = .bool true) :=
  run_bool envH_ok (n := 10000) (show fcall (mkE envHL) (frun (mkE envHL) 10000) 39 [.string in3] (bare Tryz.prog.globals.size) (fun v _ => isBool true v) = true by kernel_rfl)
noncomputable def in4 : ByteArray := ⟨#[109, 101, 10, 115, 101, 99, 114, 101, 116, 10, 114, 111, 117, 110, 100, 32, 50, 10, 112, 117, 115, 104, 10, 112, 117, 108, 108, 10, 105, 103, 111, 116, 32, 49, 49, 102, 54, 97, 100, 56, 101, 99, 53, 50, 97, 50, 57, 56, 52, 97, 98, 97, 97, 102, 100, 55, 99, 51, 98, 53, 49, 54, 53, 48, 51, 55, 56, 53, 99, 50, 48, 55, 50, 10, 102, 105, 108, 101, 32, 49, 49, 102, 54, 97, 100, 56, 101, 99, 53, 50, 97, 50, 57, 56, 52, 97, 98, 97, 97, 102, 100, 55, 99, 51, 98, 53, 49, 54, 53, 48, 51, 55, 56, 53, 99, 50, 48, 55, 50, 32, 49, 10, 120, 10]⟩
noncomputable def out4 : List UInt8 := [102, 50, 98, 55, 98, 97, 48, 54, 50, 101, 51, 57, 97, 101, 98, 51, 102, 101, 99, 100, 97, 101, 98, 57, 55, 56, 54, 100, 49, 98, 101, 98, 57, 54, 50, 52, 53, 52, 57, 99]
theorem tab4 : CCall Tryz.prog 18 [.string in4] (bare Tryz.prog.globals.size) (fun u _ => u = .string ⟨out4.toArray⟩) :=
  run_str envH_ok (n := 10000) (show fcall (mkE envHL) (frun (mkE envHL) 10000) 18 [.string in4] (bare Tryz.prog.globals.size) (fun v _ => isStr out4 v) = true by kernel_rfl)
noncomputable def in5 : ByteArray := ⟨#[102, 50, 98, 55, 98, 97, 48, 54, 50, 101, 51, 57, 97, 101, 98, 51, 102, 101, 99, 100, 97, 101, 98, 57, 55, 56, 54, 100, 49, 98, 101, 98, 57, 54, 50, 52, 53, 52, 57, 99]⟩
theorem tab5 : CCall Tryz.prog 39 [.string in5] (bare Tryz.prog.globals.size) (fun u _ => u = .bool true) :=
  run_bool envH_ok (n := 10000) (show fcall (mkE envHL) (frun (mkE envHL) 10000) 39 [.string in5] (bare Tryz.prog.globals.size) (fun v _ => isBool true v) = true by kernel_rfl)
end Go.Proofs.YtpfomnfaemidpaaGreatDoor
