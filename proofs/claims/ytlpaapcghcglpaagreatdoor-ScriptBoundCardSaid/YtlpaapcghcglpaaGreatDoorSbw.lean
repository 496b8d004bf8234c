/- What script.Bound and Within compute; ScriptBound's sentence, given ScriptRuns. -/
import Derived.Test.YtlpaapcghcglpaaGreatDoorCn4
import Derived.Test.YtlpaapcghcglpaaGreatDoorProg
import Derived.KernelRfl
namespace Go.Proofs.YtlpaapcghcglpaaGreatDoor.Sb
open Go Go.Cn Go.Proofs
set_option maxRecDepth 100000
set_option linter.unusedSimpArgs false
/-! 6: ammonite/ammonitelaw25.ScriptBound -/
noncomputable def c6r0 : List CE := [⟨0, .asg (.const (.bool false)), (some 2), none, []⟩]
noncomputable def c6r1 : List CE := [⟨0, .mov (.tmp 0), (some 4), none, []⟩, ⟨1, .call 15 [(.tmp 4), (.const (.int .i64 0)), (.const (.int .i64 1000))], (some 5), none, []⟩, ⟨2, .asg (.tmp 5), (some 3), none, []⟩]
noncomputable def c6r2 : List CE := [⟨0, .mov (.tmp 3), (some 6), none, []⟩, ⟨1, .bin .add (.tmp 6) (.const (.int .i64 3)), (some 7), none, []⟩, ⟨2, .call 21 [(.tmp 7)], (some 8), none, []⟩, ⟨3, .mov (.tmp 3), (some 9), none, []⟩, ⟨4, .call 21 [(.tmp 9)], (some 10), none, []⟩, ⟨5, .bin .add (.tmp 10) (.const (.int .i64 2)), (some 11), none, []⟩, ⟨6, .bin .eql (.tmp 8) (.tmp 11), (some 12), none, []⟩, ⟨7, .mov (.tmp 12), (some 13), none, []⟩, ⟨8, .mov (.tmp 3), (some 14), (some ((some 13), true)), []⟩, ⟨9, .bin .add (.tmp 14) (.const (.int .i64 1)), (some 15), (some ((some 13), true)), []⟩, ⟨10, .call 21 [(.tmp 15)], (some 16), (some ((some 13), true)), []⟩, ⟨11, .mov (.tmp 3), (some 17), (some ((some 13), true)), []⟩, ⟨12, .call 21 [(.tmp 17)], (some 18), (some ((some 13), true)), []⟩, ⟨13, .bin .geq (.tmp 16) (.tmp 18), (some 19), (some ((some 13), true)), []⟩, ⟨14, .pick (.tmp 13) (.tmp 19) (.const (.bool false)), (some 20), none, []⟩, ⟨15, .mov (.tmp 20), (some 21), none, []⟩, ⟨16, .call 21 [(.const (.int .i64 0))], (some 22), (some ((some 21), true)), []⟩, ⟨17, .bin .eql (.tmp 22) (.const (.int .i64 3)), (some 23), (some ((some 21), true)), []⟩, ⟨18, .pick (.tmp 21) (.tmp 23) (.const (.bool false)), (some 24), none, []⟩, ⟨19, .mov (.tmp 24), (some 25), none, []⟩, ⟨20, .mov (.tmp 3), (some 26), (some ((some 25), true)), []⟩, ⟨21, .call 21 [(.tmp 26)], (some 27), (some ((some 25), true)), []⟩, ⟨22, .mov (.tmp 3), (some 28), (some ((some 25), true)), []⟩, ⟨23, .bin .quo (.tmp 28) (.const (.int .i64 2)), (some 29), (some ((some 25), true)), []⟩, ⟨24, .bin .add (.tmp 29) (.const (.int .i64 3)), (some 30), (some ((some 25), true)), []⟩, ⟨25, .bin .geq (.tmp 27) (.tmp 30), (some 31), (some ((some 25), true)), []⟩, ⟨26, .pick (.tmp 25) (.tmp 31) (.const (.bool false)), (some 32), none, []⟩, ⟨27, .mov (.tmp 32), (some 33), none, []⟩, ⟨28, .call 5 [], (some 34), (some ((some 33), true)), []⟩, ⟨29, .pick (.tmp 33) (.tmp 34) (.const (.bool false)), (some 35), none, []⟩, ⟨30, .asg (.tmp 35), (some 2), none, []⟩]
noncomputable def c6 : CFun := ⟨36, [.tmp 2], (.seq (.reg c6r0)
 (.seq (.reg c6r1)
 (.seq (.reg c6r2)
 .ret)))⟩
theorem e6 : compFun Tryz.prog Tryz.f6 = some c6 := by kernel_rfl
/-! 15: ammonite/ammonitebook.Within -/
noncomputable def c15r0 : List CE := [⟨0, .asg (.const (.int .i64 0)), (some 6), none, []⟩]
noncomputable def c15r1 : List CE := [⟨0, .mov (.tmp 0), (some 7), none, []⟩, ⟨1, .mov (.tmp 2), (some 8), none, []⟩, ⟨2, .mov (.tmp 1), (some 9), none, []⟩, ⟨3, .bin .sub (.tmp 8) (.tmp 9), (some 10), none, []⟩, ⟨4, .bin .add (.tmp 10) (.const (.int .i64 1)), (some 11), none, []⟩, ⟨5, .bin .rem (.tmp 7) (.tmp 11), (some 12), none, []⟩, ⟨6, .asg (.tmp 12), (some 0), none, []⟩]
noncomputable def c15r2 : List CE := [⟨0, .mov (.tmp 0), (some 13), none, []⟩, ⟨1, .bin .lss (.tmp 13) (.const (.int .i64 0)), (some 14), none, []⟩]
noncomputable def c15r3 : List CE := [⟨0, .mov (.tmp 0), (some 15), none, []⟩, ⟨1, .mov (.tmp 2), (some 16), none, []⟩, ⟨2, .bin .add (.tmp 15) (.tmp 16), (some 17), none, []⟩, ⟨3, .mov (.tmp 1), (some 18), none, []⟩, ⟨4, .bin .sub (.tmp 17) (.tmp 18), (some 19), none, []⟩, ⟨5, .bin .add (.tmp 19) (.const (.int .i64 1)), (some 20), none, []⟩, ⟨6, .asg (.tmp 20), (some 0), none, []⟩]
noncomputable def c15r4 : List CE := [⟨0, .mov (.tmp 1), (some 21), none, []⟩, ⟨1, .mov (.tmp 0), (some 22), none, []⟩, ⟨2, .bin .add (.tmp 21) (.tmp 22), (some 23), none, []⟩, ⟨3, .asg (.tmp 23), (some 6), none, []⟩]
noncomputable def c15 : CFun := ⟨24, [.tmp 6], (.seq (.reg c15r0)
 (.seq (.reg c15r1)
 (.seq (.seq (.reg c15r2)
 (.cond (.tmp 14) (.reg c15r3) .skip))
 (.seq (.reg c15r4)
 .ret))))⟩
theorem e15 : compFun Tryz.prog Tryz.f15 = some c15 := by kernel_rfl
/-! 21: ammonite/script.Bound -/
noncomputable def c21r0 : List CE := [⟨0, .asg (.const (.int .i64 0)), (some 2), none, []⟩]
noncomputable def c21r1 : List CE := [⟨0, .mov (.tmp 0), (some 3), none, []⟩, ⟨1, .bin .mul (.const (.int .i64 2)) (.tmp 3), (some 4), none, []⟩, ⟨2, .bin .quo (.tmp 4) (.const (.int .i64 3)), (some 5), none, []⟩, ⟨3, .bin .add (.tmp 5) (.const (.int .i64 3)), (some 6), none, []⟩, ⟨4, .asg (.tmp 6), (some 2), none, []⟩]
noncomputable def c21 : CFun := ⟨7, [.tmp 2], (.seq (.reg c21r0)
 (.seq (.reg c21r1)
 .ret))⟩
theorem e21 : compFun Tryz.prog Tryz.f21 = some c21 := by kernel_rfl
def within (n lo hi : Int) : Int := lo + if n.tmod (hi - lo + 1) < 0 then n.tmod (hi - lo + 1) + hi - lo + 1 else n.tmod (hi - lo + 1)
theorem within_bd (n lo hi : Int) (h1 : lo ≤ hi) : lo ≤ within n lo hi ∧ within n lo hi ≤ hi := by
  have hb := Int.tmod_lt_of_pos n (b := hi - lo + 1) (by omega)
  have hb2 : -(hi - lo + 1) < n.tmod (hi - lo + 1) := Int.lt_tmod_of_pos n (by omega)
  unfold within
  split <;> omega
theorem within_ok (n lo hi : Int) (h0 : 0 ≤ lo) (h1 : lo ≤ hi) (h2 : hi ≤ 2147483647) (H : CH) : CCall Tryz.prog 15 [.int .i64 n, .int .i64 lo, .int .i64 hi] H (fun v H1 => v = .int .i64 (within n lo hi) ∧ H1 = H) := by
  have hb := Int.tmod_lt_of_pos n (b := hi - lo + 1) (by omega)
  have hb2 : -(hi - lo + 1) < n.tmod (hi - lo + 1) := Int.lt_tmod_of_pos n (by omega)
  refine vc_call Tryz.func15 rfl e15 ?_
  simp only [c15, List.length_cons, List.length_nil, List.replicate, List.cons_append, List.nil_append, Nat.reduceAdd, Nat.reduceSub]
  refine vc_seq (vc_reg ?_)
  simp -implicitDefEqProofs (disch := omega) only [wp_cons, wp_guard, gate_tt, gate_tf, gate_ft, gate_ff, wp_nil, goon_some, goon_none, cs_pick, vsel_true, vsel_false, cs_mov, cs_asg, cs_bin, cs_un, cs_call, cev_tmp, cev_const, cev_func, cev_global, List.getD_cons_zero, List.getD_cons_succ, List.set_cons_zero, List.set_cons_succ, List.map_cons, List.map_nil, onv_some, onv_ite, bin_add, bin_sub, bin_mul, bin_quo, bin_rem, bin_eql, bin_neq, bin_lss, bin_leq, bin_gtr, bin_geq, wrap64, seqK_none, seqK_some, out_exit, out_other, out_none, out_ret, out_goto, ret_one, ret_two, ret_three, ret_nil, end_one, end_nil, decide_true, decide_false, c15r0]
  refine vc_seq (vc_reg ?_)
  simp -implicitDefEqProofs (disch := omega) only [wp_cons, wp_guard, gate_tt, gate_tf, gate_ft, gate_ff, wp_nil, goon_some, goon_none, cs_pick, vsel_true, vsel_false, cs_mov, cs_asg, cs_bin, cs_un, cs_call, cev_tmp, cev_const, cev_func, cev_global, List.getD_cons_zero, List.getD_cons_succ, List.set_cons_zero, List.set_cons_succ, List.map_cons, List.map_nil, onv_some, onv_ite, bin_add, bin_sub, bin_mul, bin_quo, bin_rem, bin_eql, bin_neq, bin_lss, bin_leq, bin_gtr, bin_geq, wrap64, seqK_none, seqK_some, out_exit, out_other, out_none, out_ret, out_goto, ret_one, ret_two, ret_three, ret_nil, end_one, end_nil, decide_true, decide_false, c15r1]
  refine vc_seq ?_
  refine vc_seq (vc_reg ?_)
  simp -implicitDefEqProofs (disch := omega) only [wp_cons, wp_guard, gate_tt, gate_tf, gate_ft, gate_ff, wp_nil, goon_some, goon_none, cs_pick, vsel_true, vsel_false, cs_mov, cs_asg, cs_bin, cs_un, cs_call, cev_tmp, cev_const, cev_func, cev_global, List.getD_cons_zero, List.getD_cons_succ, List.set_cons_zero, List.set_cons_succ, List.map_cons, List.map_nil, onv_some, onv_ite, bin_add, bin_sub, bin_mul, bin_quo, bin_rem, bin_eql, bin_neq, bin_lss, bin_leq, bin_gtr, bin_geq, wrap64, seqK_none, seqK_some, out_exit, out_other, out_none, out_ret, out_goto, ret_one, ret_two, ret_three, ret_nil, end_one, end_nil, decide_true, decide_false, c15r2]
  refine vc_if rfl (fun h => ?_) (fun h => ?_)
  · have h : n.tmod (hi - lo + 1) < 0 := of_decide_eq_true h
    refine vc_reg ?_
    simp -implicitDefEqProofs (disch := omega) only [wp_cons, wp_guard, gate_tt, gate_tf, gate_ft, gate_ff, wp_nil, goon_some, goon_none, cs_pick, vsel_true, vsel_false, cs_mov, cs_asg, cs_bin, cs_un, cs_call, cev_tmp, cev_const, cev_func, cev_global, List.getD_cons_zero, List.getD_cons_succ, List.set_cons_zero, List.set_cons_succ, List.map_cons, List.map_nil, onv_some, onv_ite, bin_add, bin_sub, bin_mul, bin_quo, bin_rem, bin_eql, bin_neq, bin_lss, bin_leq, bin_gtr, bin_geq, wrap64, seqK_none, seqK_some, out_exit, out_other, out_none, out_ret, out_goto, ret_one, ret_two, ret_three, ret_nil, end_one, end_nil, decide_true, decide_false, c15r3]
    refine vc_seq (vc_reg ?_)
    simp -implicitDefEqProofs (disch := omega) only [wp_cons, wp_guard, gate_tt, gate_tf, gate_ft, gate_ff, wp_nil, goon_some, goon_none, cs_pick, vsel_true, vsel_false, cs_mov, cs_asg, cs_bin, cs_un, cs_call, cev_tmp, cev_const, cev_func, cev_global, List.getD_cons_zero, List.getD_cons_succ, List.set_cons_zero, List.set_cons_succ, List.map_cons, List.map_nil, onv_some, onv_ite, bin_add, bin_sub, bin_mul, bin_quo, bin_rem, bin_eql, bin_neq, bin_lss, bin_leq, bin_gtr, bin_geq, wrap64, seqK_none, seqK_some, out_exit, out_other, out_none, out_ret, out_goto, ret_one, ret_two, ret_three, ret_nil, end_one, end_nil, decide_true, decide_false, c15r4]
    refine cw_ret ?_
    simp -implicitDefEqProofs only [wp_cons, wp_guard, gate_tt, gate_tf, gate_ft, gate_ff, wp_nil, goon_some, goon_none, cs_pick, vsel_true, vsel_false, cs_mov, cs_asg, cs_bin, cs_un, cs_call, cev_tmp, cev_const, cev_func, cev_global, List.getD_cons_zero, List.getD_cons_succ, List.set_cons_zero, List.set_cons_succ, List.map_cons, List.map_nil, onv_some, onv_ite, bin_add, bin_sub, bin_mul, bin_quo, bin_rem, bin_eql, bin_neq, bin_lss, bin_leq, bin_gtr, bin_geq, wrap64, seqK_none, seqK_some, out_exit, out_other, out_none, out_ret, out_goto, ret_one, ret_two, ret_three, ret_nil, end_one, end_nil, decide_true, decide_false]
    simp only [within, h, if_true, and_self]
  · have h : ¬ n.tmod (hi - lo + 1) < 0 := of_decide_eq_false h
    refine cw_skip ?_
    simp -implicitDefEqProofs (disch := omega) only [wp_cons, wp_guard, gate_tt, gate_tf, gate_ft, gate_ff, wp_nil, goon_some, goon_none, cs_pick, vsel_true, vsel_false, cs_mov, cs_asg, cs_bin, cs_un, cs_call, cev_tmp, cev_const, cev_func, cev_global, List.getD_cons_zero, List.getD_cons_succ, List.set_cons_zero, List.set_cons_succ, List.map_cons, List.map_nil, onv_some, onv_ite, bin_add, bin_sub, bin_mul, bin_quo, bin_rem, bin_eql, bin_neq, bin_lss, bin_leq, bin_gtr, bin_geq, wrap64, seqK_none, seqK_some, out_exit, out_other, out_none, out_ret, out_goto, ret_one, ret_two, ret_three, ret_nil, end_one, end_nil, decide_true, decide_false]
    refine vc_seq (vc_reg ?_)
    simp -implicitDefEqProofs (disch := omega) only [wp_cons, wp_guard, gate_tt, gate_tf, gate_ft, gate_ff, wp_nil, goon_some, goon_none, cs_pick, vsel_true, vsel_false, cs_mov, cs_asg, cs_bin, cs_un, cs_call, cev_tmp, cev_const, cev_func, cev_global, List.getD_cons_zero, List.getD_cons_succ, List.set_cons_zero, List.set_cons_succ, List.map_cons, List.map_nil, onv_some, onv_ite, bin_add, bin_sub, bin_mul, bin_quo, bin_rem, bin_eql, bin_neq, bin_lss, bin_leq, bin_gtr, bin_geq, wrap64, seqK_none, seqK_some, out_exit, out_other, out_none, out_ret, out_goto, ret_one, ret_two, ret_three, ret_nil, end_one, end_nil, decide_true, decide_false, c15r4]
    refine cw_ret ?_
    simp -implicitDefEqProofs only [wp_cons, wp_guard, gate_tt, gate_tf, gate_ft, gate_ff, wp_nil, goon_some, goon_none, cs_pick, vsel_true, vsel_false, cs_mov, cs_asg, cs_bin, cs_un, cs_call, cev_tmp, cev_const, cev_func, cev_global, List.getD_cons_zero, List.getD_cons_succ, List.set_cons_zero, List.set_cons_succ, List.map_cons, List.map_nil, onv_some, onv_ite, bin_add, bin_sub, bin_mul, bin_quo, bin_rem, bin_eql, bin_neq, bin_lss, bin_leq, bin_gtr, bin_geq, wrap64, seqK_none, seqK_some, out_exit, out_other, out_none, out_ret, out_goto, ret_one, ret_two, ret_three, ret_nil, end_one, end_nil, decide_true, decide_false]
    simp only [within, h, if_false, and_self]
def bound (n : Int) : Int := (2 * n).tdiv 3 + 3
theorem bound_ok (n : Int) (h0 : 0 ≤ n) (h1 : n ≤ 1000000) (H : CH) : CCall Tryz.prog 21 [.int .i64 n] H (fun v H1 => v = .int .i64 (bound n) ∧ H1 = H) := by
  have hd : (2 * n).tdiv 3 = 2 * n / 3 := Int.tdiv_eq_ediv_of_nonneg (by omega)
  refine vc_call Tryz.func21 rfl e21 ?_
  simp only [c21, List.length_cons, List.length_nil, List.replicate, List.cons_append, List.nil_append, Nat.reduceAdd, Nat.reduceSub]
  refine vc_seq (vc_reg ?_)
  simp -implicitDefEqProofs (disch := omega) only [wp_cons, wp_guard, gate_tt, gate_tf, gate_ft, gate_ff, wp_nil, goon_some, goon_none, cs_pick, vsel_true, vsel_false, cs_mov, cs_asg, cs_bin, cs_un, cs_call, cev_tmp, cev_const, cev_func, cev_global, List.getD_cons_zero, List.getD_cons_succ, List.set_cons_zero, List.set_cons_succ, List.map_cons, List.map_nil, onv_some, onv_ite, bin_add, bin_sub, bin_mul, bin_quo, bin_rem, bin_eql, bin_neq, bin_lss, bin_leq, bin_gtr, bin_geq, wrap64, seqK_none, seqK_some, out_exit, out_other, out_none, out_ret, out_goto, ret_one, ret_two, ret_three, ret_nil, end_one, end_nil, decide_true, decide_false, c21r0]
  refine vc_seq (vc_reg ?_)
  simp -implicitDefEqProofs (disch := omega) only [wp_cons, wp_guard, gate_tt, gate_tf, gate_ft, gate_ff, wp_nil, goon_some, goon_none, cs_pick, vsel_true, vsel_false, cs_mov, cs_asg, cs_bin, cs_un, cs_call, cev_tmp, cev_const, cev_func, cev_global, List.getD_cons_zero, List.getD_cons_succ, List.set_cons_zero, List.set_cons_succ, List.map_cons, List.map_nil, onv_some, onv_ite, bin_add, bin_sub, bin_mul, bin_quo, bin_rem, bin_eql, bin_neq, bin_lss, bin_leq, bin_gtr, bin_geq, wrap64, seqK_none, seqK_some, out_exit, out_other, out_none, out_ret, out_goto, ret_one, ret_two, ret_three, ret_nil, end_one, end_nil, decide_true, decide_false, c21r1, hd]
  refine cw_ret ?_
  simp -implicitDefEqProofs only [wp_cons, wp_guard, gate_tt, gate_tf, gate_ft, gate_ff, wp_nil, goon_some, goon_none, cs_pick, vsel_true, vsel_false, cs_mov, cs_asg, cs_bin, cs_un, cs_call, cev_tmp, cev_const, cev_func, cev_global, List.getD_cons_zero, List.getD_cons_succ, List.set_cons_zero, List.set_cons_succ, List.map_cons, List.map_nil, onv_some, onv_ite, bin_add, bin_sub, bin_mul, bin_quo, bin_rem, bin_eql, bin_neq, bin_lss, bin_leq, bin_gtr, bin_geq, wrap64, seqK_none, seqK_some, out_exit, out_other, out_none, out_ret, out_goto, ret_one, ret_two, ret_three, ret_nil, end_one, end_nil, decide_true, decide_false]
  simp only [bound, hd, and_self]
theorem bound_law (runs : ∀ H, CCall Tryz.prog 5 [] H (fun v H1 => v = .bool true ∧ H1 = H)) (n : Int) (H : CH) : CCall Tryz.prog 6 [.int .i64 n] H (fun v H1 => v = .bool true ∧ H1 = H) := by
  have ⟨b0, b1⟩ := within_bd n 0 1000 (by omega)
  refine vc_call Tryz.func6 rfl e6 ?_
  simp only [c6, List.length_cons, List.length_nil, List.replicate, List.cons_append, List.nil_append, Nat.reduceAdd, Nat.reduceSub]
  refine vc_seq (vc_reg ?_)
  simp -implicitDefEqProofs (disch := omega) only [wp_cons, wp_guard, gate_tt, gate_tf, gate_ft, gate_ff, wp_nil, goon_some, goon_none, cs_pick, vsel_true, vsel_false, cs_mov, cs_asg, cs_bin, cs_un, cs_call, cev_tmp, cev_const, cev_func, cev_global, List.getD_cons_zero, List.getD_cons_succ, List.set_cons_zero, List.set_cons_succ, List.map_cons, List.map_nil, onv_some, onv_ite, bin_add, bin_sub, bin_mul, bin_quo, bin_rem, bin_eql, bin_neq, bin_lss, bin_leq, bin_gtr, bin_geq, wrap64, seqK_none, seqK_some, out_exit, out_other, out_none, out_ret, out_goto, ret_one, ret_two, ret_three, ret_nil, end_one, end_nil, decide_true, decide_false, c6r0]
  refine vc_seq (vc_reg ?_)
  simp -implicitDefEqProofs (disch := omega) only [wp_cons, wp_guard, gate_tt, gate_tf, gate_ft, gate_ff, wp_nil, goon_some, goon_none, cs_pick, vsel_true, vsel_false, cs_mov, cs_asg, cs_bin, cs_un, cs_call, cev_tmp, cev_const, cev_func, cev_global, List.getD_cons_zero, List.getD_cons_succ, List.set_cons_zero, List.set_cons_succ, List.map_cons, List.map_nil, onv_some, onv_ite, bin_add, bin_sub, bin_mul, bin_quo, bin_rem, bin_eql, bin_neq, bin_lss, bin_leq, bin_gtr, bin_geq, wrap64, seqK_none, seqK_some, out_exit, out_other, out_none, out_ret, out_goto, ret_one, ret_two, ret_three, ret_nil, end_one, end_nil, decide_true, decide_false, c6r1]
  refine (within_ok n 0 1000 (by omega) (by omega) (by omega) _).mono ?_
  rintro _ _ ⟨rfl, rfl⟩
  simp -implicitDefEqProofs (disch := omega) only [wp_cons, wp_guard, gate_tt, gate_tf, gate_ft, gate_ff, wp_nil, goon_some, goon_none, cs_pick, vsel_true, vsel_false, cs_mov, cs_asg, cs_bin, cs_un, cs_call, cev_tmp, cev_const, cev_func, cev_global, List.getD_cons_zero, List.getD_cons_succ, List.set_cons_zero, List.set_cons_succ, List.map_cons, List.map_nil, onv_some, onv_ite, bin_add, bin_sub, bin_mul, bin_quo, bin_rem, bin_eql, bin_neq, bin_lss, bin_leq, bin_gtr, bin_geq, wrap64, seqK_none, seqK_some, out_exit, out_other, out_none, out_ret, out_goto, ret_one, ret_two, ret_three, ret_nil, end_one, end_nil, decide_true, decide_false]
  generalize within n 0 1000 = k at b0 b1 ⊢
  have d0 : (2 * k).tdiv 3 = 2 * k / 3 := Int.tdiv_eq_ediv_of_nonneg (by omega)
  have d1 : (2 * (k + 1)).tdiv 3 = 2 * (k + 1) / 3 := Int.tdiv_eq_ediv_of_nonneg (by omega)
  have d3 : (2 * (k + 3)).tdiv 3 = 2 * (k + 3) / 3 := Int.tdiv_eq_ediv_of_nonneg (by omega)
  have d2 : k.tdiv 2 = k / 2 := Int.tdiv_eq_ediv_of_nonneg (by omega)
  have e0 : bound k = 2 * k / 3 + 3 := by simp only [bound, d0]
  have e1 : bound (k + 1) = 2 * (k + 1) / 3 + 3 := by simp only [bound, d1]
  have e3 : bound (k + 3) = 2 * k / 3 + 2 + 3 := by simp only [bound, d3]; omega
  have ez : bound 0 = 3 := by decide
  refine vc_seq (vc_reg ?_)
  simp -implicitDefEqProofs (disch := omega) only [wp_cons, wp_guard, gate_tt, gate_tf, gate_ft, gate_ff, wp_nil, goon_some, goon_none, cs_pick, vsel_true, vsel_false, cs_mov, cs_asg, cs_bin, cs_un, cs_call, cev_tmp, cev_const, cev_func, cev_global, List.getD_cons_zero, List.getD_cons_succ, List.set_cons_zero, List.set_cons_succ, List.map_cons, List.map_nil, onv_some, onv_ite, bin_add, bin_sub, bin_mul, bin_quo, bin_rem, bin_eql, bin_neq, bin_lss, bin_leq, bin_gtr, bin_geq, wrap64, seqK_none, seqK_some, out_exit, out_other, out_none, out_ret, out_goto, ret_one, ret_two, ret_three, ret_nil, end_one, end_nil, decide_true, decide_false, c6r2]
  refine (bound_ok (k + 3) (by omega) (by omega) _).mono ?_
  rintro _ _ ⟨rfl, rfl⟩
  simp -implicitDefEqProofs (disch := omega) only [wp_cons, wp_guard, gate_tt, gate_tf, gate_ft, gate_ff, wp_nil, goon_some, goon_none, cs_pick, vsel_true, vsel_false, cs_mov, cs_asg, cs_bin, cs_un, cs_call, cev_tmp, cev_const, cev_func, cev_global, List.getD_cons_zero, List.getD_cons_succ, List.set_cons_zero, List.set_cons_succ, List.map_cons, List.map_nil, onv_some, onv_ite, bin_add, bin_sub, bin_mul, bin_quo, bin_rem, bin_eql, bin_neq, bin_lss, bin_leq, bin_gtr, bin_geq, wrap64, seqK_none, seqK_some, out_exit, out_other, out_none, out_ret, out_goto, ret_one, ret_two, ret_three, ret_nil, end_one, end_nil, decide_true, decide_false]
  refine (bound_ok k (by omega) (by omega) _).mono ?_
  rintro _ _ ⟨rfl, rfl⟩
  simp -implicitDefEqProofs (disch := omega) only [wp_cons, wp_guard, gate_tt, gate_tf, gate_ft, gate_ff, wp_nil, goon_some, goon_none, cs_pick, vsel_true, vsel_false, cs_mov, cs_asg, cs_bin, cs_un, cs_call, cev_tmp, cev_const, cev_func, cev_global, List.getD_cons_zero, List.getD_cons_succ, List.set_cons_zero, List.set_cons_succ, List.map_cons, List.map_nil, onv_some, onv_ite, bin_add, bin_sub, bin_mul, bin_quo, bin_rem, bin_eql, bin_neq, bin_lss, bin_leq, bin_gtr, bin_geq, wrap64, seqK_none, seqK_some, out_exit, out_other, out_none, out_ret, out_goto, ret_one, ret_two, ret_three, ret_nil, end_one, end_nil, decide_true, decide_false]
  have t1 : decide (bound (k + 3) = bound k + 2) = true := decide_eq_true (by omega)
  simp -implicitDefEqProofs (disch := omega) only [wp_cons, wp_guard, gate_tt, gate_tf, gate_ft, gate_ff, wp_nil, goon_some, goon_none, cs_pick, vsel_true, vsel_false, cs_mov, cs_asg, cs_bin, cs_un, cs_call, cev_tmp, cev_const, cev_func, cev_global, List.getD_cons_zero, List.getD_cons_succ, List.set_cons_zero, List.set_cons_succ, List.map_cons, List.map_nil, onv_some, onv_ite, bin_add, bin_sub, bin_mul, bin_quo, bin_rem, bin_eql, bin_neq, bin_lss, bin_leq, bin_gtr, bin_geq, wrap64, seqK_none, seqK_some, out_exit, out_other, out_none, out_ret, out_goto, ret_one, ret_two, ret_three, ret_nil, end_one, end_nil, decide_true, decide_false, t1]
  refine (bound_ok (k + 1) (by omega) (by omega) _).mono ?_
  rintro _ _ ⟨rfl, rfl⟩
  simp -implicitDefEqProofs (disch := omega) only [wp_cons, wp_guard, gate_tt, gate_tf, gate_ft, gate_ff, wp_nil, goon_some, goon_none, cs_pick, vsel_true, vsel_false, cs_mov, cs_asg, cs_bin, cs_un, cs_call, cev_tmp, cev_const, cev_func, cev_global, List.getD_cons_zero, List.getD_cons_succ, List.set_cons_zero, List.set_cons_succ, List.map_cons, List.map_nil, onv_some, onv_ite, bin_add, bin_sub, bin_mul, bin_quo, bin_rem, bin_eql, bin_neq, bin_lss, bin_leq, bin_gtr, bin_geq, wrap64, seqK_none, seqK_some, out_exit, out_other, out_none, out_ret, out_goto, ret_one, ret_two, ret_three, ret_nil, end_one, end_nil, decide_true, decide_false]
  refine (bound_ok k (by omega) (by omega) _).mono ?_
  rintro _ _ ⟨rfl, rfl⟩
  simp -implicitDefEqProofs (disch := omega) only [wp_cons, wp_guard, gate_tt, gate_tf, gate_ft, gate_ff, wp_nil, goon_some, goon_none, cs_pick, vsel_true, vsel_false, cs_mov, cs_asg, cs_bin, cs_un, cs_call, cev_tmp, cev_const, cev_func, cev_global, List.getD_cons_zero, List.getD_cons_succ, List.set_cons_zero, List.set_cons_succ, List.map_cons, List.map_nil, onv_some, onv_ite, bin_add, bin_sub, bin_mul, bin_quo, bin_rem, bin_eql, bin_neq, bin_lss, bin_leq, bin_gtr, bin_geq, wrap64, seqK_none, seqK_some, out_exit, out_other, out_none, out_ret, out_goto, ret_one, ret_two, ret_three, ret_nil, end_one, end_nil, decide_true, decide_false]
  have t2 : decide (bound k ≤ bound (k + 1)) = true := decide_eq_true (by omega)
  simp -implicitDefEqProofs (disch := omega) only [wp_cons, wp_guard, gate_tt, gate_tf, gate_ft, gate_ff, wp_nil, goon_some, goon_none, cs_pick, vsel_true, vsel_false, cs_mov, cs_asg, cs_bin, cs_un, cs_call, cev_tmp, cev_const, cev_func, cev_global, List.getD_cons_zero, List.getD_cons_succ, List.set_cons_zero, List.set_cons_succ, List.map_cons, List.map_nil, onv_some, onv_ite, bin_add, bin_sub, bin_mul, bin_quo, bin_rem, bin_eql, bin_neq, bin_lss, bin_leq, bin_gtr, bin_geq, wrap64, seqK_none, seqK_some, out_exit, out_other, out_none, out_ret, out_goto, ret_one, ret_two, ret_three, ret_nil, end_one, end_nil, decide_true, decide_false, t2]
  refine (bound_ok 0 (by omega) (by omega) _).mono ?_
  rintro _ _ ⟨rfl, rfl⟩
  simp -implicitDefEqProofs (disch := omega) only [wp_cons, wp_guard, gate_tt, gate_tf, gate_ft, gate_ff, wp_nil, goon_some, goon_none, cs_pick, vsel_true, vsel_false, cs_mov, cs_asg, cs_bin, cs_un, cs_call, cev_tmp, cev_const, cev_func, cev_global, List.getD_cons_zero, List.getD_cons_succ, List.set_cons_zero, List.set_cons_succ, List.map_cons, List.map_nil, onv_some, onv_ite, bin_add, bin_sub, bin_mul, bin_quo, bin_rem, bin_eql, bin_neq, bin_lss, bin_leq, bin_gtr, bin_geq, wrap64, seqK_none, seqK_some, out_exit, out_other, out_none, out_ret, out_goto, ret_one, ret_two, ret_three, ret_nil, end_one, end_nil, decide_true, decide_false]
  rw [ez]
  simp -implicitDefEqProofs (disch := omega) only [wp_cons, wp_guard, gate_tt, gate_tf, gate_ft, gate_ff, wp_nil, goon_some, goon_none, cs_pick, vsel_true, vsel_false, cs_mov, cs_asg, cs_bin, cs_un, cs_call, cev_tmp, cev_const, cev_func, cev_global, List.getD_cons_zero, List.getD_cons_succ, List.set_cons_zero, List.set_cons_succ, List.map_cons, List.map_nil, onv_some, onv_ite, bin_add, bin_sub, bin_mul, bin_quo, bin_rem, bin_eql, bin_neq, bin_lss, bin_leq, bin_gtr, bin_geq, wrap64, seqK_none, seqK_some, out_exit, out_other, out_none, out_ret, out_goto, ret_one, ret_two, ret_three, ret_nil, end_one, end_nil, decide_true, decide_false]
  refine (bound_ok k (by omega) (by omega) _).mono ?_
  rintro _ _ ⟨rfl, rfl⟩
  simp -implicitDefEqProofs (disch := omega) only [wp_cons, wp_guard, gate_tt, gate_tf, gate_ft, gate_ff, wp_nil, goon_some, goon_none, cs_pick, vsel_true, vsel_false, cs_mov, cs_asg, cs_bin, cs_un, cs_call, cev_tmp, cev_const, cev_func, cev_global, List.getD_cons_zero, List.getD_cons_succ, List.set_cons_zero, List.set_cons_succ, List.map_cons, List.map_nil, onv_some, onv_ite, bin_add, bin_sub, bin_mul, bin_quo, bin_rem, bin_eql, bin_neq, bin_lss, bin_leq, bin_gtr, bin_geq, wrap64, seqK_none, seqK_some, out_exit, out_other, out_none, out_ret, out_goto, ret_one, ret_two, ret_three, ret_nil, end_one, end_nil, decide_true, decide_false]
  rw [d2]
  have t4 : decide (k / 2 + 3 ≤ bound k) = true := decide_eq_true (by omega)
  simp -implicitDefEqProofs (disch := omega) only [wp_cons, wp_guard, gate_tt, gate_tf, gate_ft, gate_ff, wp_nil, goon_some, goon_none, cs_pick, vsel_true, vsel_false, cs_mov, cs_asg, cs_bin, cs_un, cs_call, cev_tmp, cev_const, cev_func, cev_global, List.getD_cons_zero, List.getD_cons_succ, List.set_cons_zero, List.set_cons_succ, List.map_cons, List.map_nil, onv_some, onv_ite, bin_add, bin_sub, bin_mul, bin_quo, bin_rem, bin_eql, bin_neq, bin_lss, bin_leq, bin_gtr, bin_geq, wrap64, seqK_none, seqK_some, out_exit, out_other, out_none, out_ret, out_goto, ret_one, ret_two, ret_three, ret_nil, end_one, end_nil, decide_true, decide_false, t4]
  refine (runs _).mono ?_
  rintro _ _ ⟨rfl, rfl⟩
  simp -implicitDefEqProofs (disch := omega) only [wp_cons, wp_guard, gate_tt, gate_tf, gate_ft, gate_ff, wp_nil, goon_some, goon_none, cs_pick, vsel_true, vsel_false, cs_mov, cs_asg, cs_bin, cs_un, cs_call, cev_tmp, cev_const, cev_func, cev_global, List.getD_cons_zero, List.getD_cons_succ, List.set_cons_zero, List.set_cons_succ, List.map_cons, List.map_nil, onv_some, onv_ite, bin_add, bin_sub, bin_mul, bin_quo, bin_rem, bin_eql, bin_neq, bin_lss, bin_leq, bin_gtr, bin_geq, wrap64, seqK_none, seqK_some, out_exit, out_other, out_none, out_ret, out_goto, ret_one, ret_two, ret_three, ret_nil, end_one, end_nil, decide_true, decide_false]
  refine cw_ret ?_
  simp -implicitDefEqProofs only [wp_cons, wp_guard, gate_tt, gate_tf, gate_ft, gate_ff, wp_nil, goon_some, goon_none, cs_pick, vsel_true, vsel_false, cs_mov, cs_asg, cs_bin, cs_un, cs_call, cev_tmp, cev_const, cev_func, cev_global, List.getD_cons_zero, List.getD_cons_succ, List.set_cons_zero, List.set_cons_succ, List.map_cons, List.map_nil, onv_some, onv_ite, bin_add, bin_sub, bin_mul, bin_quo, bin_rem, bin_eql, bin_neq, bin_lss, bin_leq, bin_gtr, bin_geq, wrap64, seqK_none, seqK_some, out_exit, out_other, out_none, out_ret, out_goto, ret_one, ret_two, ret_three, ret_nil, end_one, end_nil, decide_true, decide_false]
  exact ⟨trivial, trivial⟩
end Go.Proofs.YtlpaapcghcglpaaGreatDoor.Sb
