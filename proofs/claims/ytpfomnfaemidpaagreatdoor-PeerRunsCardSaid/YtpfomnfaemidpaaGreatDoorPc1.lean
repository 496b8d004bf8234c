/- The functions of the program that this law runs, compiled to the logic's own code: each equation by the kernel. -/
import Derived.Test.YtpfomnfaemidpaaGreatDoorProg
import Derived.KernelRfl
import Derived.Test.YtpfomnfaemidpaaGreatDoorCn3
namespace Go.Proofs.YtpfomnfaemidpaaGreatDoor
open Go Go.Cn Go.Proofs
set_option maxRecDepth 100000
noncomputable def c3 : CFun := ⟨67, [.tmp 0], (.seq (.reg [⟨0, .asg (.const (.bool false)), (some 0), none, []⟩])
 (.seq (.reg [⟨0, .call 5 [(.const (.int .i64 200))], (some 7), none, []⟩, ⟨1, .call 6 [], (some 8), none, []⟩, ⟨2, .call 4 [(.tmp 7), (.tmp 8), (.const (.slice none 0 0))], (some 9), none, []⟩, ⟨3, .call 5 [(.const (.int .i64 200))], (some 10), none, []⟩, ⟨4, .call 6 [], (some 11), none, []⟩, ⟨5, .call 6 [], (some 12), none, []⟩, ⟨6, .bslc 1 4 [(.string ⟨#[]⟩), (.string ⟨#[]⟩), (.bool false), (.bool false)] [(0, 4, (.tmp 12))] 27, (some 13), none, []⟩, ⟨7, .call 4 [(.tmp 10), (.tmp 11), (.tmp 13)], (some 14), none, []⟩, ⟨8, .asg (.tmp 9), (some 1), none, []⟩, ⟨9, .asg (.tmp 14), (some 2), none, []⟩])
 (.seq (.seq (.reg [⟨0, .mov (.tmp 1), (some 15), none, []⟩, ⟨1, .nileq false 0 (.tmp 15), (some 16), none, []⟩, ⟨2, .mov (.tmp 16), (some 17), none, []⟩, ⟨3, .mov (.tmp 2), (some 18), (some ((some 17), false)), []⟩, ⟨4, .nileq false 0 (.tmp 18), (some 19), (some ((some 17), false)), []⟩, ⟨5, .pick (.tmp 17) (.const (.bool true)) (.tmp 19), (some 20), none, []⟩, ⟨6, .mov (.tmp 20), (some 21), none, []⟩, ⟨7, .mov (.tmp 1), (some 22), (some ((some 21), false)), []⟩, ⟨8, .call 7 [(.tmp 22)], (some 23), (some ((some 21), false)), []⟩, ⟨9, .nileq false 0 (.tmp 23), (some 24), (some ((some 21), false)), []⟩, ⟨10, .pick (.tmp 21) (.const (.bool true)) (.tmp 24), (some 25), none, []⟩, ⟨11, .mov (.tmp 25), (some 26), none, []⟩, ⟨12, .mov (.tmp 2), (some 27), (some ((some 26), false)), []⟩, ⟨13, .call 7 [(.tmp 27)], (some 28), (some ((some 26), false)), []⟩, ⟨14, .nileq false 0 (.tmp 28), (some 29), (some ((some 26), false)), []⟩, ⟨15, .pick (.tmp 26) (.const (.bool true)) (.tmp 29), (some 30), none, []⟩])
 (.cond (.tmp 30) (.seq (.reg [⟨0, .asg (.const (.bool false)), (some 0), none, []⟩])
 .ret) .skip))
 (.seq (.reg [⟨0, .mov (.tmp 1), (some 32), none, []⟩, ⟨1, .call 7 [(.tmp 32)], (some 33), none, []⟩, ⟨2, .call 8 [(.tmp 33), (.const (.string ⟨#[120]⟩)), (.const (.bool false))], (some 34), none, []⟩, ⟨3, .mov (.tmp 34), (some 31), none, []⟩, ⟨4, .ext (.tmp 31) 0, (some 35), none, []⟩, ⟨5, .ext (.tmp 31) 1, (some 36), none, []⟩, ⟨6, .asg (.tmp 35), (some 3), none, []⟩, ⟨7, .asg (.tmp 36), (some 4), none, []⟩])
 (.seq (.reg [⟨0, .mov (.tmp 1), (some 37), none, []⟩, ⟨1, .mov (.tmp 2), (some 38), none, []⟩, ⟨2, .mov (.tmp 1), (some 39), none, []⟩, ⟨3, .call 11 [(.tmp 39)], (some 40), none, []⟩, ⟨4, .call 10 [(.tmp 38), (.tmp 40)], (some 41), none, []⟩, ⟨5, .call 9 [(.tmp 37), (.tmp 41)], (some 42), none, []⟩, ⟨6, .asg (.tmp 42), (some 5), none, []⟩])
 (.seq (.reg [⟨0, .mov (.tmp 1), (some 43), none, []⟩, ⟨1, .mov (.tmp 2), (some 44), none, []⟩, ⟨2, .mov (.tmp 1), (some 45), none, []⟩, ⟨3, .call 11 [(.tmp 45)], (some 46), none, []⟩, ⟨4, .call 10 [(.tmp 44), (.tmp 46)], (some 47), none, []⟩, ⟨5, .call 9 [(.tmp 43), (.tmp 47)], (some 48), none, []⟩, ⟨6, .asg (.tmp 48), (some 6), none, []⟩])
 (.seq (.reg [⟨0, .mov (.tmp 5), (some 49), none, []⟩, ⟨1, .bin .eql (.tmp 49) (.const (.int .i64 0)), (some 50), none, []⟩, ⟨2, .mov (.tmp 50), (some 51), none, []⟩, ⟨3, .mov (.tmp 6), (some 52), (some ((some 51), true)), []⟩, ⟨4, .bin .eql (.tmp 52) (.const (.int .i64 0)), (some 53), (some ((some 51), true)), []⟩, ⟨5, .pick (.tmp 51) (.tmp 53) (.const (.bool false)), (some 54), none, []⟩, ⟨6, .mov (.tmp 54), (some 55), none, []⟩, ⟨7, .mov (.tmp 2), (some 56), (some ((some 55), true)), []⟩, ⟨8, .call 7 [(.tmp 56)], (some 57), (some ((some 55), true)), []⟩, ⟨9, .mov (.tmp 3), (some 58), (some ((some 55), true)), []⟩, ⟨10, .call 12 [(.tmp 57), (.tmp 58)], (some 59), (some ((some 55), true)), []⟩, ⟨11, .part (.tmp 59) 0 none, (some 60), (some ((some 55), true)), []⟩, ⟨12, .pick (.tmp 55) (.tmp 60) (.const (.bool false)), (some 61), none, []⟩, ⟨13, .mov (.tmp 61), (some 62), none, []⟩, ⟨14, .mov (.tmp 1), (some 63), (some ((some 62), true)), []⟩, ⟨15, .call 13 [(.tmp 63)], (some 64), (some ((some 62), true)), []⟩, ⟨16, .bin .eql (.tmp 64) (.const (.int .i64 2)), (some 65), (some ((some 62), true)), []⟩, ⟨17, .pick (.tmp 62) (.tmp 65) (.const (.bool false)), (some 66), none, []⟩, ⟨18, .asg (.tmp 66), (some 0), none, []⟩])
 .ret)))))))⟩
theorem e3 : compFun Tryz.prog Tryz.f3 = some c3 := by kernel_rfl
noncomputable def c6 : CFun := ⟨2, [.cell 0 (some 4)], (.seq (.reg [⟨0, .new [(.string ⟨#[]⟩), (.string ⟨#[]⟩), (.bool false), (.bool false)] 27, (some 0), none, []⟩])
 (.seq (.reg [⟨0, .build [(.string ⟨#[]⟩), (.string ⟨#[]⟩), (.bool false), (.bool false)] [(0, 1, (.const (.string ⟨#[109, 101]⟩))), (1, 1, (.const (.string ⟨#[115, 101, 99, 114, 101, 116]⟩))), (2, 1, (.const (.bool true))), (3, 1, (.const (.bool true)))], (some 1), none, []⟩, ⟨1, .st (.tmp 0) (.tmp 1) 4, none, none, []⟩])
 .ret))⟩
theorem e6 : compFun Tryz.prog Tryz.f6 = some c6 := by kernel_rfl
noncomputable def c11 : CFun := ⟨49, [.tmp 2], (.seq (.reg [⟨0, .asg (.const (.string ⟨#[]⟩)), (some 2), none, []⟩])
 (.seq (.reg [⟨0, .mov (.tmp 0), (some 4), none, []⟩, ⟨1, .mov (.tmp 0), (some 5), none, []⟩, ⟨2, .mov (.tmp 0), (some 6), none, []⟩, ⟨3, .nilchk (.tmp 6), (some 7), none, []⟩, ⟨4, .fadr (.tmp 7) 6, (some 8), none, []⟩, ⟨5, .ld (.tmp 8) none, (some 9), none, []⟩, ⟨6, .bin .add (.tmp 9) (.const (.int .i64 1)), (some 10), none, []⟩, ⟨7, .nilchk (.tmp 4), (some 11), none, []⟩, ⟨8, .fadr (.tmp 11) 6, (some 12), none, []⟩, ⟨9, .st (.tmp 12) (.tmp 10) 1, none, none, []⟩, ⟨10, .nilchk (.tmp 5), (some 13), none, []⟩, ⟨11, .fadr (.tmp 13) 7, (some 14), none, []⟩, ⟨12, .st (.tmp 14) (.const (.bool false)) 1, none, none, []⟩])
 (.seq (.reg [⟨0, .mov (.tmp 0), (some 15), none, []⟩, ⟨1, .nilchk (.tmp 15), (some 16), none, []⟩, ⟨2, .fadr (.tmp 16) 6, (some 17), none, []⟩, ⟨3, .ld (.tmp 17) none, (some 18), none, []⟩, ⟨4, .mov (.tmp 0), (some 19), none, []⟩, ⟨5, .nilchk (.tmp 19), (some 20), none, []⟩, ⟨6, .fadr (.tmp 20) 0, (some 21), none, []⟩, ⟨7, .ld (.tmp 21) none, (some 22), none, []⟩, ⟨10, .mov (.tmp 0), (some 25), none, []⟩, ⟨11, .nilchk (.tmp 25), (some 26), none, []⟩, ⟨12, .fadr (.tmp 26) 0, (some 27), none, []⟩, ⟨13, .ld (.tmp 27) none, (some 28), none, []⟩, ⟨16, .mov (.tmp 0), (some 31), none, []⟩, ⟨17, .mov (.tmp 0), (some 32), none, []⟩, ⟨18, .nilchk (.tmp 32), (some 33), none, []⟩, ⟨19, .fadr (.tmp 33) 8, (some 34), none, []⟩, ⟨20, .ld (.tmp 34) none, (some 35), none, []⟩, ⟨21, .mov (.tmp 0), (some 36), none, []⟩, ⟨22, .nilchk (.tmp 36), (some 37), none, []⟩, ⟨23, .fadr (.tmp 37) 9, (some 38), none, []⟩, ⟨24, .ld (.tmp 38) none, (some 39), none, []⟩, ⟨27, .new [(.string ⟨#[]⟩), (.string ⟨#[]⟩), (.int .i64 0), (.bool false), (.bool false), (.bool false), (.slice none 0 0), (.slice none 0 0), (.slice none 0 0), (.int .i64 0)] 57, (some 3), none, []⟩, ⟨8, .call 25 [(.tmp 22)], (some 23), none, [(.tmp 17), (.tmp 27), (.tmp 34), (.tmp 38)]⟩, ⟨9, .call 24 [(.tmp 23)], (some 24), none, [(.tmp 17), (.tmp 27), (.tmp 34), (.tmp 38)]⟩, ⟨14, .call 26 [(.tmp 28)], (some 29), none, [(.tmp 17), (.tmp 34), (.tmp 38)]⟩, ⟨15, .call 24 [(.tmp 29)], (some 30), none, [(.tmp 17), (.tmp 34), (.tmp 38)]⟩, ⟨25, .call 27 [(.tmp 31), (.tmp 35), (.tmp 39)], (some 40), none, [(.tmp 17)]⟩, ⟨26, .build [(.string ⟨#[]⟩), (.string ⟨#[]⟩), (.int .i64 0), (.bool false), (.bool false), (.bool false), (.slice none 0 0), (.slice none 0 0), (.slice none 0 0), (.int .i64 0)] [(2, 1, (.tmp 18)), (4, 1, (.const (.bool true))), (5, 1, (.const (.bool true))), (6, 1, (.tmp 24)), (7, 1, (.tmp 30)), (8, 1, (.tmp 40))], (some 41), none, []⟩, ⟨28, .st (.tmp 3) (.tmp 41) 10, none, none, []⟩])
 (.seq (.reg [⟨0, .mov (.tmp 0), (some 42), none, []⟩, ⟨1, .nilchk (.tmp 42), (some 43), none, []⟩, ⟨2, .fadr (.tmp 43) 1, (some 44), none, []⟩, ⟨3, .ld (.tmp 44) (some 4), (some 45), none, []⟩, ⟨4, .ld (.tmp 3) (some 10), (some 46), none, []⟩, ⟨5, .call 28 [(.tmp 45), (.tmp 46)], (some 47), none, []⟩, ⟨6, .call 23 [(.tmp 47)], (some 48), none, []⟩, ⟨7, .asg (.tmp 48), (some 2), none, []⟩])
 .ret))))⟩
theorem e11 : compFun Tryz.prog Tryz.f11 = some c11 := by kernel_rfl
noncomputable def c18 : CFun := ⟨39, [.tmp 2], (.seq (.reg [⟨0, .asg (.const (.string ⟨#[]⟩)), (some 2), none, []⟩])
 (.seq (.reg [⟨0, .build [(.int .u32 0), (.int .u32 0), (.int .u32 0), (.int .u32 0), (.int .u32 0)] [(0, 1, (.const (.int .u32 1732584193))), (1, 1, (.const (.int .u32 4023233417))), (2, 1, (.const (.int .u32 2562383102))), (3, 1, (.const (.int .u32 271733878))), (4, 1, (.const (.int .u32 3285377520)))], (some 9), none, []⟩, ⟨1, .new [(.int .u32 0), (.int .u32 0), (.int .u32 0), (.int .u32 0), (.int .u32 0)] 81, (some 3), none, []⟩, ⟨2, .st (.tmp 3) (.tmp 9) 5, none, none, []⟩])
 (.seq (.seq (.reg [⟨0, .mov (.tmp 0), (some 10), none, []⟩, ⟨1, .call 34 [(.tmp 10)], (some 11), none, []⟩, ⟨2, .asg (.tmp 11), (some 4), none, []⟩])
 (.block 0 (.loop (.seq (.seq (.reg [⟨0, .mov (.tmp 4), (some 12), none, []⟩, ⟨1, .lenL (.tmp 12), (some 13), none, []⟩, ⟨2, .bin .gtr (.tmp 13) (.const (.int .i64 0)), (some 14), none, []⟩])
 (.cond (.tmp 14) .skip (.exit 0)))
 (.seq (.block 1 (.reg [⟨0, .mov (.tmp 4), (some 17), none, []⟩, ⟨1, .slcS (.tmp 17) none (some (.const (.int .i64 64))) none 1, (some 18), none, []⟩, ⟨2, .call 35 [(.tmp 3), (.tmp 18)], (some 19), none, []⟩]))
 (.reg [⟨0, .mov (.tmp 4), (some 15), none, []⟩, ⟨1, .slcS (.tmp 15) (some (.const (.int .i64 64))) none none 1, (some 16), none, []⟩, ⟨2, .asg (.tmp 16), (some 4), none, []⟩]))))))
 (.seq (.reg [⟨0, .asg (.const (.slice none 0 0)), (some 5), none, []⟩])
 (.seq (.seq (.reg [⟨0, .ld (.tmp 3) (some 5), (some 20), none, []⟩, ⟨1, .mov (.const (.int .i64 0)), (some 21), none, []⟩])
 (.block 2 (.loop (.seq (.reg [⟨0, .bin .lss (.tmp 21) (.const (.int .i64 5)), (some 22), none, []⟩])
 (.seq (.cond (.tmp 22) .skip (.exit 2))
 (.seq (.block 3 (.seq (.reg [⟨0, .aidx (.tmp 20) (.tmp 21) 5 1 false, (some 23), none, []⟩, ⟨1, .asg (.tmp 23), (some 7), none, []⟩])
 (.seq (.reg [⟨0, .asg (.const (.int .i64 28)), (some 8), none, []⟩])
 (.block 4 (.loop (.seq (.seq (.reg [⟨0, .mov (.tmp 8), (some 24), none, []⟩, ⟨1, .bin .geq (.tmp 24) (.const (.int .i64 0)), (some 25), none, []⟩])
 (.cond (.tmp 25) .skip (.exit 4)))
 (.seq (.block 5 (.reg [⟨0, .mov (.tmp 5), (some 28), none, []⟩, ⟨1, .mov (.tmp 7), (some 29), none, []⟩, ⟨2, .mov (.tmp 8), (some 30), none, []⟩, ⟨3, .bin .shr (.tmp 29) (.tmp 30), (some 31), none, []⟩, ⟨4, .bin .and (.tmp 31) (.const (.int .u32 15)), (some 32), none, []⟩, ⟨5, .sidx (.const (.string ⟨#[48, 49, 50, 51, 52, 53, 54, 55, 56, 57, 97, 98, 99, 100, 101, 102]⟩)) (.tmp 32), (some 33), none, []⟩, ⟨6, .bslc 1 1 [(.int .u8 0)] [(0, 1, (.tmp 33))] 5, (some 34), none, []⟩, ⟨7, .app 1 1 [(.int .u8 0)] (.tmp 28) (.tmp 34) 5, (some 35), none, []⟩, ⟨8, .asg (.tmp 35), (some 5), none, []⟩]))
 (.reg [⟨0, .mov (.tmp 8), (some 26), none, []⟩, ⟨1, .bin .sub (.tmp 26) (.const (.int .i64 4)), (some 27), none, []⟩, ⟨2, .asg (.tmp 27), (some 8), none, []⟩]))))))))
 (.reg [⟨0, .bin .add (.tmp 21) (.const (.int .i64 1)), (some 36), none, []⟩, ⟨1, .mov (.tmp 36), (some 21), none, []⟩])))))))
 (.seq (.reg [⟨0, .mov (.tmp 5), (some 37), none, []⟩, ⟨1, .b2s (.tmp 37), (some 38), none, []⟩, ⟨2, .asg (.tmp 38), (some 2), none, []⟩])
 .ret))))))⟩
theorem e18 : compFun Tryz.prog Tryz.f18 = some c18 := by kernel_rfl
noncomputable def c20 : CFun := ⟨133, [.cell 2 (some 10), .tmp 3], (.seq (.reg [⟨0, .new [(.string ⟨#[]⟩), (.string ⟨#[]⟩), (.int .i64 0), (.bool false), (.bool false), (.bool false), (.slice none 0 0), (.slice none 0 0), (.slice none 0 0), (.int .i64 0)] 57, (some 2), none, []⟩, ⟨1, .asg (.const (.bool false)), (some 3), none, []⟩])
 (.scope (.seq (.reg [⟨0, .new [(.string ⟨#[]⟩), (.string ⟨#[]⟩), (.int .i64 0), (.bool false), (.bool false), (.bool false), (.slice none 0 0), (.slice none 0 0), (.slice none 0 0), (.int .i64 0)] 57, (some 4), none, []⟩])
 (.seq (.reg [⟨0, .mov (.tmp 0), (some 15), none, []⟩, ⟨1, .asg (.tmp 15), (some 5), none, []⟩])
 (.seq (.label 0)
 (.seq (.block 0 (.loop (.seq (.seq (.reg [⟨0, .mov (.tmp 5), (some 16), none, []⟩, ⟨1, .bin .neq (.tmp 16) (.const (.string ⟨#[]⟩)), (some 17), none, []⟩, ⟨2, .mov (.tmp 17), (some 18), none, []⟩, ⟨3, .mov (.tmp 0), (some 19), (some ((some 18), true)), []⟩, ⟨4, .lenS (.tmp 19), (some 20), (some ((some 18), true)), []⟩, ⟨5, .bin .leq (.tmp 20) (.const (.int .i64 6000)), (some 21), (some ((some 18), true)), []⟩, ⟨6, .pick (.tmp 18) (.tmp 21) (.const (.bool false)), (some 22), none, []⟩])
 (.cond (.tmp 22) .skip (.exit 0)))
 (.block 1 (.seq (.reg [⟨0, .mov (.tmp 5), (some 24), none, []⟩, ⟨1, .call 43 [(.tmp 24), (.const (.string ⟨#[10]⟩))], (some 25), none, []⟩, ⟨2, .mov (.tmp 25), (some 23), none, []⟩, ⟨3, .ext (.tmp 23) 0, (some 26), none, []⟩, ⟨4, .ext (.tmp 23) 1, (some 27), none, []⟩, ⟨5, .ext (.tmp 23) 2, (some 28), none, []⟩, ⟨6, .asg (.tmp 26), (some 6), none, []⟩, ⟨7, .asg (.tmp 27), (some 7), none, []⟩, ⟨8, .asg (.tmp 28), (some 8), none, []⟩])
 (.seq (.seq (.reg [⟨0, .mov (.tmp 8), (some 29), none, []⟩, ⟨1, .un .not (.tmp 29), (some 30), none, []⟩])
 (.cond (.tmp 30) (.exit 0) .skip))
 (.seq (.reg [⟨0, .mov (.tmp 6), (some 31), none, []⟩, ⟨1, .call 44 [(.tmp 31), (.const (.string ⟨#[32]⟩))], (some 32), none, []⟩, ⟨2, .asg (.tmp 32), (some 9), none, []⟩])
 (.seq (.reg [⟨0, .mov (.tmp 9), (some 33), none, []⟩, ⟨1, .mov (.tmp 9), (some 34), none, []⟩, ⟨2, .lenL (.tmp 34), (some 35), none, []⟩, ⟨3, .bin .sub (.tmp 35) (.const (.int .i64 1)), (some 36), none, []⟩, ⟨4, .iadrS (.tmp 33) (.tmp 36) 1, (some 37), none, []⟩, ⟨5, .ld (.tmp 37) none, (some 38), none, []⟩, ⟨6, .asg (.tmp 38), (some 10), none, []⟩])
 (.seq (.seq (.reg [⟨0, .mov (.tmp 9), (some 39), none, []⟩, ⟨1, .iadrS (.tmp 39) (.const (.int .i64 0)) 1, (some 40), none, []⟩, ⟨2, .ld (.tmp 40) none, (some 41), none, []⟩])
 (.block 2 (.seq (.reg [⟨0, .bin .eql (.tmp 41) (.const (.string ⟨#[108, 111, 103, 105, 110]⟩)), (some 66), none, []⟩, ⟨1, .asg (.tmp 66), (some 65), none, []⟩])
 (.cond (.tmp 65) (.seq (.seq (.reg [⟨0, .mov (.tmp 9), (some 67), none, []⟩, ⟨1, .lenL (.tmp 67), (some 68), none, []⟩, ⟨2, .bin .neq (.tmp 68) (.const (.int .i64 3)), (some 69), none, []⟩])
 (.cond (.tmp 69) (.exit 0) .skip))
 (.reg [⟨0, .mov (.tmp 9), (some 70), none, []⟩, ⟨1, .iadrS (.tmp 70) (.const (.int .i64 1)) 1, (some 71), none, []⟩, ⟨2, .ld (.tmp 71) none, (some 72), none, []⟩, ⟨3, .mov (.tmp 10), (some 73), none, []⟩, ⟨4, .fadr (.tmp 4) 0, (some 74), none, []⟩, ⟨5, .st (.tmp 74) (.tmp 72) 1, none, none, []⟩, ⟨6, .fadr (.tmp 4) 1, (some 75), none, []⟩, ⟨7, .st (.tmp 75) (.tmp 73) 1, none, none, []⟩])) (.seq (.reg [⟨0, .bin .eql (.tmp 41) (.const (.string ⟨#[114, 111, 117, 110, 100]⟩)), (some 77), none, []⟩, ⟨1, .asg (.tmp 77), (some 76), none, []⟩])
 (.cond (.tmp 76) (.reg [⟨0, .mov (.tmp 10), (some 79), none, []⟩, ⟨1, .call 45 [(.tmp 79)], (some 80), none, []⟩, ⟨2, .mov (.tmp 80), (some 78), none, []⟩, ⟨3, .ext (.tmp 78) 0, (some 81), none, []⟩, ⟨4, .ext (.tmp 78) 1, (some 82), none, []⟩, ⟨5, .fadr (.tmp 4) 2, (some 83), none, []⟩, ⟨6, .st (.tmp 83) (.tmp 81) 1, none, none, []⟩]) (.seq (.reg [⟨0, .bin .eql (.tmp 41) (.const (.string ⟨#[97, 110, 115, 119, 101, 114]⟩)), (some 85), none, []⟩, ⟨1, .asg (.tmp 85), (some 84), none, []⟩])
 (.cond (.tmp 84) (.reg [⟨0, .fadr (.tmp 4) 3, (some 86), none, []⟩, ⟨1, .st (.tmp 86) (.const (.bool true)) 1, none, none, []⟩]) (.seq (.reg [⟨0, .bin .eql (.tmp 41) (.const (.string ⟨#[112, 117, 115, 104]⟩)), (some 88), none, []⟩, ⟨1, .asg (.tmp 88), (some 87), none, []⟩])
 (.cond (.tmp 87) (.reg [⟨0, .fadr (.tmp 4) 4, (some 89), none, []⟩, ⟨1, .st (.tmp 89) (.const (.bool true)) 1, none, none, []⟩]) (.seq (.reg [⟨0, .bin .eql (.tmp 41) (.const (.string ⟨#[112, 117, 108, 108]⟩)), (some 91), none, []⟩, ⟨1, .asg (.tmp 91), (some 90), none, []⟩])
 (.cond (.tmp 90) (.reg [⟨0, .fadr (.tmp 4) 5, (some 92), none, []⟩, ⟨1, .st (.tmp 92) (.const (.bool true)) 1, none, none, []⟩]) (.seq (.reg [⟨0, .bin .eql (.tmp 41) (.const (.string ⟨#[105, 103, 111, 116]⟩)), (some 94), none, []⟩, ⟨1, .asg (.tmp 94), (some 93), none, []⟩])
 (.cond (.tmp 93) (.reg [⟨0, .fadr (.tmp 4) 6, (some 95), none, []⟩, ⟨1, .ld (.tmp 95) none, (some 96), none, []⟩, ⟨2, .mov (.tmp 10), (some 97), none, []⟩, ⟨3, .bslc 1 1 [(.string ⟨#[]⟩)] [(0, 1, (.tmp 97))] 9, (some 98), none, []⟩, ⟨4, .app 1 16 [(.string ⟨#[]⟩)] (.tmp 96) (.tmp 98) 9, (some 99), none, []⟩, ⟨5, .fadr (.tmp 4) 6, (some 100), none, []⟩, ⟨6, .st (.tmp 100) (.tmp 99) 1, none, none, []⟩]) (.seq (.reg [⟨0, .bin .eql (.tmp 41) (.const (.string ⟨#[103, 105, 109, 109, 101]⟩)), (some 102), none, []⟩, ⟨1, .asg (.tmp 102), (some 101), none, []⟩])
 (.cond (.tmp 101) (.reg [⟨0, .fadr (.tmp 4) 7, (some 103), none, []⟩, ⟨1, .ld (.tmp 103) none, (some 104), none, []⟩, ⟨2, .mov (.tmp 10), (some 105), none, []⟩, ⟨3, .bslc 1 1 [(.string ⟨#[]⟩)] [(0, 1, (.tmp 105))] 9, (some 106), none, []⟩, ⟨4, .app 1 16 [(.string ⟨#[]⟩)] (.tmp 104) (.tmp 106) 9, (some 107), none, []⟩, ⟨5, .fadr (.tmp 4) 7, (some 108), none, []⟩, ⟨6, .st (.tmp 108) (.tmp 107) 1, none, none, []⟩]) (.seq (.reg [⟨0, .bin .eql (.tmp 41) (.const (.string ⟨#[101, 114, 114, 111, 114]⟩)), (some 110), none, []⟩, ⟨1, .asg (.tmp 110), (some 109), none, []⟩])
 (.cond (.tmp 109) (.seq (.reg [⟨0, .mov (.tmp 10), (some 112), none, []⟩, ⟨1, .call 45 [(.tmp 112)], (some 113), none, []⟩, ⟨2, .mov (.tmp 113), (some 111), none, []⟩, ⟨3, .ext (.tmp 111) 0, (some 114), none, []⟩, ⟨4, .ext (.tmp 111) 1, (some 115), none, []⟩, ⟨5, .asg (.tmp 114), (some 11), none, []⟩, ⟨6, .asg (.tmp 115), (some 12), none, []⟩])
 (.reg [⟨0, .mov (.tmp 11), (some 116), none, []⟩, ⟨1, .fadr (.tmp 4) 9, (some 117), none, []⟩, ⟨2, .st (.tmp 117) (.tmp 116) 1, none, none, []⟩])) (.seq (.reg [⟨1, .mov (.tmp 9), (some 43), none, []⟩, ⟨2, .iadrS (.tmp 43) (.const (.int .i64 0)) 1, (some 44), none, []⟩, ⟨3, .ld (.tmp 44) none, (some 45), none, []⟩, ⟨0, .call 47 [], (some 42), none, [(.tmp 44)]⟩, ⟨4, .call 46 [(.tmp 42), (.tmp 45)], (some 46), none, []⟩, ⟨5, .asg (.tmp 46), (some 13), none, []⟩])
 (.seq (.reg [⟨0, .new [(.int .i64 0), (.string ⟨#[]⟩), (.string ⟨#[]⟩), (.string ⟨#[]⟩)] 102, (some 14), none, []⟩])
 (.seq (.seq (.reg [⟨0, .mov (.tmp 13), (some 47), none, []⟩, ⟨1, .bin .lss (.tmp 47) (.const (.int .i64 1)), (some 48), none, []⟩])
 (.cond (.tmp 48) (.exit 0) .skip))
 (.seq (.seq (.reg [⟨0, .mov (.tmp 13), (some 50), none, []⟩, ⟨1, .mov (.tmp 9), (some 51), none, []⟩, ⟨2, .mov (.tmp 7), (some 52), none, []⟩, ⟨3, .call 48 [(.tmp 50), (.tmp 51), (.tmp 52)], (some 53), none, []⟩, ⟨4, .mov (.tmp 53), (some 49), none, []⟩, ⟨5, .ext (.tmp 49) 0, (some 54), none, []⟩, ⟨6, .ext (.tmp 49) 1, (some 55), none, []⟩, ⟨7, .ext (.tmp 49) 2, (some 56), none, []⟩, ⟨8, .st (.tmp 14) (.tmp 54) 4, none, none, []⟩, ⟨9, .asg (.tmp 55), (some 7), none, []⟩, ⟨10, .asg (.tmp 56), (some 8), none, []⟩])
 (.seq (.reg [⟨0, .mov (.tmp 8), (some 57), none, []⟩, ⟨1, .un .not (.tmp 57), (some 58), none, []⟩])
 (.cond (.tmp 58) (.exit 0) .skip)))
 (.reg [⟨0, .fadr (.tmp 4) 8, (some 59), none, []⟩, ⟨1, .ld (.tmp 59) none, (some 60), none, []⟩, ⟨2, .ld (.tmp 14) (some 4), (some 61), none, []⟩, ⟨3, .bslc 1 4 [(.int .i64 0), (.string ⟨#[]⟩), (.string ⟨#[]⟩), (.string ⟨#[]⟩)] [(0, 4, (.tmp 61))] 102, (some 62), none, []⟩, ⟨4, .app 4 56 [(.int .i64 0), (.string ⟨#[]⟩), (.string ⟨#[]⟩), (.string ⟨#[]⟩)] (.tmp 60) (.tmp 62) 102, (some 63), none, []⟩, ⟨5, .fadr (.tmp 4) 8, (some 64), none, []⟩, ⟨6, .st (.tmp 64) (.tmp 63) 1, none, none, []⟩])))))))))))))))))))))))
 (.reg [⟨0, .mov (.tmp 7), (some 118), none, []⟩, ⟨1, .asg (.tmp 118), (some 5), none, []⟩]))))))))))
 (.seq (.seq (.reg [⟨0, .mov (.tmp 0), (some 119), none, []⟩, ⟨1, .bin .eql (.tmp 119) (.const (.string ⟨#[]⟩)), (some 120), none, []⟩, ⟨2, .mov (.tmp 120), (some 121), none, []⟩, ⟨3, .mov (.tmp 5), (some 122), (some ((some 121), false)), []⟩, ⟨4, .bin .neq (.tmp 122) (.const (.string ⟨#[]⟩)), (some 123), (some ((some 121), false)), []⟩, ⟨5, .pick (.tmp 121) (.const (.bool true)) (.tmp 123), (some 124), none, []⟩, ⟨6, .mov (.tmp 124), (some 125), none, []⟩, ⟨7, .ld (.tmp 4) (some 10), (some 126), (some ((some 125), false)), []⟩, ⟨8, .call 23 [(.tmp 126)], (some 127), (some ((some 125), false)), []⟩, ⟨9, .mov (.tmp 0), (some 128), (some ((some 125), false)), []⟩, ⟨10, .bin .neq (.tmp 127) (.tmp 128), (some 129), (some ((some 125), false)), []⟩, ⟨11, .pick (.tmp 125) (.const (.bool true)) (.tmp 129), (some 130), none, []⟩])
 (.cond (.tmp 130) (.seq (.reg [⟨0, .build [(.string ⟨#[]⟩), (.string ⟨#[]⟩), (.int .i64 0), (.bool false), (.bool false), (.bool false), (.slice none 0 0), (.slice none 0 0), (.slice none 0 0), (.int .i64 0)] [], (some 131), none, []⟩, ⟨1, .st (.tmp 2) (.tmp 131) 10, none, none, []⟩, ⟨2, .asg (.const (.bool false)), (some 3), none, []⟩])
 .ret) .skip))
 (.seq (.reg [⟨0, .ld (.tmp 4) (some 10), (some 132), none, []⟩, ⟨1, .st (.tmp 2) (.tmp 132) 10, none, none, []⟩, ⟨2, .asg (.const (.bool true)), (some 3), none, []⟩])
 .ret))))))))⟩
theorem e20 : compFun Tryz.prog Tryz.f20 = some c20 := by kernel_rfl
noncomputable def c23 : CFun := ⟨21, [.tmp 2], (.seq (.reg [⟨0, .box (.tmp 0) 10 57, (some 1), none, []⟩, ⟨1, .asg (.const (.string ⟨#[]⟩)), (some 2), none, []⟩])
 (.seq (.seq (.reg [⟨0, .fadr (.tmp 1) 1, (some 4), none, []⟩, ⟨1, .ld (.tmp 4) none, (some 5), none, []⟩, ⟨2, .bin .eql (.tmp 5) (.const (.string ⟨#[]⟩)), (some 6), none, []⟩])
 (.cond (.tmp 6) (.seq (.reg [⟨0, .ld (.tmp 1) (some 10), (some 7), none, []⟩, ⟨1, .call 54 [(.tmp 7)], (some 8), none, []⟩, ⟨2, .asg (.tmp 8), (some 2), none, []⟩])
 .ret) .skip))
 (.seq (.reg [⟨0, .ld (.tmp 1) (some 10), (some 9), none, []⟩, ⟨1, .call 54 [(.tmp 9)], (some 10), none, []⟩, ⟨2, .asg (.tmp 10), (some 3), none, []⟩])
 (.seq (.seq (.reg [⟨0, .mov (.tmp 3), (some 11), none, []⟩, ⟨1, .bin .eql (.tmp 11) (.const (.string ⟨#[]⟩)), (some 12), none, []⟩])
 (.cond (.tmp 12) (.seq (.reg [⟨0, .asg (.const (.string ⟨#[]⟩)), (some 2), none, []⟩])
 .ret) .skip))
 (.seq (.reg [⟨0, .fadr (.tmp 1) 0, (some 13), none, []⟩, ⟨1, .ld (.tmp 13) none, (some 14), none, []⟩, ⟨2, .fadr (.tmp 1) 1, (some 15), none, []⟩, ⟨3, .ld (.tmp 15) none, (some 16), none, []⟩, ⟨4, .bslc 3 1 [(.string ⟨#[]⟩), (.string ⟨#[]⟩), (.string ⟨#[]⟩)] [(0, 1, (.const (.string ⟨#[108, 111, 103, 105, 110]⟩))), (1, 1, (.tmp 14)), (2, 1, (.tmp 16))] 9, (some 17), none, []⟩, ⟨5, .call 55 [(.tmp 17)], (some 18), none, []⟩, ⟨6, .mov (.tmp 3), (some 19), none, []⟩, ⟨7, .bin .add (.tmp 18) (.tmp 19), (some 20), none, []⟩, ⟨8, .asg (.tmp 20), (some 2), none, []⟩])
 .ret)))))⟩
theorem e23 : compFun Tryz.prog Tryz.f23 = some c23 := by kernel_rfl
noncomputable def c26 : CFun := ⟨5, [.tmp 2], (.seq (.reg [⟨0, .asg (.const .nilFunc), (some 2), none, []⟩])
 (.seq (.reg [⟨0, .mov (.tmp 0), (some 3), none, []⟩, ⟨1, .call 58 [(.tmp 3), (.const (.string ⟨#[112]⟩))], (some 4), none, []⟩, ⟨2, .asg (.tmp 4), (some 2), none, []⟩])
 .ret))⟩
theorem e26 : compFun Tryz.prog Tryz.f26 = some c26 := by kernel_rfl
noncomputable def c35 : CFun := ⟨88, [], (.seq (.reg [⟨0, .mov (.tmp 1), (some 16), none, []⟩, ⟨1, .call 75 [(.tmp 16)], (some 17), none, []⟩, ⟨2, .new [(.int .u32 0), (.int .u32 0), (.int .u32 0), (.int .u32 0), (.int .u32 0), (.int .u32 0), (.int .u32 0), (.int .u32 0), (.int .u32 0), (.int .u32 0), (.int .u32 0), (.int .u32 0), (.int .u32 0), (.int .u32 0), (.int .u32 0), (.int .u32 0), (.int .u32 0), (.int .u32 0), (.int .u32 0), (.int .u32 0), (.int .u32 0), (.int .u32 0), (.int .u32 0), (.int .u32 0), (.int .u32 0), (.int .u32 0), (.int .u32 0), (.int .u32 0), (.int .u32 0), (.int .u32 0), (.int .u32 0), (.int .u32 0), (.int .u32 0), (.int .u32 0), (.int .u32 0), (.int .u32 0), (.int .u32 0), (.int .u32 0), (.int .u32 0), (.int .u32 0), (.int .u32 0), (.int .u32 0), (.int .u32 0), (.int .u32 0), (.int .u32 0), (.int .u32 0), (.int .u32 0), (.int .u32 0), (.int .u32 0), (.int .u32 0), (.int .u32 0), (.int .u32 0), (.int .u32 0), (.int .u32 0), (.int .u32 0), (.int .u32 0), (.int .u32 0), (.int .u32 0), (.int .u32 0), (.int .u32 0), (.int .u32 0), (.int .u32 0), (.int .u32 0), (.int .u32 0), (.int .u32 0), (.int .u32 0), (.int .u32 0), (.int .u32 0), (.int .u32 0), (.int .u32 0), (.int .u32 0), (.int .u32 0), (.int .u32 0), (.int .u32 0), (.int .u32 0), (.int .u32 0), (.int .u32 0), (.int .u32 0), (.int .u32 0), (.int .u32 0)] 142, (some 4), none, []⟩, ⟨3, .st (.tmp 4) (.tmp 17) 80, none, none, []⟩])
 (.seq (.reg [⟨0, .mov (.tmp 0), (some 18), none, []⟩, ⟨1, .nilchk (.tmp 18), (some 19), none, []⟩, ⟨2, .iadrA (.tmp 19) (.const (.int .i64 0)) 5 1, (some 20), none, []⟩, ⟨3, .ld (.tmp 20) none, (some 21), none, []⟩, ⟨4, .mov (.tmp 0), (some 22), none, []⟩, ⟨5, .nilchk (.tmp 22), (some 23), none, []⟩, ⟨6, .iadrA (.tmp 23) (.const (.int .i64 1)) 5 1, (some 24), none, []⟩, ⟨7, .ld (.tmp 24) none, (some 25), none, []⟩, ⟨8, .mov (.tmp 0), (some 26), none, []⟩, ⟨9, .nilchk (.tmp 26), (some 27), none, []⟩, ⟨10, .iadrA (.tmp 27) (.const (.int .i64 2)) 5 1, (some 28), none, []⟩, ⟨11, .ld (.tmp 28) none, (some 29), none, []⟩, ⟨12, .mov (.tmp 0), (some 30), none, []⟩, ⟨13, .nilchk (.tmp 30), (some 31), none, []⟩, ⟨14, .iadrA (.tmp 31) (.const (.int .i64 3)) 5 1, (some 32), none, []⟩, ⟨15, .ld (.tmp 32) none, (some 33), none, []⟩, ⟨16, .mov (.tmp 0), (some 34), none, []⟩, ⟨17, .nilchk (.tmp 34), (some 35), none, []⟩, ⟨18, .iadrA (.tmp 35) (.const (.int .i64 4)) 5 1, (some 36), none, []⟩, ⟨19, .ld (.tmp 36) none, (some 37), none, []⟩, ⟨20, .asg (.tmp 21), (some 5), none, [(.tmp 24), (.tmp 28), (.tmp 32), (.tmp 36)]⟩, ⟨21, .asg (.tmp 25), (some 6), none, [(.tmp 28), (.tmp 32), (.tmp 36)]⟩, ⟨22, .asg (.tmp 29), (some 7), none, [(.tmp 32), (.tmp 36)]⟩, ⟨23, .asg (.tmp 33), (some 8), none, [(.tmp 36)]⟩, ⟨24, .asg (.tmp 37), (some 9), none, []⟩])
 (.seq (.seq (.reg [⟨0, .mov (.const (.int .i64 0)), (some 38), none, []⟩])
 (.block 0 (.loop (.seq (.reg [⟨0, .bin .lss (.tmp 38) (.const (.int .i64 80)), (some 39), none, []⟩])
 (.seq (.cond (.tmp 39) .skip (.exit 0))
 (.seq (.block 1 (.seq (.reg [⟨0, .mov (.tmp 38), (some 40), none, []⟩, ⟨1, .asg (.tmp 40), (some 10), none, []⟩])
 (.seq (.reg [⟨0, .mov (.tmp 10), (some 42), none, []⟩, ⟨1, .mov (.tmp 6), (some 43), none, []⟩, ⟨2, .mov (.tmp 7), (some 44), none, []⟩, ⟨3, .mov (.tmp 8), (some 45), none, []⟩, ⟨4, .call 76 [(.tmp 42), (.tmp 43), (.tmp 44), (.tmp 45)], (some 46), none, []⟩, ⟨5, .mov (.tmp 46), (some 41), none, []⟩, ⟨6, .ext (.tmp 41) 0, (some 47), none, []⟩, ⟨7, .ext (.tmp 41) 1, (some 48), none, []⟩, ⟨8, .asg (.tmp 47), (some 11), none, []⟩, ⟨9, .asg (.tmp 48), (some 12), none, []⟩])
 (.seq (.reg [⟨0, .mov (.tmp 5), (some 49), none, []⟩, ⟨2, .mov (.tmp 11), (some 51), none, []⟩, ⟨4, .mov (.tmp 9), (some 53), none, []⟩, ⟨6, .mov (.tmp 12), (some 55), none, []⟩, ⟨8, .mov (.tmp 10), (some 57), none, []⟩, ⟨9, .iadrA (.tmp 4) (.tmp 57) 80 1, (some 58), none, []⟩, ⟨10, .ld (.tmp 58) none, (some 59), none, []⟩, ⟨1, .call 77 [(.tmp 49), (.const (.int .i64 5))], (some 50), none, [(.tmp 58)]⟩, ⟨3, .bin .add (.tmp 50) (.tmp 51), (some 52), none, []⟩, ⟨5, .bin .add (.tmp 52) (.tmp 53), (some 54), none, []⟩, ⟨7, .bin .add (.tmp 54) (.tmp 55), (some 56), none, []⟩, ⟨11, .bin .add (.tmp 56) (.tmp 59), (some 60), none, []⟩, ⟨12, .asg (.tmp 60), (some 13), none, []⟩])
 (.reg [⟨0, .mov (.tmp 13), (some 61), none, []⟩, ⟨1, .mov (.tmp 5), (some 62), none, []⟩, ⟨2, .mov (.tmp 6), (some 63), none, []⟩, ⟨3, .call 77 [(.tmp 63), (.const (.int .i64 30))], (some 64), none, []⟩, ⟨4, .mov (.tmp 7), (some 65), none, []⟩, ⟨5, .mov (.tmp 8), (some 66), none, []⟩, ⟨6, .asg (.tmp 61), (some 5), none, []⟩, ⟨7, .asg (.tmp 62), (some 6), none, []⟩, ⟨8, .asg (.tmp 64), (some 7), none, []⟩, ⟨9, .asg (.tmp 65), (some 8), none, []⟩, ⟨10, .asg (.tmp 66), (some 9), none, []⟩])))))
 (.reg [⟨0, .bin .add (.tmp 38) (.const (.int .i64 1)), (some 67), none, []⟩, ⟨1, .mov (.tmp 67), (some 38), none, []⟩])))))))
 (.seq (.reg [⟨0, .mov (.tmp 5), (some 68), none, []⟩, ⟨1, .mov (.tmp 6), (some 69), none, []⟩, ⟨2, .mov (.tmp 7), (some 70), none, []⟩, ⟨3, .mov (.tmp 8), (some 71), none, []⟩, ⟨4, .mov (.tmp 9), (some 72), none, []⟩, ⟨5, .build [(.int .u32 0), (.int .u32 0), (.int .u32 0), (.int .u32 0), (.int .u32 0)] [(0, 1, (.tmp 68)), (1, 1, (.tmp 69)), (2, 1, (.tmp 70)), (3, 1, (.tmp 71)), (4, 1, (.tmp 72))], (some 73), none, []⟩, ⟨6, .mov (.const (.int .i64 0)), (some 74), none, []⟩])
 (.block 2 (.loop (.seq (.reg [⟨0, .bin .lss (.tmp 74) (.const (.int .i64 5)), (some 75), none, []⟩])
 (.seq (.cond (.tmp 75) .skip (.exit 2))
 (.seq (.block 3 (.seq (.reg [⟨0, .mov (.tmp 74), (some 76), none, []⟩, ⟨1, .aidx (.tmp 73) (.tmp 74) 5 1 false, (some 77), none, []⟩, ⟨2, .asg (.tmp 76), (some 14), none, []⟩, ⟨3, .asg (.tmp 77), (some 15), none, []⟩])
 (.reg [⟨0, .mov (.tmp 0), (some 78), none, []⟩, ⟨1, .mov (.tmp 14), (some 79), none, []⟩, ⟨2, .nilchk (.tmp 78), (some 80), none, []⟩, ⟨3, .iadrA (.tmp 80) (.tmp 79) 5 1, (some 81), none, []⟩, ⟨4, .ld (.tmp 81) none, (some 82), none, []⟩, ⟨5, .mov (.tmp 15), (some 83), none, []⟩, ⟨6, .bin .add (.tmp 82) (.tmp 83), (some 84), none, []⟩, ⟨7, .nilchk (.tmp 78), (some 85), none, []⟩, ⟨8, .iadrA (.tmp 85) (.tmp 79) 5 1, (some 86), none, []⟩, ⟨9, .st (.tmp 86) (.tmp 84) 1, none, none, []⟩])))
 (.reg [⟨0, .bin .add (.tmp 74) (.const (.int .i64 1)), (some 87), none, []⟩, ⟨1, .mov (.tmp 87), (some 74), none, []⟩]))))))))))⟩
theorem e35 : compFun Tryz.prog Tryz.f35 = some c35 := by kernel_rfl
noncomputable def c36 : CFun := ⟨28, [.tmp 4], (.seq (.reg [⟨0, .box (.tmp 1) 3 53, (some 3), none, []⟩, ⟨1, .asg (.const (.int .i64 0)), (some 4), none, []⟩])
 (.seq (.block 0 (.seq (.reg [⟨0, .fadr (.tmp 3) 1, (some 6), none, []⟩, ⟨1, .ld (.tmp 6) none, (some 7), none, []⟩, ⟨2, .lenS (.tmp 7), (some 8), none, []⟩, ⟨3, .bin .gtr (.tmp 8) (.const (.int .i64 300)), (some 9), none, []⟩, ⟨4, .mov (.tmp 9), (some 10), none, []⟩, ⟨5, .fadr (.tmp 3) 0, (some 11), (some ((some 10), false)), []⟩, ⟨6, .ld (.tmp 11) none, (some 12), (some ((some 10), false)), []⟩, ⟨7, .call 39 [(.tmp 12)], (some 13), (some ((some 10), false)), []⟩, ⟨8, .un .not (.tmp 13), (some 14), (some ((some 10), false)), []⟩, ⟨9, .pick (.tmp 10) (.const (.bool true)) (.tmp 14), (some 15), none, []⟩, ⟨10, .asg (.tmp 15), (some 5), none, []⟩])
 (.cond (.tmp 5) (.seq (.reg [⟨0, .asg (.const (.int .i64 1)), (some 4), none, []⟩])
 .ret) (.seq (.reg [⟨0, .fadr (.tmp 3) 1, (some 17), none, []⟩, ⟨1, .ld (.tmp 17) none, (some 18), none, []⟩, ⟨3, .fadr (.tmp 3) 0, (some 20), none, []⟩, ⟨4, .ld (.tmp 20) none, (some 21), none, []⟩, ⟨2, .call 18 [(.tmp 18)], (some 19), none, [(.tmp 20)]⟩, ⟨5, .bin .neq (.tmp 19) (.tmp 21), (some 22), none, []⟩, ⟨6, .asg (.tmp 22), (some 16), none, []⟩])
 (.cond (.tmp 16) (.seq (.reg [⟨0, .asg (.const (.int .i64 2)), (some 4), none, []⟩])
 .ret) (.seq (.reg [⟨0, .mov (.tmp 0), (some 24), none, []⟩, ⟨1, .fadr (.tmp 3) 0, (some 25), none, []⟩, ⟨2, .ld (.tmp 25) none, (some 26), none, []⟩, ⟨3, .call 30 [(.tmp 24), (.const (.string ⟨#[115]⟩)), (.tmp 26)], (some 27), none, []⟩, ⟨4, .asg (.tmp 27), (some 23), none, []⟩])
 (.cond (.tmp 23) (.seq (.reg [⟨0, .asg (.const (.int .i64 5)), (some 4), none, []⟩])
 .ret) .skip)))))))
 (.seq (.reg [⟨0, .asg (.const (.int .i64 0)), (some 4), none, []⟩])
 .ret)))⟩
theorem e36 : compFun Tryz.prog Tryz.f36 = some c36 := by kernel_rfl
noncomputable def c38 : CFun := ⟨38, [.tmp 4], (.seq (.reg [⟨0, .box (.tmp 0) 1 29, (some 2), none, []⟩, ⟨1, .box (.tmp 1) 1 9, (some 3), none, []⟩, ⟨2, .asg (.const (.string ⟨#[]⟩)), (some 4), none, []⟩])
 (.seq (.reg [⟨0, .new [(.string ⟨#[]⟩)] 9, (some 5), none, []⟩, ⟨1, .new [(.int .i64 0)] 3, (some 6), none, []⟩, ⟨2, .st (.tmp 5) (.const (.string ⟨#[]⟩)) 1, none, none, []⟩, ⟨3, .st (.tmp 6) (.const (.int .i64 0)) 1, none, none, []⟩])
 (.seq (.seq (.reg [⟨0, .ld (.tmp 2) none, (some 11), none, []⟩, ⟨1, .call 41 [(.tmp 11)], (some 12), none, []⟩])
 (.block 0 (.rangeFunc (.tmp 12) #[13] (.reg [⟨0, .asg (.tmp 13), (some 7), none, []⟩]) (.block 1 (.seq (.reg [⟨0, .ld (.tmp 2) none, (some 15), none, []⟩, ⟨1, .mov (.tmp 7), (some 16), none, []⟩, ⟨2, .call 62 [(.tmp 15), (.tmp 16)], (some 17), none, []⟩, ⟨3, .mov (.tmp 17), (some 14), none, []⟩, ⟨4, .ext (.tmp 14) 0, (some 18), none, []⟩, ⟨5, .ext (.tmp 14) 1, (some 19), none, []⟩, ⟨6, .asg (.tmp 18), (some 8), none, []⟩, ⟨7, .asg (.tmp 19), (some 9), none, []⟩])
 (.seq (.reg [⟨0, .mov (.tmp 8), (some 20), none, []⟩, ⟨1, .ld (.tmp 3) none, (some 21), none, []⟩, ⟨2, .call 82 [(.tmp 20), (.tmp 21)], (some 22), none, []⟩, ⟨3, .asg (.tmp 22), (some 10), none, []⟩])
 (.seq (.reg [⟨0, .mov (.tmp 10), (some 23), none, []⟩, ⟨1, .ld (.tmp 6) none, (some 24), none, []⟩, ⟨2, .bin .gtr (.tmp 23) (.tmp 24), (some 25), none, []⟩, ⟨3, .mov (.tmp 25), (some 26), none, []⟩, ⟨4, .ld (.tmp 2) none, (some 27), (some ((some 26), true)), []⟩, ⟨5, .nilchk (.tmp 27), (some 28), (some ((some 26), true)), []⟩, ⟨6, .fadr (.tmp 28) 1, (some 29), (some ((some 26), true)), []⟩, ⟨7, .ld (.tmp 29) none, (some 30), (some ((some 26), true)), []⟩, ⟨8, .mov (.tmp 7), (some 31), (some ((some 26), true)), []⟩, ⟨9, .call 79 [(.tmp 30), (.tmp 31)], (some 32), (some ((some 26), true)), []⟩, ⟨10, .bin .lss (.tmp 32) (.const (.int .i64 3)), (some 33), (some ((some 26), true)), []⟩, ⟨11, .pick (.tmp 26) (.tmp 33) (.const (.bool false)), (some 34), none, []⟩])
 (.cond (.tmp 34) (.reg [⟨0, .mov (.tmp 7), (some 35), none, []⟩, ⟨1, .mov (.tmp 10), (some 36), none, []⟩, ⟨2, .st (.tmp 5) (.tmp 35) 1, none, none, []⟩, ⟨3, .st (.tmp 6) (.tmp 36) 1, none, none, []⟩]) .skip))))))))
 (.seq (.reg [⟨0, .ld (.tmp 5) none, (some 37), none, []⟩, ⟨1, .asg (.tmp 37), (some 4), none, []⟩])
 .ret))))⟩
theorem e38 : compFun Tryz.prog Tryz.f38 = some c38 := by kernel_rfl
noncomputable def c39 : CFun := ⟨18, [.tmp 2], (.seq (.reg [⟨0, .asg (.const (.bool false)), (some 2), none, []⟩])
 (.seq (.seq (.reg [⟨0, .mov (.tmp 0), (some 4), none, []⟩, ⟨1, .lenS (.tmp 4), (some 5), none, []⟩, ⟨2, .mov (.const (.int .i64 0)), (some 6), none, []⟩])
 (.block 0 (.loop (.seq (.reg [⟨0, .bin .lss (.tmp 6) (.tmp 5), (some 7), none, []⟩])
 (.seq (.cond (.tmp 7) .skip (.exit 0))
 (.seq (.block 1 (.seq (.reg [⟨0, .mov (.tmp 6), (some 8), none, []⟩, ⟨1, .asg (.tmp 8), (some 3), none, []⟩])
 (.seq (.reg [⟨0, .mov (.tmp 0), (some 9), none, []⟩, ⟨1, .mov (.tmp 3), (some 10), none, []⟩, ⟨2, .sidx (.tmp 9) (.tmp 10), (some 11), none, []⟩, ⟨3, .call 83 [(.const (.string ⟨#[48, 49, 50, 51, 52, 53, 54, 55, 56, 57, 97, 98, 99, 100, 101, 102]⟩)), (.tmp 11)], (some 12), none, []⟩, ⟨4, .bin .lss (.tmp 12) (.const (.int .i64 0)), (some 13), none, []⟩])
 (.cond (.tmp 13) (.seq (.reg [⟨0, .asg (.const (.bool false)), (some 2), none, []⟩])
 .ret) .skip))))
 (.reg [⟨0, .bin .add (.tmp 6) (.const (.int .i64 1)), (some 14), none, []⟩, ⟨1, .mov (.tmp 14), (some 6), none, []⟩])))))))
 (.seq (.reg [⟨0, .mov (.tmp 0), (some 15), none, []⟩, ⟨1, .lenS (.tmp 15), (some 16), none, []⟩, ⟨2, .bin .eql (.tmp 16) (.const (.int .i64 40)), (some 17), none, []⟩, ⟨3, .asg (.tmp 17), (some 2), none, []⟩])
 .ret)))⟩
theorem e39 : compFun Tryz.prog Tryz.f39 = some c39 := by kernel_rfl
noncomputable def c40 : CFun := ⟨9, [.tmp 2], (.seq (.reg [⟨0, .asg (.const (.int .i64 0)), (some 2), none, []⟩])
 (.seq (.reg [⟨0, .new [(.int .i64 0)] 3, (some 3), none, []⟩, ⟨1, .st (.tmp 3) (.const (.int .i64 0)) 1, none, none, []⟩])
 (.seq (.seq (.reg [⟨0, .mov (.tmp 0), (some 4), none, []⟩])
 (.block 0 (.rangeFunc (.tmp 4) #[5] .skip (.block 1 (.reg [⟨0, .ld (.tmp 3) none, (some 6), none, []⟩, ⟨1, .bin .add (.tmp 6) (.const (.int .i64 1)), (some 7), none, []⟩, ⟨2, .st (.tmp 3) (.tmp 7) 1, none, none, []⟩])))))
 (.seq (.reg [⟨0, .ld (.tmp 3) none, (some 8), none, []⟩, ⟨1, .asg (.tmp 8), (some 2), none, []⟩])
 .ret))))⟩
theorem e40 : compFun Tryz.prog Tryz.f40 = some c40 := by kernel_rfl
noncomputable def c41 : CFun := ⟨4, [.tmp 2], (.seq (.reg [⟨0, .box (.tmp 0) 1 29, (some 1), none, []⟩, ⟨1, .asg (.const .nilFunc), (some 2), none, []⟩])
 (.seq (.reg [⟨0, .mkfn 84 [] [(.tmp 1)], (some 3), none, []⟩, ⟨1, .asg (.tmp 3), (some 2), none, []⟩])
 .ret))⟩
theorem e41 : compFun Tryz.prog Tryz.f41 = some c41 := by kernel_rfl
noncomputable def c42 : CFun := ⟨14, [.tmp 4], (.seq (.reg [⟨0, .asg (.const (.int .i64 0)), (some 4), none, []⟩])
 (.seq (.seq (.reg [⟨0, .mov (.tmp 1), (some 5), none, []⟩, ⟨1, .lenL (.tmp 5), (some 6), none, []⟩, ⟨2, .bin .eql (.tmp 6) (.const (.int .i64 0)), (some 7), none, []⟩])
 (.cond (.tmp 7) (.seq (.reg [⟨0, .asg (.const (.int .i64 0)), (some 4), none, []⟩])
 .ret) .skip))
 (.seq (.reg [⟨0, .mov (.tmp 0), (some 8), none, []⟩, ⟨1, .nilchk (.tmp 8), (some 9), none, []⟩, ⟨2, .fadr (.tmp 9) 1, (some 10), none, []⟩, ⟨3, .ld (.tmp 10) none, (some 11), none, []⟩, ⟨4, .mov (.tmp 1), (some 12), none, []⟩, ⟨5, .call 86 [(.tmp 11), (.tmp 12)], (some 13), none, []⟩, ⟨6, .asg (.tmp 13), (some 4), none, []⟩])
 .ret)))⟩
theorem e42 : compFun Tryz.prog Tryz.f42 = some c42 := by kernel_rfl
noncomputable def c44 : CFun := ⟨8, [.tmp 4], (.seq (.reg [⟨0, .asg (.const (.slice none 0 0)), (some 4), none, []⟩])
 (.seq (.reg [⟨0, .mov (.tmp 0), (some 5), none, []⟩, ⟨1, .mov (.tmp 1), (some 6), none, []⟩, ⟨2, .call 88 [(.tmp 5), (.tmp 6), (.const (.int .i64 0)), (.const (.int .i64 (-1)))], (some 7), none, []⟩, ⟨3, .asg (.tmp 7), (some 4), none, []⟩])
 .ret))⟩
theorem e44 : compFun Tryz.prog Tryz.f44 = some c44 := by kernel_rfl
noncomputable def c47 : CFun := ⟨2, [.tmp 0], (.seq (.reg [⟨0, .asg (.const (.slice none 0 0)), (some 0), none, []⟩])
 (.seq (.reg [⟨0, .bslc 4 1 [(.string ⟨#[]⟩), (.string ⟨#[]⟩), (.string ⟨#[]⟩), (.string ⟨#[]⟩)] [(0, 1, (.const (.string ⟨#[]⟩))), (1, 1, (.const (.string ⟨#[102, 105, 108, 101]⟩))), (2, 1, (.const (.string ⟨#[100, 101, 108, 116, 97]⟩))), (3, 1, (.const (.string ⟨#[112, 114, 101, 115, 115]⟩)))] 9, (some 1), none, []⟩, ⟨1, .asg (.tmp 1), (some 0), none, []⟩])
 .ret))⟩
theorem e47 : compFun Tryz.prog Tryz.f47 = some c47 := by kernel_rfl
noncomputable def c56 : CFun := ⟨13, [.tmp 4], (.seq (.reg [⟨0, .box (.tmp 0) 1 45, (some 2), none, []⟩, ⟨1, .asg (.const (.slice none 0 0)), (some 4), none, []⟩])
 (.seq (.seq (.reg [⟨0, .mov (.tmp 1), (some 6), none, []⟩])
 (.block 0 (.rangeFunc (.tmp 6) #[7] (.reg [⟨0, .asg (.tmp 7), (some 5), none, []⟩]) (.block 1 (.reg [⟨0, .ld (.tmp 2) none, (some 8), none, []⟩, ⟨1, .mov (.tmp 5), (some 9), none, []⟩, ⟨2, .bslc 1 1 [(.string ⟨#[]⟩)] [(0, 1, (.tmp 9))] 9, (some 10), none, []⟩, ⟨3, .app 1 16 [(.string ⟨#[]⟩)] (.tmp 8) (.tmp 10) 9, (some 11), none, []⟩, ⟨4, .st (.tmp 2) (.tmp 11) 1, none, none, []⟩])))))
 (.seq (.reg [⟨0, .ld (.tmp 2) none, (some 12), none, []⟩, ⟨1, .asg (.tmp 12), (some 4), none, []⟩])
 .ret)))⟩
theorem e56 : compFun Tryz.prog Tryz.f56 = some c56 := by kernel_rfl
noncomputable def c58 : CFun := ⟨6, [.tmp 4], (.seq (.reg [⟨0, .box (.tmp 0) 1 29, (some 2), none, []⟩, ⟨1, .box (.tmp 1) 1 9, (some 3), none, []⟩, ⟨2, .asg (.const .nilFunc), (some 4), none, []⟩])
 (.seq (.reg [⟨0, .mkfn 97 [] [(.tmp 2), (.tmp 3)], (some 5), none, []⟩, ⟨1, .asg (.tmp 5), (some 4), none, []⟩])
 .ret))⟩
theorem e58 : compFun Tryz.prog Tryz.f58 = some c58 := by kernel_rfl
noncomputable def c75 : CFun := ⟨72, [.cell 2 (some 80)], (.seq (.reg [⟨0, .new [(.int .u32 0), (.int .u32 0), (.int .u32 0), (.int .u32 0), (.int .u32 0), (.int .u32 0), (.int .u32 0), (.int .u32 0), (.int .u32 0), (.int .u32 0), (.int .u32 0), (.int .u32 0), (.int .u32 0), (.int .u32 0), (.int .u32 0), (.int .u32 0), (.int .u32 0), (.int .u32 0), (.int .u32 0), (.int .u32 0), (.int .u32 0), (.int .u32 0), (.int .u32 0), (.int .u32 0), (.int .u32 0), (.int .u32 0), (.int .u32 0), (.int .u32 0), (.int .u32 0), (.int .u32 0), (.int .u32 0), (.int .u32 0), (.int .u32 0), (.int .u32 0), (.int .u32 0), (.int .u32 0), (.int .u32 0), (.int .u32 0), (.int .u32 0), (.int .u32 0), (.int .u32 0), (.int .u32 0), (.int .u32 0), (.int .u32 0), (.int .u32 0), (.int .u32 0), (.int .u32 0), (.int .u32 0), (.int .u32 0), (.int .u32 0), (.int .u32 0), (.int .u32 0), (.int .u32 0), (.int .u32 0), (.int .u32 0), (.int .u32 0), (.int .u32 0), (.int .u32 0), (.int .u32 0), (.int .u32 0), (.int .u32 0), (.int .u32 0), (.int .u32 0), (.int .u32 0), (.int .u32 0), (.int .u32 0), (.int .u32 0), (.int .u32 0), (.int .u32 0), (.int .u32 0), (.int .u32 0), (.int .u32 0), (.int .u32 0), (.int .u32 0), (.int .u32 0), (.int .u32 0), (.int .u32 0), (.int .u32 0), (.int .u32 0), (.int .u32 0)] 142, (some 2), none, []⟩])
 (.seq (.reg [⟨0, .new [(.int .u32 0), (.int .u32 0), (.int .u32 0), (.int .u32 0), (.int .u32 0), (.int .u32 0), (.int .u32 0), (.int .u32 0), (.int .u32 0), (.int .u32 0), (.int .u32 0), (.int .u32 0), (.int .u32 0), (.int .u32 0), (.int .u32 0), (.int .u32 0), (.int .u32 0), (.int .u32 0), (.int .u32 0), (.int .u32 0), (.int .u32 0), (.int .u32 0), (.int .u32 0), (.int .u32 0), (.int .u32 0), (.int .u32 0), (.int .u32 0), (.int .u32 0), (.int .u32 0), (.int .u32 0), (.int .u32 0), (.int .u32 0), (.int .u32 0), (.int .u32 0), (.int .u32 0), (.int .u32 0), (.int .u32 0), (.int .u32 0), (.int .u32 0), (.int .u32 0), (.int .u32 0), (.int .u32 0), (.int .u32 0), (.int .u32 0), (.int .u32 0), (.int .u32 0), (.int .u32 0), (.int .u32 0), (.int .u32 0), (.int .u32 0), (.int .u32 0), (.int .u32 0), (.int .u32 0), (.int .u32 0), (.int .u32 0), (.int .u32 0), (.int .u32 0), (.int .u32 0), (.int .u32 0), (.int .u32 0), (.int .u32 0), (.int .u32 0), (.int .u32 0), (.int .u32 0), (.int .u32 0), (.int .u32 0), (.int .u32 0), (.int .u32 0), (.int .u32 0), (.int .u32 0), (.int .u32 0), (.int .u32 0), (.int .u32 0), (.int .u32 0), (.int .u32 0), (.int .u32 0), (.int .u32 0), (.int .u32 0), (.int .u32 0), (.int .u32 0)] 142, (some 3), none, []⟩])
 (.seq (.seq (.reg [⟨0, .mov (.const (.int .i64 0)), (some 6), none, []⟩])
 (.block 0 (.loop (.seq (.reg [⟨0, .bin .lss (.tmp 6) (.const (.int .i64 16)), (some 7), none, []⟩])
 (.seq (.cond (.tmp 7) .skip (.exit 0))
 (.seq (.block 1 (.seq (.reg [⟨0, .mov (.tmp 6), (some 8), none, []⟩, ⟨1, .asg (.tmp 8), (some 4), none, []⟩])
 (.reg [⟨0, .mov (.tmp 4), (some 9), none, []⟩, ⟨1, .mov (.tmp 0), (some 10), none, []⟩, ⟨2, .mov (.tmp 4), (some 11), none, []⟩, ⟨3, .bin .mul (.const (.int .i64 4)) (.tmp 11), (some 12), none, []⟩, ⟨4, .iadrS (.tmp 10) (.tmp 12) 1, (some 13), none, []⟩, ⟨5, .ld (.tmp 13) none, (some 14), none, []⟩, ⟨6, .conv .u32 (.tmp 14), (some 15), none, []⟩, ⟨7, .bin .shl (.tmp 15) (.const (.int .u64 24)), (some 16), none, []⟩, ⟨8, .mov (.tmp 0), (some 17), none, []⟩, ⟨9, .mov (.tmp 4), (some 18), none, []⟩, ⟨10, .bin .mul (.const (.int .i64 4)) (.tmp 18), (some 19), none, []⟩, ⟨11, .bin .add (.tmp 19) (.const (.int .i64 1)), (some 20), none, []⟩, ⟨12, .iadrS (.tmp 17) (.tmp 20) 1, (some 21), none, []⟩, ⟨13, .ld (.tmp 21) none, (some 22), none, []⟩, ⟨14, .conv .u32 (.tmp 22), (some 23), none, []⟩, ⟨15, .bin .shl (.tmp 23) (.const (.int .u64 16)), (some 24), none, []⟩, ⟨16, .bin .or (.tmp 16) (.tmp 24), (some 25), none, []⟩, ⟨17, .mov (.tmp 0), (some 26), none, []⟩, ⟨18, .mov (.tmp 4), (some 27), none, []⟩, ⟨19, .bin .mul (.const (.int .i64 4)) (.tmp 27), (some 28), none, []⟩, ⟨20, .bin .add (.tmp 28) (.const (.int .i64 2)), (some 29), none, []⟩, ⟨21, .iadrS (.tmp 26) (.tmp 29) 1, (some 30), none, []⟩, ⟨22, .ld (.tmp 30) none, (some 31), none, []⟩, ⟨23, .conv .u32 (.tmp 31), (some 32), none, []⟩, ⟨24, .bin .shl (.tmp 32) (.const (.int .u64 8)), (some 33), none, []⟩, ⟨25, .bin .or (.tmp 25) (.tmp 33), (some 34), none, []⟩, ⟨26, .mov (.tmp 0), (some 35), none, []⟩, ⟨27, .mov (.tmp 4), (some 36), none, []⟩, ⟨28, .bin .mul (.const (.int .i64 4)) (.tmp 36), (some 37), none, []⟩, ⟨29, .bin .add (.tmp 37) (.const (.int .i64 3)), (some 38), none, []⟩, ⟨30, .iadrS (.tmp 35) (.tmp 38) 1, (some 39), none, []⟩, ⟨31, .ld (.tmp 39) none, (some 40), none, []⟩, ⟨32, .conv .u32 (.tmp 40), (some 41), none, []⟩, ⟨33, .bin .or (.tmp 34) (.tmp 41), (some 42), none, []⟩, ⟨34, .iadrA (.tmp 3) (.tmp 9) 80 1, (some 43), none, []⟩, ⟨35, .st (.tmp 43) (.tmp 42) 1, none, none, []⟩])))
 (.reg [⟨0, .bin .add (.tmp 6) (.const (.int .i64 1)), (some 44), none, []⟩, ⟨1, .mov (.tmp 44), (some 6), none, []⟩])))))))
 (.seq (.seq (.reg [⟨0, .asg (.const (.int .i64 16)), (some 5), none, []⟩])
 (.block 2 (.loop (.seq (.seq (.reg [⟨0, .mov (.tmp 5), (some 45), none, []⟩, ⟨1, .bin .lss (.tmp 45) (.const (.int .i64 80)), (some 46), none, []⟩])
 (.cond (.tmp 46) .skip (.exit 2)))
 (.seq (.block 3 (.reg [⟨0, .mov (.tmp 5), (some 49), none, []⟩, ⟨1, .mov (.tmp 5), (some 50), none, []⟩, ⟨2, .bin .sub (.tmp 50) (.const (.int .i64 3)), (some 51), none, []⟩, ⟨3, .iadrA (.tmp 3) (.tmp 51) 80 1, (some 52), none, []⟩, ⟨4, .ld (.tmp 52) none, (some 53), none, []⟩, ⟨5, .mov (.tmp 5), (some 54), none, []⟩, ⟨6, .bin .sub (.tmp 54) (.const (.int .i64 8)), (some 55), none, []⟩, ⟨7, .iadrA (.tmp 3) (.tmp 55) 80 1, (some 56), none, []⟩, ⟨8, .ld (.tmp 56) none, (some 57), none, []⟩, ⟨9, .bin .xor (.tmp 53) (.tmp 57), (some 58), none, []⟩, ⟨10, .mov (.tmp 5), (some 59), none, []⟩, ⟨11, .bin .sub (.tmp 59) (.const (.int .i64 14)), (some 60), none, []⟩, ⟨12, .iadrA (.tmp 3) (.tmp 60) 80 1, (some 61), none, []⟩, ⟨13, .ld (.tmp 61) none, (some 62), none, []⟩, ⟨14, .bin .xor (.tmp 58) (.tmp 62), (some 63), none, []⟩, ⟨15, .mov (.tmp 5), (some 64), none, []⟩, ⟨16, .bin .sub (.tmp 64) (.const (.int .i64 16)), (some 65), none, []⟩, ⟨17, .iadrA (.tmp 3) (.tmp 65) 80 1, (some 66), none, []⟩, ⟨18, .ld (.tmp 66) none, (some 67), none, []⟩, ⟨19, .bin .xor (.tmp 63) (.tmp 67), (some 68), none, []⟩, ⟨20, .call 77 [(.tmp 68), (.const (.int .i64 1))], (some 69), none, []⟩, ⟨21, .iadrA (.tmp 3) (.tmp 49) 80 1, (some 70), none, []⟩, ⟨22, .st (.tmp 70) (.tmp 69) 1, none, none, []⟩]))
 (.reg [⟨0, .mov (.tmp 5), (some 47), none, []⟩, ⟨1, .bin .add (.tmp 47) (.const (.int .i64 1)), (some 48), none, []⟩, ⟨2, .asg (.tmp 48), (some 5), none, []⟩]))))))
 (.seq (.reg [⟨0, .ld (.tmp 3) (some 80), (some 71), none, []⟩, ⟨1, .st (.tmp 2) (.tmp 71) 80, none, none, []⟩])
 .ret)))))⟩
theorem e75 : compFun Tryz.prog Tryz.f75 = some c75 := by kernel_rfl
noncomputable def c76 : CFun := ⟨47, [.tmp 8, .tmp 9], (.seq (.reg [⟨0, .asg (.const (.int .u32 0)), (some 8), none, []⟩, ⟨1, .asg (.const (.int .u32 0)), (some 9), none, []⟩])
 (.seq (.seq (.reg [⟨0, .mov (.tmp 0), (some 10), none, []⟩, ⟨1, .bin .quo (.tmp 10) (.const (.int .i64 20)), (some 11), none, []⟩])
 (.block 0 (.seq (.reg [⟨0, .bin .eql (.tmp 11) (.const (.int .i64 0)), (some 13), none, []⟩, ⟨1, .asg (.tmp 13), (some 12), none, []⟩])
 (.cond (.tmp 12) (.seq (.reg [⟨0, .mov (.tmp 1), (some 14), none, []⟩, ⟨1, .mov (.tmp 2), (some 15), none, []⟩, ⟨2, .bin .and (.tmp 14) (.tmp 15), (some 16), none, []⟩, ⟨3, .mov (.tmp 1), (some 17), none, []⟩, ⟨4, .un .xor (.tmp 17), (some 18), none, []⟩, ⟨5, .mov (.tmp 3), (some 19), none, []⟩, ⟨6, .bin .and (.tmp 18) (.tmp 19), (some 20), none, []⟩, ⟨7, .bin .or (.tmp 16) (.tmp 20), (some 21), none, []⟩, ⟨8, .asg (.tmp 21), (some 8), none, []⟩, ⟨9, .asg (.const (.int .u32 1518500249)), (some 9), none, []⟩])
 .ret) (.seq (.reg [⟨0, .bin .eql (.tmp 11) (.const (.int .i64 1)), (some 23), none, []⟩, ⟨1, .asg (.tmp 23), (some 22), none, []⟩])
 (.cond (.tmp 22) (.seq (.reg [⟨0, .mov (.tmp 1), (some 24), none, []⟩, ⟨1, .mov (.tmp 2), (some 25), none, []⟩, ⟨2, .bin .xor (.tmp 24) (.tmp 25), (some 26), none, []⟩, ⟨3, .mov (.tmp 3), (some 27), none, []⟩, ⟨4, .bin .xor (.tmp 26) (.tmp 27), (some 28), none, []⟩, ⟨5, .asg (.tmp 28), (some 8), none, []⟩, ⟨6, .asg (.const (.int .u32 1859775393)), (some 9), none, []⟩])
 .ret) (.seq (.reg [⟨0, .bin .eql (.tmp 11) (.const (.int .i64 2)), (some 30), none, []⟩, ⟨1, .asg (.tmp 30), (some 29), none, []⟩])
 (.cond (.tmp 29) (.seq (.reg [⟨0, .mov (.tmp 1), (some 31), none, []⟩, ⟨1, .mov (.tmp 2), (some 32), none, []⟩, ⟨2, .bin .and (.tmp 31) (.tmp 32), (some 33), none, []⟩, ⟨3, .mov (.tmp 1), (some 34), none, []⟩, ⟨4, .mov (.tmp 3), (some 35), none, []⟩, ⟨5, .bin .and (.tmp 34) (.tmp 35), (some 36), none, []⟩, ⟨6, .bin .or (.tmp 33) (.tmp 36), (some 37), none, []⟩, ⟨7, .mov (.tmp 2), (some 38), none, []⟩, ⟨8, .mov (.tmp 3), (some 39), none, []⟩, ⟨9, .bin .and (.tmp 38) (.tmp 39), (some 40), none, []⟩, ⟨10, .bin .or (.tmp 37) (.tmp 40), (some 41), none, []⟩, ⟨11, .asg (.tmp 41), (some 8), none, []⟩, ⟨12, .asg (.const (.int .u32 2400959708)), (some 9), none, []⟩])
 .ret) .skip))))))))
 (.seq (.reg [⟨0, .mov (.tmp 1), (some 42), none, []⟩, ⟨1, .mov (.tmp 2), (some 43), none, []⟩, ⟨2, .bin .xor (.tmp 42) (.tmp 43), (some 44), none, []⟩, ⟨3, .mov (.tmp 3), (some 45), none, []⟩, ⟨4, .bin .xor (.tmp 44) (.tmp 45), (some 46), none, []⟩, ⟨5, .asg (.tmp 46), (some 8), none, []⟩, ⟨6, .asg (.const (.int .u32 3395469782)), (some 9), none, []⟩])
 .ret)))⟩
theorem e76 : compFun Tryz.prog Tryz.f76 = some c76 := by kernel_rfl
noncomputable def c88 : CFun := ⟨66, [.tmp 8], (.seq (.reg [⟨0, .asg (.const (.slice none 0 0)), (some 8), none, []⟩])
 (.seq (.seq (.reg [⟨0, .mov (.tmp 3), (some 12), none, []⟩, ⟨1, .bin .eql (.tmp 12) (.const (.int .i64 0)), (some 13), none, []⟩])
 (.cond (.tmp 13) (.seq (.reg [⟨0, .asg (.const (.slice none 0 0)), (some 8), none, []⟩])
 .ret) .skip))
 (.seq (.seq (.reg [⟨0, .mov (.tmp 1), (some 14), none, []⟩, ⟨1, .bin .eql (.tmp 14) (.const (.string ⟨#[]⟩)), (some 15), none, []⟩])
 (.cond (.tmp 15) (.seq (.reg [⟨0, .mov (.tmp 0), (some 16), none, []⟩, ⟨1, .mov (.tmp 3), (some 17), none, []⟩, ⟨2, .call 118 [(.tmp 16), (.tmp 17)], (some 18), none, []⟩, ⟨3, .asg (.tmp 18), (some 8), none, []⟩])
 .ret) .skip))
 (.seq (.seq (.reg [⟨0, .mov (.tmp 3), (some 19), none, []⟩, ⟨1, .bin .lss (.tmp 19) (.const (.int .i64 0)), (some 20), none, []⟩])
 (.cond (.tmp 20) (.reg [⟨0, .mov (.tmp 0), (some 21), none, []⟩, ⟨1, .mov (.tmp 1), (some 22), none, []⟩, ⟨2, .call 119 [(.tmp 21), (.tmp 22)], (some 23), none, []⟩, ⟨3, .bin .add (.tmp 23) (.const (.int .i64 1)), (some 24), none, []⟩, ⟨4, .asg (.tmp 24), (some 3), none, []⟩]) .skip))
 (.seq (.reg [⟨0, .mov (.tmp 3), (some 25), none, []⟩, ⟨1, .mov (.tmp 0), (some 26), none, []⟩, ⟨2, .lenS (.tmp 26), (some 27), none, []⟩, ⟨3, .bin .add (.tmp 27) (.const (.int .i64 1)), (some 28), none, []⟩, ⟨4, .mnmx false (.tmp 25) (.tmp 28), (some 29), none, []⟩, ⟨5, .asg (.tmp 29), (some 3), none, []⟩])
 (.seq (.reg [⟨0, .mov (.tmp 3), (some 30), none, []⟩, ⟨1, .mksl [(.string ⟨#[]⟩)] 16 (.tmp 30) (.tmp 30) 9, (some 31), none, []⟩, ⟨2, .asg (.tmp 31), (some 9), none, []⟩])
 (.seq (.reg [⟨0, .mov (.tmp 3), (some 32), none, []⟩, ⟨1, .bin .sub (.tmp 32) (.const (.int .i64 1)), (some 33), none, []⟩, ⟨2, .asg (.tmp 33), (some 3), none, []⟩])
 (.seq (.reg [⟨0, .asg (.const (.int .i64 0)), (some 10), none, []⟩])
 (.seq (.block 0 (.loop (.seq (.seq (.reg [⟨0, .mov (.tmp 10), (some 34), none, []⟩, ⟨1, .mov (.tmp 3), (some 35), none, []⟩, ⟨2, .bin .lss (.tmp 34) (.tmp 35), (some 36), none, []⟩])
 (.cond (.tmp 36) .skip (.exit 0)))
 (.block 1 (.seq (.reg [⟨0, .mov (.tmp 0), (some 37), none, []⟩, ⟨1, .mov (.tmp 1), (some 38), none, []⟩, ⟨2, .call 120 [(.tmp 37), (.tmp 38)], (some 39), none, []⟩, ⟨3, .asg (.tmp 39), (some 11), none, []⟩])
 (.seq (.seq (.reg [⟨0, .mov (.tmp 11), (some 40), none, []⟩, ⟨1, .bin .lss (.tmp 40) (.const (.int .i64 0)), (some 41), none, []⟩])
 (.cond (.tmp 41) (.exit 0) .skip))
 (.seq (.reg [⟨0, .mov (.tmp 9), (some 42), none, []⟩, ⟨1, .mov (.tmp 10), (some 43), none, []⟩, ⟨2, .mov (.tmp 0), (some 44), none, []⟩, ⟨3, .mov (.tmp 11), (some 45), none, []⟩, ⟨4, .mov (.tmp 2), (some 46), none, []⟩, ⟨5, .bin .add (.tmp 45) (.tmp 46), (some 47), none, []⟩, ⟨6, .slcStr (.tmp 44) none (some (.tmp 47)), (some 48), none, []⟩, ⟨7, .iadrS (.tmp 42) (.tmp 43) 1, (some 49), none, []⟩, ⟨8, .st (.tmp 49) (.tmp 48) 1, none, none, []⟩])
 (.seq (.reg [⟨0, .mov (.tmp 0), (some 50), none, []⟩, ⟨1, .mov (.tmp 11), (some 51), none, []⟩, ⟨2, .mov (.tmp 1), (some 52), none, []⟩, ⟨3, .lenS (.tmp 52), (some 53), none, []⟩, ⟨4, .bin .add (.tmp 51) (.tmp 53), (some 54), none, []⟩, ⟨5, .slcStr (.tmp 50) (some (.tmp 54)) none, (some 55), none, []⟩, ⟨6, .asg (.tmp 55), (some 0), none, []⟩])
 (.reg [⟨0, .mov (.tmp 10), (some 56), none, []⟩, ⟨1, .bin .add (.tmp 56) (.const (.int .i64 1)), (some 57), none, []⟩, ⟨2, .asg (.tmp 57), (some 10), none, []⟩])))))))))
 (.seq (.reg [⟨0, .mov (.tmp 9), (some 58), none, []⟩, ⟨1, .mov (.tmp 10), (some 59), none, []⟩, ⟨2, .mov (.tmp 0), (some 60), none, []⟩, ⟨3, .iadrS (.tmp 58) (.tmp 59) 1, (some 61), none, []⟩, ⟨4, .st (.tmp 61) (.tmp 60) 1, none, none, []⟩])
 (.seq (.reg [⟨0, .mov (.tmp 9), (some 62), none, []⟩, ⟨1, .mov (.tmp 10), (some 63), none, []⟩, ⟨2, .bin .add (.tmp 63) (.const (.int .i64 1)), (some 64), none, []⟩, ⟨3, .slcS (.tmp 62) none (some (.tmp 64)) none 1, (some 65), none, []⟩, ⟨4, .asg (.tmp 65), (some 8), none, []⟩])
 .ret)))))))))))⟩
theorem e88 : compFun Tryz.prog Tryz.f88 = some c88 := by kernel_rfl
noncomputable def c96 : CFun := ⟨75, [.tmp 4], (.seq (.reg [⟨0, .asg (.const (.string ⟨#[]⟩)), (some 4), none, []⟩])
 (.seq (.seq (.reg [⟨0, .mov (.tmp 0), (some 11), none, []⟩, ⟨1, .lenL (.tmp 11), (some 12), none, []⟩])
 (.block 0 (.seq (.reg [⟨0, .bin .eql (.tmp 12) (.const (.int .i64 0)), (some 14), none, []⟩, ⟨1, .asg (.tmp 14), (some 13), none, []⟩])
 (.cond (.tmp 13) (.seq (.reg [⟨0, .asg (.const (.string ⟨#[]⟩)), (some 4), none, []⟩])
 .ret) (.seq (.reg [⟨0, .bin .eql (.tmp 12) (.const (.int .i64 1)), (some 16), none, []⟩, ⟨1, .asg (.tmp 16), (some 15), none, []⟩])
 (.cond (.tmp 15) (.seq (.reg [⟨0, .mov (.tmp 0), (some 17), none, []⟩, ⟨1, .iadrS (.tmp 17) (.const (.int .i64 0)) 1, (some 18), none, []⟩, ⟨2, .ld (.tmp 18) none, (some 19), none, []⟩, ⟨3, .asg (.tmp 19), (some 4), none, []⟩])
 .ret) .skip))))))
 (.seq (.reg [⟨0, .asg (.const (.int .i64 0)), (some 5), none, []⟩])
 (.seq (.seq (.reg [⟨0, .mov (.tmp 1), (some 20), none, []⟩, ⟨1, .lenS (.tmp 20), (some 21), none, []⟩, ⟨2, .bin .gtr (.tmp 21) (.const (.int .i64 0)), (some 22), none, []⟩])
 (.cond (.tmp 22) (.seq (.seq (.reg [⟨0, .mov (.tmp 1), (some 23), none, []⟩, ⟨1, .lenS (.tmp 23), (some 24), none, []⟩, ⟨2, .mov (.tmp 0), (some 25), none, []⟩, ⟨3, .lenL (.tmp 25), (some 26), none, []⟩, ⟨4, .bin .sub (.tmp 26) (.const (.int .i64 1)), (some 27), none, []⟩, ⟨5, .bin .quo (.const (.int .i64 9223372036854775807)) (.tmp 27), (some 28), none, []⟩, ⟨6, .bin .geq (.tmp 24) (.tmp 28), (some 29), none, []⟩])
 (.cond (.tmp 29) (.reg [⟨0, .bad, (some 30), none, []⟩, ⟨1, .bad, none, none, []⟩]) .skip))
 (.reg [⟨0, .mov (.tmp 5), (some 31), none, []⟩, ⟨1, .mov (.tmp 1), (some 32), none, []⟩, ⟨2, .lenS (.tmp 32), (some 33), none, []⟩, ⟨3, .mov (.tmp 0), (some 34), none, []⟩, ⟨4, .lenL (.tmp 34), (some 35), none, []⟩, ⟨5, .bin .sub (.tmp 35) (.const (.int .i64 1)), (some 36), none, []⟩, ⟨6, .bin .mul (.tmp 33) (.tmp 36), (some 37), none, []⟩, ⟨7, .bin .add (.tmp 31) (.tmp 37), (some 38), none, []⟩, ⟨8, .asg (.tmp 38), (some 5), none, []⟩])) .skip))
 (.seq (.seq (.reg [⟨0, .mov (.tmp 0), (some 39), none, []⟩, ⟨1, .lenL (.tmp 39), (some 40), none, []⟩, ⟨2, .mov (.const (.int .i64 0)), (some 41), none, []⟩])
 (.block 1 (.loop (.seq (.reg [⟨0, .bin .lss (.tmp 41) (.tmp 40), (some 42), none, []⟩])
 (.seq (.cond (.tmp 42) .skip (.exit 1))
 (.seq (.block 2 (.seq (.reg [⟨0, .iadrS (.tmp 39) (.tmp 41) 1, (some 43), none, []⟩, ⟨1, .ld (.tmp 43) none, (some 44), none, []⟩, ⟨2, .asg (.tmp 44), (some 7), none, []⟩])
 (.seq (.seq (.reg [⟨0, .mov (.tmp 7), (some 45), none, []⟩, ⟨1, .lenS (.tmp 45), (some 46), none, []⟩, ⟨2, .mov (.tmp 5), (some 47), none, []⟩, ⟨3, .bin .sub (.const (.int .i64 9223372036854775807)) (.tmp 47), (some 48), none, []⟩, ⟨4, .bin .gtr (.tmp 46) (.tmp 48), (some 49), none, []⟩])
 (.cond (.tmp 49) (.reg [⟨0, .bad, (some 50), none, []⟩, ⟨1, .bad, none, none, []⟩]) .skip))
 (.reg [⟨0, .mov (.tmp 5), (some 51), none, []⟩, ⟨1, .mov (.tmp 7), (some 52), none, []⟩, ⟨2, .lenS (.tmp 52), (some 53), none, []⟩, ⟨3, .bin .add (.tmp 51) (.tmp 53), (some 54), none, []⟩, ⟨4, .asg (.tmp 54), (some 5), none, []⟩]))))
 (.reg [⟨0, .bin .add (.tmp 41) (.const (.int .i64 1)), (some 55), none, []⟩, ⟨1, .mov (.tmp 55), (some 41), none, []⟩])))))))
 (.seq (.reg [⟨0, .new [(.pointer none), (.slice none 0 0)] 136, (some 8), none, []⟩])
 (.seq (.reg [⟨0, .mov (.tmp 5), (some 56), none, []⟩, ⟨1, .call 71 [(.tmp 8), (.tmp 56)], (some 57), none, []⟩])
 (.seq (.reg [⟨0, .mov (.tmp 0), (some 58), none, []⟩, ⟨1, .iadrS (.tmp 58) (.const (.int .i64 0)) 1, (some 59), none, []⟩, ⟨2, .ld (.tmp 59) none, (some 60), none, []⟩, ⟨3, .call 72 [(.tmp 8), (.tmp 60)], (some 61), none, []⟩])
 (.seq (.seq (.reg [⟨0, .mov (.tmp 0), (some 62), none, []⟩, ⟨1, .slcS (.tmp 62) (some (.const (.int .i64 1))) none none 1, (some 63), none, []⟩, ⟨2, .lenL (.tmp 63), (some 64), none, []⟩, ⟨3, .mov (.const (.int .i64 0)), (some 65), none, []⟩])
 (.block 3 (.loop (.seq (.reg [⟨0, .bin .lss (.tmp 65) (.tmp 64), (some 66), none, []⟩])
 (.seq (.cond (.tmp 66) .skip (.exit 3))
 (.seq (.block 4 (.seq (.reg [⟨0, .iadrS (.tmp 63) (.tmp 65) 1, (some 67), none, []⟩, ⟨1, .ld (.tmp 67) none, (some 68), none, []⟩, ⟨2, .asg (.tmp 68), (some 10), none, []⟩])
 (.seq (.reg [⟨0, .mov (.tmp 1), (some 69), none, []⟩, ⟨1, .call 72 [(.tmp 8), (.tmp 69)], (some 70), none, []⟩])
 (.reg [⟨0, .mov (.tmp 10), (some 71), none, []⟩, ⟨1, .call 72 [(.tmp 8), (.tmp 71)], (some 72), none, []⟩]))))
 (.reg [⟨0, .bin .add (.tmp 65) (.const (.int .i64 1)), (some 73), none, []⟩, ⟨1, .mov (.tmp 73), (some 65), none, []⟩])))))))
 (.seq (.reg [⟨0, .call 74 [(.tmp 8)], (some 74), none, []⟩, ⟨1, .asg (.tmp 74), (some 4), none, []⟩])
 .ret))))))))))⟩
theorem e96 : compFun Tryz.prog Tryz.f96 = some c96 := by kernel_rfl
noncomputable def c101 : CFun := ⟨9, [.tmp 2], (.seq (.reg [⟨0, .asg (.const .nilFunc), (some 2), none, []⟩])
 (.seq (.reg [⟨0, .mov (.tmp 0), (some 3), none, []⟩, ⟨1, .nilchk (.tmp 3), (some 4), none, []⟩, ⟨2, .fadr (.tmp 4) 0, (some 5), none, []⟩, ⟨3, .ld (.tmp 5) none, (some 6), none, []⟩, ⟨4, .call 49 [(.tmp 6)], (some 7), none, []⟩, ⟨5, .call 138 [(.tmp 7)], (some 8), none, []⟩, ⟨6, .asg (.tmp 8), (some 2), none, []⟩])
 .ret))⟩
theorem e101 : compFun Tryz.prog Tryz.f101 = some c101 := by kernel_rfl
noncomputable def c104 : CFun := ⟨18, [.tmp 4], (.seq (.reg [⟨0, .asg (.const (.bool false)), (some 4), none, []⟩])
 (.seq (.reg [⟨0, .mov (.tmp 0), (some 5), none, []⟩, ⟨1, .lenS (.tmp 5), (some 6), none, []⟩, ⟨2, .mov (.tmp 1), (some 7), none, []⟩, ⟨3, .lenS (.tmp 7), (some 8), none, []⟩, ⟨4, .bin .geq (.tmp 6) (.tmp 8), (some 9), none, []⟩, ⟨5, .mov (.tmp 9), (some 10), none, []⟩, ⟨6, .mov (.tmp 0), (some 11), (some ((some 10), true)), []⟩, ⟨7, .mov (.tmp 1), (some 12), (some ((some 10), true)), []⟩, ⟨8, .lenS (.tmp 12), (some 13), (some ((some 10), true)), []⟩, ⟨9, .slcStr (.tmp 11) none (some (.tmp 13)), (some 14), (some ((some 10), true)), []⟩, ⟨10, .mov (.tmp 1), (some 15), (some ((some 10), true)), []⟩, ⟨11, .bin .eql (.tmp 14) (.tmp 15), (some 16), (some ((some 10), true)), []⟩, ⟨12, .pick (.tmp 10) (.tmp 16) (.const (.bool false)), (some 17), none, []⟩, ⟨13, .asg (.tmp 17), (some 4), none, []⟩])
 .ret))⟩
theorem e104 : compFun Tryz.prog Tryz.f104 = some c104 := by kernel_rfl
noncomputable def c112 : CFun := ⟨8, [.tmp 4], (.seq (.reg [⟨0, .asg (.const (.int .i64 0)), (some 4), none, []⟩])
 (.seq (.reg [⟨0, .mov (.tmp 0), (some 5), none, []⟩, ⟨1, .mov (.tmp 1), (some 6), none, []⟩, ⟨2, .xib (.tmp 5) (.tmp 6), (some 7), none, []⟩, ⟨3, .asg (.tmp 7), (some 4), none, []⟩])
 .ret))⟩
theorem e112 : compFun Tryz.prog Tryz.f112 = some c112 := by kernel_rfl
noncomputable def c114 : CFun := ⟨10, [.tmp 2], (.seq (.reg [⟨0, .asg (.const (.bool false)), (some 2), none, []⟩])
 (.seq (.reg [⟨0, .mov (.tmp 0), (some 3), none, []⟩, ⟨1, .bin .neq (.tmp 3) (.const (.string ⟨#[]⟩)), (some 4), none, []⟩, ⟨2, .mov (.tmp 4), (some 5), none, []⟩, ⟨3, .mov (.tmp 0), (some 6), (some ((some 5), true)), []⟩, ⟨4, .lenS (.tmp 6), (some 7), (some ((some 5), true)), []⟩, ⟨5, .bin .leq (.tmp 7) (.const (.int .i64 60)), (some 8), (some ((some 5), true)), []⟩, ⟨6, .pick (.tmp 5) (.tmp 8) (.const (.bool false)), (some 9), none, []⟩, ⟨7, .asg (.tmp 9), (some 2), none, []⟩])
 .ret))⟩
theorem e114 : compFun Tryz.prog Tryz.f114 = some c114 := by kernel_rfl
noncomputable def c116 : CFun := ⟨38, [.tmp 2], (.seq (.reg [⟨0, .asg (.const (.string ⟨#[]⟩)), (some 2), none, []⟩])
 (.seq (.reg [⟨0, .new [(.pointer none), (.slice none 0 0)] 136, (some 3), none, []⟩])
 (.seq (.seq (.reg [⟨0, .mov (.tmp 0), (some 6), none, []⟩, ⟨1, .lenL (.tmp 6), (some 7), none, []⟩, ⟨2, .mov (.const (.int .i64 0)), (some 8), none, []⟩])
 (.block 0 (.loop (.seq (.reg [⟨0, .bin .lss (.tmp 8) (.tmp 7), (some 9), none, []⟩])
 (.seq (.cond (.tmp 9) .skip (.exit 0))
 (.seq (.block 1 (.seq (.reg [⟨0, .iadrS (.tmp 6) (.tmp 8) 3, (some 10), none, []⟩, ⟨1, .ld (.tmp 10) (some 3), (some 11), none, []⟩, ⟨2, .new [(.string ⟨#[]⟩), (.string ⟨#[]⟩), (.bool false)] 90, (some 5), none, []⟩, ⟨3, .st (.tmp 5) (.tmp 11) 3, none, none, []⟩])
 (.seq (.reg [⟨0, .fadr (.tmp 5) 0, (some 12), none, []⟩, ⟨1, .ld (.tmp 12) none, (some 13), none, []⟩, ⟨2, .lenS (.tmp 13), (some 14), none, []⟩, ⟨3, .call 89 [(.tmp 14)], (some 15), none, []⟩, ⟨4, .bin .add (.tmp 15) (.const (.string ⟨#[32]⟩)), (some 16), none, []⟩, ⟨5, .call 72 [(.tmp 3), (.tmp 16)], (some 17), none, []⟩])
 (.seq (.seq (.reg [⟨0, .fadr (.tmp 5) 2, (some 18), none, []⟩, ⟨1, .ld (.tmp 18) none, (some 19), none, []⟩])
 (.cond (.tmp 19) (.seq (.reg [⟨0, .fadr (.tmp 5) 0, (some 20), none, []⟩, ⟨1, .ld (.tmp 20) none, (some 21), none, []⟩, ⟨2, .bin .add (.const (.string ⟨#[45]⟩)) (.tmp 21), (some 22), none, []⟩, ⟨3, .call 72 [(.tmp 3), (.tmp 22)], (some 23), none, []⟩])
 (.exit 1)) .skip))
 (.reg [⟨0, .fadr (.tmp 5) 1, (some 24), none, []⟩, ⟨1, .ld (.tmp 24) none, (some 25), none, []⟩, ⟨2, .lenS (.tmp 25), (some 26), none, []⟩, ⟨5, .fadr (.tmp 5) 0, (some 29), none, []⟩, ⟨6, .ld (.tmp 29) none, (some 30), none, []⟩, ⟨8, .fadr (.tmp 5) 1, (some 32), none, []⟩, ⟨9, .ld (.tmp 32) none, (some 33), none, []⟩, ⟨3, .call 89 [(.tmp 26)], (some 27), none, [(.tmp 29), (.tmp 32)]⟩, ⟨4, .bin .add (.tmp 27) (.const (.string ⟨#[32]⟩)), (some 28), none, []⟩, ⟨7, .bin .add (.tmp 28) (.tmp 30), (some 31), none, []⟩, ⟨10, .bin .add (.tmp 31) (.tmp 33), (some 34), none, []⟩, ⟨11, .call 72 [(.tmp 3), (.tmp 34)], (some 35), none, []⟩])))))
 (.reg [⟨0, .bin .add (.tmp 8) (.const (.int .i64 1)), (some 36), none, []⟩, ⟨1, .mov (.tmp 36), (some 8), none, []⟩])))))))
 (.seq (.reg [⟨0, .call 74 [(.tmp 3)], (some 37), none, []⟩, ⟨1, .asg (.tmp 37), (some 2), none, []⟩])
 .ret))))⟩
theorem e116 : compFun Tryz.prog Tryz.f116 = some c116 := by kernel_rfl
noncomputable def c119 : CFun := ⟨34, [.tmp 4], (.seq (.reg [⟨0, .asg (.const (.int .i64 0)), (some 4), none, []⟩])
 (.seq (.seq (.reg [⟨0, .mov (.tmp 1), (some 7), none, []⟩, ⟨1, .lenS (.tmp 7), (some 8), none, []⟩, ⟨2, .bin .eql (.tmp 8) (.const (.int .i64 0)), (some 9), none, []⟩])
 (.cond (.tmp 9) (.seq (.reg [⟨0, .mov (.tmp 0), (some 10), none, []⟩, ⟨1, .call 151 [(.tmp 10)], (some 11), none, []⟩, ⟨2, .bin .add (.tmp 11) (.const (.int .i64 1)), (some 12), none, []⟩, ⟨3, .asg (.tmp 12), (some 4), none, []⟩])
 .ret) .skip))
 (.seq (.seq (.reg [⟨0, .mov (.tmp 1), (some 13), none, []⟩, ⟨1, .lenS (.tmp 13), (some 14), none, []⟩, ⟨2, .bin .eql (.tmp 14) (.const (.int .i64 1)), (some 15), none, []⟩])
 (.cond (.tmp 15) (.seq (.reg [⟨0, .mov (.tmp 0), (some 16), none, []⟩, ⟨1, .mov (.tmp 1), (some 17), none, []⟩, ⟨2, .sidx (.tmp 17) (.const (.int .i64 0)), (some 18), none, []⟩, ⟨3, .bad, (some 19), none, []⟩, ⟨4, .asg (.tmp 19), (some 4), none, []⟩])
 .ret) .skip))
 (.seq (.reg [⟨0, .asg (.const (.int .i64 0)), (some 5), none, []⟩])
 (.block 0 (.loop (.block 1 (.seq (.reg [⟨0, .mov (.tmp 0), (some 20), none, []⟩, ⟨1, .mov (.tmp 1), (some 21), none, []⟩, ⟨2, .call 120 [(.tmp 20), (.tmp 21)], (some 22), none, []⟩, ⟨3, .asg (.tmp 22), (some 6), none, []⟩])
 (.seq (.seq (.reg [⟨0, .mov (.tmp 6), (some 23), none, []⟩, ⟨1, .bin .eql (.tmp 23) (.const (.int .i64 (-1))), (some 24), none, []⟩])
 (.cond (.tmp 24) (.seq (.reg [⟨0, .mov (.tmp 5), (some 25), none, []⟩, ⟨1, .asg (.tmp 25), (some 4), none, []⟩])
 .ret) .skip))
 (.seq (.reg [⟨0, .mov (.tmp 5), (some 26), none, []⟩, ⟨1, .bin .add (.tmp 26) (.const (.int .i64 1)), (some 27), none, []⟩, ⟨2, .asg (.tmp 27), (some 5), none, []⟩])
 (.reg [⟨0, .mov (.tmp 0), (some 28), none, []⟩, ⟨1, .mov (.tmp 6), (some 29), none, []⟩, ⟨2, .mov (.tmp 1), (some 30), none, []⟩, ⟨3, .lenS (.tmp 30), (some 31), none, []⟩, ⟨4, .bin .add (.tmp 29) (.tmp 31), (some 32), none, []⟩, ⟨5, .slcStr (.tmp 28) (some (.tmp 32)) none, (some 33), none, []⟩, ⟨6, .asg (.tmp 33), (some 0), none, []⟩])))))))))))⟩
theorem e119 : compFun Tryz.prog Tryz.f119 = some c119 := by kernel_rfl
noncomputable def c128 : CFun := ⟨26, [], (.seq (.reg [⟨0, .ld (.tmp 1) none, (some 6), none, []⟩, ⟨1, .lenL (.tmp 6), (some 7), none, []⟩, ⟨2, .mov (.const (.int .i64 0)), (some 8), none, []⟩])
 (.block 0 (.loop (.seq (.reg [⟨0, .bin .lss (.tmp 8) (.tmp 7), (some 9), none, []⟩])
 (.seq (.cond (.tmp 9) .skip (.exit 0))
 (.seq (.block 1 (.seq (.reg [⟨0, .mov (.tmp 8), (some 10), none, []⟩, ⟨1, .iadrS (.tmp 6) (.tmp 8) 2, (some 11), none, []⟩, ⟨2, .ld (.tmp 11) (some 2), (some 12), none, []⟩, ⟨3, .new [(.int .u8 0), (.slice none 0 0)] 190, (some 5), none, []⟩, ⟨4, .asg (.tmp 10), (some 4), none, []⟩, ⟨5, .st (.tmp 5) (.tmp 12) 2, none, none, []⟩])
 (.seq (.reg [⟨0, .fadr (.tmp 5) 0, (some 13), none, []⟩, ⟨1, .ld (.tmp 13) none, (some 14), none, []⟩, ⟨2, .ld (.tmp 2) none, (some 15), none, []⟩, ⟨3, .bin .eql (.tmp 14) (.tmp 15), (some 16), none, []⟩, ⟨4, .mov (.tmp 16), (some 17), none, []⟩, ⟨5, .mov (.tmp 0), (some 18), (some ((some 17), true)), []⟩, ⟨6, .mov (.tmp 4), (some 19), (some ((some 17), true)), []⟩, ⟨7, .fadr (.tmp 5) 1, (some 20), (some ((some 17), true)), []⟩, ⟨8, .ld (.tmp 20) none, (some 21), (some ((some 17), true)), []⟩, ⟨9, .callv (.tmp 18) [(.tmp 19), (.tmp 21)], (some 22), (some ((some 17), true)), []⟩, ⟨10, .un .not (.tmp 22), (some 23), (some ((some 17), true)), []⟩, ⟨11, .pick (.tmp 17) (.tmp 23) (.const (.bool false)), (some 24), none, []⟩])
 (.cond (.tmp 24) .ret .skip))))
 (.reg [⟨0, .bin .add (.tmp 8) (.const (.int .i64 1)), (some 25), none, []⟩, ⟨1, .mov (.tmp 25), (some 8), none, []⟩])))))))⟩
theorem e128 : compFun Tryz.prog Tryz.f128 = some c128 := by kernel_rfl
noncomputable def c139 : CFun := ⟨16, [], (.seq (.reg [⟨0, .ld (.tmp 1) none, (some 5), none, []⟩, ⟨1, .lenL (.tmp 5), (some 6), none, []⟩, ⟨2, .mov (.const (.int .i64 0)), (some 7), none, []⟩])
 (.block 0 (.loop (.seq (.reg [⟨0, .bin .lss (.tmp 7) (.tmp 6), (some 8), none, []⟩])
 (.seq (.cond (.tmp 8) .skip (.exit 0))
 (.seq (.block 1 (.seq (.reg [⟨0, .iadrS (.tmp 5) (.tmp 7) 1, (some 9), none, []⟩, ⟨1, .ld (.tmp 9) none, (some 10), none, []⟩, ⟨2, .asg (.tmp 10), (some 4), none, []⟩])
 (.seq (.reg [⟨0, .mov (.tmp 0), (some 11), none, []⟩, ⟨1, .mov (.tmp 4), (some 12), none, []⟩, ⟨2, .callv (.tmp 11) [(.tmp 12)], (some 13), none, []⟩, ⟨3, .un .not (.tmp 13), (some 14), none, []⟩])
 (.cond (.tmp 14) .ret .skip))))
 (.reg [⟨0, .bin .add (.tmp 7) (.const (.int .i64 1)), (some 15), none, []⟩, ⟨1, .mov (.tmp 15), (some 7), none, []⟩])))))))⟩
theorem e139 : compFun Tryz.prog Tryz.f139 = some c139 := by kernel_rfl
noncomputable def c159 : CFun := ⟨18, [], (.seq (.reg [⟨0, .ld (.tmp 1) none, (some 5), none, []⟩, ⟨1, .lenL (.tmp 5), (some 6), none, []⟩, ⟨2, .mov (.const (.int .i64 0)), (some 7), none, []⟩])
 (.block 0 (.loop (.seq (.reg [⟨0, .bin .lss (.tmp 7) (.tmp 6), (some 8), none, []⟩])
 (.seq (.cond (.tmp 8) .skip (.exit 0))
 (.seq (.block 1 (.seq (.reg [⟨0, .mov (.tmp 7), (some 9), none, []⟩, ⟨1, .iadrS (.tmp 5) (.tmp 7) 1, (some 10), none, []⟩, ⟨2, .ld (.tmp 10) none, (some 11), none, []⟩, ⟨3, .asg (.tmp 9), (some 3), none, []⟩, ⟨4, .asg (.tmp 11), (some 4), none, []⟩])
 (.seq (.reg [⟨0, .mov (.tmp 0), (some 12), none, []⟩, ⟨1, .mov (.tmp 3), (some 13), none, []⟩, ⟨2, .mov (.tmp 4), (some 14), none, []⟩, ⟨3, .callv (.tmp 12) [(.tmp 13), (.tmp 14)], (some 15), none, []⟩, ⟨4, .un .not (.tmp 15), (some 16), none, []⟩])
 (.cond (.tmp 16) .ret .skip))))
 (.reg [⟨0, .bin .add (.tmp 7) (.const (.int .i64 1)), (some 17), none, []⟩, ⟨1, .mov (.tmp 17), (some 7), none, []⟩])))))))⟩
theorem e159 : compFun Tryz.prog Tryz.f159 = some c159 := by kernel_rfl
end Go.Proofs.YtpfomnfaemidpaaGreatDoor
