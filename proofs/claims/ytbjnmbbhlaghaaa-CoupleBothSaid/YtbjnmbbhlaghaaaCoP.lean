/- CO: pairs. -/
import Derived.Test.YtbjnmbbhlaghaaaCoIn
import Derived.Test.YtbjnmbbhlaghaaaCoJ
namespace Go.Co
open Go.Am Go.Proofs
set_option linter.unusedSimpArgs false
set_option linter.unusedVariables false

/- copse/couple.pairs -/
def c114_0 : ACode := .ops [⟨some 1, .box (.t 0) 17, none, []⟩,
  ⟨some 2, .mv (.c (.bool false)), none, []⟩] [1]
theorem r114_0 {C : Cs} {k : List Fr} {s : St} {Q : Post} : run C c114_0 k s Q = run C (.ops [⟨some 1, .box (.t 0) 17, none, []⟩,
  ⟨some 2, .mv (.c (.bool false)), none, []⟩] [1]) k s Q := rfl
def c114_1 : ACode := .ops [⟨some 3, .fad (.t 1) 0, none, [1]⟩,
  ⟨some 4, .load 1 false (.t 3), none, [1]⟩,
  ⟨some 5, .bin .eql (.t 4) (.c (.int .i64 3)), none, []⟩,
  ⟨some 6, .mv (.t 5), none, []⟩,
  ⟨some 7, .fad (.t 1) 14, some (6, true), [1]⟩,
  ⟨some 8, .load 1 false (.t 7), some (6, true), [1]⟩,
  ⟨some 9, .bin .geq (.t 8) (.c (.int .i64 0)), some (6, true), []⟩,
  ⟨some 10, .pick (.t 6) (.t 9) (.c (.bool false)), none, []⟩,
  ⟨some 11, .mv (.t 10), none, []⟩,
  ⟨some 12, .fad (.t 1) 14, some (11, true), [1]⟩,
  ⟨some 13, .load 1 false (.t 12), some (11, true), [1]⟩,
  ⟨some 14, .bin .lss (.t 13) (.c (.int .i64 4)), some (11, true), []⟩,
  ⟨some 15, .pick (.t 11) (.t 14) (.c (.bool false)), none, []⟩,
  ⟨some 2, .mv (.t 15), none, []⟩] [2]
theorem r114_1 {C : Cs} {k : List Fr} {s : St} {Q : Post} : run C c114_1 k s Q = run C (.ops [⟨some 3, .fad (.t 1) 0, none, [1]⟩,
  ⟨some 4, .load 1 false (.t 3), none, [1]⟩,
  ⟨some 5, .bin .eql (.t 4) (.c (.int .i64 3)), none, []⟩,
  ⟨some 6, .mv (.t 5), none, []⟩,
  ⟨some 7, .fad (.t 1) 14, some (6, true), [1]⟩,
  ⟨some 8, .load 1 false (.t 7), some (6, true), [1]⟩,
  ⟨some 9, .bin .geq (.t 8) (.c (.int .i64 0)), some (6, true), []⟩,
  ⟨some 10, .pick (.t 6) (.t 9) (.c (.bool false)), none, []⟩,
  ⟨some 11, .mv (.t 10), none, []⟩,
  ⟨some 12, .fad (.t 1) 14, some (11, true), [1]⟩,
  ⟨some 13, .load 1 false (.t 12), some (11, true), [1]⟩,
  ⟨some 14, .bin .lss (.t 13) (.c (.int .i64 4)), some (11, true), []⟩,
  ⟨some 15, .pick (.t 11) (.t 14) (.c (.bool false)), none, []⟩,
  ⟨some 2, .mv (.t 15), none, []⟩] [2]) k s Q := rfl
def c114_2 : ACode := .seq c114_1 .ret
theorem r114_2 {C : Cs} {k : List Fr} {s : St} {Q : Post} : run C c114_2 k s Q = run C (.seq c114_1 .ret) k s Q := rfl
def c114_3 : ACode := .seq c114_0 c114_2
theorem r114_3 {C : Cs} {k : List Fr} {s : St} {Q : Post} : run C c114_3 k s Q = run C (.seq c114_0 c114_2) k s Q := rfl
def a114 : AFun := ⟨1, 16, c114_3, [.t 2]⟩
attribute [simp] r114_0 r114_1 r114_2 r114_3
theorem m114 : mFun Try.prog Try.f114 a114 = true := by decide +kernel
/- copse/couple.First -/
def c55_0 : ACode := .ops [⟨some 2, .box (.t 0) 17, none, []⟩,
  ⟨some 3, .box (.t 1) 10, none, []⟩,
  ⟨some 4, .alloc [.int .i64 0, .int .i64 0, .int .i64 0, .int .i64 0, .int .i64 0, .int .i64 0, .int .i64 0, .int .i64 0, .int .i64 0, .int .i64 0], none, []⟩] [2, 3, 4]
theorem r55_0 {C : Cs} {k : List Fr} {s : St} {Q : Post} : run C c55_0 k s Q = run C (.ops [⟨some 2, .box (.t 0) 17, none, []⟩,
  ⟨some 3, .box (.t 1) 10, none, []⟩,
  ⟨some 4, .alloc [.int .i64 0, .int .i64 0, .int .i64 0, .int .i64 0, .int .i64 0, .int .i64 0, .int .i64 0, .int .i64 0, .int .i64 0, .int .i64 0], none, []⟩] [2, 3, 4]) k s Q := rfl
def c55_1 : ACode := .ops [⟨some 5, .load 17 true (.t 2), none, [2]⟩,
  ⟨some 6, .call 114 [.t 5], none, []⟩] [3, 4, 6]
theorem r55_1 {C : Cs} {k : List Fr} {s : St} {Q : Post} : run C c55_1 k s Q = run C (.ops [⟨some 5, .load 17 true (.t 2), none, [2]⟩,
  ⟨some 6, .call 114 [.t 5], none, []⟩] [3, 4, 6]) k s Q := rfl
def c55_2 : ACode := .ops [⟨some 7, .build [.int .i64 0, .int .i64 0] [], none, []⟩,
  ⟨some 8, .iad (.t 3) (.c (.int .i64 4)) 2 5, none, [3]⟩,
  ⟨none, .store (.t 8) 2 (.t 7), none, [3]⟩] [3, 4]
theorem r55_2 {C : Cs} {k : List Fr} {s : St} {Q : Post} : run C c55_2 k s Q = run C (.ops [⟨some 7, .build [.int .i64 0, .int .i64 0] [], none, []⟩,
  ⟨some 8, .iad (.t 3) (.c (.int .i64 4)) 2 5, none, [3]⟩,
  ⟨none, .store (.t 8) 2 (.t 7), none, [3]⟩] [3, 4]) k s Q := rfl
def c55_3 : ACode := .cond (.t 6) c55_2 .skip
theorem r55_3 {C : Cs} {k : List Fr} {s : St} {Q : Post} : run C c55_3 k s Q = run C (.cond (.t 6) c55_2 .skip) k s Q := rfl
def c55_4 : ACode := .seq c55_1 c55_3
theorem r55_4 {C : Cs} {k : List Fr} {s : St} {Q : Post} : run C c55_4 k s Q = run C (.seq c55_1 c55_3) k s Q := rfl
def c55_5 : ACode := .ops [⟨some 9, .load 10 true (.t 3), none, [3]⟩,
  ⟨none, .store (.t 4) 10 (.t 9), none, [4]⟩] [4]
theorem r55_5 {C : Cs} {k : List Fr} {s : St} {Q : Post} : run C c55_5 k s Q = run C (.ops [⟨some 9, .load 10 true (.t 3), none, [3]⟩,
  ⟨none, .store (.t 4) 10 (.t 9), none, [4]⟩] [4]) k s Q := rfl
def c55_6 : ACode := .seq c55_5 .ret
theorem r55_6 {C : Cs} {k : List Fr} {s : St} {Q : Post} : run C c55_6 k s Q = run C (.seq c55_5 .ret) k s Q := rfl
def c55_7 : ACode := .seq c55_4 c55_6
theorem r55_7 {C : Cs} {k : List Fr} {s : St} {Q : Post} : run C c55_7 k s Q = run C (.seq c55_4 c55_6) k s Q := rfl
def c55_8 : ACode := .seq c55_0 c55_7
theorem r55_8 {C : Cs} {k : List Fr} {s : St} {Q : Post} : run C c55_8 k s Q = run C (.seq c55_0 c55_7) k s Q := rfl
def a55 : AFun := ⟨2, 10, c55_8, [.cell 4 10 true]⟩
attribute [simp] r55_0 r55_1 r55_2 r55_3 r55_4 r55_5 r55_6 r55_7 r55_8
theorem m55 : mFun Try.prog Try.f55 a55 = true := by decide +kernel
/- copse/couple.Second -/
def c54_0 : ACode := .ops [⟨some 2, .box (.t 0) 17, none, []⟩,
  ⟨some 3, .box (.t 1) 10, none, []⟩,
  ⟨some 4, .alloc [.int .i64 0, .int .i64 0, .int .i64 0, .int .i64 0, .int .i64 0, .int .i64 0, .int .i64 0, .int .i64 0, .int .i64 0, .int .i64 0], none, []⟩] [2, 3, 4]
theorem r54_0 {C : Cs} {k : List Fr} {s : St} {Q : Post} : run C c54_0 k s Q = run C (.ops [⟨some 2, .box (.t 0) 17, none, []⟩,
  ⟨some 3, .box (.t 1) 10, none, []⟩,
  ⟨some 4, .alloc [.int .i64 0, .int .i64 0, .int .i64 0, .int .i64 0, .int .i64 0, .int .i64 0, .int .i64 0, .int .i64 0, .int .i64 0, .int .i64 0], none, []⟩] [2, 3, 4]) k s Q := rfl
def c54_1 : ACode := .ops [⟨some 5, .load 17 true (.t 2), none, [2]⟩,
  ⟨some 6, .call 114 [.t 5], none, []⟩] [2, 3, 4, 6]
theorem r54_1 {C : Cs} {k : List Fr} {s : St} {Q : Post} : run C c54_1 k s Q = run C (.ops [⟨some 5, .load 17 true (.t 2), none, [2]⟩,
  ⟨some 6, .call 114 [.t 5], none, []⟩] [2, 3, 4, 6]) k s Q := rfl
def c54_2 : ACode := .ops [⟨some 7, .fad (.t 2) 14, none, [2]⟩,
  ⟨some 8, .load 1 false (.t 7), none, [2]⟩,
  ⟨some 9, .iad (.t 3) (.c (.int .i64 4)) 2 5, none, [3]⟩,
  ⟨some 10, .load 2 true (.t 9), none, [3]⟩,
  ⟨some 11, .build [.int .i64 0, .int .i64 0] [], none, []⟩,
  ⟨some 12, .iad (.t 3) (.t 8) 2 5, none, [3]⟩,
  ⟨none, .store (.t 12) 2 (.t 10), none, [3]⟩,
  ⟨some 13, .iad (.t 3) (.c (.int .i64 4)) 2 5, none, [3]⟩,
  ⟨none, .store (.t 13) 2 (.t 11), none, [3]⟩] [3, 4]
theorem r54_2 {C : Cs} {k : List Fr} {s : St} {Q : Post} : run C c54_2 k s Q = run C (.ops [⟨some 7, .fad (.t 2) 14, none, [2]⟩,
  ⟨some 8, .load 1 false (.t 7), none, [2]⟩,
  ⟨some 9, .iad (.t 3) (.c (.int .i64 4)) 2 5, none, [3]⟩,
  ⟨some 10, .load 2 true (.t 9), none, [3]⟩,
  ⟨some 11, .build [.int .i64 0, .int .i64 0] [], none, []⟩,
  ⟨some 12, .iad (.t 3) (.t 8) 2 5, none, [3]⟩,
  ⟨none, .store (.t 12) 2 (.t 10), none, [3]⟩,
  ⟨some 13, .iad (.t 3) (.c (.int .i64 4)) 2 5, none, [3]⟩,
  ⟨none, .store (.t 13) 2 (.t 11), none, [3]⟩] [3, 4]) k s Q := rfl
def c54_3 : ACode := .cond (.t 6) c54_2 .skip
theorem r54_3 {C : Cs} {k : List Fr} {s : St} {Q : Post} : run C c54_3 k s Q = run C (.cond (.t 6) c54_2 .skip) k s Q := rfl
def c54_4 : ACode := .seq c54_1 c54_3
theorem r54_4 {C : Cs} {k : List Fr} {s : St} {Q : Post} : run C c54_4 k s Q = run C (.seq c54_1 c54_3) k s Q := rfl
def c54_5 : ACode := .ops [⟨some 14, .load 10 true (.t 3), none, [3]⟩,
  ⟨none, .store (.t 4) 10 (.t 14), none, [4]⟩] [4]
theorem r54_5 {C : Cs} {k : List Fr} {s : St} {Q : Post} : run C c54_5 k s Q = run C (.ops [⟨some 14, .load 10 true (.t 3), none, [3]⟩,
  ⟨none, .store (.t 4) 10 (.t 14), none, [4]⟩] [4]) k s Q := rfl
def c54_6 : ACode := .seq c54_5 .ret
theorem r54_6 {C : Cs} {k : List Fr} {s : St} {Q : Post} : run C c54_6 k s Q = run C (.seq c54_5 .ret) k s Q := rfl
def c54_7 : ACode := .seq c54_4 c54_6
theorem r54_7 {C : Cs} {k : List Fr} {s : St} {Q : Post} : run C c54_7 k s Q = run C (.seq c54_4 c54_6) k s Q := rfl
def c54_8 : ACode := .seq c54_0 c54_7
theorem r54_8 {C : Cs} {k : List Fr} {s : St} {Q : Post} : run C c54_8 k s Q = run C (.seq c54_0 c54_7) k s Q := rfl
def a54 : AFun := ⟨2, 15, c54_8, [.cell 4 10 true]⟩
attribute [simp] r54_0 r54_1 r54_2 r54_3 r54_4 r54_5 r54_6 r54_7 r54_8
theorem m54 : mFun Try.prog Try.f54 a54 = true := by decide +kernel
/- copse/couple.Ordered -/
def c53_0 : ACode := .ops [⟨some 2, .box (.t 0) 17, none, []⟩,
  ⟨some 3, .box (.t 1) 10, none, []⟩,
  ⟨some 4, .mv (.c (.bool false)), none, []⟩] [2, 3]
theorem r53_0 {C : Cs} {k : List Fr} {s : St} {Q : Post} : run C c53_0 k s Q = run C (.ops [⟨some 2, .box (.t 0) 17, none, []⟩,
  ⟨some 3, .box (.t 1) 10, none, []⟩,
  ⟨some 4, .mv (.c (.bool false)), none, []⟩] [2, 3]) k s Q := rfl
def c53_1 : ACode := .ops [⟨some 5, .load 17 true (.t 2), none, [2]⟩,
  ⟨some 6, .call 114 [.t 5], none, []⟩,
  ⟨some 7, .mv (.t 6), none, []⟩,
  ⟨some 8, .load 10 true (.t 3), some (7, true), [3]⟩,
  ⟨some 9, .call 68 [.t 8], some (7, true), []⟩,
  ⟨some 10, .un .not (.t 9), some (7, true), []⟩,
  ⟨some 11, .pick (.t 7) (.t 10) (.c (.bool false)), none, []⟩,
  ⟨some 12, .mv (.t 11), none, []⟩,
  ⟨some 13, .fad (.t 2) 14, some (12, true), [2]⟩,
  ⟨some 14, .load 1 false (.t 13), some (12, true), [2]⟩,
  ⟨some 15, .iad (.t 3) (.t 14) 2 5, some (12, true), [3]⟩,
  ⟨some 16, .fad (.t 15) 0, some (12, true), [3]⟩,
  ⟨some 17, .load 1 false (.t 16), some (12, true), [3]⟩,
  ⟨some 18, .iad (.t 3) (.c (.int .i64 4)) 2 5, some (12, true), [3]⟩,
  ⟨some 19, .fad (.t 18) 1, some (12, true), [3]⟩,
  ⟨some 20, .load 1 false (.t 19), some (12, true), [3]⟩,
  ⟨some 21, .bin .lss (.t 17) (.t 20), some (12, true), []⟩,
  ⟨some 22, .pick (.t 12) (.t 21) (.c (.bool false)), none, []⟩,
  ⟨some 4, .mv (.t 22), none, []⟩] [4]
theorem r53_1 {C : Cs} {k : List Fr} {s : St} {Q : Post} : run C c53_1 k s Q = run C (.ops [⟨some 5, .load 17 true (.t 2), none, [2]⟩,
  ⟨some 6, .call 114 [.t 5], none, []⟩,
  ⟨some 7, .mv (.t 6), none, []⟩,
  ⟨some 8, .load 10 true (.t 3), some (7, true), [3]⟩,
  ⟨some 9, .call 68 [.t 8], some (7, true), []⟩,
  ⟨some 10, .un .not (.t 9), some (7, true), []⟩,
  ⟨some 11, .pick (.t 7) (.t 10) (.c (.bool false)), none, []⟩,
  ⟨some 12, .mv (.t 11), none, []⟩,
  ⟨some 13, .fad (.t 2) 14, some (12, true), [2]⟩,
  ⟨some 14, .load 1 false (.t 13), some (12, true), [2]⟩,
  ⟨some 15, .iad (.t 3) (.t 14) 2 5, some (12, true), [3]⟩,
  ⟨some 16, .fad (.t 15) 0, some (12, true), [3]⟩,
  ⟨some 17, .load 1 false (.t 16), some (12, true), [3]⟩,
  ⟨some 18, .iad (.t 3) (.c (.int .i64 4)) 2 5, some (12, true), [3]⟩,
  ⟨some 19, .fad (.t 18) 1, some (12, true), [3]⟩,
  ⟨some 20, .load 1 false (.t 19), some (12, true), [3]⟩,
  ⟨some 21, .bin .lss (.t 17) (.t 20), some (12, true), []⟩,
  ⟨some 22, .pick (.t 12) (.t 21) (.c (.bool false)), none, []⟩,
  ⟨some 4, .mv (.t 22), none, []⟩] [4]) k s Q := rfl
def c53_2 : ACode := .seq c53_1 .ret
theorem r53_2 {C : Cs} {k : List Fr} {s : St} {Q : Post} : run C c53_2 k s Q = run C (.seq c53_1 .ret) k s Q := rfl
def c53_3 : ACode := .seq c53_0 c53_2
theorem r53_3 {C : Cs} {k : List Fr} {s : St} {Q : Post} : run C c53_3 k s Q = run C (.seq c53_0 c53_2) k s Q := rfl
def a53 : AFun := ⟨2, 23, c53_3, [.t 4]⟩
attribute [simp] r53_0 r53_1 r53_2 r53_3
theorem m53 : mFun Try.prog Try.f53 a53 = true := by decide +kernel
/- copse/couple.Change -/
def c52_0 : ACode := .ops [⟨some 3, .box (.t 0) 6, none, []⟩,
  ⟨some 4, .box (.t 1) 17, none, []⟩,
  ⟨some 5, .box (.t 2) 10, none, []⟩,
  ⟨some 6, .mv (.c (.int .i64 0)), none, []⟩,
  ⟨some 7, .mv (.c (.int .i64 0)), none, []⟩,
  ⟨some 8, .mv (.c (.bool false)), none, []⟩] [3, 4, 5]
theorem r52_0 {C : Cs} {k : List Fr} {s : St} {Q : Post} : run C c52_0 k s Q = run C (.ops [⟨some 3, .box (.t 0) 6, none, []⟩,
  ⟨some 4, .box (.t 1) 17, none, []⟩,
  ⟨some 5, .box (.t 2) 10, none, []⟩,
  ⟨some 6, .mv (.c (.int .i64 0)), none, []⟩,
  ⟨some 7, .mv (.c (.int .i64 0)), none, []⟩,
  ⟨some 8, .mv (.c (.bool false)), none, []⟩] [3, 4, 5]) k s Q := rfl
def c52_1 : ACode := .ops [⟨some 16, .load 6 true (.t 3), none, [3]⟩,
  ⟨some 17, .fad (.t 4) 1, none, [4]⟩,
  ⟨some 18, .load 1 false (.t 17), none, [4]⟩,
  ⟨some 19, .load 17 true (.t 4), none, [4]⟩,
  ⟨some 20, .load 10 true (.t 5), none, [5]⟩,
  ⟨some 21, .call 55 [.t 19, .t 20], none, []⟩,
  ⟨some 22, .call 44 [.t 16, .t 18, .t 21], none, []⟩,
  ⟨some 15, .mv (.t 22), none, []⟩,
  ⟨some 23, .ext (.t 15) 0, none, []⟩,
  ⟨some 24, .ext (.t 15) 1, none, []⟩,
  ⟨some 25, .ext (.t 15) 2, none, []⟩,
  ⟨some 9, .mv (.t 23), none, []⟩,
  ⟨some 10, .mv (.t 24), none, []⟩,
  ⟨some 11, .mv (.t 25), none, []⟩] [3, 4, 5, 9, 10, 11]
theorem r52_1 {C : Cs} {k : List Fr} {s : St} {Q : Post} : run C c52_1 k s Q = run C (.ops [⟨some 16, .load 6 true (.t 3), none, [3]⟩,
  ⟨some 17, .fad (.t 4) 1, none, [4]⟩,
  ⟨some 18, .load 1 false (.t 17), none, [4]⟩,
  ⟨some 19, .load 17 true (.t 4), none, [4]⟩,
  ⟨some 20, .load 10 true (.t 5), none, [5]⟩,
  ⟨some 21, .call 55 [.t 19, .t 20], none, []⟩,
  ⟨some 22, .call 44 [.t 16, .t 18, .t 21], none, []⟩,
  ⟨some 15, .mv (.t 22), none, []⟩,
  ⟨some 23, .ext (.t 15) 0, none, []⟩,
  ⟨some 24, .ext (.t 15) 1, none, []⟩,
  ⟨some 25, .ext (.t 15) 2, none, []⟩,
  ⟨some 9, .mv (.t 23), none, []⟩,
  ⟨some 10, .mv (.t 24), none, []⟩,
  ⟨some 11, .mv (.t 25), none, []⟩] [3, 4, 5, 9, 10, 11]) k s Q := rfl
def c52_2 : ACode := .ops [⟨some 27, .load 6 true (.t 3), none, [3]⟩,
  ⟨some 28, .fad (.t 4) 1, none, [4]⟩,
  ⟨some 29, .load 1 false (.t 28), none, [4]⟩,
  ⟨some 30, .load 17 true (.t 4), none, [4]⟩,
  ⟨some 31, .load 10 true (.t 5), none, [5]⟩,
  ⟨some 32, .call 54 [.t 30, .t 31], none, []⟩,
  ⟨some 33, .call 44 [.t 27, .t 29, .t 32], none, []⟩,
  ⟨some 26, .mv (.t 33), none, []⟩,
  ⟨some 34, .ext (.t 26) 0, none, []⟩,
  ⟨some 35, .ext (.t 26) 1, none, []⟩,
  ⟨some 36, .ext (.t 26) 2, none, []⟩,
  ⟨some 12, .mv (.t 34), none, []⟩,
  ⟨some 13, .mv (.t 35), none, []⟩,
  ⟨some 14, .mv (.t 36), none, []⟩] [4, 9, 10, 11, 12, 13, 14]
theorem r52_2 {C : Cs} {k : List Fr} {s : St} {Q : Post} : run C c52_2 k s Q = run C (.ops [⟨some 27, .load 6 true (.t 3), none, [3]⟩,
  ⟨some 28, .fad (.t 4) 1, none, [4]⟩,
  ⟨some 29, .load 1 false (.t 28), none, [4]⟩,
  ⟨some 30, .load 17 true (.t 4), none, [4]⟩,
  ⟨some 31, .load 10 true (.t 5), none, [5]⟩,
  ⟨some 32, .call 54 [.t 30, .t 31], none, []⟩,
  ⟨some 33, .call 44 [.t 27, .t 29, .t 32], none, []⟩,
  ⟨some 26, .mv (.t 33), none, []⟩,
  ⟨some 34, .ext (.t 26) 0, none, []⟩,
  ⟨some 35, .ext (.t 26) 1, none, []⟩,
  ⟨some 36, .ext (.t 26) 2, none, []⟩,
  ⟨some 12, .mv (.t 34), none, []⟩,
  ⟨some 13, .mv (.t 35), none, []⟩,
  ⟨some 14, .mv (.t 36), none, []⟩] [4, 9, 10, 11, 12, 13, 14]) k s Q := rfl
def c52_3 : ACode := .ops [⟨some 37, .load 17 true (.t 4), none, [4]⟩,
  ⟨some 38, .call 114 [.t 37], none, []⟩,
  ⟨some 39, .un .not (.t 38), none, []⟩,
  ⟨some 40, .mv (.t 39), none, []⟩,
  ⟨some 41, .mv (.t 11), some (40, false), []⟩,
  ⟨some 42, .un .not (.t 41), some (40, false), []⟩,
  ⟨some 43, .pick (.t 40) (.c (.bool true)) (.t 42), none, []⟩,
  ⟨some 44, .mv (.t 43), none, []⟩,
  ⟨some 45, .mv (.t 14), some (44, false), []⟩,
  ⟨some 46, .un .not (.t 45), some (44, false), []⟩,
  ⟨some 47, .pick (.t 44) (.c (.bool true)) (.t 46), none, []⟩] [9, 10, 12, 13, 47]
theorem r52_3 {C : Cs} {k : List Fr} {s : St} {Q : Post} : run C c52_3 k s Q = run C (.ops [⟨some 37, .load 17 true (.t 4), none, [4]⟩,
  ⟨some 38, .call 114 [.t 37], none, []⟩,
  ⟨some 39, .un .not (.t 38), none, []⟩,
  ⟨some 40, .mv (.t 39), none, []⟩,
  ⟨some 41, .mv (.t 11), some (40, false), []⟩,
  ⟨some 42, .un .not (.t 41), some (40, false), []⟩,
  ⟨some 43, .pick (.t 40) (.c (.bool true)) (.t 42), none, []⟩,
  ⟨some 44, .mv (.t 43), none, []⟩,
  ⟨some 45, .mv (.t 14), some (44, false), []⟩,
  ⟨some 46, .un .not (.t 45), some (44, false), []⟩,
  ⟨some 47, .pick (.t 44) (.c (.bool true)) (.t 46), none, []⟩] [9, 10, 12, 13, 47]) k s Q := rfl
def c52_4 : ACode := .ops [⟨some 6, .mv (.c (.int .i64 0)), none, []⟩,
  ⟨some 7, .mv (.c (.int .i64 0)), none, []⟩,
  ⟨some 8, .mv (.c (.bool false)), none, []⟩] [6, 7, 8]
theorem r52_4 {C : Cs} {k : List Fr} {s : St} {Q : Post} : run C c52_4 k s Q = run C (.ops [⟨some 6, .mv (.c (.int .i64 0)), none, []⟩,
  ⟨some 7, .mv (.c (.int .i64 0)), none, []⟩,
  ⟨some 8, .mv (.c (.bool false)), none, []⟩] [6, 7, 8]) k s Q := rfl
def c52_5 : ACode := .seq c52_4 .ret
theorem r52_5 {C : Cs} {k : List Fr} {s : St} {Q : Post} : run C c52_5 k s Q = run C (.seq c52_4 .ret) k s Q := rfl
def c52_6 : ACode := .cond (.t 47) c52_5 .skip
theorem r52_6 {C : Cs} {k : List Fr} {s : St} {Q : Post} : run C c52_6 k s Q = run C (.cond (.t 47) c52_5 .skip) k s Q := rfl
def c52_7 : ACode := .seq c52_3 c52_6
theorem r52_7 {C : Cs} {k : List Fr} {s : St} {Q : Post} : run C c52_7 k s Q = run C (.seq c52_3 c52_6) k s Q := rfl
def c52_8 : ACode := .ops [⟨some 48, .mv (.t 12), none, []⟩,
  ⟨some 49, .mv (.t 10), none, []⟩,
  ⟨some 50, .bin .sub (.t 48) (.t 49), none, []⟩,
  ⟨some 51, .mv (.t 13), none, []⟩,
  ⟨some 52, .mv (.t 9), none, []⟩,
  ⟨some 53, .bin .sub (.t 51) (.t 52), none, []⟩,
  ⟨some 6, .mv (.t 50), none, []⟩,
  ⟨some 7, .mv (.t 53), none, []⟩,
  ⟨some 8, .mv (.c (.bool true)), none, []⟩] [6, 7, 8]
theorem r52_8 {C : Cs} {k : List Fr} {s : St} {Q : Post} : run C c52_8 k s Q = run C (.ops [⟨some 48, .mv (.t 12), none, []⟩,
  ⟨some 49, .mv (.t 10), none, []⟩,
  ⟨some 50, .bin .sub (.t 48) (.t 49), none, []⟩,
  ⟨some 51, .mv (.t 13), none, []⟩,
  ⟨some 52, .mv (.t 9), none, []⟩,
  ⟨some 53, .bin .sub (.t 51) (.t 52), none, []⟩,
  ⟨some 6, .mv (.t 50), none, []⟩,
  ⟨some 7, .mv (.t 53), none, []⟩,
  ⟨some 8, .mv (.c (.bool true)), none, []⟩] [6, 7, 8]) k s Q := rfl
def c52_9 : ACode := .seq c52_8 .ret
theorem r52_9 {C : Cs} {k : List Fr} {s : St} {Q : Post} : run C c52_9 k s Q = run C (.seq c52_8 .ret) k s Q := rfl
def c52_10 : ACode := .seq c52_7 c52_9
theorem r52_10 {C : Cs} {k : List Fr} {s : St} {Q : Post} : run C c52_10 k s Q = run C (.seq c52_7 c52_9) k s Q := rfl
def c52_11 : ACode := .seq c52_2 c52_10
theorem r52_11 {C : Cs} {k : List Fr} {s : St} {Q : Post} : run C c52_11 k s Q = run C (.seq c52_2 c52_10) k s Q := rfl
def c52_12 : ACode := .seq c52_1 c52_11
theorem r52_12 {C : Cs} {k : List Fr} {s : St} {Q : Post} : run C c52_12 k s Q = run C (.seq c52_1 c52_11) k s Q := rfl
def c52_13 : ACode := .seq c52_0 c52_12
theorem r52_13 {C : Cs} {k : List Fr} {s : St} {Q : Post} : run C c52_13 k s Q = run C (.seq c52_0 c52_12) k s Q := rfl
def a52 : AFun := ⟨3, 54, c52_13, [.t 6, .t 7, .t 8]⟩
attribute [simp] r52_0 r52_1 r52_2 r52_3 r52_4 r52_5 r52_6 r52_7 r52_8 r52_9 r52_10 r52_11 r52_12 r52_13
theorem m52 : mFun Try.prog Try.f52 a52 = true := by decide +kernel


theorem runs_pairs (q : Query) (c : Bool) (h : some (paired q) = some c) : Runs (tbl []) a114 [Arg.enc q] (Arg.enc c) := by
  cases h
  refine ⟨rfl, fun g => run_def ?_⟩
  unfold a114
  by_cases k1 : q.kind = 3
  case neg => simp -implicitDefEqProofs [paired, k1]
  by_cases k2 : 0 ≤ q.feature
  case neg => simp -implicitDefEqProofs [paired, k1, k2]
  simp -implicitDefEqProofs [paired, k1, k2]
theorem c_pairs : Contract Try.prog 114 (sp1 fun q => some (paired q)) :=
  contract_of_runs mixed tbl_nil Try.func114 m114 (sp1_runs runs_pairs)

def firstB (q : Query) (b : Box) : Box := if paired q then { b with s4 := ⟨0, 0⟩ } else b
def secondB (q : Query) (b : Box) : Box := if paired q then { b.set q.feature b.s4 with s4 := ⟨0, 0⟩ } else b
def orderedB (q : Query) (b : Box) : Bool := paired q && !b.empty && decide ((b.get q.feature).lo < b.s4.hi)

theorem runs_First (q : Query) (b : Box) (c : Box) (h : some (firstB q b) = some c) : Runs (tbl [(114, sp1 fun q => some (paired q))]) a55 [Arg.enc q, Arg.enc b] (Arg.enc c) := by
  cases h
  refine ⟨rfl, fun g => run_def ?_⟩
  unfold a55
  cases hp : paired q <;> simp -implicitDefEqProofs [firstB, hp]
theorem c_First : Contract Try.prog 55 (sp2 fun q b => some (firstB q b)) :=
  contract_of_runs mixed (tbl_cons c_pairs tbl_nil) Try.func55 m55 (sp2_runs runs_First)

theorem runs_cSecond (q : Query) (b : Box) (c : Box) (h : some (secondB q b) = some c) : Runs (tbl [(114, sp1 fun q => some (paired q))]) a54 [Arg.enc q, Arg.enc b] (Arg.enc c) := by
  cases h
  refine ⟨rfl, fun g => run_def ?_⟩
  unfold a54
  cases hp : paired q
  · simp -implicitDefEqProofs [secondB, hp]
  · have hf := paired_feature hp
    obtain ⟨kind, cls, region, lo, hi, feature, falls, budget⟩ := q
    simp only at hf
    rcases hf with rfl | rfl | rfl | rfl <;> simp -implicitDefEqProofs [secondB, hp, Box.set]
theorem c_cSecond : Contract Try.prog 54 (sp2 fun q b => some (secondB q b)) :=
  contract_of_runs mixed (tbl_cons c_pairs tbl_nil) Try.func54 m54 (sp2_runs runs_cSecond)

theorem runs_Ordered (q : Query) (b : Box) (c : Bool) (h : some (orderedB q b) = some c) : Runs (tbl [(114, sp1 fun q => some (paired q)), (68, sp1 fun (b : Box) => some b.empty)]) a53 [Arg.enc q, Arg.enc b] (Arg.enc c) := by
  cases h
  refine ⟨rfl, fun g => run_def ?_⟩
  unfold a53
  cases hp : paired q
  · simp -implicitDefEqProofs [orderedB, hp]
  · have hf := paired_feature hp
    cases he : b.empty
    case true => simp -implicitDefEqProofs [orderedB, hp, he]
    obtain ⟨kind, cls, region, lo, hi, feature, falls, budget⟩ := q
    simp only at hf
    rcases hf with rfl | rfl | rfl | rfl <;> simp -implicitDefEqProofs [orderedB, hp, he, Box.get]
theorem c_Ordered : Contract Try.prog 53 (sp2 fun q b => some (orderedB q b)) :=
  contract_of_runs mixed (tbl_cons c_pairs (tbl_cons c_bEmpty tbl_nil)) Try.func53 m53 (sp2_runs runs_Ordered)

def changeM (m : Model) (q : Query) (b : Box) : Tri Int Int Bool :=
  if paired q && (boundM m q.cls (firstB q b)).c && (boundM m q.cls (secondB q b)).c then
    ⟨(boundM m q.cls (secondB q b)).a - (boundM m q.cls (firstB q b)).b, (boundM m q.cls (secondB q b)).b - (boundM m q.cls (firstB q b)).a, true⟩ else ⟨0, 0, false⟩
theorem boundM_le {m : Model} (hm : RM m) (c : Int) (b : Box) : -19327352832 ≤ (boundM m c b).a ∧ (boundM m c b).a ≤ 19327352823 ∧ -19327352832 ≤ (boundM m c b).b ∧ (boundM m c b).b ≤ 19327352823 := by
  unfold boundM
  split
  · simp
  · rename_i h
    have he : b.empty = false := by cases he : b.empty <;> simp [he] at h ⊢
    have := boundP_le hm c he
    simp only
    omega
theorem okB_first {b : Box} (h : okB b) (q : Query) : okB (firstB q b) ∧ okB (secondB q b) := by
  have z : okS64 ⟨0, 0⟩ := by unfold okS64 ok64; simp only; omega
  unfold firstB secondB
  cases paired q
  · exact ⟨h, h⟩
  · have h2 := okB_set h q.feature h.2.2.2.2
    exact ⟨⟨h.1, h.2.1, h.2.2.1, h.2.2.2.1, z⟩, h2.1, h2.2.1, h2.2.2.1, h2.2.2.2.1, z⟩
noncomputable def ChangeC (m : Model) (q : Query) (b : Box) : Option (Tri Int Int Bool) := Part (RM m ∧ okB b) (changeM m q b)
set_option maxHeartbeats 1000000 in
theorem runs_Change (m : Model) (q : Query) (b : Box) (c : Tri Int Int Bool) (h : ChangeC m q b = some c) : Runs (tbl [(55, sp2 fun q b => some (firstB q b)), (54, sp2 fun q b => some (secondB q b)), (44, sp3 BoundS), (114, sp1 fun q => some (paired q))]) a52 [Arg.enc m, Arg.enc q, Arg.enc b] (Arg.enc c) := by
  obtain ⟨⟨hm, hb⟩, rfl⟩ := part_some h
  clear h
  refine ⟨rfl, fun g => run_def ?_⟩
  unfold a52
  have hk := okB_first hb q
  have s1 : BoundS m q.cls (firstB q b) = some (boundM m q.cls (firstB q b)) := part_of ⟨hm, hk.1⟩ _
  have s2 : BoundS m q.cls (secondB q b) = some (boundM m q.cls (secondB q b)) := part_of ⟨hm, hk.2⟩ _
  have l1 := boundM_le hm q.cls (firstB q b)
  have l2 := boundM_le hm q.cls (secondB q b)
  have w1 : IntKind.i64.wrap ((boundM m q.cls (secondB q b)).a - (boundM m q.cls (firstB q b)).b) = (boundM m q.cls (secondB q b)).a - (boundM m q.cls (firstB q b)).b := wrap64 (by omega) (by omega)
  have w2 : IntKind.i64.wrap ((boundM m q.cls (secondB q b)).b - (boundM m q.cls (firstB q b)).a) = (boundM m q.cls (secondB q b)).b - (boundM m q.cls (firstB q b)).a := wrap64 (by omega) (by omega)
  cases hp : paired q
  case false => simp -implicitDefEqProofs [changeM, hp, s1, s2]
  cases h1 : (boundM m q.cls (firstB q b)).c
  case false => simp -implicitDefEqProofs [changeM, hp, s1, s2, h1]
  cases h2 : (boundM m q.cls (secondB q b)).c <;> simp -implicitDefEqProofs [changeM, hp, s1, s2, h1, h2, w1, w2]
theorem c_Change : Contract Try.prog 52 (sp3 ChangeC) :=
  contract_of_runs mixed (tbl_cons c_First (tbl_cons c_cSecond (tbl_cons c_bSum (tbl_cons c_pairs tbl_nil)))) Try.func52 m52 (sp3_runs runs_Change)
end Go.Co
