/- CO: levels, the range. -/
import Derived.Test.YtbjnmbbhlaghaaaCoW
namespace Go.Co
open Go.Am Go.Proofs
set_option linter.unusedSimpArgs false
set_option linter.unusedVariables false

/- copse/clique.Ends -/
def c134_0 : ACode := .ops [⟨some 2, .mv (.c (.int .i64 0)), none, []⟩,
  ⟨some 3, .mv (.c (.int .i64 0)), none, []⟩,
  ⟨some 4, .mv (.c (.bool false)), none, []⟩] [0]
theorem r134_0 {C : Cs} {k : List Fr} {s : St} {Q : Post} : run C c134_0 k s Q = run C (.ops [⟨some 2, .mv (.c (.int .i64 0)), none, []⟩,
  ⟨some 3, .mv (.c (.int .i64 0)), none, []⟩,
  ⟨some 4, .mv (.c (.bool false)), none, []⟩] [0]) k s Q := rfl
def c134_1 : ACode := .ops [⟨some 9, .mv (.t 0), none, []⟩,
  ⟨some 10, .len (.t 9), none, []⟩,
  ⟨some 11, .bin .eql (.t 10) (.c (.int .i64 0)), none, []⟩] [0, 11]
theorem r134_1 {C : Cs} {k : List Fr} {s : St} {Q : Post} : run C c134_1 k s Q = run C (.ops [⟨some 9, .mv (.t 0), none, []⟩,
  ⟨some 10, .len (.t 9), none, []⟩,
  ⟨some 11, .bin .eql (.t 10) (.c (.int .i64 0)), none, []⟩] [0, 11]) k s Q := rfl
def c134_2 : ACode := .ops [⟨some 2, .mv (.c (.int .i64 0)), none, []⟩,
  ⟨some 3, .mv (.c (.int .i64 0)), none, []⟩,
  ⟨some 4, .mv (.c (.bool false)), none, []⟩] [2, 3, 4]
theorem r134_2 {C : Cs} {k : List Fr} {s : St} {Q : Post} : run C c134_2 k s Q = run C (.ops [⟨some 2, .mv (.c (.int .i64 0)), none, []⟩,
  ⟨some 3, .mv (.c (.int .i64 0)), none, []⟩,
  ⟨some 4, .mv (.c (.bool false)), none, []⟩] [2, 3, 4]) k s Q := rfl
def c134_3 : ACode := .seq c134_2 .ret
theorem r134_3 {C : Cs} {k : List Fr} {s : St} {Q : Post} : run C c134_3 k s Q = run C (.seq c134_2 .ret) k s Q := rfl
def c134_4 : ACode := .cond (.t 11) c134_3 .skip
theorem r134_4 {C : Cs} {k : List Fr} {s : St} {Q : Post} : run C c134_4 k s Q = run C (.cond (.t 11) c134_3 .skip) k s Q := rfl
def c134_5 : ACode := .seq c134_1 c134_4
theorem r134_5 {C : Cs} {k : List Fr} {s : St} {Q : Post} : run C c134_5 k s Q = run C (.seq c134_1 c134_4) k s Q := rfl
def c134_6 : ACode := .ops [⟨some 12, .mv (.t 0), none, []⟩,
  ⟨some 13, .ias (.t 12) (.c (.int .i64 0)) 11, none, []⟩,
  ⟨some 14, .fad (.t 13) 10, none, []⟩,
  ⟨some 15, .load 1 false (.t 14), none, []⟩,
  ⟨some 16, .mv (.t 0), none, []⟩,
  ⟨some 17, .ias (.t 16) (.c (.int .i64 0)) 11, none, []⟩,
  ⟨some 18, .fad (.t 17) 10, none, []⟩,
  ⟨some 19, .load 1 false (.t 18), none, []⟩,
  ⟨some 5, .mv (.t 15), none, []⟩,
  ⟨some 6, .mv (.t 19), none, []⟩] [0, 5, 6]
theorem r134_6 {C : Cs} {k : List Fr} {s : St} {Q : Post} : run C c134_6 k s Q = run C (.ops [⟨some 12, .mv (.t 0), none, []⟩,
  ⟨some 13, .ias (.t 12) (.c (.int .i64 0)) 11, none, []⟩,
  ⟨some 14, .fad (.t 13) 10, none, []⟩,
  ⟨some 15, .load 1 false (.t 14), none, []⟩,
  ⟨some 16, .mv (.t 0), none, []⟩,
  ⟨some 17, .ias (.t 16) (.c (.int .i64 0)) 11, none, []⟩,
  ⟨some 18, .fad (.t 17) 10, none, []⟩,
  ⟨some 19, .load 1 false (.t 18), none, []⟩,
  ⟨some 5, .mv (.t 15), none, []⟩,
  ⟨some 6, .mv (.t 19), none, []⟩] [0, 5, 6]) k s Q := rfl
def c134_7 : ACode := .ops [⟨some 20, .mv (.t 0), none, []⟩,
  ⟨some 21, .len (.t 20), none, []⟩,
  ⟨some 22, .mv (.c (.int .i64 0)), none, []⟩] [5, 6, 20, 21, 22]
theorem r134_7 {C : Cs} {k : List Fr} {s : St} {Q : Post} : run C c134_7 k s Q = run C (.ops [⟨some 20, .mv (.t 0), none, []⟩,
  ⟨some 21, .len (.t 20), none, []⟩,
  ⟨some 22, .mv (.c (.int .i64 0)), none, []⟩] [5, 6, 20, 21, 22]) k s Q := rfl
def c134_8 : ACode := .ops [⟨some 23, .bin .lss (.t 22) (.t 21), none, []⟩] [5, 6, 20, 21, 22, 23]
theorem r134_8 {C : Cs} {k : List Fr} {s : St} {Q : Post} : run C c134_8 k s Q = run C (.ops [⟨some 23, .bin .lss (.t 22) (.t 21), none, []⟩] [5, 6, 20, 21, 22, 23]) k s Q := rfl
def c134_9 : ACode := .cond (.t 23) .skip (.exit 0)
theorem r134_9 {C : Cs} {k : List Fr} {s : St} {Q : Post} : run C c134_9 k s Q = run C (.cond (.t 23) .skip (.exit 0)) k s Q := rfl
def c134_10 : ACode := .ops [⟨some 24, .ias (.t 20) (.t 22) 11, none, []⟩,
  ⟨some 25, .load 11 true (.t 24), none, []⟩,
  ⟨some 8, .alloc [.int .i64 0, .int .i64 0, .int .i64 0, .int .i64 0, .int .i64 0, .int .i64 0, .int .i64 0, .int .i64 0, .int .i64 0, .int .i64 0, .int .i64 0], none, []⟩,
  ⟨none, .store (.t 8) 11 (.t 25), none, [8]⟩] [5, 6, 8, 20, 21, 22]
theorem r134_10 {C : Cs} {k : List Fr} {s : St} {Q : Post} : run C c134_10 k s Q = run C (.ops [⟨some 24, .ias (.t 20) (.t 22) 11, none, []⟩,
  ⟨some 25, .load 11 true (.t 24), none, []⟩,
  ⟨some 8, .alloc [.int .i64 0, .int .i64 0, .int .i64 0, .int .i64 0, .int .i64 0, .int .i64 0, .int .i64 0, .int .i64 0, .int .i64 0, .int .i64 0, .int .i64 0], none, []⟩,
  ⟨none, .store (.t 8) 11 (.t 25), none, [8]⟩] [5, 6, 8, 20, 21, 22]) k s Q := rfl
def c134_11 : ACode := .ops [⟨some 26, .mv (.t 5), none, []⟩,
  ⟨some 27, .fad (.t 8) 10, none, [8]⟩,
  ⟨some 28, .load 1 false (.t 27), none, [8]⟩,
  ⟨some 29, .mnmx false (.t 26) (.t 28), none, []⟩,
  ⟨some 30, .mv (.t 6), none, []⟩,
  ⟨some 31, .fad (.t 8) 10, none, [8]⟩,
  ⟨some 32, .load 1 false (.t 31), none, [8]⟩,
  ⟨some 33, .mnmx true (.t 30) (.t 32), none, []⟩,
  ⟨some 5, .mv (.t 29), none, []⟩,
  ⟨some 6, .mv (.t 33), none, []⟩] [5, 6, 20, 21, 22]
theorem r134_11 {C : Cs} {k : List Fr} {s : St} {Q : Post} : run C c134_11 k s Q = run C (.ops [⟨some 26, .mv (.t 5), none, []⟩,
  ⟨some 27, .fad (.t 8) 10, none, [8]⟩,
  ⟨some 28, .load 1 false (.t 27), none, [8]⟩,
  ⟨some 29, .mnmx false (.t 26) (.t 28), none, []⟩,
  ⟨some 30, .mv (.t 6), none, []⟩,
  ⟨some 31, .fad (.t 8) 10, none, [8]⟩,
  ⟨some 32, .load 1 false (.t 31), none, [8]⟩,
  ⟨some 33, .mnmx true (.t 30) (.t 32), none, []⟩,
  ⟨some 5, .mv (.t 29), none, []⟩,
  ⟨some 6, .mv (.t 33), none, []⟩] [5, 6, 20, 21, 22]) k s Q := rfl
def c134_12 : ACode := .seq c134_10 c134_11
theorem r134_12 {C : Cs} {k : List Fr} {s : St} {Q : Post} : run C c134_12 k s Q = run C (.seq c134_10 c134_11) k s Q := rfl
def c134_13 : ACode := .block 1 c134_12
theorem r134_13 {C : Cs} {k : List Fr} {s : St} {Q : Post} : run C c134_13 k s Q = run C (.block 1 c134_12) k s Q := rfl
def c134_14 : ACode := .ops [⟨some 34, .bin .add (.t 22) (.c (.int .i64 1)), none, []⟩,
  ⟨some 22, .mv (.t 34), none, []⟩] [5, 6, 20, 21, 22]
theorem r134_14 {C : Cs} {k : List Fr} {s : St} {Q : Post} : run C c134_14 k s Q = run C (.ops [⟨some 34, .bin .add (.t 22) (.c (.int .i64 1)), none, []⟩,
  ⟨some 22, .mv (.t 34), none, []⟩] [5, 6, 20, 21, 22]) k s Q := rfl
def c134_15 : ACode := .seq c134_13 c134_14
theorem r134_15 {C : Cs} {k : List Fr} {s : St} {Q : Post} : run C c134_15 k s Q = run C (.seq c134_13 c134_14) k s Q := rfl
def c134_16 : ACode := .seq c134_9 c134_15
theorem r134_16 {C : Cs} {k : List Fr} {s : St} {Q : Post} : run C c134_16 k s Q = run C (.seq c134_9 c134_15) k s Q := rfl
def c134_17 : ACode := .seq c134_8 c134_16
theorem r134_17 {C : Cs} {k : List Fr} {s : St} {Q : Post} : run C c134_17 k s Q = run C (.seq c134_8 c134_16) k s Q := rfl
def c134_18 : ACode := .keep [5, 6, 20, 21, 22] [] c134_17
theorem r134_18 {C : Cs} {k : List Fr} {s : St} {Q : Post} : run C c134_18 k s Q = run C (.keep [5, 6, 20, 21, 22] [] c134_17) k s Q := rfl
def c134_19 : ACode := .loop c134_18
theorem r134_19 {C : Cs} {k : List Fr} {s : St} {Q : Post} : run C c134_19 k s Q = run C (.loop c134_18) k s Q := rfl
def c134_20 : ACode := .block 0 c134_19
theorem r134_20 {C : Cs} {k : List Fr} {s : St} {Q : Post} : run C c134_20 k s Q = run C (.block 0 c134_19) k s Q := rfl
def c134_21 : ACode := .seq c134_7 c134_20
theorem r134_21 {C : Cs} {k : List Fr} {s : St} {Q : Post} : run C c134_21 k s Q = run C (.seq c134_7 c134_20) k s Q := rfl
def c134_22 : ACode := .ops [⟨some 35, .mv (.t 5), none, []⟩,
  ⟨some 36, .mv (.t 6), none, []⟩,
  ⟨some 2, .mv (.t 35), none, []⟩,
  ⟨some 3, .mv (.t 36), none, []⟩,
  ⟨some 4, .mv (.c (.bool true)), none, []⟩] [2, 3, 4]
theorem r134_22 {C : Cs} {k : List Fr} {s : St} {Q : Post} : run C c134_22 k s Q = run C (.ops [⟨some 35, .mv (.t 5), none, []⟩,
  ⟨some 36, .mv (.t 6), none, []⟩,
  ⟨some 2, .mv (.t 35), none, []⟩,
  ⟨some 3, .mv (.t 36), none, []⟩,
  ⟨some 4, .mv (.c (.bool true)), none, []⟩] [2, 3, 4]) k s Q := rfl
def c134_23 : ACode := .seq c134_22 .ret
theorem r134_23 {C : Cs} {k : List Fr} {s : St} {Q : Post} : run C c134_23 k s Q = run C (.seq c134_22 .ret) k s Q := rfl
def c134_24 : ACode := .seq c134_21 c134_23
theorem r134_24 {C : Cs} {k : List Fr} {s : St} {Q : Post} : run C c134_24 k s Q = run C (.seq c134_21 c134_23) k s Q := rfl
def c134_25 : ACode := .seq c134_6 c134_24
theorem r134_25 {C : Cs} {k : List Fr} {s : St} {Q : Post} : run C c134_25 k s Q = run C (.seq c134_6 c134_24) k s Q := rfl
def c134_26 : ACode := .seq c134_5 c134_25
theorem r134_26 {C : Cs} {k : List Fr} {s : St} {Q : Post} : run C c134_26 k s Q = run C (.seq c134_5 c134_25) k s Q := rfl
def c134_27 : ACode := .seq c134_0 c134_26
theorem r134_27 {C : Cs} {k : List Fr} {s : St} {Q : Post} : run C c134_27 k s Q = run C (.seq c134_0 c134_26) k s Q := rfl
def a134 : AFun := ⟨1, 37, c134_27, [.t 2, .t 3, .t 4]⟩
attribute [simp] r134_0 r134_1 r134_2 r134_3 r134_4 r134_5 r134_6 r134_7 r134_8 r134_9 r134_10 r134_11 r134_12 r134_13 r134_14 r134_15 r134_16 r134_17 r134_18 r134_19 r134_20 r134_21 r134_22 r134_23 r134_24 r134_25 r134_26 r134_27
theorem m134 : mFun Try.prog Try.f134 a134 = true := by decide +kernel
/- copse/level.start -/
def c132_0 : ACode := .ops [⟨some 3, .box (.t 0) 6, none, []⟩,
  ⟨some 5, .box (.t 2) 10, none, []⟩,
  ⟨some 6, .mv (.c (.nils)), none, []⟩,
  ⟨some 7, .mv (.c (.bool false)), none, []⟩] [1, 3, 5]
theorem r132_0 {C : Cs} {k : List Fr} {s : St} {Q : Post} : run C c132_0 k s Q = run C (.ops [⟨some 3, .box (.t 0) 6, none, []⟩,
  ⟨some 5, .box (.t 2) 10, none, []⟩,
  ⟨some 6, .mv (.c (.nils)), none, []⟩,
  ⟨some 7, .mv (.c (.bool false)), none, []⟩] [1, 3, 5]) k s Q := rfl
def c132_1 : ACode := .ops [⟨some 15, .load 6 true (.t 3), none, [3]⟩,
  ⟨some 16, .mv (.t 1), none, []⟩,
  ⟨some 17, .load 10 true (.t 5), none, [5]⟩,
  ⟨some 18, .call 44 [.t 15, .t 16, .t 17], none, []⟩,
  ⟨some 14, .mv (.t 18), none, []⟩,
  ⟨some 19, .ext (.t 14) 0, none, []⟩,
  ⟨some 20, .ext (.t 14) 1, none, []⟩,
  ⟨some 21, .ext (.t 14) 2, none, []⟩,
  ⟨some 8, .mv (.t 19), none, []⟩,
  ⟨some 9, .mv (.t 20), none, []⟩,
  ⟨some 10, .mv (.t 21), none, []⟩] [1, 3, 5, 10]
theorem r132_1 {C : Cs} {k : List Fr} {s : St} {Q : Post} : run C c132_1 k s Q = run C (.ops [⟨some 15, .load 6 true (.t 3), none, [3]⟩,
  ⟨some 16, .mv (.t 1), none, []⟩,
  ⟨some 17, .load 10 true (.t 5), none, [5]⟩,
  ⟨some 18, .call 44 [.t 15, .t 16, .t 17], none, []⟩,
  ⟨some 14, .mv (.t 18), none, []⟩,
  ⟨some 19, .ext (.t 14) 0, none, []⟩,
  ⟨some 20, .ext (.t 14) 1, none, []⟩,
  ⟨some 21, .ext (.t 14) 2, none, []⟩,
  ⟨some 8, .mv (.t 19), none, []⟩,
  ⟨some 9, .mv (.t 20), none, []⟩,
  ⟨some 10, .mv (.t 21), none, []⟩] [1, 3, 5, 10]) k s Q := rfl
def c132_2 : ACode := .ops [⟨some 22, .mv (.t 10), none, []⟩,
  ⟨some 23, .un .not (.t 22), none, []⟩] [1, 3, 5, 23]
theorem r132_2 {C : Cs} {k : List Fr} {s : St} {Q : Post} : run C c132_2 k s Q = run C (.ops [⟨some 22, .mv (.t 10), none, []⟩,
  ⟨some 23, .un .not (.t 22), none, []⟩] [1, 3, 5, 23]) k s Q := rfl
def c132_3 : ACode := .ops [⟨some 6, .mv (.c (.nils)), none, []⟩,
  ⟨some 7, .mv (.c (.bool false)), none, []⟩] [6, 7]
theorem r132_3 {C : Cs} {k : List Fr} {s : St} {Q : Post} : run C c132_3 k s Q = run C (.ops [⟨some 6, .mv (.c (.nils)), none, []⟩,
  ⟨some 7, .mv (.c (.bool false)), none, []⟩] [6, 7]) k s Q := rfl
def c132_4 : ACode := .seq c132_3 .ret
theorem r132_4 {C : Cs} {k : List Fr} {s : St} {Q : Post} : run C c132_4 k s Q = run C (.seq c132_3 .ret) k s Q := rfl
def c132_5 : ACode := .cond (.t 23) c132_4 .skip
theorem r132_5 {C : Cs} {k : List Fr} {s : St} {Q : Post} : run C c132_5 k s Q = run C (.cond (.t 23) c132_4 .skip) k s Q := rfl
def c132_6 : ACode := .seq c132_2 c132_5
theorem r132_6 {C : Cs} {k : List Fr} {s : St} {Q : Post} : run C c132_6 k s Q = run C (.seq c132_2 c132_5) k s Q := rfl
def c132_7 : ACode := .seq c132_1 c132_6
theorem r132_7 {C : Cs} {k : List Fr} {s : St} {Q : Post} : run C c132_7 k s Q = run C (.seq c132_1 c132_6) k s Q := rfl
def c132_8 : ACode := .ops [⟨some 11, .nil0 11 1, none, []⟩] [1, 3, 5, 11]
theorem r132_8 {C : Cs} {k : List Fr} {s : St} {Q : Post} : run C c132_8 k s Q = run C (.ops [⟨some 11, .nil0 11 1, none, []⟩] [1, 3, 5, 11]) k s Q := rfl
def c132_9 : ACode := .ops [⟨some 24, .fad (.t 3) 5, none, [3]⟩,
  ⟨some 25, .load 1 false (.t 24), none, [3]⟩,
  ⟨some 26, .len (.t 25), none, []⟩,
  ⟨some 27, .mv (.c (.int .i64 0)), none, []⟩] [1, 5, 11, 25, 26, 27]
theorem r132_9 {C : Cs} {k : List Fr} {s : St} {Q : Post} : run C c132_9 k s Q = run C (.ops [⟨some 24, .fad (.t 3) 5, none, [3]⟩,
  ⟨some 25, .load 1 false (.t 24), none, [3]⟩,
  ⟨some 26, .len (.t 25), none, []⟩,
  ⟨some 27, .mv (.c (.int .i64 0)), none, []⟩] [1, 5, 11, 25, 26, 27]) k s Q := rfl
def c132_10 : ACode := .ops [⟨some 28, .bin .lss (.t 27) (.t 26), none, []⟩] [1, 5, 11, 25, 26, 27, 28]
theorem r132_10 {C : Cs} {k : List Fr} {s : St} {Q : Post} : run C c132_10 k s Q = run C (.ops [⟨some 28, .bin .lss (.t 27) (.t 26), none, []⟩] [1, 5, 11, 25, 26, 27, 28]) k s Q := rfl
def c132_11 : ACode := .cond (.t 28) .skip (.exit 0)
theorem r132_11 {C : Cs} {k : List Fr} {s : St} {Q : Post} : run C c132_11 k s Q = run C (.cond (.t 28) .skip (.exit 0)) k s Q := rfl
def c132_12 : ACode := .ops [⟨some 29, .ias (.t 25) (.t 27) 2, none, []⟩,
  ⟨some 30, .load 2 true (.t 29), none, []⟩,
  ⟨some 13, .alloc [.int .i64 0, .nils], none, []⟩,
  ⟨none, .store (.t 13) 2 (.t 30), none, [13]⟩] [1, 5, 11, 13, 25, 26, 27]
theorem r132_12 {C : Cs} {k : List Fr} {s : St} {Q : Post} : run C c132_12 k s Q = run C (.ops [⟨some 29, .ias (.t 25) (.t 27) 2, none, []⟩,
  ⟨some 30, .load 2 true (.t 29), none, []⟩,
  ⟨some 13, .alloc [.int .i64 0, .nils], none, []⟩,
  ⟨none, .store (.t 13) 2 (.t 30), none, [13]⟩] [1, 5, 11, 13, 25, 26, 27]) k s Q := rfl
def c132_13 : ACode := .ops [⟨some 31, .fad (.t 13) 0, none, [13]⟩,
  ⟨some 32, .load 1 false (.t 31), none, [13]⟩,
  ⟨some 33, .mv (.t 1), none, []⟩,
  ⟨some 34, .bin .eql (.t 32) (.t 33), none, []⟩] [1, 5, 11, 13, 25, 26, 27, 34]
theorem r132_13 {C : Cs} {k : List Fr} {s : St} {Q : Post} : run C c132_13 k s Q = run C (.ops [⟨some 31, .fad (.t 13) 0, none, [13]⟩,
  ⟨some 32, .load 1 false (.t 31), none, [13]⟩,
  ⟨some 33, .mv (.t 1), none, []⟩,
  ⟨some 34, .bin .eql (.t 32) (.t 33), none, []⟩] [1, 5, 11, 13, 25, 26, 27, 34]) k s Q := rfl
def c132_14 : ACode := .ops [⟨some 35, .mv (.t 11), none, []⟩,
  ⟨some 36, .fad (.t 13) 1, none, [13]⟩,
  ⟨some 37, .load 1 false (.t 36), none, [13]⟩,
  ⟨some 38, .load 10 true (.t 5), none, [5]⟩,
  ⟨some 39, .call 51 [.t 37, .t 38], none, []⟩,
  ⟨some 40, .mkrow 40 1 1 [.nils] [(0, 1, .t 39)], none, []⟩,
  ⟨some 41, .app 11 [11] (.t 35) (.t 40) 1, none, [11, 40]⟩,
  ⟨some 11, .mv (.t 41), none, []⟩] [1, 5, 11, 25, 26, 27]
theorem r132_14 {C : Cs} {k : List Fr} {s : St} {Q : Post} : run C c132_14 k s Q = run C (.ops [⟨some 35, .mv (.t 11), none, []⟩,
  ⟨some 36, .fad (.t 13) 1, none, [13]⟩,
  ⟨some 37, .load 1 false (.t 36), none, [13]⟩,
  ⟨some 38, .load 10 true (.t 5), none, [5]⟩,
  ⟨some 39, .call 51 [.t 37, .t 38], none, []⟩,
  ⟨some 40, .mkrow 40 1 1 [.nils] [(0, 1, .t 39)], none, []⟩,
  ⟨some 41, .app 11 [11] (.t 35) (.t 40) 1, none, [11, 40]⟩,
  ⟨some 11, .mv (.t 41), none, []⟩] [1, 5, 11, 25, 26, 27]) k s Q := rfl
def c132_15 : ACode := .cond (.t 34) c132_14 .skip
theorem r132_15 {C : Cs} {k : List Fr} {s : St} {Q : Post} : run C c132_15 k s Q = run C (.cond (.t 34) c132_14 .skip) k s Q := rfl
def c132_16 : ACode := .seq c132_13 c132_15
theorem r132_16 {C : Cs} {k : List Fr} {s : St} {Q : Post} : run C c132_16 k s Q = run C (.seq c132_13 c132_15) k s Q := rfl
def c132_17 : ACode := .seq c132_12 c132_16
theorem r132_17 {C : Cs} {k : List Fr} {s : St} {Q : Post} : run C c132_17 k s Q = run C (.seq c132_12 c132_16) k s Q := rfl
def c132_18 : ACode := .block 1 c132_17
theorem r132_18 {C : Cs} {k : List Fr} {s : St} {Q : Post} : run C c132_18 k s Q = run C (.block 1 c132_17) k s Q := rfl
def c132_19 : ACode := .ops [⟨some 42, .bin .add (.t 27) (.c (.int .i64 1)), none, []⟩,
  ⟨some 27, .mv (.t 42), none, []⟩] [1, 5, 11, 25, 26, 27]
theorem r132_19 {C : Cs} {k : List Fr} {s : St} {Q : Post} : run C c132_19 k s Q = run C (.ops [⟨some 42, .bin .add (.t 27) (.c (.int .i64 1)), none, []⟩,
  ⟨some 27, .mv (.t 42), none, []⟩] [1, 5, 11, 25, 26, 27]) k s Q := rfl
def c132_20 : ACode := .seq c132_18 c132_19
theorem r132_20 {C : Cs} {k : List Fr} {s : St} {Q : Post} : run C c132_20 k s Q = run C (.seq c132_18 c132_19) k s Q := rfl
def c132_21 : ACode := .seq c132_11 c132_20
theorem r132_21 {C : Cs} {k : List Fr} {s : St} {Q : Post} : run C c132_21 k s Q = run C (.seq c132_11 c132_20) k s Q := rfl
def c132_22 : ACode := .seq c132_10 c132_21
theorem r132_22 {C : Cs} {k : List Fr} {s : St} {Q : Post} : run C c132_22 k s Q = run C (.seq c132_10 c132_21) k s Q := rfl
def c132_23 : ACode := .keep [1, 5, 11, 25, 26, 27] [5, 11] c132_22
theorem r132_23 {C : Cs} {k : List Fr} {s : St} {Q : Post} : run C c132_23 k s Q = run C (.keep [1, 5, 11, 25, 26, 27] [5, 11] c132_22) k s Q := rfl
def c132_24 : ACode := .loop c132_23
theorem r132_24 {C : Cs} {k : List Fr} {s : St} {Q : Post} : run C c132_24 k s Q = run C (.loop c132_23) k s Q := rfl
def c132_25 : ACode := .block 0 c132_24
theorem r132_25 {C : Cs} {k : List Fr} {s : St} {Q : Post} : run C c132_25 k s Q = run C (.block 0 c132_24) k s Q := rfl
def c132_26 : ACode := .seq c132_9 c132_25
theorem r132_26 {C : Cs} {k : List Fr} {s : St} {Q : Post} : run C c132_26 k s Q = run C (.seq c132_9 c132_25) k s Q := rfl
def c132_27 : ACode := .ops [⟨some 43, .mv (.t 11), none, []⟩,
  ⟨some 6, .mv (.t 43), none, []⟩,
  ⟨some 7, .mv (.c (.bool true)), none, []⟩] [6, 7]
theorem r132_27 {C : Cs} {k : List Fr} {s : St} {Q : Post} : run C c132_27 k s Q = run C (.ops [⟨some 43, .mv (.t 11), none, []⟩,
  ⟨some 6, .mv (.t 43), none, []⟩,
  ⟨some 7, .mv (.c (.bool true)), none, []⟩] [6, 7]) k s Q := rfl
def c132_28 : ACode := .seq c132_27 .ret
theorem r132_28 {C : Cs} {k : List Fr} {s : St} {Q : Post} : run C c132_28 k s Q = run C (.seq c132_27 .ret) k s Q := rfl
def c132_29 : ACode := .seq c132_26 c132_28
theorem r132_29 {C : Cs} {k : List Fr} {s : St} {Q : Post} : run C c132_29 k s Q = run C (.seq c132_26 c132_28) k s Q := rfl
def c132_30 : ACode := .seq c132_8 c132_29
theorem r132_30 {C : Cs} {k : List Fr} {s : St} {Q : Post} : run C c132_30 k s Q = run C (.seq c132_8 c132_29) k s Q := rfl
def c132_31 : ACode := .seq c132_7 c132_30
theorem r132_31 {C : Cs} {k : List Fr} {s : St} {Q : Post} : run C c132_31 k s Q = run C (.seq c132_7 c132_30) k s Q := rfl
def c132_32 : ACode := .seq c132_0 c132_31
theorem r132_32 {C : Cs} {k : List Fr} {s : St} {Q : Post} : run C c132_32 k s Q = run C (.seq c132_0 c132_31) k s Q := rfl
def a132 : AFun := ⟨3, 44, c132_32, [.t 6, .t 7]⟩
attribute [simp] r132_0 r132_1 r132_2 r132_3 r132_4 r132_5 r132_6 r132_7 r132_8 r132_9 r132_10 r132_11 r132_12 r132_13 r132_14 r132_15 r132_16 r132_17 r132_18 r132_19 r132_20 r132_21 r132_22 r132_23 r132_24 r132_25 r132_26 r132_27 r132_28 r132_29 r132_30 r132_31 r132_32
theorem m132 : mFun Try.prog Try.f132 a132 = true := by decide +kernel
/- copse/level.level -/
def c166_0 : ACode := .ops [⟨some 4, .mv (.c (.nils)), none, []⟩,
  ⟨some 5, .mv (.c (.bool false)), none, []⟩] [0, 1]
theorem r166_0 {C : Cs} {k : List Fr} {s : St} {Q : Post} : run C c166_0 k s Q = run C (.ops [⟨some 4, .mv (.c (.nils)), none, []⟩,
  ⟨some 5, .mv (.c (.bool false)), none, []⟩] [0, 1]) k s Q := rfl
def c166_1 : ACode := .ops [⟨some 6, .nil0 6 1, none, []⟩] [0, 1, 6]
theorem r166_1 {C : Cs} {k : List Fr} {s : St} {Q : Post} : run C c166_1 k s Q = run C (.ops [⟨some 6, .nil0 6 1, none, []⟩] [0, 1, 6]) k s Q := rfl
def c166_2 : ACode := .ops [⟨some 7, .mv (.c (.bool false)), none, []⟩] [0, 1, 6, 7]
theorem r166_2 {C : Cs} {k : List Fr} {s : St} {Q : Post} : run C c166_2 k s Q = run C (.ops [⟨some 7, .mv (.c (.bool false)), none, []⟩] [0, 1, 6, 7]) k s Q := rfl
def c166_3 : ACode := .ops [⟨some 10, .mv (.t 0), none, []⟩,
  ⟨some 11, .len (.t 10), none, []⟩,
  ⟨some 12, .bin .gtr (.t 11) (.c (.int .i64 0)), none, []⟩] [0, 1, 6, 7, 12]
theorem r166_3 {C : Cs} {k : List Fr} {s : St} {Q : Post} : run C c166_3 k s Q = run C (.ops [⟨some 10, .mv (.t 0), none, []⟩,
  ⟨some 11, .len (.t 10), none, []⟩,
  ⟨some 12, .bin .gtr (.t 11) (.c (.int .i64 0)), none, []⟩] [0, 1, 6, 7, 12]) k s Q := rfl
def c166_4 : ACode := .cond (.t 12) .skip (.exit 0)
theorem r166_4 {C : Cs} {k : List Fr} {s : St} {Q : Post} : run C c166_4 k s Q = run C (.cond (.t 12) .skip (.exit 0)) k s Q := rfl
def c166_5 : ACode := .seq c166_3 c166_4
theorem r166_5 {C : Cs} {k : List Fr} {s : St} {Q : Post} : run C c166_5 k s Q = run C (.seq c166_3 c166_4) k s Q := rfl
def c166_6 : ACode := .ops [⟨some 13, .mv (.t 0), none, []⟩,
  ⟨some 14, .len (.t 13), none, []⟩,
  ⟨some 15, .bin .gtr (.t 14) (.c (.int .i64 1)), none, []⟩] [0, 1, 6, 7, 15]
theorem r166_6 {C : Cs} {k : List Fr} {s : St} {Q : Post} : run C c166_6 k s Q = run C (.ops [⟨some 13, .mv (.t 0), none, []⟩,
  ⟨some 14, .len (.t 13), none, []⟩,
  ⟨some 15, .bin .gtr (.t 14) (.c (.int .i64 1)), none, []⟩] [0, 1, 6, 7, 15]) k s Q := rfl
def c166_7 : ACode := .ops [⟨some 17, .mv (.t 0), none, []⟩,
  ⟨some 18, .ias (.t 17) (.c (.int .i64 0)) 1, none, []⟩,
  ⟨some 19, .load 1 false (.t 18), none, []⟩,
  ⟨some 20, .mv (.t 0), none, []⟩,
  ⟨some 21, .ias (.t 20) (.c (.int .i64 1)) 1, none, []⟩,
  ⟨some 22, .load 1 false (.t 21), none, []⟩,
  ⟨some 23, .mv (.t 1), none, []⟩,
  ⟨some 24, .call 177 [.t 19, .t 22, .t 23], none, []⟩,
  ⟨some 16, .mv (.t 24), none, []⟩,
  ⟨some 25, .ext (.t 16) 0, none, []⟩,
  ⟨some 26, .ext (.t 16) 1, none, []⟩,
  ⟨some 8, .mv (.t 25), none, []⟩,
  ⟨some 9, .mv (.t 26), none, []⟩] [0, 1, 6, 7, 8, 9]
theorem r166_7 {C : Cs} {k : List Fr} {s : St} {Q : Post} : run C c166_7 k s Q = run C (.ops [⟨some 17, .mv (.t 0), none, []⟩,
  ⟨some 18, .ias (.t 17) (.c (.int .i64 0)) 1, none, []⟩,
  ⟨some 19, .load 1 false (.t 18), none, []⟩,
  ⟨some 20, .mv (.t 0), none, []⟩,
  ⟨some 21, .ias (.t 20) (.c (.int .i64 1)) 1, none, []⟩,
  ⟨some 22, .load 1 false (.t 21), none, []⟩,
  ⟨some 23, .mv (.t 1), none, []⟩,
  ⟨some 24, .call 177 [.t 19, .t 22, .t 23], none, []⟩,
  ⟨some 16, .mv (.t 24), none, []⟩,
  ⟨some 25, .ext (.t 16) 0, none, []⟩,
  ⟨some 26, .ext (.t 16) 1, none, []⟩,
  ⟨some 8, .mv (.t 25), none, []⟩,
  ⟨some 9, .mv (.t 26), none, []⟩] [0, 1, 6, 7, 8, 9]) k s Q := rfl
def c166_8 : ACode := .ops [⟨some 27, .mv (.t 9), none, []⟩] [0, 1, 6, 7, 8, 27]
theorem r166_8 {C : Cs} {k : List Fr} {s : St} {Q : Post} : run C c166_8 k s Q = run C (.ops [⟨some 27, .mv (.t 9), none, []⟩] [0, 1, 6, 7, 8, 27]) k s Q := rfl
def c166_9 : ACode := .ops [⟨some 28, .mv (.t 6), none, []⟩,
  ⟨some 29, .mv (.t 8), none, []⟩,
  ⟨some 30, .mkrow 30 1 1 [.nils] [(0, 1, .t 29)], none, []⟩,
  ⟨some 31, .app 6 [6] (.t 28) (.t 30) 1, none, [6, 30]⟩,
  ⟨some 32, .mv (.t 0), none, []⟩,
  ⟨some 33, .sl (.t 32) (some (.c (.int .i64 2))) none 1, none, []⟩,
  ⟨some 6, .mv (.t 31), none, []⟩,
  ⟨some 0, .mv (.t 33), none, []⟩,
  ⟨some 7, .mv (.c (.bool true)), none, []⟩] [0, 1, 6, 7]
theorem r166_9 {C : Cs} {k : List Fr} {s : St} {Q : Post} : run C c166_9 k s Q = run C (.ops [⟨some 28, .mv (.t 6), none, []⟩,
  ⟨some 29, .mv (.t 8), none, []⟩,
  ⟨some 30, .mkrow 30 1 1 [.nils] [(0, 1, .t 29)], none, []⟩,
  ⟨some 31, .app 6 [6] (.t 28) (.t 30) 1, none, [6, 30]⟩,
  ⟨some 32, .mv (.t 0), none, []⟩,
  ⟨some 33, .sl (.t 32) (some (.c (.int .i64 2))) none 1, none, []⟩,
  ⟨some 6, .mv (.t 31), none, []⟩,
  ⟨some 0, .mv (.t 33), none, []⟩,
  ⟨some 7, .mv (.c (.bool true)), none, []⟩] [0, 1, 6, 7]) k s Q := rfl
def c166_10 : ACode := .seq c166_9 (.exit 1)
theorem r166_10 {C : Cs} {k : List Fr} {s : St} {Q : Post} : run C c166_10 k s Q = run C (.seq c166_9 (.exit 1)) k s Q := rfl
def c166_11 : ACode := .cond (.t 27) c166_10 .skip
theorem r166_11 {C : Cs} {k : List Fr} {s : St} {Q : Post} : run C c166_11 k s Q = run C (.cond (.t 27) c166_10 .skip) k s Q := rfl
def c166_12 : ACode := .seq c166_8 c166_11
theorem r166_12 {C : Cs} {k : List Fr} {s : St} {Q : Post} : run C c166_12 k s Q = run C (.seq c166_8 c166_11) k s Q := rfl
def c166_13 : ACode := .seq c166_7 c166_12
theorem r166_13 {C : Cs} {k : List Fr} {s : St} {Q : Post} : run C c166_13 k s Q = run C (.seq c166_7 c166_12) k s Q := rfl
def c166_14 : ACode := .cond (.t 15) c166_13 .skip
theorem r166_14 {C : Cs} {k : List Fr} {s : St} {Q : Post} : run C c166_14 k s Q = run C (.cond (.t 15) c166_13 .skip) k s Q := rfl
def c166_15 : ACode := .seq c166_6 c166_14
theorem r166_15 {C : Cs} {k : List Fr} {s : St} {Q : Post} : run C c166_15 k s Q = run C (.seq c166_6 c166_14) k s Q := rfl
def c166_16 : ACode := .ops [⟨some 34, .mv (.t 6), none, []⟩,
  ⟨some 35, .mv (.t 0), none, []⟩,
  ⟨some 36, .ias (.t 35) (.c (.int .i64 0)) 1, none, []⟩,
  ⟨some 37, .load 1 false (.t 36), none, []⟩,
  ⟨some 38, .mkrow 38 1 1 [.nils] [(0, 1, .t 37)], none, []⟩,
  ⟨some 39, .app 6 [6] (.t 34) (.t 38) 1, none, [6, 38]⟩,
  ⟨some 40, .mv (.t 0), none, []⟩,
  ⟨some 41, .sl (.t 40) (some (.c (.int .i64 1))) none 1, none, []⟩,
  ⟨some 6, .mv (.t 39), none, []⟩,
  ⟨some 0, .mv (.t 41), none, []⟩] [0, 1, 6, 7]
theorem r166_16 {C : Cs} {k : List Fr} {s : St} {Q : Post} : run C c166_16 k s Q = run C (.ops [⟨some 34, .mv (.t 6), none, []⟩,
  ⟨some 35, .mv (.t 0), none, []⟩,
  ⟨some 36, .ias (.t 35) (.c (.int .i64 0)) 1, none, []⟩,
  ⟨some 37, .load 1 false (.t 36), none, []⟩,
  ⟨some 38, .mkrow 38 1 1 [.nils] [(0, 1, .t 37)], none, []⟩,
  ⟨some 39, .app 6 [6] (.t 34) (.t 38) 1, none, [6, 38]⟩,
  ⟨some 40, .mv (.t 0), none, []⟩,
  ⟨some 41, .sl (.t 40) (some (.c (.int .i64 1))) none 1, none, []⟩,
  ⟨some 6, .mv (.t 39), none, []⟩,
  ⟨some 0, .mv (.t 41), none, []⟩] [0, 1, 6, 7]) k s Q := rfl
def c166_17 : ACode := .seq c166_15 c166_16
theorem r166_17 {C : Cs} {k : List Fr} {s : St} {Q : Post} : run C c166_17 k s Q = run C (.seq c166_15 c166_16) k s Q := rfl
def c166_18 : ACode := .block 1 c166_17
theorem r166_18 {C : Cs} {k : List Fr} {s : St} {Q : Post} : run C c166_18 k s Q = run C (.block 1 c166_17) k s Q := rfl
def c166_19 : ACode := .seq c166_5 c166_18
theorem r166_19 {C : Cs} {k : List Fr} {s : St} {Q : Post} : run C c166_19 k s Q = run C (.seq c166_5 c166_18) k s Q := rfl
def c166_20 : ACode := .keep [0, 1, 6, 7] [6] c166_19
theorem r166_20 {C : Cs} {k : List Fr} {s : St} {Q : Post} : run C c166_20 k s Q = run C (.keep [0, 1, 6, 7] [6] c166_19) k s Q := rfl
def c166_21 : ACode := .loop c166_20
theorem r166_21 {C : Cs} {k : List Fr} {s : St} {Q : Post} : run C c166_21 k s Q = run C (.loop c166_20) k s Q := rfl
def c166_22 : ACode := .block 0 c166_21
theorem r166_22 {C : Cs} {k : List Fr} {s : St} {Q : Post} : run C c166_22 k s Q = run C (.block 0 c166_21) k s Q := rfl
def c166_23 : ACode := .ops [⟨some 42, .mv (.t 6), none, []⟩,
  ⟨some 43, .mv (.t 7), none, []⟩,
  ⟨some 4, .mv (.t 42), none, []⟩,
  ⟨some 5, .mv (.t 43), none, []⟩] [4, 5]
theorem r166_23 {C : Cs} {k : List Fr} {s : St} {Q : Post} : run C c166_23 k s Q = run C (.ops [⟨some 42, .mv (.t 6), none, []⟩,
  ⟨some 43, .mv (.t 7), none, []⟩,
  ⟨some 4, .mv (.t 42), none, []⟩,
  ⟨some 5, .mv (.t 43), none, []⟩] [4, 5]) k s Q := rfl
def c166_24 : ACode := .seq c166_23 .ret
theorem r166_24 {C : Cs} {k : List Fr} {s : St} {Q : Post} : run C c166_24 k s Q = run C (.seq c166_23 .ret) k s Q := rfl
def c166_25 : ACode := .seq c166_22 c166_24
theorem r166_25 {C : Cs} {k : List Fr} {s : St} {Q : Post} : run C c166_25 k s Q = run C (.seq c166_22 c166_24) k s Q := rfl
def c166_26 : ACode := .seq c166_2 c166_25
theorem r166_26 {C : Cs} {k : List Fr} {s : St} {Q : Post} : run C c166_26 k s Q = run C (.seq c166_2 c166_25) k s Q := rfl
def c166_27 : ACode := .seq c166_1 c166_26
theorem r166_27 {C : Cs} {k : List Fr} {s : St} {Q : Post} : run C c166_27 k s Q = run C (.seq c166_1 c166_26) k s Q := rfl
def c166_28 : ACode := .seq c166_0 c166_27
theorem r166_28 {C : Cs} {k : List Fr} {s : St} {Q : Post} : run C c166_28 k s Q = run C (.seq c166_0 c166_27) k s Q := rfl
def a166 : AFun := ⟨2, 44, c166_28, [.t 4, .t 5]⟩
attribute [simp] r166_0 r166_1 r166_2 r166_3 r166_4 r166_5 r166_6 r166_7 r166_8 r166_9 r166_10 r166_11 r166_12 r166_13 r166_14 r166_15 r166_16 r166_17 r166_18 r166_19 r166_20 r166_21 r166_22 r166_23 r166_24 r166_25 r166_26 r166_27 r166_28
theorem m166 : mFun Try.prog Try.f166 a166 = true := by decide +kernel
/- copse/level.climb -/
def c133_0 : ACode := .ops [⟨some 4, .mv (.c (.nils)), none, []⟩,
  ⟨some 5, .mv (.c (.nils)), none, []⟩] [0, 1]
theorem r133_0 {C : Cs} {k : List Fr} {s : St} {Q : Post} : run C c133_0 k s Q = run C (.ops [⟨some 4, .mv (.c (.nils)), none, []⟩,
  ⟨some 5, .mv (.c (.nils)), none, []⟩] [0, 1]) k s Q := rfl
def c133_1 : ACode := .ops [⟨some 9, .mv (.t 0), none, []⟩,
  ⟨some 10, .len (.t 9), none, []⟩,
  ⟨some 11, .mkrow 6 1 1 [.int .i64 0] [(0, 1, .t 10)], none, []⟩,
  ⟨some 6, .mv (.t 11), none, []⟩] [0, 1, 6]
theorem r133_1 {C : Cs} {k : List Fr} {s : St} {Q : Post} : run C c133_1 k s Q = run C (.ops [⟨some 9, .mv (.t 0), none, []⟩,
  ⟨some 10, .len (.t 9), none, []⟩,
  ⟨some 11, .mkrow 6 1 1 [.int .i64 0] [(0, 1, .t 10)], none, []⟩,
  ⟨some 6, .mv (.t 11), none, []⟩] [0, 1, 6]) k s Q := rfl
def c133_2 : ACode := .ops [⟨some 13, .mv (.t 0), none, []⟩,
  ⟨some 14, .mv (.t 1), none, []⟩,
  ⟨some 15, .call 166 [.t 13, .t 14], none, []⟩,
  ⟨some 12, .mv (.t 15), none, []⟩,
  ⟨some 16, .ext (.t 12) 0, none, []⟩,
  ⟨some 17, .ext (.t 12) 1, none, []⟩,
  ⟨some 7, .mv (.t 16), none, []⟩,
  ⟨some 8, .mv (.t 17), none, []⟩] [0, 1, 6, 7, 8]
theorem r133_2 {C : Cs} {k : List Fr} {s : St} {Q : Post} : run C c133_2 k s Q = run C (.ops [⟨some 13, .mv (.t 0), none, []⟩,
  ⟨some 14, .mv (.t 1), none, []⟩,
  ⟨some 15, .call 166 [.t 13, .t 14], none, []⟩,
  ⟨some 12, .mv (.t 15), none, []⟩,
  ⟨some 16, .ext (.t 12) 0, none, []⟩,
  ⟨some 17, .ext (.t 12) 1, none, []⟩,
  ⟨some 7, .mv (.t 16), none, []⟩,
  ⟨some 8, .mv (.t 17), none, []⟩] [0, 1, 6, 7, 8]) k s Q := rfl
def c133_3 : ACode := .ops [⟨some 18, .mv (.t 8), none, []⟩,
  ⟨some 19, .un .not (.t 18), none, []⟩] [0, 1, 6, 7, 19]
theorem r133_3 {C : Cs} {k : List Fr} {s : St} {Q : Post} : run C c133_3 k s Q = run C (.ops [⟨some 18, .mv (.t 8), none, []⟩,
  ⟨some 19, .un .not (.t 18), none, []⟩] [0, 1, 6, 7, 19]) k s Q := rfl
def c133_4 : ACode := .ops [⟨some 20, .mv (.t 0), none, []⟩,
  ⟨some 21, .mv (.t 6), none, []⟩,
  ⟨some 4, .mv (.t 20), none, []⟩,
  ⟨some 5, .mv (.t 21), none, []⟩] [4, 5]
theorem r133_4 {C : Cs} {k : List Fr} {s : St} {Q : Post} : run C c133_4 k s Q = run C (.ops [⟨some 20, .mv (.t 0), none, []⟩,
  ⟨some 21, .mv (.t 6), none, []⟩,
  ⟨some 4, .mv (.t 20), none, []⟩,
  ⟨some 5, .mv (.t 21), none, []⟩] [4, 5]) k s Q := rfl
def c133_5 : ACode := .seq c133_4 .ret
theorem r133_5 {C : Cs} {k : List Fr} {s : St} {Q : Post} : run C c133_5 k s Q = run C (.seq c133_4 .ret) k s Q := rfl
def c133_6 : ACode := .cond (.t 19) c133_5 .skip
theorem r133_6 {C : Cs} {k : List Fr} {s : St} {Q : Post} : run C c133_6 k s Q = run C (.cond (.t 19) c133_5 .skip) k s Q := rfl
def c133_7 : ACode := .seq c133_3 c133_6
theorem r133_7 {C : Cs} {k : List Fr} {s : St} {Q : Post} : run C c133_7 k s Q = run C (.seq c133_3 c133_6) k s Q := rfl
def c133_8 : ACode := .ops [⟨some 22, .mv (.t 7), none, []⟩,
  ⟨some 0, .mv (.t 22), none, []⟩] [0, 1, 6]
theorem r133_8 {C : Cs} {k : List Fr} {s : St} {Q : Post} : run C c133_8 k s Q = run C (.ops [⟨some 22, .mv (.t 7), none, []⟩,
  ⟨some 0, .mv (.t 22), none, []⟩] [0, 1, 6]) k s Q := rfl
def c133_9 : ACode := .ops [⟨some 23, .mv (.t 6), none, []⟩,
  ⟨some 24, .mv (.t 0), none, []⟩,
  ⟨some 25, .len (.t 24), none, []⟩,
  ⟨some 26, .mkrow 26 1 1 [.int .i64 0] [(0, 1, .t 25)], none, []⟩,
  ⟨some 27, .app 6 [6] (.t 23) (.t 26) 1, none, [6, 26]⟩,
  ⟨some 6, .mv (.t 27), none, []⟩] [0, 1, 6]
theorem r133_9 {C : Cs} {k : List Fr} {s : St} {Q : Post} : run C c133_9 k s Q = run C (.ops [⟨some 23, .mv (.t 6), none, []⟩,
  ⟨some 24, .mv (.t 0), none, []⟩,
  ⟨some 25, .len (.t 24), none, []⟩,
  ⟨some 26, .mkrow 26 1 1 [.int .i64 0] [(0, 1, .t 25)], none, []⟩,
  ⟨some 27, .app 6 [6] (.t 23) (.t 26) 1, none, [6, 26]⟩,
  ⟨some 6, .mv (.t 27), none, []⟩] [0, 1, 6]) k s Q := rfl
def c133_10 : ACode := .seq c133_8 c133_9
theorem r133_10 {C : Cs} {k : List Fr} {s : St} {Q : Post} : run C c133_10 k s Q = run C (.seq c133_8 c133_9) k s Q := rfl
def c133_11 : ACode := .seq c133_7 c133_10
theorem r133_11 {C : Cs} {k : List Fr} {s : St} {Q : Post} : run C c133_11 k s Q = run C (.seq c133_7 c133_10) k s Q := rfl
def c133_12 : ACode := .seq c133_2 c133_11
theorem r133_12 {C : Cs} {k : List Fr} {s : St} {Q : Post} : run C c133_12 k s Q = run C (.seq c133_2 c133_11) k s Q := rfl
def c133_13 : ACode := .block 1 c133_12
theorem r133_13 {C : Cs} {k : List Fr} {s : St} {Q : Post} : run C c133_13 k s Q = run C (.block 1 c133_12) k s Q := rfl
def c133_14 : ACode := .keep [0, 1, 6] [6] c133_13
theorem r133_14 {C : Cs} {k : List Fr} {s : St} {Q : Post} : run C c133_14 k s Q = run C (.keep [0, 1, 6] [6] c133_13) k s Q := rfl
def c133_15 : ACode := .loop c133_14
theorem r133_15 {C : Cs} {k : List Fr} {s : St} {Q : Post} : run C c133_15 k s Q = run C (.loop c133_14) k s Q := rfl
def c133_16 : ACode := .block 0 c133_15
theorem r133_16 {C : Cs} {k : List Fr} {s : St} {Q : Post} : run C c133_16 k s Q = run C (.block 0 c133_15) k s Q := rfl
def c133_17 : ACode := .seq c133_1 c133_16
theorem r133_17 {C : Cs} {k : List Fr} {s : St} {Q : Post} : run C c133_17 k s Q = run C (.seq c133_1 c133_16) k s Q := rfl
def c133_18 : ACode := .seq c133_0 c133_17
theorem r133_18 {C : Cs} {k : List Fr} {s : St} {Q : Post} : run C c133_18 k s Q = run C (.seq c133_0 c133_17) k s Q := rfl
def a133 : AFun := ⟨2, 28, c133_18, [.t 4, .t 5]⟩
attribute [simp] r133_0 r133_1 r133_2 r133_3 r133_4 r133_5 r133_6 r133_7 r133_8 r133_9 r133_10 r133_11 r133_12 r133_13 r133_14 r133_15 r133_16 r133_17 r133_18
theorem m133 : mFun Try.prog Try.f133 a133 = true := by decide +kernel
/- copse/level.Range -/
def c82_0 : ACode := .ops [⟨some 4, .box (.t 0) 6, none, []⟩,
  ⟨some 6, .box (.t 2) 10, none, []⟩,
  ⟨some 8, .mv (.c (.int .i64 0)), none, []⟩,
  ⟨some 9, .mv (.c (.int .i64 0)), none, []⟩,
  ⟨some 10, .mv (.c (.bool false)), none, []⟩] [1, 3, 4, 6]
theorem r82_0 {C : Cs} {k : List Fr} {s : St} {Q : Post} : run C c82_0 k s Q = run C (.ops [⟨some 4, .box (.t 0) 6, none, []⟩,
  ⟨some 6, .box (.t 2) 10, none, []⟩,
  ⟨some 8, .mv (.c (.int .i64 0)), none, []⟩,
  ⟨some 9, .mv (.c (.int .i64 0)), none, []⟩,
  ⟨some 10, .mv (.c (.bool false)), none, []⟩] [1, 3, 4, 6]) k s Q := rfl
def c82_1 : ACode := .ops [⟨some 21, .load 6 true (.t 4), none, [4]⟩,
  ⟨some 22, .mv (.t 1), none, []⟩,
  ⟨some 23, .load 10 true (.t 6), none, [6]⟩,
  ⟨some 24, .call 132 [.t 21, .t 22, .t 23], none, []⟩,
  ⟨some 20, .mv (.t 24), none, []⟩,
  ⟨some 25, .ext (.t 20) 0, none, []⟩,
  ⟨some 26, .ext (.t 20) 1, none, []⟩,
  ⟨some 11, .mv (.t 25), none, []⟩,
  ⟨some 12, .mv (.t 26), none, []⟩] [1, 3, 4, 11, 12]
theorem r82_1 {C : Cs} {k : List Fr} {s : St} {Q : Post} : run C c82_1 k s Q = run C (.ops [⟨some 21, .load 6 true (.t 4), none, [4]⟩,
  ⟨some 22, .mv (.t 1), none, []⟩,
  ⟨some 23, .load 10 true (.t 6), none, [6]⟩,
  ⟨some 24, .call 132 [.t 21, .t 22, .t 23], none, []⟩,
  ⟨some 20, .mv (.t 24), none, []⟩,
  ⟨some 25, .ext (.t 20) 0, none, []⟩,
  ⟨some 26, .ext (.t 20) 1, none, []⟩,
  ⟨some 11, .mv (.t 25), none, []⟩,
  ⟨some 12, .mv (.t 26), none, []⟩] [1, 3, 4, 11, 12]) k s Q := rfl
def c82_2 : ACode := .ops [⟨some 27, .mv (.t 12), none, []⟩,
  ⟨some 28, .un .not (.t 27), none, []⟩] [1, 3, 4, 11, 28]
theorem r82_2 {C : Cs} {k : List Fr} {s : St} {Q : Post} : run C c82_2 k s Q = run C (.ops [⟨some 27, .mv (.t 12), none, []⟩,
  ⟨some 28, .un .not (.t 27), none, []⟩] [1, 3, 4, 11, 28]) k s Q := rfl
def c82_3 : ACode := .ops [⟨some 8, .mv (.c (.int .i64 0)), none, []⟩,
  ⟨some 9, .mv (.c (.int .i64 0)), none, []⟩,
  ⟨some 10, .mv (.c (.bool false)), none, []⟩] [8, 9, 10]
theorem r82_3 {C : Cs} {k : List Fr} {s : St} {Q : Post} : run C c82_3 k s Q = run C (.ops [⟨some 8, .mv (.c (.int .i64 0)), none, []⟩,
  ⟨some 9, .mv (.c (.int .i64 0)), none, []⟩,
  ⟨some 10, .mv (.c (.bool false)), none, []⟩] [8, 9, 10]) k s Q := rfl
def c82_4 : ACode := .seq c82_3 .ret
theorem r82_4 {C : Cs} {k : List Fr} {s : St} {Q : Post} : run C c82_4 k s Q = run C (.seq c82_3 .ret) k s Q := rfl
def c82_5 : ACode := .cond (.t 28) c82_4 .skip
theorem r82_5 {C : Cs} {k : List Fr} {s : St} {Q : Post} : run C c82_5 k s Q = run C (.cond (.t 28) c82_4 .skip) k s Q := rfl
def c82_6 : ACode := .seq c82_2 c82_5
theorem r82_6 {C : Cs} {k : List Fr} {s : St} {Q : Post} : run C c82_6 k s Q = run C (.seq c82_2 c82_5) k s Q := rfl
def c82_7 : ACode := .ops [⟨some 30, .mv (.t 11), none, []⟩,
  ⟨some 31, .mv (.t 3), none, []⟩,
  ⟨some 32, .call 133 [.t 30, .t 31], none, []⟩,
  ⟨some 29, .mv (.t 32), none, []⟩,
  ⟨some 33, .ext (.t 29) 0, none, []⟩,
  ⟨some 34, .ext (.t 29) 1, none, []⟩,
  ⟨some 11, .mv (.t 33), none, []⟩] [1, 4, 11]
theorem r82_7 {C : Cs} {k : List Fr} {s : St} {Q : Post} : run C c82_7 k s Q = run C (.ops [⟨some 30, .mv (.t 11), none, []⟩,
  ⟨some 31, .mv (.t 3), none, []⟩,
  ⟨some 32, .call 133 [.t 30, .t 31], none, []⟩,
  ⟨some 29, .mv (.t 32), none, []⟩,
  ⟨some 33, .ext (.t 29) 0, none, []⟩,
  ⟨some 34, .ext (.t 29) 1, none, []⟩,
  ⟨some 11, .mv (.t 33), none, []⟩] [1, 4, 11]) k s Q := rfl
def c82_8 : ACode := .ops [⟨some 35, .mv (.t 1), none, []⟩,
  ⟨some 36, .fad (.t 4) 2, none, [4]⟩,
  ⟨some 37, .iad (.t 36) (.t 35) 1 3, none, [4]⟩,
  ⟨some 38, .load 1 false (.t 37), none, [4]⟩,
  ⟨some 39, .mv (.t 1), none, []⟩,
  ⟨some 40, .fad (.t 4) 2, none, [4]⟩,
  ⟨some 41, .iad (.t 40) (.t 39) 1 3, none, [4]⟩,
  ⟨some 42, .load 1 false (.t 41), none, [4]⟩,
  ⟨some 13, .mv (.t 38), none, []⟩,
  ⟨some 14, .mv (.t 42), none, []⟩] [11, 13, 14]
theorem r82_8 {C : Cs} {k : List Fr} {s : St} {Q : Post} : run C c82_8 k s Q = run C (.ops [⟨some 35, .mv (.t 1), none, []⟩,
  ⟨some 36, .fad (.t 4) 2, none, [4]⟩,
  ⟨some 37, .iad (.t 36) (.t 35) 1 3, none, [4]⟩,
  ⟨some 38, .load 1 false (.t 37), none, [4]⟩,
  ⟨some 39, .mv (.t 1), none, []⟩,
  ⟨some 40, .fad (.t 4) 2, none, [4]⟩,
  ⟨some 41, .iad (.t 40) (.t 39) 1 3, none, [4]⟩,
  ⟨some 42, .load 1 false (.t 41), none, [4]⟩,
  ⟨some 13, .mv (.t 38), none, []⟩,
  ⟨some 14, .mv (.t 42), none, []⟩] [11, 13, 14]) k s Q := rfl
def c82_9 : ACode := .ops [⟨some 43, .mv (.t 11), none, []⟩,
  ⟨some 44, .len (.t 43), none, []⟩,
  ⟨some 45, .mv (.c (.int .i64 0)), none, []⟩] [11, 13, 14, 43, 44, 45]
theorem r82_9 {C : Cs} {k : List Fr} {s : St} {Q : Post} : run C c82_9 k s Q = run C (.ops [⟨some 43, .mv (.t 11), none, []⟩,
  ⟨some 44, .len (.t 43), none, []⟩,
  ⟨some 45, .mv (.c (.int .i64 0)), none, []⟩] [11, 13, 14, 43, 44, 45]) k s Q := rfl
def c82_10 : ACode := .ops [⟨some 46, .bin .lss (.t 45) (.t 44), none, []⟩] [11, 13, 14, 43, 44, 45, 46]
theorem r82_10 {C : Cs} {k : List Fr} {s : St} {Q : Post} : run C c82_10 k s Q = run C (.ops [⟨some 46, .bin .lss (.t 45) (.t 44), none, []⟩] [11, 13, 14, 43, 44, 45, 46]) k s Q := rfl
def c82_11 : ACode := .cond (.t 46) .skip (.exit 0)
theorem r82_11 {C : Cs} {k : List Fr} {s : St} {Q : Post} : run C c82_11 k s Q = run C (.cond (.t 46) .skip (.exit 0)) k s Q := rfl
def c82_12 : ACode := .ops [⟨some 47, .ias (.t 43) (.t 45) 1, none, []⟩,
  ⟨some 48, .load 1 false (.t 47), none, []⟩,
  ⟨some 16, .mv (.t 48), none, []⟩] [11, 13, 14, 16, 43, 44, 45]
theorem r82_12 {C : Cs} {k : List Fr} {s : St} {Q : Post} : run C c82_12 k s Q = run C (.ops [⟨some 47, .ias (.t 43) (.t 45) 1, none, []⟩,
  ⟨some 48, .load 1 false (.t 47), none, []⟩,
  ⟨some 16, .mv (.t 48), none, []⟩] [11, 13, 14, 16, 43, 44, 45]) k s Q := rfl
def c82_13 : ACode := .ops [⟨some 50, .mv (.t 16), none, []⟩,
  ⟨some 51, .call 134 [.t 50], none, []⟩,
  ⟨some 49, .mv (.t 51), none, []⟩,
  ⟨some 52, .ext (.t 49) 0, none, []⟩,
  ⟨some 53, .ext (.t 49) 1, none, []⟩,
  ⟨some 54, .ext (.t 49) 2, none, []⟩,
  ⟨some 17, .mv (.t 52), none, []⟩,
  ⟨some 18, .mv (.t 53), none, []⟩,
  ⟨some 19, .mv (.t 54), none, []⟩] [11, 13, 14, 17, 18, 43, 44, 45]
theorem r82_13 {C : Cs} {k : List Fr} {s : St} {Q : Post} : run C c82_13 k s Q = run C (.ops [⟨some 50, .mv (.t 16), none, []⟩,
  ⟨some 51, .call 134 [.t 50], none, []⟩,
  ⟨some 49, .mv (.t 51), none, []⟩,
  ⟨some 52, .ext (.t 49) 0, none, []⟩,
  ⟨some 53, .ext (.t 49) 1, none, []⟩,
  ⟨some 54, .ext (.t 49) 2, none, []⟩,
  ⟨some 17, .mv (.t 52), none, []⟩,
  ⟨some 18, .mv (.t 53), none, []⟩,
  ⟨some 19, .mv (.t 54), none, []⟩] [11, 13, 14, 17, 18, 43, 44, 45]) k s Q := rfl
def c82_14 : ACode := .ops [⟨some 55, .mv (.t 13), none, []⟩,
  ⟨some 56, .mv (.t 17), none, []⟩,
  ⟨some 57, .bin .add (.t 55) (.t 56), none, []⟩,
  ⟨some 58, .mv (.t 14), none, []⟩,
  ⟨some 59, .mv (.t 18), none, []⟩,
  ⟨some 60, .bin .add (.t 58) (.t 59), none, []⟩,
  ⟨some 13, .mv (.t 57), none, []⟩,
  ⟨some 14, .mv (.t 60), none, []⟩] [11, 13, 14, 43, 44, 45]
theorem r82_14 {C : Cs} {k : List Fr} {s : St} {Q : Post} : run C c82_14 k s Q = run C (.ops [⟨some 55, .mv (.t 13), none, []⟩,
  ⟨some 56, .mv (.t 17), none, []⟩,
  ⟨some 57, .bin .add (.t 55) (.t 56), none, []⟩,
  ⟨some 58, .mv (.t 14), none, []⟩,
  ⟨some 59, .mv (.t 18), none, []⟩,
  ⟨some 60, .bin .add (.t 58) (.t 59), none, []⟩,
  ⟨some 13, .mv (.t 57), none, []⟩,
  ⟨some 14, .mv (.t 60), none, []⟩] [11, 13, 14, 43, 44, 45]) k s Q := rfl
def c82_15 : ACode := .seq c82_13 c82_14
theorem r82_15 {C : Cs} {k : List Fr} {s : St} {Q : Post} : run C c82_15 k s Q = run C (.seq c82_13 c82_14) k s Q := rfl
def c82_16 : ACode := .seq c82_12 c82_15
theorem r82_16 {C : Cs} {k : List Fr} {s : St} {Q : Post} : run C c82_16 k s Q = run C (.seq c82_12 c82_15) k s Q := rfl
def c82_17 : ACode := .block 1 c82_16
theorem r82_17 {C : Cs} {k : List Fr} {s : St} {Q : Post} : run C c82_17 k s Q = run C (.block 1 c82_16) k s Q := rfl
def c82_18 : ACode := .ops [⟨some 61, .bin .add (.t 45) (.c (.int .i64 1)), none, []⟩,
  ⟨some 45, .mv (.t 61), none, []⟩] [11, 13, 14, 43, 44, 45]
theorem r82_18 {C : Cs} {k : List Fr} {s : St} {Q : Post} : run C c82_18 k s Q = run C (.ops [⟨some 61, .bin .add (.t 45) (.c (.int .i64 1)), none, []⟩,
  ⟨some 45, .mv (.t 61), none, []⟩] [11, 13, 14, 43, 44, 45]) k s Q := rfl
def c82_19 : ACode := .seq c82_17 c82_18
theorem r82_19 {C : Cs} {k : List Fr} {s : St} {Q : Post} : run C c82_19 k s Q = run C (.seq c82_17 c82_18) k s Q := rfl
def c82_20 : ACode := .seq c82_11 c82_19
theorem r82_20 {C : Cs} {k : List Fr} {s : St} {Q : Post} : run C c82_20 k s Q = run C (.seq c82_11 c82_19) k s Q := rfl
def c82_21 : ACode := .seq c82_10 c82_20
theorem r82_21 {C : Cs} {k : List Fr} {s : St} {Q : Post} : run C c82_21 k s Q = run C (.seq c82_10 c82_20) k s Q := rfl
def c82_22 : ACode := .keep [11, 13, 14, 43, 44, 45] [] c82_21
theorem r82_22 {C : Cs} {k : List Fr} {s : St} {Q : Post} : run C c82_22 k s Q = run C (.keep [11, 13, 14, 43, 44, 45] [] c82_21) k s Q := rfl
def c82_23 : ACode := .loop c82_22
theorem r82_23 {C : Cs} {k : List Fr} {s : St} {Q : Post} : run C c82_23 k s Q = run C (.loop c82_22) k s Q := rfl
def c82_24 : ACode := .block 0 c82_23
theorem r82_24 {C : Cs} {k : List Fr} {s : St} {Q : Post} : run C c82_24 k s Q = run C (.block 0 c82_23) k s Q := rfl
def c82_25 : ACode := .seq c82_9 c82_24
theorem r82_25 {C : Cs} {k : List Fr} {s : St} {Q : Post} : run C c82_25 k s Q = run C (.seq c82_9 c82_24) k s Q := rfl
def c82_26 : ACode := .ops [⟨some 62, .mv (.t 13), none, []⟩,
  ⟨some 63, .mv (.t 14), none, []⟩,
  ⟨some 64, .mv (.t 11), none, []⟩,
  ⟨some 65, .len (.t 64), none, []⟩,
  ⟨some 66, .bin .leq (.t 65) (.c (.int .i64 1)), none, []⟩,
  ⟨some 8, .mv (.t 62), none, []⟩,
  ⟨some 9, .mv (.t 63), none, []⟩,
  ⟨some 10, .mv (.t 66), none, []⟩] [8, 9, 10]
theorem r82_26 {C : Cs} {k : List Fr} {s : St} {Q : Post} : run C c82_26 k s Q = run C (.ops [⟨some 62, .mv (.t 13), none, []⟩,
  ⟨some 63, .mv (.t 14), none, []⟩,
  ⟨some 64, .mv (.t 11), none, []⟩,
  ⟨some 65, .len (.t 64), none, []⟩,
  ⟨some 66, .bin .leq (.t 65) (.c (.int .i64 1)), none, []⟩,
  ⟨some 8, .mv (.t 62), none, []⟩,
  ⟨some 9, .mv (.t 63), none, []⟩,
  ⟨some 10, .mv (.t 66), none, []⟩] [8, 9, 10]) k s Q := rfl
def c82_27 : ACode := .seq c82_26 .ret
theorem r82_27 {C : Cs} {k : List Fr} {s : St} {Q : Post} : run C c82_27 k s Q = run C (.seq c82_26 .ret) k s Q := rfl
def c82_28 : ACode := .seq c82_25 c82_27
theorem r82_28 {C : Cs} {k : List Fr} {s : St} {Q : Post} : run C c82_28 k s Q = run C (.seq c82_25 c82_27) k s Q := rfl
def c82_29 : ACode := .seq c82_8 c82_28
theorem r82_29 {C : Cs} {k : List Fr} {s : St} {Q : Post} : run C c82_29 k s Q = run C (.seq c82_8 c82_28) k s Q := rfl
def c82_30 : ACode := .seq c82_7 c82_29
theorem r82_30 {C : Cs} {k : List Fr} {s : St} {Q : Post} : run C c82_30 k s Q = run C (.seq c82_7 c82_29) k s Q := rfl
def c82_31 : ACode := .seq c82_6 c82_30
theorem r82_31 {C : Cs} {k : List Fr} {s : St} {Q : Post} : run C c82_31 k s Q = run C (.seq c82_6 c82_30) k s Q := rfl
def c82_32 : ACode := .seq c82_1 c82_31
theorem r82_32 {C : Cs} {k : List Fr} {s : St} {Q : Post} : run C c82_32 k s Q = run C (.seq c82_1 c82_31) k s Q := rfl
def c82_33 : ACode := .seq c82_0 c82_32
theorem r82_33 {C : Cs} {k : List Fr} {s : St} {Q : Post} : run C c82_33 k s Q = run C (.seq c82_0 c82_32) k s Q := rfl
def a82 : AFun := ⟨4, 67, c82_33, [.t 8, .t 9, .t 10]⟩
attribute [simp] r82_0 r82_1 r82_2 r82_3 r82_4 r82_5 r82_6 r82_7 r82_8 r82_9 r82_10 r82_11 r82_12 r82_13 r82_14 r82_15 r82_16 r82_17 r82_18 r82_19 r82_20 r82_21 r82_22 r82_23 r82_24 r82_25 r82_26 r82_27 r82_28 r82_29 r82_30 r82_31 r82_32 r82_33
theorem m82 : mFun Try.prog Try.f82 a82 = true := by decide +kernel
/- copse/level.Levels -/
def c84_0 : ACode := .ops [⟨some 4, .box (.t 0) 6, none, []⟩,
  ⟨some 6, .box (.t 2) 10, none, []⟩,
  ⟨some 8, .mv (.c (.nils)), none, []⟩] [1, 3, 4, 6]
theorem r84_0 {C : Cs} {k : List Fr} {s : St} {Q : Post} : run C c84_0 k s Q = run C (.ops [⟨some 4, .box (.t 0) 6, none, []⟩,
  ⟨some 6, .box (.t 2) 10, none, []⟩,
  ⟨some 8, .mv (.c (.nils)), none, []⟩] [1, 3, 4, 6]) k s Q := rfl
def c84_1 : ACode := .ops [⟨some 14, .load 6 true (.t 4), none, [4]⟩,
  ⟨some 15, .mv (.t 1), none, []⟩,
  ⟨some 16, .load 10 true (.t 6), none, [6]⟩,
  ⟨some 17, .call 132 [.t 14, .t 15, .t 16], none, []⟩,
  ⟨some 13, .mv (.t 17), none, []⟩,
  ⟨some 18, .ext (.t 13) 0, none, []⟩,
  ⟨some 19, .ext (.t 13) 1, none, []⟩,
  ⟨some 9, .mv (.t 18), none, []⟩,
  ⟨some 10, .mv (.t 19), none, []⟩] [3, 9, 10]
theorem r84_1 {C : Cs} {k : List Fr} {s : St} {Q : Post} : run C c84_1 k s Q = run C (.ops [⟨some 14, .load 6 true (.t 4), none, [4]⟩,
  ⟨some 15, .mv (.t 1), none, []⟩,
  ⟨some 16, .load 10 true (.t 6), none, [6]⟩,
  ⟨some 17, .call 132 [.t 14, .t 15, .t 16], none, []⟩,
  ⟨some 13, .mv (.t 17), none, []⟩,
  ⟨some 18, .ext (.t 13) 0, none, []⟩,
  ⟨some 19, .ext (.t 13) 1, none, []⟩,
  ⟨some 9, .mv (.t 18), none, []⟩,
  ⟨some 10, .mv (.t 19), none, []⟩] [3, 9, 10]) k s Q := rfl
def c84_2 : ACode := .ops [⟨some 20, .mv (.t 10), none, []⟩,
  ⟨some 21, .un .not (.t 20), none, []⟩] [3, 9, 21]
theorem r84_2 {C : Cs} {k : List Fr} {s : St} {Q : Post} : run C c84_2 k s Q = run C (.ops [⟨some 20, .mv (.t 10), none, []⟩,
  ⟨some 21, .un .not (.t 20), none, []⟩] [3, 9, 21]) k s Q := rfl
def c84_3 : ACode := .ops [⟨some 8, .mv (.c (.nils)), none, []⟩] [8]
theorem r84_3 {C : Cs} {k : List Fr} {s : St} {Q : Post} : run C c84_3 k s Q = run C (.ops [⟨some 8, .mv (.c (.nils)), none, []⟩] [8]) k s Q := rfl
def c84_4 : ACode := .seq c84_3 .ret
theorem r84_4 {C : Cs} {k : List Fr} {s : St} {Q : Post} : run C c84_4 k s Q = run C (.seq c84_3 .ret) k s Q := rfl
def c84_5 : ACode := .cond (.t 21) c84_4 .skip
theorem r84_5 {C : Cs} {k : List Fr} {s : St} {Q : Post} : run C c84_5 k s Q = run C (.cond (.t 21) c84_4 .skip) k s Q := rfl
def c84_6 : ACode := .seq c84_2 c84_5
theorem r84_6 {C : Cs} {k : List Fr} {s : St} {Q : Post} : run C c84_6 k s Q = run C (.seq c84_2 c84_5) k s Q := rfl
def c84_7 : ACode := .ops [⟨some 23, .mv (.t 9), none, []⟩,
  ⟨some 24, .mv (.t 3), none, []⟩,
  ⟨some 25, .call 133 [.t 23, .t 24], none, []⟩,
  ⟨some 22, .mv (.t 25), none, []⟩,
  ⟨some 26, .ext (.t 22) 0, none, []⟩,
  ⟨some 27, .ext (.t 22) 1, none, []⟩,
  ⟨some 11, .mv (.t 26), none, []⟩,
  ⟨some 12, .mv (.t 27), none, []⟩] [12]
theorem r84_7 {C : Cs} {k : List Fr} {s : St} {Q : Post} : run C c84_7 k s Q = run C (.ops [⟨some 23, .mv (.t 9), none, []⟩,
  ⟨some 24, .mv (.t 3), none, []⟩,
  ⟨some 25, .call 133 [.t 23, .t 24], none, []⟩,
  ⟨some 22, .mv (.t 25), none, []⟩,
  ⟨some 26, .ext (.t 22) 0, none, []⟩,
  ⟨some 27, .ext (.t 22) 1, none, []⟩,
  ⟨some 11, .mv (.t 26), none, []⟩,
  ⟨some 12, .mv (.t 27), none, []⟩] [12]) k s Q := rfl
def c84_8 : ACode := .ops [⟨some 28, .mv (.t 12), none, []⟩,
  ⟨some 8, .mv (.t 28), none, []⟩] [8]
theorem r84_8 {C : Cs} {k : List Fr} {s : St} {Q : Post} : run C c84_8 k s Q = run C (.ops [⟨some 28, .mv (.t 12), none, []⟩,
  ⟨some 8, .mv (.t 28), none, []⟩] [8]) k s Q := rfl
def c84_9 : ACode := .seq c84_8 .ret
theorem r84_9 {C : Cs} {k : List Fr} {s : St} {Q : Post} : run C c84_9 k s Q = run C (.seq c84_8 .ret) k s Q := rfl
def c84_10 : ACode := .seq c84_7 c84_9
theorem r84_10 {C : Cs} {k : List Fr} {s : St} {Q : Post} : run C c84_10 k s Q = run C (.seq c84_7 c84_9) k s Q := rfl
def c84_11 : ACode := .seq c84_6 c84_10
theorem r84_11 {C : Cs} {k : List Fr} {s : St} {Q : Post} : run C c84_11 k s Q = run C (.seq c84_6 c84_10) k s Q := rfl
def c84_12 : ACode := .seq c84_1 c84_11
theorem r84_12 {C : Cs} {k : List Fr} {s : St} {Q : Post} : run C c84_12 k s Q = run C (.seq c84_1 c84_11) k s Q := rfl
def c84_13 : ACode := .seq c84_0 c84_12
theorem r84_13 {C : Cs} {k : List Fr} {s : St} {Q : Post} : run C c84_13 k s Q = run C (.seq c84_0 c84_12) k s Q := rfl
def a84 : AFun := ⟨4, 29, c84_13, [.t 8]⟩
attribute [simp] r84_0 r84_1 r84_2 r84_3 r84_4 r84_5 r84_6 r84_7 r84_8 r84_9 r84_10 r84_11 r84_12 r84_13
theorem m84 : mFun Try.prog Try.f84 a84 = true := by decide +kernel


noncomputable def EndsG (ps : List Piece) : Option (Tri Int Int Bool) := Part (ps.length ≤ 1073741824) (ends ps)
set_option maxHeartbeats 1000000 in
theorem runs_cEnds (ps : List Piece) (c : Tri Int Int Bool) (h : EndsG ps = some c) : Runs (tbl []) a134 [Arg.enc ps] (Arg.enc c) := by
  obtain ⟨hl, rfl⟩ := part_some h
  clear h
  refine ⟨rfl, fun g => run_def ?_⟩
  unfold a134
  have b3 : ps.length ≤ maxN := by unfold maxN; omega
  cases ps with
  | nil => simp -implicitDefEqProofs [ends, encL_nil]
  | cons x xs =>
    have hne : ¬ ((x :: xs).length : Int) = 0 := by simp; omega
    have hnn : x :: xs ≠ [] := by simp
    have r0 : rd (encL (x :: xs)) 10 1 false = some (.int .i64 x.value) := rd_piece10 (x :: xs) 0 (by simp)
    have hpos : 0 < (x :: xs).length := by simp
    have he : ends (x :: xs) = ⟨((x :: xs).foldl endF (x.value, x.value)).1, ((x :: xs).foldl endF (x.value, x.value)).2, true⟩ := rfl
    rw [he]
    generalize x :: xs = ps at *
    simp -implicitDefEqProofs [b3, hne, r0, hpos]
    refine ⟨hnn, fun _ => ?_⟩
    refine run_while (c := c134_17) (fun n s => ∃ (i : Nat), i + n = ps.length ∧ s = ⟨[(5, .int .i64 ((ps.take i).foldl endF (x.value, x.value)).1), (6, .int .i64 ((ps.take i).foldl endF (x.value, x.value)).2), (20, .lst ps.length (encL ps)), (21, .int .i64 ps.length), (22, .int .i64 i)], [], s.g⟩) ps.length ⟨0, by omega, by simp⟩ ?_
    rintro n s ⟨i, hi, hs⟩
    rw [hs]
    have w1 : IntKind.i64.wrap ((i : Int) + 1) = (i : Int) + 1 := wrap64 (by omega) (by omega)
    by_cases h1 : i < ps.length
    case pos =>
      have hrow := rd_piece ps i h1
      have hs2 : (ps.take (i + 1)).foldl endF (x.value, x.value) = endF ((ps.take i).foldl endF (x.value, x.value)) ps[i] := by
        rw [List.take_succ_eq_append_getElem h1, List.foldl_append]
        rfl
      simp -implicitDefEqProofs [h1, hrow, w1]
      exact ⟨n - 1, by omega, i + 1, by omega, by rw [hs2]; rfl, by rw [hs2]; rfl, by omega⟩
    case neg =>
      have hil : i = ps.length := by omega
      subst hil
      simp -implicitDefEqProofs [h1]
theorem c_cEnds : Contract Try.prog 134 (sp1 EndsG) :=
  contract_of_runs mixed tbl_nil Try.func134 m134 (sp1_runs runs_cEnds)

theorem takeG {l : List (List Piece)} : List.take l.length (encL l) = encL l := take_rows _ _ (by simp)
theorem takeG' {l : List (List Piece)} {n : Nat} (h : n = l.length) : List.take n (encL l) = encL l := take_rows _ _ (by simp [h])
theorem lenG {l : List (List Piece)} : (encL l).length = l.length := by rw [encL_length]; simp

noncomputable def StartC (m : Model) (c : Int) (b : Box) : Option (List (List Piece) × Bool) := Part (RM m ∧ okB b) (startP m c b)
def startTo (m : Model) (c : Int) (b : Box) (i : Nat) : List (List Piece) := ((m.trees.take i).filter fun t => decide (t.cls = c)).map fun t => pieces t.nodes b
theorem startTo_len (m : Model) (c : Int) (b : Box) (i : Nat) : (startTo m c b i).length ≤ i := by
  unfold startTo
  rw [List.length_map]
  have := List.length_filter_le (fun t : Tree => decide (t.cls = c)) (m.trees.take i)
  have := List.length_take_le i m.trees
  omega
set_option maxHeartbeats 1000000 in
theorem runs_lstart (m : Model) (c : Int) (b : Box) (r : List (List Piece) × Bool) (h : StartC m c b = some r) : Runs (tbl [(44, sp3 BoundS), (51, sp2 ListC)]) a132 [Arg.enc m, Arg.enc c, Arg.enc b] (Arg.enc r) := by
  obtain ⟨⟨hr, hb⟩, rfl⟩ := part_some h
  refine ⟨rfl, fun g => run_def ?_⟩
  unfold a132
  have hS : BoundS m c b = some (boundM m c b) := part_of ⟨hr, hb⟩ _
  by_cases hbad : c < 0 ∨ m.classes ≤ c ∨ b.empty = true
  case pos =>
    unfold boundM at hS
    rw [if_pos hbad] at hS
    have hp : startP m c b = ([], false) := by unfold startP; rw [if_pos hbad]
    rw [hp]
    simp -implicitDefEqProofs [hS, encL_nil]
  unfold boundM at hS
  rw [if_neg hbad] at hS
  have hp : startP m c b = (startG m c b, true) := by unfold startP; rw [if_neg hbad]
  rw [hp]
  have hle := hr.trees
  have b3 : m.trees.length ≤ maxN := by unfold maxN; omega
  simp -implicitDefEqProofs [hS, b3]
  refine run_while (c := c132_22) (fun n s => ∃ (i : Nat) (g : Nat → Nat), i + n = m.trees.length ∧ s = ⟨[(1, .int .i64 c), (5, .ptr 5 (g 5) 0), (11, .own 11 (g 11) 0 (startTo m c b i).length), (25, .lst m.trees.length (encL m.trees)), (26, .int .i64 m.trees.length), (27, .int .i64 i)],
    [(5, ⟨Row.enc b, false, 0⟩), (11, ⟨encL (startTo m c b i), false, 1⟩)], g⟩) m.trees.length ⟨0, bump 11 (bump 5 (bump 3 g)), by omega, by simp [startTo, encL_nil]⟩ ?_
  rintro n s ⟨i, g, hi, rfl⟩
  have hl := startTo_len m c b i
  by_cases h1 : i < m.trees.length
  case neg =>
    have hil : i = m.trees.length := by omega
    subst hil
    have hst : startTo m c b m.trees.length = startG m c b := by unfold startTo startG; rw [List.take_length]
    rw [hst] at hl ⊢
    have nn : (startG m c b).length ≤ maxN := by unfold maxN; omega
    simp -implicitDefEqProofs [h1, nn, lenG, takeG]
  have w1 : IntKind.i64.wrap ((i : Int) + 1) = (i : Int) + 1 := wrap64 (by omega) (by omega)
  have hrow := rd_tree m.trees i h1
  have hrt := hr.rt (List.getElem_mem h1)
  have he : b.empty = false := by simpa using fun h => hbad (.inr (.inr h))
  have hL : ListC m.trees[i].nodes b = some (pieces m.trees[i].nodes b) := by
    unfold ListC
    rw [part_of ⟨⟨_, hrt⟩, hb⟩, he]
    rfl
  have hpl : (pieces m.trees[i].nodes b).length ≤ maxN := by
    have h1 : (pieces m.trees[i].nodes b).length ≤ m.trees[i].nodes.length := piecesTo_len m.trees[i].nodes b m.trees[i].nodes.length
    have := hrt.le
    unfold maxN; omega
  by_cases hc : m.trees[i].cls = c
  case neg =>
    have hst : startTo m c b (i + 1) = startTo m c b i := by
      unfold startTo
      rw [List.take_succ_eq_append_getElem h1, List.filter_append]
      simp [hc]
    simp -implicitDefEqProofs [h1, hrow, w1, hc]
    exact ⟨n - 1, by omega, i + 1, by omega, ⟨by rw [hst], by omega⟩, by rw [hst]⟩
  case pos =>
    have hst : startTo m c b (i + 1) = startTo m c b i ++ [pieces m.trees[i].nodes b] := by
      unfold startTo
      rw [List.take_succ_eq_append_getElem h1, List.filter_append]
      simp [hc]
    have nn : (startTo m c b i).length ≤ 1099511627775 := by omega
    have nn2 : (startTo m c b i).length ≤ maxN := by unfold maxN; omega
    have hE : encL (startTo m c b (i + 1)) = encL (startTo m c b i) ++ [.lst (pieces m.trees[i].nodes b).length (encL (pieces m.trees[i].nodes b))] := by rw [hst, encL_append, encL_cons, encL_nil, List.append_nil]; rfl
    have h2 : (startTo m c b (i + 1)).length = (startTo m c b i).length + 1 := by rw [hst]; simp
    simp -implicitDefEqProofs [h1, hrow, w1, hc, hL, hpl, nn, nn2, lenG, takeG]
    exact ⟨n - 1, by omega, i + 1, by omega, ⟨by omega, by omega⟩, by rw [hE]⟩
theorem c_lstart : Contract Try.prog 132 (sp3 StartC) :=
  contract_of_runs mixed (tbl_cons c_bSum (tbl_cons c_List tbl_nil)) Try.func132 m132 (sp3_runs runs_lstart)

noncomputable def LevelC (gs : List (List Piece)) (most : Int) : Option (List (List Piece) × Bool) := Part (smallG 60 gs ∧ gs.length ≤ 1000 ∧ 0 ≤ most ∧ most ≤ 1073741824) (levelP most gs)
theorem encG (g : List Piece) (gs : List (List Piece)) : encL (g :: gs) = .lst g.length (encL g) :: encL gs := rfl
theorem smallG.okG {k : Nat} (hk : k ≤ 61) {gs : List (List Piece)} (h : smallG k gs) {g : List Piece} (hg : g ∈ gs) : okG g := (h.up hk) g hg
set_option maxHeartbeats 4000000 in
theorem runs_level (gs : List (List Piece)) (most : Int) (r : List (List Piece) × Bool) (h : LevelC gs most = some r) : Runs (tbl [(177, sp3 MeetC)]) a166 [Arg.enc gs, Arg.enc most] (Arg.enc r) := by
  obtain ⟨⟨hs, hl, m0, m1⟩, rfl⟩ := part_some h
  clear h
  refine ⟨rfl, fun g => run_def ?_⟩
  unfold a166
  simp -implicitDefEqProofs []
  refine run_while (c := c166_19) (fun n s => ∃ (rest done : List (List Piece)) (made : Bool) (g : Nat → Nat), n = rest.length ∧ (∀ x ∈ rest, x ∈ gs) ∧ rest.length + done.length ≤ 1000 ∧ done ++ (levelP most rest).1 = (levelP most gs).1 ∧ (made || (levelP most rest).2) = (levelP most gs).2 ∧ s = ⟨[(0, .lst rest.length (encL rest)), (1, .int .i64 most), (6, .own 6 (g 6) 0 done.length), (7, .bool made)],
    [(6, ⟨encL done, false, 1⟩)], g⟩) gs.length ⟨gs, [], false, bump 6 g, rfl, fun x hx => hx, by simp; omega, by simp, by simp, by simp [encL_nil]⟩ ?_
  rintro n s ⟨rest, done, made, g, hn, hin, hll, hd, hm, rfl⟩
  have nn : done.length ≤ maxN := by unfold maxN; omega
  have nn2 : done.length ≤ 1099511627775 := by omega
  match rest, hn, hin, hll, hd, hm with
  | [], hn, hin, hll, hd, hm =>
    simp [levelP] at hd hm
    subst hd hm
    simp -implicitDefEqProofs [nn, lenG, takeG]
  | [g1], hn, hin, hll, hd, hm =>
    simp [levelP] at hd hm
    have hE : encL (done ++ [g1]) = encL done ++ [AV.lst g1.length (encL g1)] := by simp [encL_append, encL_cons, encL_nil]
    have x1 : 1 ≤ maxN := by decide
    have hn1 : n = 1 := hn
    cases made <;> simp -implicitDefEqProofs [nn, nn2, lenG, takeG, encG, x1]
    · exact ⟨0, by omega, [], rfl, by simp, done ++ [g1], by simp at hll ⊢; omega, by simpa [levelP] using hd, by simpa [levelP] using hm, ⟨⟨rfl, rfl⟩, by simp⟩, by rw [hE]⟩
    · exact ⟨0, by omega, [], rfl, by simp, done ++ [g1], by simp at hll ⊢; omega, by simpa [levelP] using hd, by simpa [levelP] using hm, ⟨⟨rfl, rfl⟩, by simp⟩, by rw [hE]⟩
  | g1 :: g2 :: rest, hn, hin, hll, hd, hm =>
    have hM : MeetC g1 g2 most = some (meetP g1 g2 most) := part_of ⟨hs.okG (by omega) (hin _ (by simp)), hs.okG (by omega) (hin _ (by simp)), m0, m1⟩ _
    unfold meetP at hM
    rw [levelP] at hd hm
    have hn1 : n = rest.length + 1 + 1 := by simpa using hn
    have hl2 : rest.length + 1 + 1 + done.length ≤ 1000 := by simpa using hll
    have x1 : rest.length + 1 + 1 ≤ maxN := by unfold maxN; omega
    have x2 : (0 : Int) < (rest.length : Int) + 1 + 1 := by omega
    have x3 : (1 : Int) < (rest.length : Int) + 1 + 1 := by omega
    have x4 : (2 : Int) ≤ (rest.length : Int) + 1 + 1 := by omega
    have x5 : (1 : Int) ≤ (rest.length : Int) + 1 + 1 := by omega
    have x6 : rest.length + 1 ≤ maxN := by unfold maxN; omega
    have x7 : rest.length ≤ maxN := by unfold maxN; omega
    by_cases hc : ((prod g1 g2).length : Int) ≤ most
    case pos =>
      rw [if_pos hc] at hd hm hM
      have nP : (prod g1 g2).length ≤ maxN := by unfold maxN; omega
      have hE : encL (done ++ [prod g1 g2]) = encL done ++ [AV.lst (prod g1 g2).length (encL (prod g1 g2))] := by simp [encL_append, encL_cons, encL_nil]
      simp -implicitDefEqProofs [nn, nn2, lenG, takeG, encG, hM, x1, x2, x3, x4, x5, x6, x7, nP]
      refine ⟨rest.length, by omega, rest, rfl, fun x hx => hin x (by simp [hx]), done ++ [prod g1 g2], by simp; omega, by simpa using hd, by simpa using hm, ⟨⟨by omega, ?_⟩, by simp⟩, by rw [hE]⟩
      try rfl
    case neg =>
      rw [if_neg hc] at hd hm hM
      have hE : encL (done ++ [g1]) = encL done ++ [AV.lst g1.length (encL g1)] := by simp [encL_append, encL_cons, encL_nil]
      cases made <;> simp -implicitDefEqProofs [nn, nn2, lenG, takeG, encG, hM, x1, x2, x3, x4, x5, x6, x7]
      all_goals refine ⟨rest.length + 1, by omega, g2 :: rest, rfl, fun x hx => hin x (by simp at hx; simp [hx]), done ++ [g1], by simp; omega, by simpa using hd, ?_⟩
      · exact ⟨by simpa using hm, ⟨⟨rfl, rfl⟩, by simp⟩, by rw [hE]⟩
      · exact ⟨by simpa using hm, ⟨⟨rfl, rfl⟩, by simp⟩, by rw [hE]⟩
theorem c_level : Contract Try.prog 166 (sp2 LevelC) :=
  contract_of_runs mixed (tbl_cons c_cMeet tbl_nil) Try.func166 m166 (sp2_runs runs_level)

theorem encI (n : Int) (l : List Int) : encL (n :: l) = .int .i64 n :: encL l := rfl
theorem lenI {l : List Int} : (encL l).length = l.length := by rw [encL_length]; simp [Row.sz]
theorem takeI {l : List Int} : List.take l.length (encL l) = encL l := take_rows _ _ (by simp [Row.sz])
noncomputable def ClimbC (gs : List (List Piece)) (most : Int) : Option (List (List Piece) × List Int) := Part (smallG 40 gs ∧ gs.length ≤ 8 ∧ 0 ≤ most ∧ most ≤ 1073741824) (climb most gs)
set_option maxHeartbeats 4000000 in
theorem runs_climb (gs : List (List Piece)) (most : Int) (r : List (List Piece) × List Int) (h : ClimbC gs most = some r) : Runs (tbl [(166, sp2 LevelC)]) a133 [Arg.enc gs, Arg.enc most] (Arg.enc r) := by
  obtain ⟨⟨hs, hl, m0, m1⟩, rfl⟩ := part_some h
  clear h
  refine ⟨rfl, fun g => run_def ?_⟩
  unfold a133
  have n0 : gs.length ≤ maxN := by unfold maxN; omega
  simp -implicitDefEqProofs [n0]
  have e1 : ∀ n : Int, [AV.int .i64 n] = encL [n] := fun n => rfl
  refine run_while (c := c133_13) (fun n s => ∃ (cur : List (List Piece)) (pre cs : List Int) (f : Nat) (g : Nat → Nat), n = cur.length ∧ cur.length ≤ f ∧ cs = pre ++ [(cur.length : Int)] ∧ pre.length + cur.length ≤ 8 ∧ smallG (48 - cur.length) cur ∧ (climbP most f cur).1 = (climb most gs).1 ∧ pre ++ (climbP most f cur).2 = (climb most gs).2 ∧ s = ⟨[(0, .lst cur.length (encL cur)), (1, .int .i64 most), (6, .own 6 (g 6) 0 cs.length)],
    [(6, ⟨encL cs, false, 1⟩)], g⟩) gs.length ⟨gs, [], [(gs.length : Int)], gs.length, bump 6 g, rfl, by omega, rfl, by simp; omega, hs.up (by omega), rfl, rfl, by simp [e1]⟩ ?_
  rintro n s ⟨cur, pre, cs, f, g, hn, hf, hcs, hc8, hsm, hr1, hr2, rfl⟩
  have hV : LevelC cur most = some (levelP most cur) := part_of ⟨hsm.up (by omega), by omega, m0, m1⟩ _
  have hlen := level_len (most := most) cur
  have hcl : cs.length = pre.length + 1 := by rw [hcs]; simp
  have n1 : cur.length ≤ maxN := by unfold maxN; omega
  have n2 : cs.length ≤ maxN := by unfold maxN; omega
  have n3 : cs.length ≤ 1099511627775 := by omega
  have hstep := level_small (k := 48 - cur.length) m1 cur hsm
  cases hmd : (levelP most cur).2
  case false =>
    have hcl : climbP most f cur = (cur, [(cur.length : Int)]) := by
      cases f with
      | zero => rfl
      | succ f => rw [climbP, if_neg (by simp [hmd])]
    rw [hcl] at hr1 hr2
    simp only at hr1 hr2
    have hres : climb most gs = (cur, cs) := by rw [hcs]; exact Prod.ext hr1.symm hr2.symm
    rw [hres]
    have hV2 : LevelC cur most = some ((levelP most cur).1, false) := by rw [hV, ← hmd]
    simp -implicitDefEqProofs [hV2, n1, n2, lenI, takeI]
  case true =>
    have hlt := hlen.2.2.1 hmd
    obtain ⟨f, rfl⟩ : ∃ f', f = f' + 1 := ⟨f - 1, by omega⟩
    rw [climbP, if_pos hmd] at hr1 hr2
    have hV2 : LevelC cur most = some ((levelP most cur).1, true) := by rw [hV, ← hmd]
    generalize (levelP most cur).1 = nx at *
    have n4 : nx.length ≤ maxN := by unfold maxN; omega
    have hE : encL (cs ++ [(nx.length : Int)]) = encL cs ++ [.int .i64 nx.length] := by rw [encL_append]; rfl
    simp -implicitDefEqProofs [hV2, n1, n2, n3, n4, lenI, takeI]
    refine ⟨nx.length, by omega, nx, rfl, cs, cs ++ [(nx.length : Int)], f, by omega, rfl, by omega, ?_, hr1, ?_, ⟨⟨rfl, rfl⟩, by simp⟩, by rw [hE]⟩
    · exact hstep.up (by omega)
    · rw [← hr2, hcs]; simp
theorem c_climb : Contract Try.prog 133 (sp2 ClimbC) :=
  contract_of_runs mixed (tbl_cons c_level tbl_nil) Try.func133 m133 (sp2_runs runs_climb)

theorem startG_len {m : Model} (h : RM m) (c : Int) (b : Box) : (startG m c b).length ≤ 8 := by
  have h1 := startTo_len m c b m.trees.length
  have h2 : startTo m c b m.trees.length = startG m c b := by unfold startTo startG; rw [List.take_length]
  rw [h2] at h1
  have := h.trees
  omega
theorem mem_startG {m : Model} {c : Int} {b : Box} {g : List Piece} (h : g ∈ startG m c b) : ∃ t ∈ m.trees, t.cls = c ∧ g = pieces t.nodes b := by
  unfold startG at h
  simp only [List.mem_map, List.mem_filter, decide_eq_true_eq] at h
  obtain ⟨t, ⟨ht, hc⟩, rfl⟩ := h
  exact ⟨t, ht, hc, rfl⟩
theorem startG_small {m : Model} (h : RM m) (c : Int) (b : Box) : smallG 31 (startG m c b) := by
  intro g hg
  obtain ⟨t, ht, _, rfl⟩ := mem_startG hg
  have hrt := h.rt ht
  refine ⟨fun x hx => ?_, ?_⟩
  · have := of_fits (piece_fits hrt hx)
    have p : (2 : Int) ^ 31 = 2147483648 := by decide
    omega
  · have h1 : (pieces t.nodes b).length ≤ t.nodes.length := piecesTo_len t.nodes b t.nodes.length
    have := hrt.le
    omega
theorem climbP_small {most : Int} (hm : most ≤ 1073741824) : ∀ (f k : Nat) (gs : List (List Piece)), smallG k gs → gs.length ≤ f + 1 → smallG (k + gs.length) (climbP most f gs).1 ∧ (climbP most f gs).1.length ≤ gs.length
  | 0, k, gs, h, _ => ⟨h.up (by omega), Nat.le_refl _⟩
  | f + 1, k, gs, h, hl => by
    rw [climbP]
    split
    · rename_i hmd
      have h1 := (level_len (most := most) gs).2.2.1 hmd
      have h2 := climbP_small hm f (k + 1) (levelP most gs).1 (level_small hm gs h) (by omega)
      exact ⟨h2.1.up (by omega), by have := h2.2; simp only; omega⟩
    · exact ⟨h.up (by omega), Nat.le_refl _⟩
theorem ends_small {k : Nat} {g : List Piece} (h : ∀ x ∈ g, -(2 : Int) ^ k ≤ x.value ∧ x.value ≤ (2 : Int) ^ k) : -(2 : Int) ^ k ≤ (ends g).a ∧ (ends g).a ≤ (2 : Int) ^ k ∧ -(2 : Int) ^ k ≤ (ends g).b ∧ (ends g).b ≤ (2 : Int) ^ k := by
  have hp : (0 : Int) ≤ (2 : Int) ^ k := Int.pow_nonneg (by decide)
  by_cases hg : g = []
  · subst hg
    have : ends [] = ⟨0, 0, false⟩ := rfl
    rw [this]
    simp only
    omega
  · obtain ⟨_, _, ⟨x, hx, h3⟩, ⟨y, hy, h4⟩⟩ := ends_spec hg
    have h1 := h x hx
    have h2 := h y hy
    omega
theorem range_le {gs : List (List Piece)} (h : smallG 40 gs) : ∀ (a : Int × Int), a.1 - gs.length * 1099511627776 ≤ (gs.foldl rangeF a).1 ∧ (gs.foldl rangeF a).1 ≤ a.1 + gs.length * 1099511627776 ∧ a.2 - gs.length * 1099511627776 ≤ (gs.foldl rangeF a).2 ∧ (gs.foldl rangeF a).2 ≤ a.2 + gs.length * 1099511627776 := by
  induction gs with
  | nil => intro a; simp
  | cons g gs ih =>
    intro a
    have h1 := ends_small (h g (by simp)).1
    have p : (2 : Int) ^ 40 = 1099511627776 := by decide
    have h2 := ih (fun x hx => h x (by simp [hx])) (rangeF a g)
    rw [List.foldl_cons]
    unfold rangeF at h2
    unfold rangeF
    simp only [List.length_cons] at *
    omega

noncomputable def RangeC (m : Model) (c : Int) (b : Box) (most : Int) : Option (Tri Int Int Bool) := Part (RM m ∧ okB b ∧ 0 ≤ most ∧ most ≤ 1073741824) (rangeP m c b most)
noncomputable def LevelsC (m : Model) (c : Int) (b : Box) (most : Int) : Option (List Int) := Part (RM m ∧ okB b ∧ 0 ≤ most ∧ most ≤ 1073741824) (levelsP m c b most)
theorem runs_levels (m : Model) (c : Int) (b : Box) (most : Int) (r : List Int) (h : LevelsC m c b most = some r) : Runs (tbl [(132, sp3 StartC), (133, sp2 ClimbC)]) a84 [Arg.enc m, Arg.enc c, Arg.enc b, Arg.enc most] (Arg.enc r) := by
  obtain ⟨⟨hr, hb, m0, m1⟩, rfl⟩ := part_some h
  refine ⟨rfl, fun g => run_def ?_⟩
  unfold a84
  have hS : StartC m c b = some (startP m c b) := part_of ⟨hr, hb⟩ _
  have hC : ClimbC (startG m c b) most = some (climb most (startG m c b)) := part_of ⟨(startG_small hr c b).up (by omega), startG_len hr c b, m0, m1⟩ _
  unfold startP at hS
  unfold levelsP
  by_cases hbad : c < 0 ∨ m.classes ≤ c ∨ b.empty = true
  case pos =>
    rw [if_pos hbad] at hS ⊢
    simp -implicitDefEqProofs [hS, encL_nil]
  rw [if_neg hbad] at hS ⊢
  simp -implicitDefEqProofs [hS, hC]
theorem c_levels : Contract Try.prog 84 (sp4 LevelsC) :=
  contract_of_runs mixed (tbl_cons c_lstart (tbl_cons c_climb tbl_nil)) Try.func84 m84 (sp4_runs runs_levels)
theorem rdG (l : List (List Piece)) (i : Nat) (h : i < l.length) : rd (encL l) i 1 false = some (.lst l[i].length (encL l[i])) := by
  have := rd_cell l i 0 h (by simp)
  simpa using this
set_option maxHeartbeats 1000000 in
theorem runs_lrange (m : Model) (c : Int) (b : Box) (most : Int) (r : Tri Int Int Bool) (h : RangeC m c b most = some r) : Runs (tbl [(132, sp3 StartC), (133, sp2 ClimbC), (134, sp1 EndsG)]) a82 [Arg.enc m, Arg.enc c, Arg.enc b, Arg.enc most] (Arg.enc r) := by
  obtain ⟨⟨hr, hb, m0, m1⟩, rfl⟩ := part_some h
  refine ⟨rfl, fun g => run_def ?_⟩
  unfold a82
  have hS : StartC m c b = some (startP m c b) := part_of ⟨hr, hb⟩ _
  have hC : ClimbC (startG m c b) most = some (climb most (startG m c b)) := part_of ⟨(startG_small hr c b).up (by omega), startG_len hr c b, m0, m1⟩ _
  unfold startP at hS
  unfold rangeP
  by_cases hbad : c < 0 ∨ m.classes ≤ c ∨ b.empty = true
  case pos =>
    rw [if_pos hbad] at hS ⊢
    simp -implicitDefEqProofs [hS, encL_nil]
  rw [if_neg hbad] at hS ⊢
  have hsl := startG_len hr c b
  have hcs := climbP_small m1 (startG m c b).length 31 (startG m c b) (startG_small hr c b) (by omega)
  have hcs1 : smallG 40 (climb most (startG m c b)).1 := hcs.1.up (by omega)
  have hcs2 : (climb most (startG m c b)).1.length ≤ 8 := by have : (climb most (startG m c b)).1.length ≤ (startG m c b).length := hcs.2; omega
  clear hcs
  generalize climb most (startG m c b) = z at *
  obtain ⟨gs, counts⟩ := z
  simp only at *
  have c0 : 0 ≤ c := by omega
  have c3 : c < 3 := by have := hr.classes; omega
  have b3 : gs.length ≤ maxN := by unfold maxN; omega
  simp -implicitDefEqProofs [hS, hC, c0, c3, b3]
  refine run_while (c := c82_21) (fun n s => ∃ (i : Nat), i + n = gs.length ∧ s = ⟨[(11, .lst gs.length (encL gs)), (13, .int .i64 ((gs.take i).foldl rangeF (m.bias.get c, m.bias.get c)).1), (14, .int .i64 ((gs.take i).foldl rangeF (m.bias.get c, m.bias.get c)).2), (43, .lst gs.length (encL gs)), (44, .int .i64 gs.length), (45, .int .i64 i)], [], s.g⟩) gs.length ⟨0, by omega, by simp⟩ ?_
  rintro n s ⟨i, hi, hs⟩
  rw [hs]
  have w1 : IntKind.i64.wrap ((i : Int) + 1) = (i : Int) + 1 := wrap64 (by omega) (by omega)
  by_cases h1 : i < gs.length
  case neg =>
    have hil : i = gs.length := by omega
    subst hil
    simp -implicitDefEqProofs [h1, b3]
  have hrow := rdG gs i h1
  have hgi := hcs1 gs[i] (List.getElem_mem h1)
  have hE : EndsG gs[i] = some (ends gs[i]) := part_of hgi.2 _
  have hb2 := of_fits (Bias.get_fits hr c)
  have hrg := range_le (gs := gs.take (i + 1)) (fun x hx => hcs1 x (List.mem_of_mem_take hx)) (m.bias.get c, m.bias.get c)
  have hl : (gs.take (i + 1)).length ≤ 8 := by simp; omega
  have hs : (gs.take (i + 1)).foldl rangeF (m.bias.get c, m.bias.get c) = rangeF ((gs.take i).foldl rangeF (m.bias.get c, m.bias.get c)) gs[i] := by
    rw [List.take_succ_eq_append_getElem h1, List.foldl_append]
    rfl
  have hs1 : ((gs.take (i + 1)).foldl rangeF (m.bias.get c, m.bias.get c)).1 = ((gs.take i).foldl rangeF (m.bias.get c, m.bias.get c)).1 + (ends gs[i]).a := by rw [hs, rangeF]
  have hs2 : ((gs.take (i + 1)).foldl rangeF (m.bias.get c, m.bias.get c)).2 = ((gs.take i).foldl rangeF (m.bias.get c, m.bias.get c)).2 + (ends gs[i]).b := by rw [hs, rangeF]
  have w2 : IntKind.i64.wrap (((gs.take i).foldl rangeF (m.bias.get c, m.bias.get c)).1 + (ends gs[i]).a) = ((gs.take (i + 1)).foldl rangeF (m.bias.get c, m.bias.get c)).1 := by rw [← hs1]; exact wrap64 (by omega) (by omega)
  have w3 : IntKind.i64.wrap (((gs.take i).foldl rangeF (m.bias.get c, m.bias.get c)).2 + (ends gs[i]).b) = ((gs.take (i + 1)).foldl rangeF (m.bias.get c, m.bias.get c)).2 := by rw [← hs2]; exact wrap64 (by omega) (by omega)
  simp -implicitDefEqProofs [h1, hrow, hE, w1, w2, w3, b3]
  exact ⟨n - 1, by omega, i + 1, by omega, rfl, rfl, by omega⟩
theorem c_lrange : Contract Try.prog 82 (sp4 RangeC) :=
  contract_of_runs mixed (tbl_cons c_lstart (tbl_cons c_climb (tbl_cons c_cEnds tbl_nil))) Try.func82 m82 (sp4_runs runs_lrange)
end Go.Co
