/- CO: the mirror of a model of one tree. -/
import Derived.Test.YtbjnmbbhlaghaaaCoR
import Derived.Test.YtbjnmbbhlaghaaaCoM
import Derived.Test.YtbjnmbbhlaghaaaCoLev3
namespace Go.Co
open Go.Am Go.Proofs
set_option linter.unusedSimpArgs false
set_option linter.unusedVariables false

/- copse/copsekeep.Mirror -/
def c86_0 : ACode := .ops [⟨some 1, .box (.t 0) 6, none, []⟩,
  ⟨some 2, .alloc [.int .i64 0, .int .i64 0, .int .i64 0, .int .i64 0, .int .i64 0, .nils], none, []⟩] [1, 2]
theorem r86_0 {C : Cs} {k : List Fr} {s : St} {Q : Post} : run C c86_0 k s Q = run C (.ops [⟨some 1, .box (.t 0) 6, none, []⟩,
  ⟨some 2, .alloc [.int .i64 0, .int .i64 0, .int .i64 0, .int .i64 0, .int .i64 0, .nils], none, []⟩] [1, 2]) k s Q := rfl
def c86_1 : ACode := .ops [⟨some 12, .load 6 true (.t 1), none, [1]⟩,
  ⟨some 3, .alloc [.int .i64 0, .int .i64 0, .int .i64 0, .int .i64 0, .int .i64 0, .nils], none, []⟩,
  ⟨none, .store (.t 3) 6 (.t 12), none, [3]⟩] [1, 2, 3]
theorem r86_1 {C : Cs} {k : List Fr} {s : St} {Q : Post} : run C c86_1 k s Q = run C (.ops [⟨some 12, .load 6 true (.t 1), none, [1]⟩,
  ⟨some 3, .alloc [.int .i64 0, .int .i64 0, .int .i64 0, .int .i64 0, .int .i64 0, .nils], none, []⟩,
  ⟨none, .store (.t 3) 6 (.t 12), none, [3]⟩] [1, 2, 3]) k s Q := rfl
def c86_2 : ACode := .ops [⟨some 13, .fad (.t 3) 5, none, [3]⟩,
  ⟨none, .store (.t 13) 1 (.c (.nils)), none, [3]⟩] [1, 2, 3]
theorem r86_2 {C : Cs} {k : List Fr} {s : St} {Q : Post} : run C c86_2 k s Q = run C (.ops [⟨some 13, .fad (.t 3) 5, none, [3]⟩,
  ⟨none, .store (.t 13) 1 (.c (.nils)), none, [3]⟩] [1, 2, 3]) k s Q := rfl
def c86_3 : ACode := .ops [⟨some 14, .mv (.c (.int .i64 0)), none, []⟩] [1, 2, 3, 14]
theorem r86_3 {C : Cs} {k : List Fr} {s : St} {Q : Post} : run C c86_3 k s Q = run C (.ops [⟨some 14, .mv (.c (.int .i64 0)), none, []⟩] [1, 2, 3, 14]) k s Q := rfl
def c86_4 : ACode := .ops [⟨some 15, .bin .lss (.t 14) (.c (.int .i64 3)), none, []⟩] [1, 2, 3, 14, 15]
theorem r86_4 {C : Cs} {k : List Fr} {s : St} {Q : Post} : run C c86_4 k s Q = run C (.ops [⟨some 15, .bin .lss (.t 14) (.c (.int .i64 3)), none, []⟩] [1, 2, 3, 14, 15]) k s Q := rfl
def c86_5 : ACode := .cond (.t 15) .skip (.exit 0)
theorem r86_5 {C : Cs} {k : List Fr} {s : St} {Q : Post} : run C c86_5 k s Q = run C (.cond (.t 15) .skip (.exit 0)) k s Q := rfl
def c86_6 : ACode := .ops [⟨some 16, .mv (.t 14), none, []⟩,
  ⟨some 4, .mv (.t 16), none, []⟩] [1, 2, 3, 4, 14]
theorem r86_6 {C : Cs} {k : List Fr} {s : St} {Q : Post} : run C c86_6 k s Q = run C (.ops [⟨some 16, .mv (.t 14), none, []⟩,
  ⟨some 4, .mv (.t 16), none, []⟩] [1, 2, 3, 4, 14]) k s Q := rfl
def c86_7 : ACode := .ops [⟨some 17, .mv (.t 4), none, []⟩,
  ⟨some 18, .mv (.t 4), none, []⟩,
  ⟨some 19, .fad (.t 3) 2, none, [3]⟩,
  ⟨some 20, .iad (.t 19) (.t 18) 1 3, none, [3]⟩,
  ⟨some 21, .load 1 false (.t 20), none, [3]⟩,
  ⟨some 22, .un .neg (.t 21), none, []⟩,
  ⟨some 23, .fad (.t 3) 2, none, [3]⟩,
  ⟨some 24, .iad (.t 23) (.t 17) 1 3, none, [3]⟩,
  ⟨none, .store (.t 24) 1 (.t 22), none, [3]⟩] [1, 2, 3, 14]
theorem r86_7 {C : Cs} {k : List Fr} {s : St} {Q : Post} : run C c86_7 k s Q = run C (.ops [⟨some 17, .mv (.t 4), none, []⟩,
  ⟨some 18, .mv (.t 4), none, []⟩,
  ⟨some 19, .fad (.t 3) 2, none, [3]⟩,
  ⟨some 20, .iad (.t 19) (.t 18) 1 3, none, [3]⟩,
  ⟨some 21, .load 1 false (.t 20), none, [3]⟩,
  ⟨some 22, .un .neg (.t 21), none, []⟩,
  ⟨some 23, .fad (.t 3) 2, none, [3]⟩,
  ⟨some 24, .iad (.t 23) (.t 17) 1 3, none, [3]⟩,
  ⟨none, .store (.t 24) 1 (.t 22), none, [3]⟩] [1, 2, 3, 14]) k s Q := rfl
def c86_8 : ACode := .seq c86_6 c86_7
theorem r86_8 {C : Cs} {k : List Fr} {s : St} {Q : Post} : run C c86_8 k s Q = run C (.seq c86_6 c86_7) k s Q := rfl
def c86_9 : ACode := .block 1 c86_8
theorem r86_9 {C : Cs} {k : List Fr} {s : St} {Q : Post} : run C c86_9 k s Q = run C (.block 1 c86_8) k s Q := rfl
def c86_10 : ACode := .ops [⟨some 25, .bin .add (.t 14) (.c (.int .i64 1)), none, []⟩,
  ⟨some 14, .mv (.t 25), none, []⟩] [1, 2, 3, 14]
theorem r86_10 {C : Cs} {k : List Fr} {s : St} {Q : Post} : run C c86_10 k s Q = run C (.ops [⟨some 25, .bin .add (.t 14) (.c (.int .i64 1)), none, []⟩,
  ⟨some 14, .mv (.t 25), none, []⟩] [1, 2, 3, 14]) k s Q := rfl
def c86_11 : ACode := .seq c86_9 c86_10
theorem r86_11 {C : Cs} {k : List Fr} {s : St} {Q : Post} : run C c86_11 k s Q = run C (.seq c86_9 c86_10) k s Q := rfl
def c86_12 : ACode := .seq c86_5 c86_11
theorem r86_12 {C : Cs} {k : List Fr} {s : St} {Q : Post} : run C c86_12 k s Q = run C (.seq c86_5 c86_11) k s Q := rfl
def c86_13 : ACode := .seq c86_4 c86_12
theorem r86_13 {C : Cs} {k : List Fr} {s : St} {Q : Post} : run C c86_13 k s Q = run C (.seq c86_4 c86_12) k s Q := rfl
def c86_14 : ACode := .keep [1, 2, 3, 14] [1, 2, 3, 7, 10305] c86_13
theorem r86_14 {C : Cs} {k : List Fr} {s : St} {Q : Post} : run C c86_14 k s Q = run C (.keep [1, 2, 3, 14] [1, 2, 3, 7, 10305] c86_13) k s Q := rfl
def c86_15 : ACode := .loop c86_14
theorem r86_15 {C : Cs} {k : List Fr} {s : St} {Q : Post} : run C c86_15 k s Q = run C (.loop c86_14) k s Q := rfl
def c86_16 : ACode := .block 0 c86_15
theorem r86_16 {C : Cs} {k : List Fr} {s : St} {Q : Post} : run C c86_16 k s Q = run C (.block 0 c86_15) k s Q := rfl
def c86_17 : ACode := .seq c86_3 c86_16
theorem r86_17 {C : Cs} {k : List Fr} {s : St} {Q : Post} : run C c86_17 k s Q = run C (.seq c86_3 c86_16) k s Q := rfl
def c86_18 : ACode := .ops [⟨some 26, .fad (.t 1) 5, none, [1]⟩,
  ⟨some 27, .load 1 false (.t 26), none, [1]⟩,
  ⟨some 28, .len (.t 27), none, []⟩,
  ⟨some 29, .mv (.c (.int .i64 0)), none, []⟩] [2, 3, 27, 28, 29]
theorem r86_18 {C : Cs} {k : List Fr} {s : St} {Q : Post} : run C c86_18 k s Q = run C (.ops [⟨some 26, .fad (.t 1) 5, none, [1]⟩,
  ⟨some 27, .load 1 false (.t 26), none, [1]⟩,
  ⟨some 28, .len (.t 27), none, []⟩,
  ⟨some 29, .mv (.c (.int .i64 0)), none, []⟩] [2, 3, 27, 28, 29]) k s Q := rfl
def c86_19 : ACode := .ops [⟨some 30, .bin .lss (.t 29) (.t 28), none, []⟩] [2, 3, 27, 28, 29, 30]
theorem r86_19 {C : Cs} {k : List Fr} {s : St} {Q : Post} : run C c86_19 k s Q = run C (.ops [⟨some 30, .bin .lss (.t 29) (.t 28), none, []⟩] [2, 3, 27, 28, 29, 30]) k s Q := rfl
def c86_20 : ACode := .cond (.t 30) .skip (.exit 2)
theorem r86_20 {C : Cs} {k : List Fr} {s : St} {Q : Post} : run C c86_20 k s Q = run C (.cond (.t 30) .skip (.exit 2)) k s Q := rfl
def c86_21 : ACode := .ops [⟨some 31, .ias (.t 27) (.t 29) 2, none, []⟩,
  ⟨some 32, .load 2 true (.t 31), none, []⟩,
  ⟨some 6, .alloc [.int .i64 0, .nils], none, []⟩,
  ⟨none, .store (.t 6) 2 (.t 32), none, [6]⟩] [2, 3, 6, 27, 28, 29]
theorem r86_21 {C : Cs} {k : List Fr} {s : St} {Q : Post} : run C c86_21 k s Q = run C (.ops [⟨some 31, .ias (.t 27) (.t 29) 2, none, []⟩,
  ⟨some 32, .load 2 true (.t 31), none, []⟩,
  ⟨some 6, .alloc [.int .i64 0, .nils], none, []⟩,
  ⟨none, .store (.t 6) 2 (.t 32), none, [6]⟩] [2, 3, 6, 27, 28, 29]) k s Q := rfl
def c86_22 : ACode := .ops [⟨some 7, .nil0 7 1, none, []⟩] [2, 3, 6, 7, 27, 28, 29]
theorem r86_22 {C : Cs} {k : List Fr} {s : St} {Q : Post} : run C c86_22 k s Q = run C (.ops [⟨some 7, .nil0 7 1, none, []⟩] [2, 3, 6, 7, 27, 28, 29]) k s Q := rfl
def c86_23 : ACode := .ops [⟨some 33, .fad (.t 6) 1, none, [6]⟩,
  ⟨some 34, .load 1 false (.t 33), none, [6]⟩,
  ⟨some 35, .len (.t 34), none, []⟩,
  ⟨some 36, .mv (.c (.int .i64 0)), none, []⟩] [2, 3, 6, 7, 27, 28, 29, 34, 35, 36]
theorem r86_23 {C : Cs} {k : List Fr} {s : St} {Q : Post} : run C c86_23 k s Q = run C (.ops [⟨some 33, .fad (.t 6) 1, none, [6]⟩,
  ⟨some 34, .load 1 false (.t 33), none, [6]⟩,
  ⟨some 35, .len (.t 34), none, []⟩,
  ⟨some 36, .mv (.c (.int .i64 0)), none, []⟩] [2, 3, 6, 7, 27, 28, 29, 34, 35, 36]) k s Q := rfl
def c86_24 : ACode := .ops [⟨some 37, .bin .lss (.t 36) (.t 35), none, []⟩] [2, 3, 6, 7, 27, 28, 29, 34, 35, 36, 37]
theorem r86_24 {C : Cs} {k : List Fr} {s : St} {Q : Post} : run C c86_24 k s Q = run C (.ops [⟨some 37, .bin .lss (.t 36) (.t 35), none, []⟩] [2, 3, 6, 7, 27, 28, 29, 34, 35, 36, 37]) k s Q := rfl
def c86_25 : ACode := .cond (.t 37) .skip (.exit 4)
theorem r86_25 {C : Cs} {k : List Fr} {s : St} {Q : Post} : run C c86_25 k s Q = run C (.cond (.t 37) .skip (.exit 4)) k s Q := rfl
def c86_26 : ACode := .ops [⟨some 38, .ias (.t 34) (.t 36) 1, none, []⟩,
  ⟨some 39, .load 1 false (.t 38), none, []⟩,
  ⟨some 9, .mv (.t 39), none, []⟩] [2, 3, 6, 7, 9, 27, 28, 29, 34, 35, 36]
theorem r86_26 {C : Cs} {k : List Fr} {s : St} {Q : Post} : run C c86_26 k s Q = run C (.ops [⟨some 38, .ias (.t 34) (.t 36) 1, none, []⟩,
  ⟨some 39, .load 1 false (.t 38), none, []⟩,
  ⟨some 9, .mv (.t 39), none, []⟩] [2, 3, 6, 7, 9, 27, 28, 29, 34, 35, 36]) k s Q := rfl
def c86_27 : ACode := .ops [⟨some 41, .mv (.t 9), none, []⟩,
  ⟨some 42, .call 136 [.t 41], none, []⟩,
  ⟨some 40, .mv (.t 42), none, []⟩,
  ⟨some 43, .ext (.t 40) 0, none, []⟩,
  ⟨some 44, .ext (.t 40) 1, none, []⟩,
  ⟨some 10, .alloc [.bool false, .int .i64 0, .int .i64 0, .int .i64 0, .int .i64 0, .int .i64 0], none, []⟩,
  ⟨none, .store (.t 10) 6 (.t 43), none, [10]⟩,
  ⟨some 11, .mv (.t 44), none, []⟩] [2, 3, 6, 7, 10, 27, 28, 29, 34, 35, 36]
theorem r86_27 {C : Cs} {k : List Fr} {s : St} {Q : Post} : run C c86_27 k s Q = run C (.ops [⟨some 41, .mv (.t 9), none, []⟩,
  ⟨some 42, .call 136 [.t 41], none, []⟩,
  ⟨some 40, .mv (.t 42), none, []⟩,
  ⟨some 43, .ext (.t 40) 0, none, []⟩,
  ⟨some 44, .ext (.t 40) 1, none, []⟩,
  ⟨some 10, .alloc [.bool false, .int .i64 0, .int .i64 0, .int .i64 0, .int .i64 0, .int .i64 0], none, []⟩,
  ⟨none, .store (.t 10) 6 (.t 43), none, [10]⟩,
  ⟨some 11, .mv (.t 44), none, []⟩] [2, 3, 6, 7, 10, 27, 28, 29, 34, 35, 36]) k s Q := rfl
def c86_28 : ACode := .ops [⟨some 45, .fad (.t 10) 1, none, [10]⟩,
  ⟨some 46, .load 1 false (.t 45), none, [10]⟩,
  ⟨some 47, .un .neg (.t 46), none, []⟩,
  ⟨some 48, .fad (.t 10) 1, none, [10]⟩,
  ⟨none, .store (.t 48) 1 (.t 47), none, [10]⟩] [2, 3, 6, 7, 10, 27, 28, 29, 34, 35, 36]
theorem r86_28 {C : Cs} {k : List Fr} {s : St} {Q : Post} : run C c86_28 k s Q = run C (.ops [⟨some 45, .fad (.t 10) 1, none, [10]⟩,
  ⟨some 46, .load 1 false (.t 45), none, [10]⟩,
  ⟨some 47, .un .neg (.t 46), none, []⟩,
  ⟨some 48, .fad (.t 10) 1, none, [10]⟩,
  ⟨none, .store (.t 48) 1 (.t 47), none, [10]⟩] [2, 3, 6, 7, 10, 27, 28, 29, 34, 35, 36]) k s Q := rfl
def c86_29 : ACode := .ops [⟨some 49, .mv (.t 7), none, []⟩,
  ⟨some 50, .load 6 true (.t 10), none, [10]⟩,
  ⟨some 51, .call 111 [.t 50], none, []⟩,
  ⟨some 52, .mkrow 52 1 1 [.int .u64 0] [(0, 1, .t 51)], none, []⟩,
  ⟨some 53, .app 7 [7] (.t 49) (.t 52) 1, none, [7, 52]⟩,
  ⟨some 7, .mv (.t 53), none, []⟩] [2, 3, 6, 7, 27, 28, 29, 34, 35, 36]
theorem r86_29 {C : Cs} {k : List Fr} {s : St} {Q : Post} : run C c86_29 k s Q = run C (.ops [⟨some 49, .mv (.t 7), none, []⟩,
  ⟨some 50, .load 6 true (.t 10), none, [10]⟩,
  ⟨some 51, .call 111 [.t 50], none, []⟩,
  ⟨some 52, .mkrow 52 1 1 [.int .u64 0] [(0, 1, .t 51)], none, []⟩,
  ⟨some 53, .app 7 [7] (.t 49) (.t 52) 1, none, [7, 52]⟩,
  ⟨some 7, .mv (.t 53), none, []⟩] [2, 3, 6, 7, 27, 28, 29, 34, 35, 36]) k s Q := rfl
def c86_30 : ACode := .seq c86_28 c86_29
theorem r86_30 {C : Cs} {k : List Fr} {s : St} {Q : Post} : run C c86_30 k s Q = run C (.seq c86_28 c86_29) k s Q := rfl
def c86_31 : ACode := .seq c86_27 c86_30
theorem r86_31 {C : Cs} {k : List Fr} {s : St} {Q : Post} : run C c86_31 k s Q = run C (.seq c86_27 c86_30) k s Q := rfl
def c86_32 : ACode := .seq c86_26 c86_31
theorem r86_32 {C : Cs} {k : List Fr} {s : St} {Q : Post} : run C c86_32 k s Q = run C (.seq c86_26 c86_31) k s Q := rfl
def c86_33 : ACode := .block 5 c86_32
theorem r86_33 {C : Cs} {k : List Fr} {s : St} {Q : Post} : run C c86_33 k s Q = run C (.block 5 c86_32) k s Q := rfl
def c86_34 : ACode := .ops [⟨some 54, .bin .add (.t 36) (.c (.int .i64 1)), none, []⟩,
  ⟨some 36, .mv (.t 54), none, []⟩] [2, 3, 6, 7, 27, 28, 29, 34, 35, 36]
theorem r86_34 {C : Cs} {k : List Fr} {s : St} {Q : Post} : run C c86_34 k s Q = run C (.ops [⟨some 54, .bin .add (.t 36) (.c (.int .i64 1)), none, []⟩,
  ⟨some 36, .mv (.t 54), none, []⟩] [2, 3, 6, 7, 27, 28, 29, 34, 35, 36]) k s Q := rfl
def c86_35 : ACode := .seq c86_33 c86_34
theorem r86_35 {C : Cs} {k : List Fr} {s : St} {Q : Post} : run C c86_35 k s Q = run C (.seq c86_33 c86_34) k s Q := rfl
def c86_36 : ACode := .seq c86_25 c86_35
theorem r86_36 {C : Cs} {k : List Fr} {s : St} {Q : Post} : run C c86_36 k s Q = run C (.seq c86_25 c86_35) k s Q := rfl
def c86_37 : ACode := .seq c86_24 c86_36
theorem r86_37 {C : Cs} {k : List Fr} {s : St} {Q : Post} : run C c86_37 k s Q = run C (.seq c86_24 c86_36) k s Q := rfl
def c86_38 : ACode := .keep [2, 3, 6, 7, 27, 28, 29, 34, 35, 36] [2, 3, 6, 7, 10305] c86_37
theorem r86_38 {C : Cs} {k : List Fr} {s : St} {Q : Post} : run C c86_38 k s Q = run C (.keep [2, 3, 6, 7, 27, 28, 29, 34, 35, 36] [2, 3, 6, 7, 10305] c86_37) k s Q := rfl
def c86_39 : ACode := .loop c86_38
theorem r86_39 {C : Cs} {k : List Fr} {s : St} {Q : Post} : run C c86_39 k s Q = run C (.loop c86_38) k s Q := rfl
def c86_40 : ACode := .block 4 c86_39
theorem r86_40 {C : Cs} {k : List Fr} {s : St} {Q : Post} : run C c86_40 k s Q = run C (.block 4 c86_39) k s Q := rfl
def c86_41 : ACode := .seq c86_23 c86_40
theorem r86_41 {C : Cs} {k : List Fr} {s : St} {Q : Post} : run C c86_41 k s Q = run C (.seq c86_23 c86_40) k s Q := rfl
def c86_42 : ACode := .ops [⟨some 55, .fad (.t 3) 5, none, [3]⟩,
  ⟨some 56, .load 1 false (.t 55), none, [3]⟩,
  ⟨some 57, .fad (.t 6) 0, none, [6]⟩,
  ⟨some 58, .load 1 false (.t 57), none, [6]⟩,
  ⟨some 59, .mv (.t 7), none, []⟩,
  ⟨some 60, .build [.int .i64 0, .nils] [(0, 1, .t 58), (1, 1, .t 59)], none, []⟩,
  ⟨some 61, .mkrow 61 1 2 [.int .i64 0, .nils] [(0, 2, .t 60)], none, []⟩,
  ⟨some 62, .app 10305 [10305] (.t 56) (.t 61) 2, none, [61, 10305]⟩,
  ⟨some 63, .fad (.t 3) 5, none, [3]⟩,
  ⟨none, .store (.t 63) 1 (.t 62), none, [3]⟩] [2, 3, 27, 28, 29]
theorem r86_42 {C : Cs} {k : List Fr} {s : St} {Q : Post} : run C c86_42 k s Q = run C (.ops [⟨some 55, .fad (.t 3) 5, none, [3]⟩,
  ⟨some 56, .load 1 false (.t 55), none, [3]⟩,
  ⟨some 57, .fad (.t 6) 0, none, [6]⟩,
  ⟨some 58, .load 1 false (.t 57), none, [6]⟩,
  ⟨some 59, .mv (.t 7), none, []⟩,
  ⟨some 60, .build [.int .i64 0, .nils] [(0, 1, .t 58), (1, 1, .t 59)], none, []⟩,
  ⟨some 61, .mkrow 61 1 2 [.int .i64 0, .nils] [(0, 2, .t 60)], none, []⟩,
  ⟨some 62, .app 10305 [10305] (.t 56) (.t 61) 2, none, [61, 10305]⟩,
  ⟨some 63, .fad (.t 3) 5, none, [3]⟩,
  ⟨none, .store (.t 63) 1 (.t 62), none, [3]⟩] [2, 3, 27, 28, 29]) k s Q := rfl
def c86_43 : ACode := .seq c86_41 c86_42
theorem r86_43 {C : Cs} {k : List Fr} {s : St} {Q : Post} : run C c86_43 k s Q = run C (.seq c86_41 c86_42) k s Q := rfl
def c86_44 : ACode := .seq c86_22 c86_43
theorem r86_44 {C : Cs} {k : List Fr} {s : St} {Q : Post} : run C c86_44 k s Q = run C (.seq c86_22 c86_43) k s Q := rfl
def c86_45 : ACode := .seq c86_21 c86_44
theorem r86_45 {C : Cs} {k : List Fr} {s : St} {Q : Post} : run C c86_45 k s Q = run C (.seq c86_21 c86_44) k s Q := rfl
def c86_46 : ACode := .block 3 c86_45
theorem r86_46 {C : Cs} {k : List Fr} {s : St} {Q : Post} : run C c86_46 k s Q = run C (.block 3 c86_45) k s Q := rfl
def c86_47 : ACode := .ops [⟨some 64, .bin .add (.t 29) (.c (.int .i64 1)), none, []⟩,
  ⟨some 29, .mv (.t 64), none, []⟩] [2, 3, 27, 28, 29]
theorem r86_47 {C : Cs} {k : List Fr} {s : St} {Q : Post} : run C c86_47 k s Q = run C (.ops [⟨some 64, .bin .add (.t 29) (.c (.int .i64 1)), none, []⟩,
  ⟨some 29, .mv (.t 64), none, []⟩] [2, 3, 27, 28, 29]) k s Q := rfl
def c86_48 : ACode := .seq c86_46 c86_47
theorem r86_48 {C : Cs} {k : List Fr} {s : St} {Q : Post} : run C c86_48 k s Q = run C (.seq c86_46 c86_47) k s Q := rfl
def c86_49 : ACode := .seq c86_20 c86_48
theorem r86_49 {C : Cs} {k : List Fr} {s : St} {Q : Post} : run C c86_49 k s Q = run C (.seq c86_20 c86_48) k s Q := rfl
def c86_50 : ACode := .seq c86_19 c86_49
theorem r86_50 {C : Cs} {k : List Fr} {s : St} {Q : Post} : run C c86_50 k s Q = run C (.seq c86_19 c86_49) k s Q := rfl
def c86_51 : ACode := .keep [2, 3, 27, 28, 29] [2, 3, 7, 10305] c86_50
theorem r86_51 {C : Cs} {k : List Fr} {s : St} {Q : Post} : run C c86_51 k s Q = run C (.keep [2, 3, 27, 28, 29] [2, 3, 7, 10305] c86_50) k s Q := rfl
def c86_52 : ACode := .loop c86_51
theorem r86_52 {C : Cs} {k : List Fr} {s : St} {Q : Post} : run C c86_52 k s Q = run C (.loop c86_51) k s Q := rfl
def c86_53 : ACode := .block 2 c86_52
theorem r86_53 {C : Cs} {k : List Fr} {s : St} {Q : Post} : run C c86_53 k s Q = run C (.block 2 c86_52) k s Q := rfl
def c86_54 : ACode := .seq c86_18 c86_53
theorem r86_54 {C : Cs} {k : List Fr} {s : St} {Q : Post} : run C c86_54 k s Q = run C (.seq c86_18 c86_53) k s Q := rfl
def c86_55 : ACode := .ops [⟨some 65, .load 6 true (.t 3), none, [3]⟩,
  ⟨none, .store (.t 2) 6 (.t 65), none, [2]⟩] [2]
theorem r86_55 {C : Cs} {k : List Fr} {s : St} {Q : Post} : run C c86_55 k s Q = run C (.ops [⟨some 65, .load 6 true (.t 3), none, [3]⟩,
  ⟨none, .store (.t 2) 6 (.t 65), none, [2]⟩] [2]) k s Q := rfl
def c86_56 : ACode := .seq c86_55 .ret
theorem r86_56 {C : Cs} {k : List Fr} {s : St} {Q : Post} : run C c86_56 k s Q = run C (.seq c86_55 .ret) k s Q := rfl
def c86_57 : ACode := .seq c86_54 c86_56
theorem r86_57 {C : Cs} {k : List Fr} {s : St} {Q : Post} : run C c86_57 k s Q = run C (.seq c86_54 c86_56) k s Q := rfl
def c86_58 : ACode := .seq c86_17 c86_57
theorem r86_58 {C : Cs} {k : List Fr} {s : St} {Q : Post} : run C c86_58 k s Q = run C (.seq c86_17 c86_57) k s Q := rfl
def c86_59 : ACode := .seq c86_2 c86_58
theorem r86_59 {C : Cs} {k : List Fr} {s : St} {Q : Post} : run C c86_59 k s Q = run C (.seq c86_2 c86_58) k s Q := rfl
def c86_60 : ACode := .seq c86_1 c86_59
theorem r86_60 {C : Cs} {k : List Fr} {s : St} {Q : Post} : run C c86_60 k s Q = run C (.seq c86_1 c86_59) k s Q := rfl
def c86_61 : ACode := .seq c86_0 c86_60
theorem r86_61 {C : Cs} {k : List Fr} {s : St} {Q : Post} : run C c86_61 k s Q = run C (.seq c86_0 c86_60) k s Q := rfl
def a86 : AFun := ⟨1, 66, c86_61, [.cell 2 6 true]⟩
attribute [simp] r86_0 r86_1 r86_2 r86_3 r86_4 r86_5 r86_6 r86_7 r86_8 r86_9 r86_10 r86_11 r86_12 r86_13 r86_14 r86_15 r86_16 r86_17 r86_18 r86_19 r86_20 r86_21 r86_22 r86_23 r86_24 r86_25 r86_26 r86_27 r86_28 r86_29 r86_30 r86_31 r86_32 r86_33 r86_34 r86_35 r86_36 r86_37 r86_38 r86_39 r86_40 r86_41 r86_42 r86_43 r86_44 r86_45 r86_46 r86_47 r86_48 r86_49 r86_50 r86_51 r86_52 r86_53 r86_54 r86_55 r86_56 r86_57 r86_58 r86_59 r86_60 r86_61
theorem m86 : mFun Try.prog Try.f86 a86 = true := by decide +kernel


noncomputable def MirrorC (m : Model) : Option Model := Part (∃ dim l d, RT l d ∧ (∀ i, i < l.length → -2147483648 < (ndAt l i).value) ∧ m = oneM dim [⟨0, l⟩]) (mirM m)
section
variable {s : St} {fp : List Nat} {m : Nat}
theorem pure1_own (b g o n : Nat) : pure1 s fp (m + 1) (.own b g o n) = (match blkAt s fp b g with
      | some k => if o + n * k.esz ≤ k.cs.length then
          (if ((k.cs.drop o).take (n * k.esz)).all AV.plain = true then some (.lst n ((k.cs.drop o).take (n * k.esz)), [b])
           else match mapO (pure1 s fp m) ((k.cs.drop o).take (n * k.esz)) with
            | some (vs, f) => some (.lst n vs, b :: f)
            | none => none) else none
      | none => none) := rfl
theorem pure1_nils : pure1 s fp (m + 1) .nils = some (.lst 0 [], []) := rfl
theorem pure1_int (k : IntKind) (n : Int) : pure1 s fp (m + 1) (.int k n) = some (.int k n, []) := rfl
theorem pure1_bool (b : Bool) : pure1 s fp (m + 1) (.bool b) = some (.bool b, []) := rfl
theorem pure1_lst (n : Nat) (xs : List AV) : pure1 s fp (m + 1) (.lst n xs) = some (.lst n xs, []) := rfl
end
def mirTo (l : List Word) (i : Nat) : List Word := (l.take i).map mirW
theorem mirTo_len {l : List Word} {i : Nat} (h : i ≤ l.length) : (mirTo l i).length = i := by unfold mirTo; simp; omega
theorem takeMw {l : List Word} {i n : Nat} (h : i ≤ l.length) (hn : i ≤ n) : (mirTo l i).take n = mirTo l i := List.take_of_length_le (by rw [mirTo_len h]; exact hn)
set_option maxHeartbeats 4000000 in
set_option maxRecDepth 8000 in
theorem runs_Mirror (m : Model) (c : Model) (h : MirrorC m = some c) : Runs (tbl [(136, sp1 Unpack), (111, sp1 fun n => some (pack n))]) a86 [Arg.enc m] (Arg.enc c) := by
  obtain ⟨⟨dim, l, d, hr, hv, rfl⟩, rfl⟩ := part_some h
  clear h
  refine ⟨rfl, fun g => run_def ?_⟩
  unfold a86 oneM
  have hle := hr.le
  have b3 : l.length ≤ maxN := by unfold maxN; omega
  have w0 : IntKind.i64.wrap 0 = 0 := by decide
  have m1 : 1 ≤ maxN := by decide
  simp -implicitDefEqProofs [run_round, -r86_39, w0, b3, m1, encL_cons, encL_nil]
  refine run_while (c := c86_37) (fun n s => ∃ (i : Nat) (g : Nat → Nat), i + n = l.length ∧ s = ⟨[(2, .ptr 2 (g 2) 0), (3, .ptr 3 (g 3) 0), (6, .ptr 6 (g 6) 0), (7, .own 7 (g 7) 0 i), (27, .lst 1 [.int .i64 0, .lst l.length (encL l)]), (28, .int .i64 1), (29, .int .i64 0), (34, .lst l.length (encL l)), (35, .int .i64 l.length), (36, .int .i64 i)],
    [(2, ⟨[.int .i64 0, .int .i64 0, .int .i64 0, .int .i64 0, .int .i64 0, .nils], false, 0⟩), (3, ⟨[.int .i64 dim, .int .i64 1, .int .i64 0, .int .i64 0, .int .i64 0, .nils], false, 0⟩), (6, ⟨[.int .i64 0, .lst l.length (encL l)], false, 0⟩), (7, ⟨encL (mirTo l i), false, 1⟩)], g⟩) l.length ⟨0, bump 7 (bump 6 (bump 3 (bump 2 (bump 1 g)))), by omega, by simp [encL_nil, mirTo]⟩ ?_
  rintro n s ⟨i, g, hi, rfl⟩
  have hil0 : i ≤ l.length := by omega
  have c1 : i ≤ (encL (mirTo l i)).length := by rw [encL_length, mirTo_len hil0]; simp [Row.sz]
  have htk : List.take i (mirTo l i) = mirTo l i := takeMw hil0 (Nat.le_refl _)
  have c2 : i ≤ 1099511627775 := by omega
  have c3 : i ≤ maxN := by unfold maxN; omega
  by_cases h1 : i < l.length
  case pos =>
    have w1 : IntKind.i64.wrap ((i : Int) + 1) = (i : Int) + 1 := wrap64 (by omega) (by omega)
    have hU := unpack_at hr h1
    have hf := of_fits (hr.value h1)
    have hvi := hv i h1
    have w2 : IntKind.i64.wrap (-(ndAt l i).value) = -(ndAt l i).value := wrap64 (by omega) (by omega)
    have hE : encL (mirTo l (i + 1)) = encL (mirTo l i) ++ [.int .u64 (mirW l[i]).v] := by
      unfold mirTo
      rw [List.take_succ_eq_append_getElem h1, List.map_append, encL_append]
      rfl
    have hnd : ndAt l i = nd l[i] := ndAt_lt h1
    simp -implicitDefEqProofs [h1, rd_words, hU, w1, w2, c1, c2, c3, htk]
    refine ⟨n - 1, by omega, i + 1, by omega, ⟨by omega, by omega⟩, ?_⟩
    rw [hE, hnd]
    rfl
  case neg =>
    have hil : i = l.length := by omega
    subst hil
    have hall : mirTo l l.length = l.map mirW := by unfold mirTo; rw [List.take_length]
    rw [hall] at c1 htk ⊢
    have hlm : (l.map mirW).length = l.length := by simp
    generalize hLL : l.map mirW = L at *
    simp -implicitDefEqProofs [h1, c1, c2, c3, htk, run_round, -r86_39, mirM, mirT, hlm, -Go.Am.pure1, pure1_own, pure1_nils, pure1_int, pure1_bool, pure1_lst, encL_cons, encL_nil]
    rw [hLL]
theorem c_Mirror : Contract Try.prog 86 (sp1 MirrorC) :=
  contract_of_runs mixed (tbl_cons c_rUnpack (tbl_cons c_rPack tbl_nil)) Try.func86 m86 (sp1_runs runs_Mirror)
end Go.Co
