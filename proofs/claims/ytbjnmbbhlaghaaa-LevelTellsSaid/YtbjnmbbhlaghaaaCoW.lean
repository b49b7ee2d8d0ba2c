/- CO: meeting pieces, levels, the range. -/
import Derived.Test.YtbjnmbbhlaghaaaCoM
import Derived.Test.YtbjnmbbhlaghaaaCoLev
namespace Go.Co
open Go.Am Go.Proofs
set_option linter.unusedSimpArgs false
set_option linter.unusedVariables false

/- copse/clique.Meet -/
def c177_0 : ACode := .ops [⟨some 6, .mv (.c (.nils)), none, []⟩,
  ⟨some 7, .mv (.c (.bool false)), none, []⟩] [0, 1, 2]
theorem r177_0 {C : Cs} {k : List Fr} {s : St} {Q : Post} : run C c177_0 k s Q = run C (.ops [⟨some 6, .mv (.c (.nils)), none, []⟩,
  ⟨some 7, .mv (.c (.bool false)), none, []⟩] [0, 1, 2]) k s Q := rfl
def c177_1 : ACode := .ops [⟨some 8, .nil0 8 11, none, []⟩] [0, 1, 2, 8]
theorem r177_1 {C : Cs} {k : List Fr} {s : St} {Q : Post} : run C c177_1 k s Q = run C (.ops [⟨some 8, .nil0 8 11, none, []⟩] [0, 1, 2, 8]) k s Q := rfl
def c177_2 : ACode := .ops [⟨some 14, .mv (.t 0), none, []⟩,
  ⟨some 15, .len (.t 14), none, []⟩,
  ⟨some 16, .mv (.c (.int .i64 0)), none, []⟩] [1, 2, 8, 14, 15, 16]
theorem r177_2 {C : Cs} {k : List Fr} {s : St} {Q : Post} : run C c177_2 k s Q = run C (.ops [⟨some 14, .mv (.t 0), none, []⟩,
  ⟨some 15, .len (.t 14), none, []⟩,
  ⟨some 16, .mv (.c (.int .i64 0)), none, []⟩] [1, 2, 8, 14, 15, 16]) k s Q := rfl
def c177_3 : ACode := .ops [⟨some 17, .bin .lss (.t 16) (.t 15), none, []⟩] [1, 2, 8, 14, 15, 16, 17]
theorem r177_3 {C : Cs} {k : List Fr} {s : St} {Q : Post} : run C c177_3 k s Q = run C (.ops [⟨some 17, .bin .lss (.t 16) (.t 15), none, []⟩] [1, 2, 8, 14, 15, 16, 17]) k s Q := rfl
def c177_4 : ACode := .cond (.t 17) .skip (.exit 0)
theorem r177_4 {C : Cs} {k : List Fr} {s : St} {Q : Post} : run C c177_4 k s Q = run C (.cond (.t 17) .skip (.exit 0)) k s Q := rfl
def c177_5 : ACode := .ops [⟨some 18, .ias (.t 14) (.t 16) 11, none, []⟩,
  ⟨some 19, .load 11 true (.t 18), none, []⟩,
  ⟨some 10, .alloc [.int .i64 0, .int .i64 0, .int .i64 0, .int .i64 0, .int .i64 0, .int .i64 0, .int .i64 0, .int .i64 0, .int .i64 0, .int .i64 0, .int .i64 0], none, []⟩,
  ⟨none, .store (.t 10) 11 (.t 19), none, [10]⟩] [1, 2, 8, 10, 14, 15, 16]
theorem r177_5 {C : Cs} {k : List Fr} {s : St} {Q : Post} : run C c177_5 k s Q = run C (.ops [⟨some 18, .ias (.t 14) (.t 16) 11, none, []⟩,
  ⟨some 19, .load 11 true (.t 18), none, []⟩,
  ⟨some 10, .alloc [.int .i64 0, .int .i64 0, .int .i64 0, .int .i64 0, .int .i64 0, .int .i64 0, .int .i64 0, .int .i64 0, .int .i64 0, .int .i64 0, .int .i64 0], none, []⟩,
  ⟨none, .store (.t 10) 11 (.t 19), none, [10]⟩] [1, 2, 8, 10, 14, 15, 16]) k s Q := rfl
def c177_6 : ACode := .ops [⟨some 20, .mv (.t 1), none, []⟩,
  ⟨some 21, .len (.t 20), none, []⟩,
  ⟨some 22, .mv (.c (.int .i64 0)), none, []⟩] [1, 2, 8, 10, 14, 15, 16, 20, 21, 22]
theorem r177_6 {C : Cs} {k : List Fr} {s : St} {Q : Post} : run C c177_6 k s Q = run C (.ops [⟨some 20, .mv (.t 1), none, []⟩,
  ⟨some 21, .len (.t 20), none, []⟩,
  ⟨some 22, .mv (.c (.int .i64 0)), none, []⟩] [1, 2, 8, 10, 14, 15, 16, 20, 21, 22]) k s Q := rfl
def c177_7 : ACode := .ops [⟨some 23, .bin .lss (.t 22) (.t 21), none, []⟩] [1, 2, 8, 10, 14, 15, 16, 20, 21, 22, 23]
theorem r177_7 {C : Cs} {k : List Fr} {s : St} {Q : Post} : run C c177_7 k s Q = run C (.ops [⟨some 23, .bin .lss (.t 22) (.t 21), none, []⟩] [1, 2, 8, 10, 14, 15, 16, 20, 21, 22, 23]) k s Q := rfl
def c177_8 : ACode := .cond (.t 23) .skip (.exit 2)
theorem r177_8 {C : Cs} {k : List Fr} {s : St} {Q : Post} : run C c177_8 k s Q = run C (.cond (.t 23) .skip (.exit 2)) k s Q := rfl
def c177_9 : ACode := .ops [⟨some 24, .ias (.t 20) (.t 22) 11, none, []⟩,
  ⟨some 25, .load 11 true (.t 24), none, []⟩,
  ⟨some 12, .alloc [.int .i64 0, .int .i64 0, .int .i64 0, .int .i64 0, .int .i64 0, .int .i64 0, .int .i64 0, .int .i64 0, .int .i64 0, .int .i64 0, .int .i64 0], none, []⟩,
  ⟨none, .store (.t 12) 11 (.t 25), none, [12]⟩] [1, 2, 8, 10, 12, 14, 15, 16, 20, 21, 22]
theorem r177_9 {C : Cs} {k : List Fr} {s : St} {Q : Post} : run C c177_9 k s Q = run C (.ops [⟨some 24, .ias (.t 20) (.t 22) 11, none, []⟩,
  ⟨some 25, .load 11 true (.t 24), none, []⟩,
  ⟨some 12, .alloc [.int .i64 0, .int .i64 0, .int .i64 0, .int .i64 0, .int .i64 0, .int .i64 0, .int .i64 0, .int .i64 0, .int .i64 0, .int .i64 0, .int .i64 0], none, []⟩,
  ⟨none, .store (.t 12) 11 (.t 25), none, [12]⟩] [1, 2, 8, 10, 12, 14, 15, 16, 20, 21, 22]) k s Q := rfl
def c177_10 : ACode := .ops [⟨some 26, .fad (.t 10) 0, none, [10]⟩,
  ⟨some 27, .load 10 true (.t 26), none, [10]⟩,
  ⟨some 28, .fad (.t 12) 0, none, [12]⟩,
  ⟨some 29, .load 10 true (.t 28), none, [12]⟩,
  ⟨some 30, .call 190 [.t 27, .t 29], none, []⟩,
  ⟨some 13, .alloc [.int .i64 0, .int .i64 0, .int .i64 0, .int .i64 0, .int .i64 0, .int .i64 0, .int .i64 0, .int .i64 0, .int .i64 0, .int .i64 0], none, []⟩,
  ⟨none, .store (.t 13) 10 (.t 30), none, [13]⟩] [1, 2, 8, 10, 12, 13, 14, 15, 16, 20, 21, 22]
theorem r177_10 {C : Cs} {k : List Fr} {s : St} {Q : Post} : run C c177_10 k s Q = run C (.ops [⟨some 26, .fad (.t 10) 0, none, [10]⟩,
  ⟨some 27, .load 10 true (.t 26), none, [10]⟩,
  ⟨some 28, .fad (.t 12) 0, none, [12]⟩,
  ⟨some 29, .load 10 true (.t 28), none, [12]⟩,
  ⟨some 30, .call 190 [.t 27, .t 29], none, []⟩,
  ⟨some 13, .alloc [.int .i64 0, .int .i64 0, .int .i64 0, .int .i64 0, .int .i64 0, .int .i64 0, .int .i64 0, .int .i64 0, .int .i64 0, .int .i64 0], none, []⟩,
  ⟨none, .store (.t 13) 10 (.t 30), none, [13]⟩] [1, 2, 8, 10, 12, 13, 14, 15, 16, 20, 21, 22]) k s Q := rfl
def c177_11 : ACode := .ops [⟨some 31, .load 10 true (.t 13), none, [13]⟩,
  ⟨some 32, .call 68 [.t 31], none, []⟩] [1, 2, 8, 10, 12, 13, 14, 15, 16, 20, 21, 22, 32]
theorem r177_11 {C : Cs} {k : List Fr} {s : St} {Q : Post} : run C c177_11 k s Q = run C (.ops [⟨some 31, .load 10 true (.t 13), none, [13]⟩,
  ⟨some 32, .call 68 [.t 31], none, []⟩] [1, 2, 8, 10, 12, 13, 14, 15, 16, 20, 21, 22, 32]) k s Q := rfl
def c177_12 : ACode := .cond (.t 32) (.exit 3) .skip
theorem r177_12 {C : Cs} {k : List Fr} {s : St} {Q : Post} : run C c177_12 k s Q = run C (.cond (.t 32) (.exit 3) .skip) k s Q := rfl
def c177_13 : ACode := .seq c177_11 c177_12
theorem r177_13 {C : Cs} {k : List Fr} {s : St} {Q : Post} : run C c177_13 k s Q = run C (.seq c177_11 c177_12) k s Q := rfl
def c177_14 : ACode := .ops [⟨some 33, .mv (.t 8), none, []⟩,
  ⟨some 34, .len (.t 33), none, [8]⟩,
  ⟨some 35, .mv (.t 2), none, []⟩,
  ⟨some 36, .bin .geq (.t 34) (.t 35), none, []⟩] [1, 2, 8, 10, 12, 13, 14, 15, 16, 20, 21, 22, 36]
theorem r177_14 {C : Cs} {k : List Fr} {s : St} {Q : Post} : run C c177_14 k s Q = run C (.ops [⟨some 33, .mv (.t 8), none, []⟩,
  ⟨some 34, .len (.t 33), none, [8]⟩,
  ⟨some 35, .mv (.t 2), none, []⟩,
  ⟨some 36, .bin .geq (.t 34) (.t 35), none, []⟩] [1, 2, 8, 10, 12, 13, 14, 15, 16, 20, 21, 22, 36]) k s Q := rfl
def c177_15 : ACode := .ops [⟨some 6, .mv (.c (.nils)), none, []⟩,
  ⟨some 7, .mv (.c (.bool false)), none, []⟩] [6, 7]
theorem r177_15 {C : Cs} {k : List Fr} {s : St} {Q : Post} : run C c177_15 k s Q = run C (.ops [⟨some 6, .mv (.c (.nils)), none, []⟩,
  ⟨some 7, .mv (.c (.bool false)), none, []⟩] [6, 7]) k s Q := rfl
def c177_16 : ACode := .seq c177_15 .ret
theorem r177_16 {C : Cs} {k : List Fr} {s : St} {Q : Post} : run C c177_16 k s Q = run C (.seq c177_15 .ret) k s Q := rfl
def c177_17 : ACode := .cond (.t 36) c177_16 .skip
theorem r177_17 {C : Cs} {k : List Fr} {s : St} {Q : Post} : run C c177_17 k s Q = run C (.cond (.t 36) c177_16 .skip) k s Q := rfl
def c177_18 : ACode := .seq c177_14 c177_17
theorem r177_18 {C : Cs} {k : List Fr} {s : St} {Q : Post} : run C c177_18 k s Q = run C (.seq c177_14 c177_17) k s Q := rfl
def c177_19 : ACode := .ops [⟨some 37, .mv (.t 8), none, []⟩,
  ⟨some 38, .load 10 true (.t 13), none, [13]⟩,
  ⟨some 39, .fad (.t 10) 10, none, [10]⟩,
  ⟨some 40, .load 1 false (.t 39), none, [10]⟩,
  ⟨some 41, .fad (.t 12) 10, none, [12]⟩,
  ⟨some 42, .load 1 false (.t 41), none, [12]⟩,
  ⟨some 43, .bin .add (.t 40) (.t 42), none, []⟩,
  ⟨some 44, .build [.int .i64 0, .int .i64 0, .int .i64 0, .int .i64 0, .int .i64 0, .int .i64 0, .int .i64 0, .int .i64 0, .int .i64 0, .int .i64 0, .int .i64 0] [(0, 10, .t 38), (10, 1, .t 43)], none, []⟩,
  ⟨some 45, .mkrow 45 1 11 [.int .i64 0, .int .i64 0, .int .i64 0, .int .i64 0, .int .i64 0, .int .i64 0, .int .i64 0, .int .i64 0, .int .i64 0, .int .i64 0, .int .i64 0] [(0, 11, .t 44)], none, []⟩,
  ⟨some 46, .app 8 [8] (.t 37) (.t 45) 11, none, [8, 45]⟩,
  ⟨some 8, .mv (.t 46), none, []⟩] [1, 2, 8, 10, 14, 15, 16, 20, 21, 22]
theorem r177_19 {C : Cs} {k : List Fr} {s : St} {Q : Post} : run C c177_19 k s Q = run C (.ops [⟨some 37, .mv (.t 8), none, []⟩,
  ⟨some 38, .load 10 true (.t 13), none, [13]⟩,
  ⟨some 39, .fad (.t 10) 10, none, [10]⟩,
  ⟨some 40, .load 1 false (.t 39), none, [10]⟩,
  ⟨some 41, .fad (.t 12) 10, none, [12]⟩,
  ⟨some 42, .load 1 false (.t 41), none, [12]⟩,
  ⟨some 43, .bin .add (.t 40) (.t 42), none, []⟩,
  ⟨some 44, .build [.int .i64 0, .int .i64 0, .int .i64 0, .int .i64 0, .int .i64 0, .int .i64 0, .int .i64 0, .int .i64 0, .int .i64 0, .int .i64 0, .int .i64 0] [(0, 10, .t 38), (10, 1, .t 43)], none, []⟩,
  ⟨some 45, .mkrow 45 1 11 [.int .i64 0, .int .i64 0, .int .i64 0, .int .i64 0, .int .i64 0, .int .i64 0, .int .i64 0, .int .i64 0, .int .i64 0, .int .i64 0, .int .i64 0] [(0, 11, .t 44)], none, []⟩,
  ⟨some 46, .app 8 [8] (.t 37) (.t 45) 11, none, [8, 45]⟩,
  ⟨some 8, .mv (.t 46), none, []⟩] [1, 2, 8, 10, 14, 15, 16, 20, 21, 22]) k s Q := rfl
def c177_20 : ACode := .seq c177_18 c177_19
theorem r177_20 {C : Cs} {k : List Fr} {s : St} {Q : Post} : run C c177_20 k s Q = run C (.seq c177_18 c177_19) k s Q := rfl
def c177_21 : ACode := .seq c177_13 c177_20
theorem r177_21 {C : Cs} {k : List Fr} {s : St} {Q : Post} : run C c177_21 k s Q = run C (.seq c177_13 c177_20) k s Q := rfl
def c177_22 : ACode := .seq c177_10 c177_21
theorem r177_22 {C : Cs} {k : List Fr} {s : St} {Q : Post} : run C c177_22 k s Q = run C (.seq c177_10 c177_21) k s Q := rfl
def c177_23 : ACode := .seq c177_9 c177_22
theorem r177_23 {C : Cs} {k : List Fr} {s : St} {Q : Post} : run C c177_23 k s Q = run C (.seq c177_9 c177_22) k s Q := rfl
def c177_24 : ACode := .block 3 c177_23
theorem r177_24 {C : Cs} {k : List Fr} {s : St} {Q : Post} : run C c177_24 k s Q = run C (.block 3 c177_23) k s Q := rfl
def c177_25 : ACode := .ops [⟨some 47, .bin .add (.t 22) (.c (.int .i64 1)), none, []⟩,
  ⟨some 22, .mv (.t 47), none, []⟩] [1, 2, 8, 10, 14, 15, 16, 20, 21, 22]
theorem r177_25 {C : Cs} {k : List Fr} {s : St} {Q : Post} : run C c177_25 k s Q = run C (.ops [⟨some 47, .bin .add (.t 22) (.c (.int .i64 1)), none, []⟩,
  ⟨some 22, .mv (.t 47), none, []⟩] [1, 2, 8, 10, 14, 15, 16, 20, 21, 22]) k s Q := rfl
def c177_26 : ACode := .seq c177_24 c177_25
theorem r177_26 {C : Cs} {k : List Fr} {s : St} {Q : Post} : run C c177_26 k s Q = run C (.seq c177_24 c177_25) k s Q := rfl
def c177_27 : ACode := .seq c177_8 c177_26
theorem r177_27 {C : Cs} {k : List Fr} {s : St} {Q : Post} : run C c177_27 k s Q = run C (.seq c177_8 c177_26) k s Q := rfl
def c177_28 : ACode := .seq c177_7 c177_27
theorem r177_28 {C : Cs} {k : List Fr} {s : St} {Q : Post} : run C c177_28 k s Q = run C (.seq c177_7 c177_27) k s Q := rfl
def c177_29 : ACode := .keep [1, 2, 8, 10, 14, 15, 16, 20, 21, 22] [8, 10] c177_28
theorem r177_29 {C : Cs} {k : List Fr} {s : St} {Q : Post} : run C c177_29 k s Q = run C (.keep [1, 2, 8, 10, 14, 15, 16, 20, 21, 22] [8, 10] c177_28) k s Q := rfl
def c177_30 : ACode := .loop c177_29
theorem r177_30 {C : Cs} {k : List Fr} {s : St} {Q : Post} : run C c177_30 k s Q = run C (.loop c177_29) k s Q := rfl
def c177_31 : ACode := .block 2 c177_30
theorem r177_31 {C : Cs} {k : List Fr} {s : St} {Q : Post} : run C c177_31 k s Q = run C (.block 2 c177_30) k s Q := rfl
def c177_32 : ACode := .seq c177_6 c177_31
theorem r177_32 {C : Cs} {k : List Fr} {s : St} {Q : Post} : run C c177_32 k s Q = run C (.seq c177_6 c177_31) k s Q := rfl
def c177_33 : ACode := .seq c177_5 c177_32
theorem r177_33 {C : Cs} {k : List Fr} {s : St} {Q : Post} : run C c177_33 k s Q = run C (.seq c177_5 c177_32) k s Q := rfl
def c177_34 : ACode := .block 1 c177_33
theorem r177_34 {C : Cs} {k : List Fr} {s : St} {Q : Post} : run C c177_34 k s Q = run C (.block 1 c177_33) k s Q := rfl
def c177_35 : ACode := .ops [⟨some 48, .bin .add (.t 16) (.c (.int .i64 1)), none, []⟩,
  ⟨some 16, .mv (.t 48), none, []⟩] [1, 2, 8, 14, 15, 16]
theorem r177_35 {C : Cs} {k : List Fr} {s : St} {Q : Post} : run C c177_35 k s Q = run C (.ops [⟨some 48, .bin .add (.t 16) (.c (.int .i64 1)), none, []⟩,
  ⟨some 16, .mv (.t 48), none, []⟩] [1, 2, 8, 14, 15, 16]) k s Q := rfl
def c177_36 : ACode := .seq c177_34 c177_35
theorem r177_36 {C : Cs} {k : List Fr} {s : St} {Q : Post} : run C c177_36 k s Q = run C (.seq c177_34 c177_35) k s Q := rfl
def c177_37 : ACode := .seq c177_4 c177_36
theorem r177_37 {C : Cs} {k : List Fr} {s : St} {Q : Post} : run C c177_37 k s Q = run C (.seq c177_4 c177_36) k s Q := rfl
def c177_38 : ACode := .seq c177_3 c177_37
theorem r177_38 {C : Cs} {k : List Fr} {s : St} {Q : Post} : run C c177_38 k s Q = run C (.seq c177_3 c177_37) k s Q := rfl
def c177_39 : ACode := .keep [1, 2, 8, 14, 15, 16] [8] c177_38
theorem r177_39 {C : Cs} {k : List Fr} {s : St} {Q : Post} : run C c177_39 k s Q = run C (.keep [1, 2, 8, 14, 15, 16] [8] c177_38) k s Q := rfl
def c177_40 : ACode := .loop c177_39
theorem r177_40 {C : Cs} {k : List Fr} {s : St} {Q : Post} : run C c177_40 k s Q = run C (.loop c177_39) k s Q := rfl
def c177_41 : ACode := .block 0 c177_40
theorem r177_41 {C : Cs} {k : List Fr} {s : St} {Q : Post} : run C c177_41 k s Q = run C (.block 0 c177_40) k s Q := rfl
def c177_42 : ACode := .seq c177_2 c177_41
theorem r177_42 {C : Cs} {k : List Fr} {s : St} {Q : Post} : run C c177_42 k s Q = run C (.seq c177_2 c177_41) k s Q := rfl
def c177_43 : ACode := .ops [⟨some 49, .mv (.t 8), none, []⟩,
  ⟨some 6, .mv (.t 49), none, []⟩,
  ⟨some 7, .mv (.c (.bool true)), none, []⟩] [6, 7]
theorem r177_43 {C : Cs} {k : List Fr} {s : St} {Q : Post} : run C c177_43 k s Q = run C (.ops [⟨some 49, .mv (.t 8), none, []⟩,
  ⟨some 6, .mv (.t 49), none, []⟩,
  ⟨some 7, .mv (.c (.bool true)), none, []⟩] [6, 7]) k s Q := rfl
def c177_44 : ACode := .seq c177_43 .ret
theorem r177_44 {C : Cs} {k : List Fr} {s : St} {Q : Post} : run C c177_44 k s Q = run C (.seq c177_43 .ret) k s Q := rfl
def c177_45 : ACode := .seq c177_42 c177_44
theorem r177_45 {C : Cs} {k : List Fr} {s : St} {Q : Post} : run C c177_45 k s Q = run C (.seq c177_42 c177_44) k s Q := rfl
def c177_46 : ACode := .seq c177_1 c177_45
theorem r177_46 {C : Cs} {k : List Fr} {s : St} {Q : Post} : run C c177_46 k s Q = run C (.seq c177_1 c177_45) k s Q := rfl
def c177_47 : ACode := .seq c177_0 c177_46
theorem r177_47 {C : Cs} {k : List Fr} {s : St} {Q : Post} : run C c177_47 k s Q = run C (.seq c177_0 c177_46) k s Q := rfl
def a177 : AFun := ⟨3, 50, c177_47, [.t 6, .t 7]⟩
attribute [simp] r177_0 r177_1 r177_2 r177_3 r177_4 r177_5 r177_6 r177_7 r177_8 r177_9 r177_10 r177_11 r177_12 r177_13 r177_14 r177_15 r177_16 r177_17 r177_18 r177_19 r177_20 r177_21 r177_22 r177_23 r177_24 r177_25 r177_26 r177_27 r177_28 r177_29 r177_30 r177_31 r177_32 r177_33 r177_34 r177_35 r177_36 r177_37 r177_38 r177_39 r177_40 r177_41 r177_42 r177_43 r177_44 r177_45 r177_46 r177_47
theorem m177 : mFun Try.prog Try.f177 a177 = true := by decide +kernel


set_option maxRecDepth 8000 in
theorem runs_bMeet (a b c : Box) (h : some (meetB a b) = some c) : Runs (tbl [(198, sp2 fun (a b : Span) => some (meetS a b))]) a190 [Arg.enc a, Arg.enc b] (Arg.enc c) := by
  cases h
  refine ⟨rfl, fun g => run_def ?_⟩
  unfold a190
  simp -implicitDefEqProofs [run_round, meetB]
theorem c_bMeet : Contract Try.prog 190 (sp2 fun (a b : Box) => some (meetB a b)) :=
  contract_of_runs mixed (tbl_cons c_sMeet tbl_nil) Try.func190 m190 (sp2_runs runs_bMeet)

def okG (g : List Piece) : Prop := (∀ x ∈ g, -(2 : Int) ^ 61 ≤ x.value ∧ x.value ≤ (2 : Int) ^ 61) ∧ g.length ≤ 1073741824
noncomputable def MeetC (a b : List Piece) (most : Int) : Option (List Piece × Bool) := Part (okG a ∧ okG b ∧ 0 ≤ most ∧ most ≤ 1073741824) (meetP a b most)
theorem rd_pc (l : List Piece) (i : Nat) (h : i < l.length) : rd (encL l) (i * 11) 11 true = some (.agg [.int .i64 l[i].box.s0.lo, .int .i64 l[i].box.s0.hi, .int .i64 l[i].box.s1.lo, .int .i64 l[i].box.s1.hi, .int .i64 l[i].box.s2.lo, .int .i64 l[i].box.s2.hi, .int .i64 l[i].box.s3.lo, .int .i64 l[i].box.s3.hi, .int .i64 l[i].box.s4.lo, .int .i64 l[i].box.s4.hi, .int .i64 l[i].value]) := rd_row l i h
set_option maxHeartbeats 4000000 in
theorem runs_cMeet (a b : List Piece) (most : Int) (c : List Piece × Bool) (h : MeetC a b most = some c) : Runs (tbl [(190, sp2 fun (a b : Box) => some (meetB a b)), (68, sp1 fun (b : Box) => some b.empty)]) a177 [Arg.enc a, Arg.enc b, Arg.enc most] (Arg.enc c) := by
  obtain ⟨⟨ha, hb, m0, m1⟩, rfl⟩ := part_some h
  clear h
  refine ⟨rfl, fun g => run_def ?_⟩
  unfold a177
  have la := ha.2
  have lb := hb.2
  have na : a.length ≤ maxN := by unfold maxN; omega
  have nb : b.length ≤ maxN := by unfold maxN; omega
  have p61 : (2 : Int) ^ 61 = 2305843009213693952 := by decide
  simp -implicitDefEqProofs [na, nb]
  refine run_while (c := c177_38) (fun n s => ∃ (i : Nat) (g : Nat → Nat), i + n = a.length ∧ ((prod (a.take i) b).length : Int) ≤ most ∧ s = ⟨[(1, .lst b.length (encL b)), (2, .int .i64 most), (8, .own 8 (g 8) 0 (prod (a.take i) b).length), (14, .lst a.length (encL a)), (15, .int .i64 a.length), (16, .int .i64 i)], [(8, ⟨encL (prod (a.take i) b), false, 11⟩)], g⟩) a.length ⟨0, bump 8 g, by omega, by simp [prod]; omega, by simp [prod, encL_nil]⟩ ?_
  rintro n s ⟨i, g, hi, hlen, rfl⟩
  by_cases h1 : i < a.length
  case neg =>
    have hil : i = a.length := by omega
    subst hil
    rw [List.take_length] at *
    have nn : (prod a b).length ≤ maxN := by unfold maxN; omega
    have c1 : (prod a b).length * 11 ≤ (encL (prod a b)).length := by rw [encL_length]; simp
    have htk : List.take ((prod a b).length * 11) (encL (prod a b)) = encL (prod a b) := take_rows _ _ (by simp)
    simp -implicitDefEqProofs [h1, meetP, hlen, nn, c1, htk]
  have w1 : IntKind.i64.wrap ((i : Int) + 1) = (i : Int) + 1 := wrap64 (by omega) (by omega)
  have hrow := rd_pc a i h1
  simp -implicitDefEqProofs [h1, hrow, nb]
  refine run_while (c := c177_28) (fun n s => ∃ (j : Nat) (g : Nat → Nat), j + n = b.length ∧ ((sofar a b i j a[i]).length : Int) ≤ most ∧ s = ⟨[(1, .lst b.length (encL b)), (2, .int .i64 most), (8, .own 8 (g 8) 0 (sofar a b i j a[i]).length), (10, .ptr 10 (g 10) 0), (14, .lst a.length (encL a)), (15, .int .i64 a.length), (16, .int .i64 i), (20, .lst b.length (encL b)), (21, .int .i64 b.length), (22, .int .i64 j)], [(8, ⟨encL (sofar a b i j a[i]), false, 11⟩), (10, ⟨Row.enc a[i], false, 0⟩)], g⟩) b.length ⟨0, bump 10 g, by omega, by simp [sofar, row]; omega, by simp [sofar, row]⟩ ?_
  rintro n2 s ⟨j, g, hj, hlen, rfl⟩
  by_cases h2 : j < b.length
  case neg =>
    have hjl : j = b.length := by omega
    subst hjl
    rw [sofar_end h1] at *
    simp -implicitDefEqProofs [h2, w1]
    exact ⟨n - 1, by omega, i + 1, by omega, hlen, ⟨rfl, by omega⟩, rfl⟩
  have w2 : IntKind.i64.wrap ((j : Int) + 1) = (j : Int) + 1 := wrap64 (by omega) (by omega)
  have hrow2 := rd_pc b j h2
  have v1 := ha.1 a[i] (List.getElem_mem h1)
  have v2 := hb.1 b[j] (List.getElem_mem h2)
  have w3 : IntKind.i64.wrap (a[i].value + b[j].value) = a[i].value + b[j].value := wrap64 (by omega) (by omega)
  have hs := sofar_row (a := a) (i := i) (x := a[i]) h2
  cases he : (meetB a[i].box b[j].box).empty
  case true =>
    rw [row_none (by simp [meetF, he]), List.append_nil] at hs
    simp -implicitDefEqProofs [h2, hrow2, he, w2]
    exact ⟨n2 - 1, by omega, j + 1, by omega, by rw [hs]; exact hlen, ⟨by rw [hs], by omega⟩, by rw [hs]⟩
  case false =>
    rw [row_some (z := ⟨meetB a[i].box b[j].box, a[i].value + b[j].value⟩) (by simp [meetF, he])] at hs
    have hs2 : (sofar a b i (j + 1) a[i]).length = (sofar a b i j a[i]).length + 1 := by rw [hs]; simp
    by_cases h3 : most ≤ (sofar a b i j a[i]).length
    case pos =>
      obtain ⟨r, hr⟩ := sofar_pre (a := a) (b := b) (i := i) (j := j + 1) h1
      have hno : ¬ ((prod a b).length : Int) ≤ most := by
        rw [hr, List.length_append]
        omega
      simp -implicitDefEqProofs [h2, hrow2, he, w2, h3, meetP, hno, encL_nil]
    case neg =>
      have nn : (sofar a b i j a[i]).length ≤ 1099511627775 := by omega
      have nn2 : (sofar a b i j a[i]).length ≤ maxN := by unfold maxN; omega
      have c1 : (sofar a b i j a[i]).length * 11 ≤ (encL (sofar a b i j a[i])).length := by rw [encL_length]; simp
      have htk : List.take ((sofar a b i j a[i]).length * 11) (encL (sofar a b i j a[i])) = encL (sofar a b i j a[i]) := take_rows _ _ (by simp)
      have hE : encL (sofar a b i (j + 1) a[i]) = encL (sofar a b i j a[i]) ++ Row.enc (⟨meetB a[i].box b[j].box, a[i].value + b[j].value⟩ : Piece) := by rw [hs, encL_append, encL_cons, encL_nil, List.append_nil]
      simp -implicitDefEqProofs [h2, hrow2, he, w2, w3, h3, nn, nn2, c1, htk]
      refine ⟨n2 - 1, by omega, j + 1, by omega, by omega, ⟨by omega, by omega⟩, ?_⟩
      rw [hE]
      rfl
theorem c_cMeet : Contract Try.prog 177 (sp3 MeetC) :=
  contract_of_runs mixed (tbl_cons c_bMeet (tbl_cons c_bEmpty tbl_nil)) Try.func177 m177 (sp3_runs runs_cMeet)
end Go.Co
