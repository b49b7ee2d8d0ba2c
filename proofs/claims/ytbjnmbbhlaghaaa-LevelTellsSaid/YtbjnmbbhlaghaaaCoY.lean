/- CO: the document's own range. -/
import Derived.Test.YtbjnmbbhlaghaaaCoX
import Derived.Test.YtbjnmbbhlaghaaaCoLev2
import Derived.Test.YtbjnmbbhlaghaaaCoU
namespace Go.Co
open Go.Am Go.Proofs
set_option linter.unusedSimpArgs false
set_option linter.unusedVariables false

/- copse/copseref10.Meet -/
def c135_0 : ACode := .ops [⟨some 6, .mv (.c (.nils)), none, []⟩,
  ⟨some 7, .mv (.c (.bool false)), none, []⟩] [0, 1, 2]
theorem r135_0 {C : Cs} {k : List Fr} {s : St} {Q : Post} : run C c135_0 k s Q = run C (.ops [⟨some 6, .mv (.c (.nils)), none, []⟩,
  ⟨some 7, .mv (.c (.bool false)), none, []⟩] [0, 1, 2]) k s Q := rfl
def c135_1 : ACode := .ops [⟨some 8, .nil0 8 11, none, []⟩] [0, 1, 2, 8]
theorem r135_1 {C : Cs} {k : List Fr} {s : St} {Q : Post} : run C c135_1 k s Q = run C (.ops [⟨some 8, .nil0 8 11, none, []⟩] [0, 1, 2, 8]) k s Q := rfl
def c135_2 : ACode := .ops [⟨some 14, .mv (.t 0), none, []⟩,
  ⟨some 15, .len (.t 14), none, []⟩,
  ⟨some 16, .mv (.c (.int .i64 0)), none, []⟩] [1, 2, 8, 14, 15, 16]
theorem r135_2 {C : Cs} {k : List Fr} {s : St} {Q : Post} : run C c135_2 k s Q = run C (.ops [⟨some 14, .mv (.t 0), none, []⟩,
  ⟨some 15, .len (.t 14), none, []⟩,
  ⟨some 16, .mv (.c (.int .i64 0)), none, []⟩] [1, 2, 8, 14, 15, 16]) k s Q := rfl
def c135_3 : ACode := .ops [⟨some 17, .bin .lss (.t 16) (.t 15), none, []⟩] [1, 2, 8, 14, 15, 16, 17]
theorem r135_3 {C : Cs} {k : List Fr} {s : St} {Q : Post} : run C c135_3 k s Q = run C (.ops [⟨some 17, .bin .lss (.t 16) (.t 15), none, []⟩] [1, 2, 8, 14, 15, 16, 17]) k s Q := rfl
def c135_4 : ACode := .cond (.t 17) .skip (.exit 0)
theorem r135_4 {C : Cs} {k : List Fr} {s : St} {Q : Post} : run C c135_4 k s Q = run C (.cond (.t 17) .skip (.exit 0)) k s Q := rfl
def c135_5 : ACode := .ops [⟨some 18, .ias (.t 14) (.t 16) 11, none, []⟩,
  ⟨some 19, .load 11 true (.t 18), none, []⟩,
  ⟨some 10, .alloc [.int .i64 0, .int .i64 0, .int .i64 0, .int .i64 0, .int .i64 0, .int .i64 0, .int .i64 0, .int .i64 0, .int .i64 0, .int .i64 0, .int .i64 0], none, []⟩,
  ⟨none, .store (.t 10) 11 (.t 19), none, [10]⟩] [1, 2, 8, 10, 14, 15, 16]
theorem r135_5 {C : Cs} {k : List Fr} {s : St} {Q : Post} : run C c135_5 k s Q = run C (.ops [⟨some 18, .ias (.t 14) (.t 16) 11, none, []⟩,
  ⟨some 19, .load 11 true (.t 18), none, []⟩,
  ⟨some 10, .alloc [.int .i64 0, .int .i64 0, .int .i64 0, .int .i64 0, .int .i64 0, .int .i64 0, .int .i64 0, .int .i64 0, .int .i64 0, .int .i64 0, .int .i64 0], none, []⟩,
  ⟨none, .store (.t 10) 11 (.t 19), none, [10]⟩] [1, 2, 8, 10, 14, 15, 16]) k s Q := rfl
def c135_6 : ACode := .ops [⟨some 20, .mv (.t 1), none, []⟩,
  ⟨some 21, .len (.t 20), none, []⟩,
  ⟨some 22, .mv (.c (.int .i64 0)), none, []⟩] [1, 2, 8, 10, 14, 15, 16, 20, 21, 22]
theorem r135_6 {C : Cs} {k : List Fr} {s : St} {Q : Post} : run C c135_6 k s Q = run C (.ops [⟨some 20, .mv (.t 1), none, []⟩,
  ⟨some 21, .len (.t 20), none, []⟩,
  ⟨some 22, .mv (.c (.int .i64 0)), none, []⟩] [1, 2, 8, 10, 14, 15, 16, 20, 21, 22]) k s Q := rfl
def c135_7 : ACode := .ops [⟨some 23, .bin .lss (.t 22) (.t 21), none, []⟩] [1, 2, 8, 10, 14, 15, 16, 20, 21, 22, 23]
theorem r135_7 {C : Cs} {k : List Fr} {s : St} {Q : Post} : run C c135_7 k s Q = run C (.ops [⟨some 23, .bin .lss (.t 22) (.t 21), none, []⟩] [1, 2, 8, 10, 14, 15, 16, 20, 21, 22, 23]) k s Q := rfl
def c135_8 : ACode := .cond (.t 23) .skip (.exit 2)
theorem r135_8 {C : Cs} {k : List Fr} {s : St} {Q : Post} : run C c135_8 k s Q = run C (.cond (.t 23) .skip (.exit 2)) k s Q := rfl
def c135_9 : ACode := .ops [⟨some 24, .ias (.t 20) (.t 22) 11, none, []⟩,
  ⟨some 25, .load 11 true (.t 24), none, []⟩,
  ⟨some 12, .alloc [.int .i64 0, .int .i64 0, .int .i64 0, .int .i64 0, .int .i64 0, .int .i64 0, .int .i64 0, .int .i64 0, .int .i64 0, .int .i64 0, .int .i64 0], none, []⟩,
  ⟨none, .store (.t 12) 11 (.t 25), none, [12]⟩] [1, 2, 8, 10, 12, 14, 15, 16, 20, 21, 22]
theorem r135_9 {C : Cs} {k : List Fr} {s : St} {Q : Post} : run C c135_9 k s Q = run C (.ops [⟨some 24, .ias (.t 20) (.t 22) 11, none, []⟩,
  ⟨some 25, .load 11 true (.t 24), none, []⟩,
  ⟨some 12, .alloc [.int .i64 0, .int .i64 0, .int .i64 0, .int .i64 0, .int .i64 0, .int .i64 0, .int .i64 0, .int .i64 0, .int .i64 0, .int .i64 0, .int .i64 0], none, []⟩,
  ⟨none, .store (.t 12) 11 (.t 25), none, [12]⟩] [1, 2, 8, 10, 12, 14, 15, 16, 20, 21, 22]) k s Q := rfl
def c135_10 : ACode := .ops [⟨some 26, .fad (.t 10) 0, none, [10]⟩,
  ⟨some 27, .load 10 true (.t 26), none, [10]⟩,
  ⟨some 28, .fad (.t 12) 0, none, [12]⟩,
  ⟨some 29, .load 10 true (.t 28), none, [12]⟩,
  ⟨some 30, .call 167 [.t 27, .t 29], none, []⟩,
  ⟨some 13, .alloc [.int .i64 0, .int .i64 0, .int .i64 0, .int .i64 0, .int .i64 0, .int .i64 0, .int .i64 0, .int .i64 0, .int .i64 0, .int .i64 0], none, []⟩,
  ⟨none, .store (.t 13) 10 (.t 30), none, [13]⟩] [1, 2, 8, 10, 12, 13, 14, 15, 16, 20, 21, 22]
theorem r135_10 {C : Cs} {k : List Fr} {s : St} {Q : Post} : run C c135_10 k s Q = run C (.ops [⟨some 26, .fad (.t 10) 0, none, [10]⟩,
  ⟨some 27, .load 10 true (.t 26), none, [10]⟩,
  ⟨some 28, .fad (.t 12) 0, none, [12]⟩,
  ⟨some 29, .load 10 true (.t 28), none, [12]⟩,
  ⟨some 30, .call 167 [.t 27, .t 29], none, []⟩,
  ⟨some 13, .alloc [.int .i64 0, .int .i64 0, .int .i64 0, .int .i64 0, .int .i64 0, .int .i64 0, .int .i64 0, .int .i64 0, .int .i64 0, .int .i64 0], none, []⟩,
  ⟨none, .store (.t 13) 10 (.t 30), none, [13]⟩] [1, 2, 8, 10, 12, 13, 14, 15, 16, 20, 21, 22]) k s Q := rfl
def c135_11 : ACode := .ops [⟨some 31, .load 10 true (.t 13), none, [13]⟩,
  ⟨some 32, .call 49 [.t 31], none, []⟩] [1, 2, 8, 10, 12, 13, 14, 15, 16, 20, 21, 22, 32]
theorem r135_11 {C : Cs} {k : List Fr} {s : St} {Q : Post} : run C c135_11 k s Q = run C (.ops [⟨some 31, .load 10 true (.t 13), none, [13]⟩,
  ⟨some 32, .call 49 [.t 31], none, []⟩] [1, 2, 8, 10, 12, 13, 14, 15, 16, 20, 21, 22, 32]) k s Q := rfl
def c135_12 : ACode := .cond (.t 32) (.exit 3) .skip
theorem r135_12 {C : Cs} {k : List Fr} {s : St} {Q : Post} : run C c135_12 k s Q = run C (.cond (.t 32) (.exit 3) .skip) k s Q := rfl
def c135_13 : ACode := .seq c135_11 c135_12
theorem r135_13 {C : Cs} {k : List Fr} {s : St} {Q : Post} : run C c135_13 k s Q = run C (.seq c135_11 c135_12) k s Q := rfl
def c135_14 : ACode := .ops [⟨some 33, .mv (.t 8), none, []⟩,
  ⟨some 34, .len (.t 33), none, [8]⟩,
  ⟨some 35, .mv (.t 2), none, []⟩,
  ⟨some 36, .bin .geq (.t 34) (.t 35), none, []⟩] [1, 2, 8, 10, 12, 13, 14, 15, 16, 20, 21, 22, 36]
theorem r135_14 {C : Cs} {k : List Fr} {s : St} {Q : Post} : run C c135_14 k s Q = run C (.ops [⟨some 33, .mv (.t 8), none, []⟩,
  ⟨some 34, .len (.t 33), none, [8]⟩,
  ⟨some 35, .mv (.t 2), none, []⟩,
  ⟨some 36, .bin .geq (.t 34) (.t 35), none, []⟩] [1, 2, 8, 10, 12, 13, 14, 15, 16, 20, 21, 22, 36]) k s Q := rfl
def c135_15 : ACode := .ops [⟨some 6, .mv (.c (.nils)), none, []⟩,
  ⟨some 7, .mv (.c (.bool false)), none, []⟩] [6, 7]
theorem r135_15 {C : Cs} {k : List Fr} {s : St} {Q : Post} : run C c135_15 k s Q = run C (.ops [⟨some 6, .mv (.c (.nils)), none, []⟩,
  ⟨some 7, .mv (.c (.bool false)), none, []⟩] [6, 7]) k s Q := rfl
def c135_16 : ACode := .seq c135_15 .ret
theorem r135_16 {C : Cs} {k : List Fr} {s : St} {Q : Post} : run C c135_16 k s Q = run C (.seq c135_15 .ret) k s Q := rfl
def c135_17 : ACode := .cond (.t 36) c135_16 .skip
theorem r135_17 {C : Cs} {k : List Fr} {s : St} {Q : Post} : run C c135_17 k s Q = run C (.cond (.t 36) c135_16 .skip) k s Q := rfl
def c135_18 : ACode := .seq c135_14 c135_17
theorem r135_18 {C : Cs} {k : List Fr} {s : St} {Q : Post} : run C c135_18 k s Q = run C (.seq c135_14 c135_17) k s Q := rfl
def c135_19 : ACode := .ops [⟨some 37, .mv (.t 8), none, []⟩,
  ⟨some 38, .load 10 true (.t 13), none, [13]⟩,
  ⟨some 39, .fad (.t 10) 10, none, [10]⟩,
  ⟨some 40, .load 1 false (.t 39), none, [10]⟩,
  ⟨some 41, .fad (.t 12) 10, none, [12]⟩,
  ⟨some 42, .load 1 false (.t 41), none, [12]⟩,
  ⟨some 43, .bin .add (.t 40) (.t 42), none, []⟩,
  ⟨some 44, .build [.int .i64 0, .int .i64 0, .int .i64 0, .int .i64 0, .int .i64 0, .int .i64 0, .int .i64 0, .int .i64 0, .int .i64 0, .int .i64 0, .int .i64 0] [(0, 10, .t 38), (10, 1, .t 43)], none, []⟩,
  ⟨some 45, .mkrow 45 1 11 [.int .i64 0, .int .i64 0, .int .i64 0, .int .i64 0, .int .i64 0, .int .i64 0, .int .i64 0, .int .i64 0, .int .i64 0, .int .i64 0, .int .i64 0] [(0, 11, .t 44)], none, []⟩,
  ⟨some 46, .app 8 [8] (.t 37) (.t 45) 11, none, [8, 45]⟩,
  ⟨some 8, .mv (.t 46), none, []⟩] [1, 2, 8, 10, 14, 15, 16, 20, 21, 22]
theorem r135_19 {C : Cs} {k : List Fr} {s : St} {Q : Post} : run C c135_19 k s Q = run C (.ops [⟨some 37, .mv (.t 8), none, []⟩,
  ⟨some 38, .load 10 true (.t 13), none, [13]⟩,
  ⟨some 39, .fad (.t 10) 10, none, [10]⟩,
  ⟨some 40, .load 1 false (.t 39), none, [10]⟩,
  ⟨some 41, .fad (.t 12) 10, none, [12]⟩,
  ⟨some 42, .load 1 false (.t 41), none, [12]⟩,
  ⟨some 43, .bin .add (.t 40) (.t 42), none, []⟩,
  ⟨some 44, .build [.int .i64 0, .int .i64 0, .int .i64 0, .int .i64 0, .int .i64 0, .int .i64 0, .int .i64 0, .int .i64 0, .int .i64 0, .int .i64 0, .int .i64 0] [(0, 10, .t 38), (10, 1, .t 43)], none, []⟩,
  ⟨some 45, .mkrow 45 1 11 [.int .i64 0, .int .i64 0, .int .i64 0, .int .i64 0, .int .i64 0, .int .i64 0, .int .i64 0, .int .i64 0, .int .i64 0, .int .i64 0, .int .i64 0] [(0, 11, .t 44)], none, []⟩,
  ⟨some 46, .app 8 [8] (.t 37) (.t 45) 11, none, [8, 45]⟩,
  ⟨some 8, .mv (.t 46), none, []⟩] [1, 2, 8, 10, 14, 15, 16, 20, 21, 22]) k s Q := rfl
def c135_20 : ACode := .seq c135_18 c135_19
theorem r135_20 {C : Cs} {k : List Fr} {s : St} {Q : Post} : run C c135_20 k s Q = run C (.seq c135_18 c135_19) k s Q := rfl
def c135_21 : ACode := .seq c135_13 c135_20
theorem r135_21 {C : Cs} {k : List Fr} {s : St} {Q : Post} : run C c135_21 k s Q = run C (.seq c135_13 c135_20) k s Q := rfl
def c135_22 : ACode := .seq c135_10 c135_21
theorem r135_22 {C : Cs} {k : List Fr} {s : St} {Q : Post} : run C c135_22 k s Q = run C (.seq c135_10 c135_21) k s Q := rfl
def c135_23 : ACode := .seq c135_9 c135_22
theorem r135_23 {C : Cs} {k : List Fr} {s : St} {Q : Post} : run C c135_23 k s Q = run C (.seq c135_9 c135_22) k s Q := rfl
def c135_24 : ACode := .block 3 c135_23
theorem r135_24 {C : Cs} {k : List Fr} {s : St} {Q : Post} : run C c135_24 k s Q = run C (.block 3 c135_23) k s Q := rfl
def c135_25 : ACode := .ops [⟨some 47, .bin .add (.t 22) (.c (.int .i64 1)), none, []⟩,
  ⟨some 22, .mv (.t 47), none, []⟩] [1, 2, 8, 10, 14, 15, 16, 20, 21, 22]
theorem r135_25 {C : Cs} {k : List Fr} {s : St} {Q : Post} : run C c135_25 k s Q = run C (.ops [⟨some 47, .bin .add (.t 22) (.c (.int .i64 1)), none, []⟩,
  ⟨some 22, .mv (.t 47), none, []⟩] [1, 2, 8, 10, 14, 15, 16, 20, 21, 22]) k s Q := rfl
def c135_26 : ACode := .seq c135_24 c135_25
theorem r135_26 {C : Cs} {k : List Fr} {s : St} {Q : Post} : run C c135_26 k s Q = run C (.seq c135_24 c135_25) k s Q := rfl
def c135_27 : ACode := .seq c135_8 c135_26
theorem r135_27 {C : Cs} {k : List Fr} {s : St} {Q : Post} : run C c135_27 k s Q = run C (.seq c135_8 c135_26) k s Q := rfl
def c135_28 : ACode := .seq c135_7 c135_27
theorem r135_28 {C : Cs} {k : List Fr} {s : St} {Q : Post} : run C c135_28 k s Q = run C (.seq c135_7 c135_27) k s Q := rfl
def c135_29 : ACode := .keep [1, 2, 8, 10, 14, 15, 16, 20, 21, 22] [8, 10] c135_28
theorem r135_29 {C : Cs} {k : List Fr} {s : St} {Q : Post} : run C c135_29 k s Q = run C (.keep [1, 2, 8, 10, 14, 15, 16, 20, 21, 22] [8, 10] c135_28) k s Q := rfl
def c135_30 : ACode := .loop c135_29
theorem r135_30 {C : Cs} {k : List Fr} {s : St} {Q : Post} : run C c135_30 k s Q = run C (.loop c135_29) k s Q := rfl
def c135_31 : ACode := .block 2 c135_30
theorem r135_31 {C : Cs} {k : List Fr} {s : St} {Q : Post} : run C c135_31 k s Q = run C (.block 2 c135_30) k s Q := rfl
def c135_32 : ACode := .seq c135_6 c135_31
theorem r135_32 {C : Cs} {k : List Fr} {s : St} {Q : Post} : run C c135_32 k s Q = run C (.seq c135_6 c135_31) k s Q := rfl
def c135_33 : ACode := .seq c135_5 c135_32
theorem r135_33 {C : Cs} {k : List Fr} {s : St} {Q : Post} : run C c135_33 k s Q = run C (.seq c135_5 c135_32) k s Q := rfl
def c135_34 : ACode := .block 1 c135_33
theorem r135_34 {C : Cs} {k : List Fr} {s : St} {Q : Post} : run C c135_34 k s Q = run C (.block 1 c135_33) k s Q := rfl
def c135_35 : ACode := .ops [⟨some 48, .bin .add (.t 16) (.c (.int .i64 1)), none, []⟩,
  ⟨some 16, .mv (.t 48), none, []⟩] [1, 2, 8, 14, 15, 16]
theorem r135_35 {C : Cs} {k : List Fr} {s : St} {Q : Post} : run C c135_35 k s Q = run C (.ops [⟨some 48, .bin .add (.t 16) (.c (.int .i64 1)), none, []⟩,
  ⟨some 16, .mv (.t 48), none, []⟩] [1, 2, 8, 14, 15, 16]) k s Q := rfl
def c135_36 : ACode := .seq c135_34 c135_35
theorem r135_36 {C : Cs} {k : List Fr} {s : St} {Q : Post} : run C c135_36 k s Q = run C (.seq c135_34 c135_35) k s Q := rfl
def c135_37 : ACode := .seq c135_4 c135_36
theorem r135_37 {C : Cs} {k : List Fr} {s : St} {Q : Post} : run C c135_37 k s Q = run C (.seq c135_4 c135_36) k s Q := rfl
def c135_38 : ACode := .seq c135_3 c135_37
theorem r135_38 {C : Cs} {k : List Fr} {s : St} {Q : Post} : run C c135_38 k s Q = run C (.seq c135_3 c135_37) k s Q := rfl
def c135_39 : ACode := .keep [1, 2, 8, 14, 15, 16] [8] c135_38
theorem r135_39 {C : Cs} {k : List Fr} {s : St} {Q : Post} : run C c135_39 k s Q = run C (.keep [1, 2, 8, 14, 15, 16] [8] c135_38) k s Q := rfl
def c135_40 : ACode := .loop c135_39
theorem r135_40 {C : Cs} {k : List Fr} {s : St} {Q : Post} : run C c135_40 k s Q = run C (.loop c135_39) k s Q := rfl
def c135_41 : ACode := .block 0 c135_40
theorem r135_41 {C : Cs} {k : List Fr} {s : St} {Q : Post} : run C c135_41 k s Q = run C (.block 0 c135_40) k s Q := rfl
def c135_42 : ACode := .seq c135_2 c135_41
theorem r135_42 {C : Cs} {k : List Fr} {s : St} {Q : Post} : run C c135_42 k s Q = run C (.seq c135_2 c135_41) k s Q := rfl
def c135_43 : ACode := .ops [⟨some 49, .mv (.t 8), none, []⟩,
  ⟨some 6, .mv (.t 49), none, []⟩,
  ⟨some 7, .mv (.c (.bool true)), none, []⟩] [6, 7]
theorem r135_43 {C : Cs} {k : List Fr} {s : St} {Q : Post} : run C c135_43 k s Q = run C (.ops [⟨some 49, .mv (.t 8), none, []⟩,
  ⟨some 6, .mv (.t 49), none, []⟩,
  ⟨some 7, .mv (.c (.bool true)), none, []⟩] [6, 7]) k s Q := rfl
def c135_44 : ACode := .seq c135_43 .ret
theorem r135_44 {C : Cs} {k : List Fr} {s : St} {Q : Post} : run C c135_44 k s Q = run C (.seq c135_43 .ret) k s Q := rfl
def c135_45 : ACode := .seq c135_42 c135_44
theorem r135_45 {C : Cs} {k : List Fr} {s : St} {Q : Post} : run C c135_45 k s Q = run C (.seq c135_42 c135_44) k s Q := rfl
def c135_46 : ACode := .seq c135_1 c135_45
theorem r135_46 {C : Cs} {k : List Fr} {s : St} {Q : Post} : run C c135_46 k s Q = run C (.seq c135_1 c135_45) k s Q := rfl
def c135_47 : ACode := .seq c135_0 c135_46
theorem r135_47 {C : Cs} {k : List Fr} {s : St} {Q : Post} : run C c135_47 k s Q = run C (.seq c135_0 c135_46) k s Q := rfl
def a135 : AFun := ⟨3, 50, c135_47, [.t 6, .t 7]⟩
attribute [simp] r135_0 r135_1 r135_2 r135_3 r135_4 r135_5 r135_6 r135_7 r135_8 r135_9 r135_10 r135_11 r135_12 r135_13 r135_14 r135_15 r135_16 r135_17 r135_18 r135_19 r135_20 r135_21 r135_22 r135_23 r135_24 r135_25 r135_26 r135_27 r135_28 r135_29 r135_30 r135_31 r135_32 r135_33 r135_34 r135_35 r135_36 r135_37 r135_38 r135_39 r135_40 r135_41 r135_42 r135_43 r135_44 r135_45 r135_46 r135_47
theorem m135 : mFun Try.prog Try.f135 a135 = true := by decide +kernel
/- copse/copseref10.Range -/
def c85_0 : ACode := .ops [⟨some 4, .box (.t 0) 6, none, []⟩,
  ⟨some 6, .box (.t 2) 10, none, []⟩,
  ⟨some 8, .mv (.c (.int .i64 0)), none, []⟩,
  ⟨some 9, .mv (.c (.int .i64 0)), none, []⟩,
  ⟨some 10, .mv (.c (.bool false)), none, []⟩] [1, 3, 4, 6]
theorem r85_0 {C : Cs} {k : List Fr} {s : St} {Q : Post} : run C c85_0 k s Q = run C (.ops [⟨some 4, .box (.t 0) 6, none, []⟩,
  ⟨some 6, .box (.t 2) 10, none, []⟩,
  ⟨some 8, .mv (.c (.int .i64 0)), none, []⟩,
  ⟨some 9, .mv (.c (.int .i64 0)), none, []⟩,
  ⟨some 10, .mv (.c (.bool false)), none, []⟩] [1, 3, 4, 6]) k s Q := rfl
def c85_1 : ACode := .ops [⟨some 31, .load 6 true (.t 4), none, [4]⟩,
  ⟨some 32, .mv (.t 1), none, []⟩,
  ⟨some 33, .load 10 true (.t 6), none, [6]⟩,
  ⟨some 34, .call 47 [.t 31, .t 32, .t 33], none, []⟩,
  ⟨some 30, .mv (.t 34), none, []⟩,
  ⟨some 35, .ext (.t 30) 0, none, []⟩,
  ⟨some 36, .ext (.t 30) 1, none, []⟩,
  ⟨some 37, .ext (.t 30) 2, none, []⟩,
  ⟨some 11, .mv (.t 35), none, []⟩,
  ⟨some 12, .mv (.t 36), none, []⟩,
  ⟨some 13, .mv (.t 37), none, []⟩] [1, 3, 4, 6, 13]
theorem r85_1 {C : Cs} {k : List Fr} {s : St} {Q : Post} : run C c85_1 k s Q = run C (.ops [⟨some 31, .load 6 true (.t 4), none, [4]⟩,
  ⟨some 32, .mv (.t 1), none, []⟩,
  ⟨some 33, .load 10 true (.t 6), none, [6]⟩,
  ⟨some 34, .call 47 [.t 31, .t 32, .t 33], none, []⟩,
  ⟨some 30, .mv (.t 34), none, []⟩,
  ⟨some 35, .ext (.t 30) 0, none, []⟩,
  ⟨some 36, .ext (.t 30) 1, none, []⟩,
  ⟨some 37, .ext (.t 30) 2, none, []⟩,
  ⟨some 11, .mv (.t 35), none, []⟩,
  ⟨some 12, .mv (.t 36), none, []⟩,
  ⟨some 13, .mv (.t 37), none, []⟩] [1, 3, 4, 6, 13]) k s Q := rfl
def c85_2 : ACode := .ops [⟨some 38, .mv (.t 13), none, []⟩,
  ⟨some 39, .un .not (.t 38), none, []⟩] [1, 3, 4, 6, 39]
theorem r85_2 {C : Cs} {k : List Fr} {s : St} {Q : Post} : run C c85_2 k s Q = run C (.ops [⟨some 38, .mv (.t 13), none, []⟩,
  ⟨some 39, .un .not (.t 38), none, []⟩] [1, 3, 4, 6, 39]) k s Q := rfl
def c85_3 : ACode := .ops [⟨some 8, .mv (.c (.int .i64 0)), none, []⟩,
  ⟨some 9, .mv (.c (.int .i64 0)), none, []⟩,
  ⟨some 10, .mv (.c (.bool false)), none, []⟩] [8, 9, 10]
theorem r85_3 {C : Cs} {k : List Fr} {s : St} {Q : Post} : run C c85_3 k s Q = run C (.ops [⟨some 8, .mv (.c (.int .i64 0)), none, []⟩,
  ⟨some 9, .mv (.c (.int .i64 0)), none, []⟩,
  ⟨some 10, .mv (.c (.bool false)), none, []⟩] [8, 9, 10]) k s Q := rfl
def c85_4 : ACode := .seq c85_3 .ret
theorem r85_4 {C : Cs} {k : List Fr} {s : St} {Q : Post} : run C c85_4 k s Q = run C (.seq c85_3 .ret) k s Q := rfl
def c85_5 : ACode := .cond (.t 39) c85_4 .skip
theorem r85_5 {C : Cs} {k : List Fr} {s : St} {Q : Post} : run C c85_5 k s Q = run C (.cond (.t 39) c85_4 .skip) k s Q := rfl
def c85_6 : ACode := .seq c85_2 c85_5
theorem r85_6 {C : Cs} {k : List Fr} {s : St} {Q : Post} : run C c85_6 k s Q = run C (.seq c85_2 c85_5) k s Q := rfl
def c85_7 : ACode := .seq c85_1 c85_6
theorem r85_7 {C : Cs} {k : List Fr} {s : St} {Q : Post} : run C c85_7 k s Q = run C (.seq c85_1 c85_6) k s Q := rfl
def c85_8 : ACode := .ops [⟨some 14, .nil0 14 1, none, []⟩] [1, 3, 4, 6, 14]
theorem r85_8 {C : Cs} {k : List Fr} {s : St} {Q : Post} : run C c85_8 k s Q = run C (.ops [⟨some 14, .nil0 14 1, none, []⟩] [1, 3, 4, 6, 14]) k s Q := rfl
def c85_9 : ACode := .ops [⟨some 40, .fad (.t 4) 5, none, [4]⟩,
  ⟨some 41, .load 1 false (.t 40), none, [4]⟩,
  ⟨some 42, .len (.t 41), none, []⟩,
  ⟨some 43, .mv (.c (.int .i64 0)), none, []⟩] [1, 3, 4, 6, 14, 41, 42, 43]
theorem r85_9 {C : Cs} {k : List Fr} {s : St} {Q : Post} : run C c85_9 k s Q = run C (.ops [⟨some 40, .fad (.t 4) 5, none, [4]⟩,
  ⟨some 41, .load 1 false (.t 40), none, [4]⟩,
  ⟨some 42, .len (.t 41), none, []⟩,
  ⟨some 43, .mv (.c (.int .i64 0)), none, []⟩] [1, 3, 4, 6, 14, 41, 42, 43]) k s Q := rfl
def c85_10 : ACode := .ops [⟨some 44, .bin .lss (.t 43) (.t 42), none, []⟩] [1, 3, 4, 6, 14, 41, 42, 43, 44]
theorem r85_10 {C : Cs} {k : List Fr} {s : St} {Q : Post} : run C c85_10 k s Q = run C (.ops [⟨some 44, .bin .lss (.t 43) (.t 42), none, []⟩] [1, 3, 4, 6, 14, 41, 42, 43, 44]) k s Q := rfl
def c85_11 : ACode := .cond (.t 44) .skip (.exit 0)
theorem r85_11 {C : Cs} {k : List Fr} {s : St} {Q : Post} : run C c85_11 k s Q = run C (.cond (.t 44) .skip (.exit 0)) k s Q := rfl
def c85_12 : ACode := .ops [⟨some 45, .ias (.t 41) (.t 43) 2, none, []⟩,
  ⟨some 46, .load 2 true (.t 45), none, []⟩,
  ⟨some 16, .alloc [.int .i64 0, .nils], none, []⟩,
  ⟨none, .store (.t 16) 2 (.t 46), none, [16]⟩] [1, 3, 4, 6, 14, 16, 41, 42, 43]
theorem r85_12 {C : Cs} {k : List Fr} {s : St} {Q : Post} : run C c85_12 k s Q = run C (.ops [⟨some 45, .ias (.t 41) (.t 43) 2, none, []⟩,
  ⟨some 46, .load 2 true (.t 45), none, []⟩,
  ⟨some 16, .alloc [.int .i64 0, .nils], none, []⟩,
  ⟨none, .store (.t 16) 2 (.t 46), none, [16]⟩] [1, 3, 4, 6, 14, 16, 41, 42, 43]) k s Q := rfl
def c85_13 : ACode := .ops [⟨some 47, .fad (.t 16) 0, none, [16]⟩,
  ⟨some 48, .load 1 false (.t 47), none, [16]⟩,
  ⟨some 49, .mv (.t 1), none, []⟩,
  ⟨some 50, .bin .eql (.t 48) (.t 49), none, []⟩] [1, 3, 4, 6, 14, 16, 41, 42, 43, 50]
theorem r85_13 {C : Cs} {k : List Fr} {s : St} {Q : Post} : run C c85_13 k s Q = run C (.ops [⟨some 47, .fad (.t 16) 0, none, [16]⟩,
  ⟨some 48, .load 1 false (.t 47), none, [16]⟩,
  ⟨some 49, .mv (.t 1), none, []⟩,
  ⟨some 50, .bin .eql (.t 48) (.t 49), none, []⟩] [1, 3, 4, 6, 14, 16, 41, 42, 43, 50]) k s Q := rfl
def c85_14 : ACode := .ops [⟨some 51, .mv (.t 14), none, []⟩,
  ⟨some 52, .fad (.t 16) 1, none, [16]⟩,
  ⟨some 53, .load 1 false (.t 52), none, [16]⟩,
  ⟨some 54, .load 10 true (.t 6), none, [6]⟩,
  ⟨some 55, .call 113 [.t 53, .t 54], none, []⟩,
  ⟨some 56, .mkrow 56 1 1 [.nils] [(0, 1, .t 55)], none, []⟩,
  ⟨some 57, .app 14 [14] (.t 51) (.t 56) 1, none, [14, 56]⟩,
  ⟨some 14, .mv (.t 57), none, []⟩] [1, 3, 4, 6, 14, 41, 42, 43]
theorem r85_14 {C : Cs} {k : List Fr} {s : St} {Q : Post} : run C c85_14 k s Q = run C (.ops [⟨some 51, .mv (.t 14), none, []⟩,
  ⟨some 52, .fad (.t 16) 1, none, [16]⟩,
  ⟨some 53, .load 1 false (.t 52), none, [16]⟩,
  ⟨some 54, .load 10 true (.t 6), none, [6]⟩,
  ⟨some 55, .call 113 [.t 53, .t 54], none, []⟩,
  ⟨some 56, .mkrow 56 1 1 [.nils] [(0, 1, .t 55)], none, []⟩,
  ⟨some 57, .app 14 [14] (.t 51) (.t 56) 1, none, [14, 56]⟩,
  ⟨some 14, .mv (.t 57), none, []⟩] [1, 3, 4, 6, 14, 41, 42, 43]) k s Q := rfl
def c85_15 : ACode := .cond (.t 50) c85_14 .skip
theorem r85_15 {C : Cs} {k : List Fr} {s : St} {Q : Post} : run C c85_15 k s Q = run C (.cond (.t 50) c85_14 .skip) k s Q := rfl
def c85_16 : ACode := .seq c85_13 c85_15
theorem r85_16 {C : Cs} {k : List Fr} {s : St} {Q : Post} : run C c85_16 k s Q = run C (.seq c85_13 c85_15) k s Q := rfl
def c85_17 : ACode := .seq c85_12 c85_16
theorem r85_17 {C : Cs} {k : List Fr} {s : St} {Q : Post} : run C c85_17 k s Q = run C (.seq c85_12 c85_16) k s Q := rfl
def c85_18 : ACode := .block 1 c85_17
theorem r85_18 {C : Cs} {k : List Fr} {s : St} {Q : Post} : run C c85_18 k s Q = run C (.block 1 c85_17) k s Q := rfl
def c85_19 : ACode := .ops [⟨some 58, .bin .add (.t 43) (.c (.int .i64 1)), none, []⟩,
  ⟨some 43, .mv (.t 58), none, []⟩] [1, 3, 4, 6, 14, 41, 42, 43]
theorem r85_19 {C : Cs} {k : List Fr} {s : St} {Q : Post} : run C c85_19 k s Q = run C (.ops [⟨some 58, .bin .add (.t 43) (.c (.int .i64 1)), none, []⟩,
  ⟨some 43, .mv (.t 58), none, []⟩] [1, 3, 4, 6, 14, 41, 42, 43]) k s Q := rfl
def c85_20 : ACode := .seq c85_18 c85_19
theorem r85_20 {C : Cs} {k : List Fr} {s : St} {Q : Post} : run C c85_20 k s Q = run C (.seq c85_18 c85_19) k s Q := rfl
def c85_21 : ACode := .seq c85_11 c85_20
theorem r85_21 {C : Cs} {k : List Fr} {s : St} {Q : Post} : run C c85_21 k s Q = run C (.seq c85_11 c85_20) k s Q := rfl
def c85_22 : ACode := .seq c85_10 c85_21
theorem r85_22 {C : Cs} {k : List Fr} {s : St} {Q : Post} : run C c85_22 k s Q = run C (.seq c85_10 c85_21) k s Q := rfl
def c85_23 : ACode := .keep [1, 3, 4, 6, 14, 41, 42, 43] [4, 6, 14] c85_22
theorem r85_23 {C : Cs} {k : List Fr} {s : St} {Q : Post} : run C c85_23 k s Q = run C (.keep [1, 3, 4, 6, 14, 41, 42, 43] [4, 6, 14] c85_22) k s Q := rfl
def c85_24 : ACode := .loop c85_23
theorem r85_24 {C : Cs} {k : List Fr} {s : St} {Q : Post} : run C c85_24 k s Q = run C (.loop c85_23) k s Q := rfl
def c85_25 : ACode := .block 0 c85_24
theorem r85_25 {C : Cs} {k : List Fr} {s : St} {Q : Post} : run C c85_25 k s Q = run C (.block 0 c85_24) k s Q := rfl
def c85_26 : ACode := .seq c85_9 c85_25
theorem r85_26 {C : Cs} {k : List Fr} {s : St} {Q : Post} : run C c85_26 k s Q = run C (.seq c85_9 c85_25) k s Q := rfl
def c85_27 : ACode := .ops [⟨some 17, .mv (.c (.bool true)), none, []⟩] [1, 3, 4, 14, 17]
theorem r85_27 {C : Cs} {k : List Fr} {s : St} {Q : Post} : run C c85_27 k s Q = run C (.ops [⟨some 17, .mv (.c (.bool true)), none, []⟩] [1, 3, 4, 14, 17]) k s Q := rfl
def c85_28 : ACode := .ops [⟨some 59, .mv (.t 17), none, []⟩] [1, 3, 4, 14, 59]
theorem r85_28 {C : Cs} {k : List Fr} {s : St} {Q : Post} : run C c85_28 k s Q = run C (.ops [⟨some 59, .mv (.t 17), none, []⟩] [1, 3, 4, 14, 59]) k s Q := rfl
def c85_29 : ACode := .cond (.t 59) .skip (.exit 2)
theorem r85_29 {C : Cs} {k : List Fr} {s : St} {Q : Post} : run C c85_29 k s Q = run C (.cond (.t 59) .skip (.exit 2)) k s Q := rfl
def c85_30 : ACode := .seq c85_28 c85_29
theorem r85_30 {C : Cs} {k : List Fr} {s : St} {Q : Post} : run C c85_30 k s Q = run C (.seq c85_28 c85_29) k s Q := rfl
def c85_31 : ACode := .ops [⟨some 17, .mv (.c (.bool false)), none, []⟩] [1, 3, 4, 14, 17]
theorem r85_31 {C : Cs} {k : List Fr} {s : St} {Q : Post} : run C c85_31 k s Q = run C (.ops [⟨some 17, .mv (.c (.bool false)), none, []⟩] [1, 3, 4, 14, 17]) k s Q := rfl
def c85_32 : ACode := .ops [⟨some 18, .nil0 18 1, none, []⟩] [1, 3, 4, 14, 17, 18]
theorem r85_32 {C : Cs} {k : List Fr} {s : St} {Q : Post} : run C c85_32 k s Q = run C (.ops [⟨some 18, .nil0 18 1, none, []⟩] [1, 3, 4, 14, 17, 18]) k s Q := rfl
def c85_33 : ACode := .ops [⟨some 19, .mv (.c (.int .i64 0)), none, []⟩] [1, 3, 4, 14, 17, 18, 19]
theorem r85_33 {C : Cs} {k : List Fr} {s : St} {Q : Post} : run C c85_33 k s Q = run C (.ops [⟨some 19, .mv (.c (.int .i64 0)), none, []⟩] [1, 3, 4, 14, 17, 18, 19]) k s Q := rfl
def c85_34 : ACode := .ops [⟨some 60, .mv (.t 19), none, []⟩,
  ⟨some 61, .mv (.t 14), none, []⟩,
  ⟨some 62, .len (.t 61), none, [14]⟩,
  ⟨some 63, .bin .lss (.t 60) (.t 62), none, []⟩] [1, 3, 4, 14, 17, 18, 19, 63]
theorem r85_34 {C : Cs} {k : List Fr} {s : St} {Q : Post} : run C c85_34 k s Q = run C (.ops [⟨some 60, .mv (.t 19), none, []⟩,
  ⟨some 61, .mv (.t 14), none, []⟩,
  ⟨some 62, .len (.t 61), none, [14]⟩,
  ⟨some 63, .bin .lss (.t 60) (.t 62), none, []⟩] [1, 3, 4, 14, 17, 18, 19, 63]) k s Q := rfl
def c85_35 : ACode := .cond (.t 63) .skip (.exit 4)
theorem r85_35 {C : Cs} {k : List Fr} {s : St} {Q : Post} : run C c85_35 k s Q = run C (.cond (.t 63) .skip (.exit 4)) k s Q := rfl
def c85_36 : ACode := .seq c85_34 c85_35
theorem r85_36 {C : Cs} {k : List Fr} {s : St} {Q : Post} : run C c85_36 k s Q = run C (.seq c85_34 c85_35) k s Q := rfl
def c85_37 : ACode := .ops [⟨some 66, .mv (.t 19), none, []⟩,
  ⟨some 67, .bin .add (.t 66) (.c (.int .i64 1)), none, []⟩,
  ⟨some 68, .mv (.t 14), none, []⟩,
  ⟨some 69, .len (.t 68), none, [14]⟩,
  ⟨some 70, .bin .lss (.t 67) (.t 69), none, []⟩] [1, 3, 4, 14, 17, 18, 19, 70]
theorem r85_37 {C : Cs} {k : List Fr} {s : St} {Q : Post} : run C c85_37 k s Q = run C (.ops [⟨some 66, .mv (.t 19), none, []⟩,
  ⟨some 67, .bin .add (.t 66) (.c (.int .i64 1)), none, []⟩,
  ⟨some 68, .mv (.t 14), none, []⟩,
  ⟨some 69, .len (.t 68), none, [14]⟩,
  ⟨some 70, .bin .lss (.t 67) (.t 69), none, []⟩] [1, 3, 4, 14, 17, 18, 19, 70]) k s Q := rfl
def c85_38 : ACode := .ops [⟨some 72, .mv (.t 14), none, []⟩,
  ⟨some 73, .mv (.t 19), none, []⟩,
  ⟨some 74, .ias (.t 72) (.t 73) 1, none, [14]⟩,
  ⟨some 75, .load 1 false (.t 74), none, [14]⟩,
  ⟨some 76, .mv (.t 14), none, []⟩,
  ⟨some 77, .mv (.t 19), none, []⟩,
  ⟨some 78, .bin .add (.t 77) (.c (.int .i64 1)), none, []⟩,
  ⟨some 79, .ias (.t 76) (.t 78) 1, none, [14]⟩,
  ⟨some 80, .load 1 false (.t 79), none, [14]⟩,
  ⟨some 81, .mv (.t 3), none, []⟩,
  ⟨some 82, .call 135 [.t 75, .t 80, .t 81], none, []⟩,
  ⟨some 71, .mv (.t 82), none, []⟩,
  ⟨some 83, .ext (.t 71) 0, none, []⟩,
  ⟨some 84, .ext (.t 71) 1, none, []⟩,
  ⟨some 20, .mv (.t 83), none, []⟩,
  ⟨some 21, .mv (.t 84), none, []⟩] [1, 3, 4, 14, 17, 18, 19, 20, 21]
theorem r85_38 {C : Cs} {k : List Fr} {s : St} {Q : Post} : run C c85_38 k s Q = run C (.ops [⟨some 72, .mv (.t 14), none, []⟩,
  ⟨some 73, .mv (.t 19), none, []⟩,
  ⟨some 74, .ias (.t 72) (.t 73) 1, none, [14]⟩,
  ⟨some 75, .load 1 false (.t 74), none, [14]⟩,
  ⟨some 76, .mv (.t 14), none, []⟩,
  ⟨some 77, .mv (.t 19), none, []⟩,
  ⟨some 78, .bin .add (.t 77) (.c (.int .i64 1)), none, []⟩,
  ⟨some 79, .ias (.t 76) (.t 78) 1, none, [14]⟩,
  ⟨some 80, .load 1 false (.t 79), none, [14]⟩,
  ⟨some 81, .mv (.t 3), none, []⟩,
  ⟨some 82, .call 135 [.t 75, .t 80, .t 81], none, []⟩,
  ⟨some 71, .mv (.t 82), none, []⟩,
  ⟨some 83, .ext (.t 71) 0, none, []⟩,
  ⟨some 84, .ext (.t 71) 1, none, []⟩,
  ⟨some 20, .mv (.t 83), none, []⟩,
  ⟨some 21, .mv (.t 84), none, []⟩] [1, 3, 4, 14, 17, 18, 19, 20, 21]) k s Q := rfl
def c85_39 : ACode := .ops [⟨some 85, .mv (.t 21), none, []⟩] [1, 3, 4, 14, 17, 18, 19, 20, 85]
theorem r85_39 {C : Cs} {k : List Fr} {s : St} {Q : Post} : run C c85_39 k s Q = run C (.ops [⟨some 85, .mv (.t 21), none, []⟩] [1, 3, 4, 14, 17, 18, 19, 20, 85]) k s Q := rfl
def c85_40 : ACode := .ops [⟨some 86, .mv (.t 18), none, []⟩,
  ⟨some 87, .mv (.t 20), none, []⟩,
  ⟨some 88, .mkrow 88 1 1 [.nils] [(0, 1, .t 87)], none, []⟩,
  ⟨some 89, .app 18 [18] (.t 86) (.t 88) 1, none, [18, 88]⟩,
  ⟨some 18, .mv (.t 89), none, []⟩] [1, 3, 4, 14, 18, 19]
theorem r85_40 {C : Cs} {k : List Fr} {s : St} {Q : Post} : run C c85_40 k s Q = run C (.ops [⟨some 86, .mv (.t 18), none, []⟩,
  ⟨some 87, .mv (.t 20), none, []⟩,
  ⟨some 88, .mkrow 88 1 1 [.nils] [(0, 1, .t 87)], none, []⟩,
  ⟨some 89, .app 18 [18] (.t 86) (.t 88) 1, none, [18, 88]⟩,
  ⟨some 18, .mv (.t 89), none, []⟩] [1, 3, 4, 14, 18, 19]) k s Q := rfl
def c85_41 : ACode := .ops [⟨some 90, .mv (.t 19), none, []⟩,
  ⟨some 91, .bin .add (.t 90) (.c (.int .i64 1)), none, []⟩,
  ⟨some 19, .mv (.t 91), none, []⟩] [1, 3, 4, 14, 18, 19]
theorem r85_41 {C : Cs} {k : List Fr} {s : St} {Q : Post} : run C c85_41 k s Q = run C (.ops [⟨some 90, .mv (.t 19), none, []⟩,
  ⟨some 91, .bin .add (.t 90) (.c (.int .i64 1)), none, []⟩,
  ⟨some 19, .mv (.t 91), none, []⟩] [1, 3, 4, 14, 18, 19]) k s Q := rfl
def c85_42 : ACode := .ops [⟨some 17, .mv (.c (.bool true)), none, []⟩] [1, 3, 4, 14, 17, 18, 19]
theorem r85_42 {C : Cs} {k : List Fr} {s : St} {Q : Post} : run C c85_42 k s Q = run C (.ops [⟨some 17, .mv (.c (.bool true)), none, []⟩] [1, 3, 4, 14, 17, 18, 19]) k s Q := rfl
def c85_43 : ACode := .seq c85_42 (.exit 5)
theorem r85_43 {C : Cs} {k : List Fr} {s : St} {Q : Post} : run C c85_43 k s Q = run C (.seq c85_42 (.exit 5)) k s Q := rfl
def c85_44 : ACode := .seq c85_41 c85_43
theorem r85_44 {C : Cs} {k : List Fr} {s : St} {Q : Post} : run C c85_44 k s Q = run C (.seq c85_41 c85_43) k s Q := rfl
def c85_45 : ACode := .seq c85_40 c85_44
theorem r85_45 {C : Cs} {k : List Fr} {s : St} {Q : Post} : run C c85_45 k s Q = run C (.seq c85_40 c85_44) k s Q := rfl
def c85_46 : ACode := .cond (.t 85) c85_45 .skip
theorem r85_46 {C : Cs} {k : List Fr} {s : St} {Q : Post} : run C c85_46 k s Q = run C (.cond (.t 85) c85_45 .skip) k s Q := rfl
def c85_47 : ACode := .seq c85_39 c85_46
theorem r85_47 {C : Cs} {k : List Fr} {s : St} {Q : Post} : run C c85_47 k s Q = run C (.seq c85_39 c85_46) k s Q := rfl
def c85_48 : ACode := .seq c85_38 c85_47
theorem r85_48 {C : Cs} {k : List Fr} {s : St} {Q : Post} : run C c85_48 k s Q = run C (.seq c85_38 c85_47) k s Q := rfl
def c85_49 : ACode := .cond (.t 70) c85_48 .skip
theorem r85_49 {C : Cs} {k : List Fr} {s : St} {Q : Post} : run C c85_49 k s Q = run C (.cond (.t 70) c85_48 .skip) k s Q := rfl
def c85_50 : ACode := .seq c85_37 c85_49
theorem r85_50 {C : Cs} {k : List Fr} {s : St} {Q : Post} : run C c85_50 k s Q = run C (.seq c85_37 c85_49) k s Q := rfl
def c85_51 : ACode := .ops [⟨some 92, .mv (.t 18), none, []⟩,
  ⟨some 93, .mv (.t 14), none, []⟩,
  ⟨some 94, .mv (.t 19), none, []⟩,
  ⟨some 95, .ias (.t 93) (.t 94) 1, none, [14]⟩,
  ⟨some 96, .load 1 false (.t 95), none, [14]⟩,
  ⟨some 97, .mkrow 97 1 1 [.nils] [(0, 1, .t 96)], none, []⟩,
  ⟨some 98, .app 18 [18] (.t 92) (.t 97) 1, none, [18, 97]⟩,
  ⟨some 18, .mv (.t 98), none, []⟩] [1, 3, 4, 14, 17, 18, 19]
theorem r85_51 {C : Cs} {k : List Fr} {s : St} {Q : Post} : run C c85_51 k s Q = run C (.ops [⟨some 92, .mv (.t 18), none, []⟩,
  ⟨some 93, .mv (.t 14), none, []⟩,
  ⟨some 94, .mv (.t 19), none, []⟩,
  ⟨some 95, .ias (.t 93) (.t 94) 1, none, [14]⟩,
  ⟨some 96, .load 1 false (.t 95), none, [14]⟩,
  ⟨some 97, .mkrow 97 1 1 [.nils] [(0, 1, .t 96)], none, []⟩,
  ⟨some 98, .app 18 [18] (.t 92) (.t 97) 1, none, [18, 97]⟩,
  ⟨some 18, .mv (.t 98), none, []⟩] [1, 3, 4, 14, 17, 18, 19]) k s Q := rfl
def c85_52 : ACode := .seq c85_50 c85_51
theorem r85_52 {C : Cs} {k : List Fr} {s : St} {Q : Post} : run C c85_52 k s Q = run C (.seq c85_50 c85_51) k s Q := rfl
def c85_53 : ACode := .block 5 c85_52
theorem r85_53 {C : Cs} {k : List Fr} {s : St} {Q : Post} : run C c85_53 k s Q = run C (.block 5 c85_52) k s Q := rfl
def c85_54 : ACode := .ops [⟨some 64, .mv (.t 19), none, []⟩,
  ⟨some 65, .bin .add (.t 64) (.c (.int .i64 1)), none, []⟩,
  ⟨some 19, .mv (.t 65), none, []⟩] [1, 3, 4, 14, 17, 18, 19]
theorem r85_54 {C : Cs} {k : List Fr} {s : St} {Q : Post} : run C c85_54 k s Q = run C (.ops [⟨some 64, .mv (.t 19), none, []⟩,
  ⟨some 65, .bin .add (.t 64) (.c (.int .i64 1)), none, []⟩,
  ⟨some 19, .mv (.t 65), none, []⟩] [1, 3, 4, 14, 17, 18, 19]) k s Q := rfl
def c85_55 : ACode := .seq c85_53 c85_54
theorem r85_55 {C : Cs} {k : List Fr} {s : St} {Q : Post} : run C c85_55 k s Q = run C (.seq c85_53 c85_54) k s Q := rfl
def c85_56 : ACode := .seq c85_36 c85_55
theorem r85_56 {C : Cs} {k : List Fr} {s : St} {Q : Post} : run C c85_56 k s Q = run C (.seq c85_36 c85_55) k s Q := rfl
def c85_57 : ACode := .keep [1, 3, 4, 14, 17, 18, 19] [4, 14, 18] c85_56
theorem r85_57 {C : Cs} {k : List Fr} {s : St} {Q : Post} : run C c85_57 k s Q = run C (.keep [1, 3, 4, 14, 17, 18, 19] [4, 14, 18] c85_56) k s Q := rfl
def c85_58 : ACode := .loop c85_57
theorem r85_58 {C : Cs} {k : List Fr} {s : St} {Q : Post} : run C c85_58 k s Q = run C (.loop c85_57) k s Q := rfl
def c85_59 : ACode := .block 4 c85_58
theorem r85_59 {C : Cs} {k : List Fr} {s : St} {Q : Post} : run C c85_59 k s Q = run C (.block 4 c85_58) k s Q := rfl
def c85_60 : ACode := .seq c85_33 c85_59
theorem r85_60 {C : Cs} {k : List Fr} {s : St} {Q : Post} : run C c85_60 k s Q = run C (.seq c85_33 c85_59) k s Q := rfl
def c85_61 : ACode := .ops [⟨some 99, .mv (.t 18), none, []⟩,
  ⟨some 14, .frz (.t 99), none, [18]⟩] [1, 3, 4, 14, 17]
theorem r85_61 {C : Cs} {k : List Fr} {s : St} {Q : Post} : run C c85_61 k s Q = run C (.ops [⟨some 99, .mv (.t 18), none, []⟩,
  ⟨some 14, .frz (.t 99), none, [18]⟩] [1, 3, 4, 14, 17]) k s Q := rfl
def c85_62 : ACode := .seq c85_60 c85_61
theorem r85_62 {C : Cs} {k : List Fr} {s : St} {Q : Post} : run C c85_62 k s Q = run C (.seq c85_60 c85_61) k s Q := rfl
def c85_63 : ACode := .seq c85_32 c85_62
theorem r85_63 {C : Cs} {k : List Fr} {s : St} {Q : Post} : run C c85_63 k s Q = run C (.seq c85_32 c85_62) k s Q := rfl
def c85_64 : ACode := .seq c85_31 c85_63
theorem r85_64 {C : Cs} {k : List Fr} {s : St} {Q : Post} : run C c85_64 k s Q = run C (.seq c85_31 c85_63) k s Q := rfl
def c85_65 : ACode := .block 3 c85_64
theorem r85_65 {C : Cs} {k : List Fr} {s : St} {Q : Post} : run C c85_65 k s Q = run C (.block 3 c85_64) k s Q := rfl
def c85_66 : ACode := .seq c85_30 c85_65
theorem r85_66 {C : Cs} {k : List Fr} {s : St} {Q : Post} : run C c85_66 k s Q = run C (.seq c85_30 c85_65) k s Q := rfl
def c85_67 : ACode := .keep [1, 3, 4, 14, 17] [4, 14] c85_66
theorem r85_67 {C : Cs} {k : List Fr} {s : St} {Q : Post} : run C c85_67 k s Q = run C (.keep [1, 3, 4, 14, 17] [4, 14] c85_66) k s Q := rfl
def c85_68 : ACode := .loop c85_67
theorem r85_68 {C : Cs} {k : List Fr} {s : St} {Q : Post} : run C c85_68 k s Q = run C (.loop c85_67) k s Q := rfl
def c85_69 : ACode := .block 2 c85_68
theorem r85_69 {C : Cs} {k : List Fr} {s : St} {Q : Post} : run C c85_69 k s Q = run C (.block 2 c85_68) k s Q := rfl
def c85_70 : ACode := .seq c85_27 c85_69
theorem r85_70 {C : Cs} {k : List Fr} {s : St} {Q : Post} : run C c85_70 k s Q = run C (.seq c85_27 c85_69) k s Q := rfl
def c85_71 : ACode := .ops [⟨some 100, .mv (.t 1), none, []⟩,
  ⟨some 101, .fad (.t 4) 2, none, [4]⟩,
  ⟨some 102, .iad (.t 101) (.t 100) 1 3, none, [4]⟩,
  ⟨some 103, .load 1 false (.t 102), none, [4]⟩,
  ⟨some 104, .mv (.t 1), none, []⟩,
  ⟨some 105, .fad (.t 4) 2, none, [4]⟩,
  ⟨some 106, .iad (.t 105) (.t 104) 1 3, none, [4]⟩,
  ⟨some 107, .load 1 false (.t 106), none, [4]⟩,
  ⟨some 22, .mv (.t 103), none, []⟩,
  ⟨some 23, .mv (.t 107), none, []⟩] [14, 22, 23]
theorem r85_71 {C : Cs} {k : List Fr} {s : St} {Q : Post} : run C c85_71 k s Q = run C (.ops [⟨some 100, .mv (.t 1), none, []⟩,
  ⟨some 101, .fad (.t 4) 2, none, [4]⟩,
  ⟨some 102, .iad (.t 101) (.t 100) 1 3, none, [4]⟩,
  ⟨some 103, .load 1 false (.t 102), none, [4]⟩,
  ⟨some 104, .mv (.t 1), none, []⟩,
  ⟨some 105, .fad (.t 4) 2, none, [4]⟩,
  ⟨some 106, .iad (.t 105) (.t 104) 1 3, none, [4]⟩,
  ⟨some 107, .load 1 false (.t 106), none, [4]⟩,
  ⟨some 22, .mv (.t 103), none, []⟩,
  ⟨some 23, .mv (.t 107), none, []⟩] [14, 22, 23]) k s Q := rfl
def c85_72 : ACode := .ops [⟨some 108, .mv (.t 14), none, []⟩,
  ⟨some 109, .len (.t 108), none, [14]⟩,
  ⟨some 110, .mv (.c (.int .i64 0)), none, []⟩] [14, 22, 23, 108, 109, 110]
theorem r85_72 {C : Cs} {k : List Fr} {s : St} {Q : Post} : run C c85_72 k s Q = run C (.ops [⟨some 108, .mv (.t 14), none, []⟩,
  ⟨some 109, .len (.t 108), none, [14]⟩,
  ⟨some 110, .mv (.c (.int .i64 0)), none, []⟩] [14, 22, 23, 108, 109, 110]) k s Q := rfl
def c85_73 : ACode := .ops [⟨some 111, .bin .lss (.t 110) (.t 109), none, []⟩] [14, 22, 23, 108, 109, 110, 111]
theorem r85_73 {C : Cs} {k : List Fr} {s : St} {Q : Post} : run C c85_73 k s Q = run C (.ops [⟨some 111, .bin .lss (.t 110) (.t 109), none, []⟩] [14, 22, 23, 108, 109, 110, 111]) k s Q := rfl
def c85_74 : ACode := .cond (.t 111) .skip (.exit 6)
theorem r85_74 {C : Cs} {k : List Fr} {s : St} {Q : Post} : run C c85_74 k s Q = run C (.cond (.t 111) .skip (.exit 6)) k s Q := rfl
def c85_75 : ACode := .ops [⟨some 112, .ias (.t 108) (.t 110) 1, none, [14]⟩,
  ⟨some 113, .load 1 false (.t 112), none, [14]⟩,
  ⟨some 25, .mv (.t 113), none, []⟩] [14, 22, 23, 25, 108, 109, 110]
theorem r85_75 {C : Cs} {k : List Fr} {s : St} {Q : Post} : run C c85_75 k s Q = run C (.ops [⟨some 112, .ias (.t 108) (.t 110) 1, none, [14]⟩,
  ⟨some 113, .load 1 false (.t 112), none, [14]⟩,
  ⟨some 25, .mv (.t 113), none, []⟩] [14, 22, 23, 25, 108, 109, 110]) k s Q := rfl
def c85_76 : ACode := .ops [⟨some 114, .mv (.t 25), none, []⟩,
  ⟨some 115, .ias (.t 114) (.c (.int .i64 0)) 11, none, []⟩,
  ⟨some 116, .fad (.t 115) 10, none, []⟩,
  ⟨some 117, .load 1 false (.t 116), none, []⟩,
  ⟨some 118, .mv (.t 25), none, []⟩,
  ⟨some 119, .ias (.t 118) (.c (.int .i64 0)) 11, none, []⟩,
  ⟨some 120, .fad (.t 119) 10, none, []⟩,
  ⟨some 121, .load 1 false (.t 120), none, []⟩,
  ⟨some 26, .mv (.t 117), none, []⟩,
  ⟨some 27, .mv (.t 121), none, []⟩] [14, 22, 23, 25, 26, 27, 108, 109, 110]
theorem r85_76 {C : Cs} {k : List Fr} {s : St} {Q : Post} : run C c85_76 k s Q = run C (.ops [⟨some 114, .mv (.t 25), none, []⟩,
  ⟨some 115, .ias (.t 114) (.c (.int .i64 0)) 11, none, []⟩,
  ⟨some 116, .fad (.t 115) 10, none, []⟩,
  ⟨some 117, .load 1 false (.t 116), none, []⟩,
  ⟨some 118, .mv (.t 25), none, []⟩,
  ⟨some 119, .ias (.t 118) (.c (.int .i64 0)) 11, none, []⟩,
  ⟨some 120, .fad (.t 119) 10, none, []⟩,
  ⟨some 121, .load 1 false (.t 120), none, []⟩,
  ⟨some 26, .mv (.t 117), none, []⟩,
  ⟨some 27, .mv (.t 121), none, []⟩] [14, 22, 23, 25, 26, 27, 108, 109, 110]) k s Q := rfl
def c85_77 : ACode := .ops [⟨some 122, .mv (.t 25), none, []⟩,
  ⟨some 123, .len (.t 122), none, []⟩,
  ⟨some 124, .mv (.c (.int .i64 0)), none, []⟩] [14, 22, 23, 26, 27, 108, 109, 110, 122, 123, 124]
theorem r85_77 {C : Cs} {k : List Fr} {s : St} {Q : Post} : run C c85_77 k s Q = run C (.ops [⟨some 122, .mv (.t 25), none, []⟩,
  ⟨some 123, .len (.t 122), none, []⟩,
  ⟨some 124, .mv (.c (.int .i64 0)), none, []⟩] [14, 22, 23, 26, 27, 108, 109, 110, 122, 123, 124]) k s Q := rfl
def c85_78 : ACode := .ops [⟨some 125, .bin .lss (.t 124) (.t 123), none, []⟩] [14, 22, 23, 26, 27, 108, 109, 110, 122, 123, 124, 125]
theorem r85_78 {C : Cs} {k : List Fr} {s : St} {Q : Post} : run C c85_78 k s Q = run C (.ops [⟨some 125, .bin .lss (.t 124) (.t 123), none, []⟩] [14, 22, 23, 26, 27, 108, 109, 110, 122, 123, 124, 125]) k s Q := rfl
def c85_79 : ACode := .cond (.t 125) .skip (.exit 8)
theorem r85_79 {C : Cs} {k : List Fr} {s : St} {Q : Post} : run C c85_79 k s Q = run C (.cond (.t 125) .skip (.exit 8)) k s Q := rfl
def c85_80 : ACode := .ops [⟨some 126, .ias (.t 122) (.t 124) 11, none, []⟩,
  ⟨some 127, .load 11 true (.t 126), none, []⟩,
  ⟨some 29, .alloc [.int .i64 0, .int .i64 0, .int .i64 0, .int .i64 0, .int .i64 0, .int .i64 0, .int .i64 0, .int .i64 0, .int .i64 0, .int .i64 0, .int .i64 0], none, []⟩,
  ⟨none, .store (.t 29) 11 (.t 127), none, [29]⟩] [14, 22, 23, 26, 27, 29, 108, 109, 110, 122, 123, 124]
theorem r85_80 {C : Cs} {k : List Fr} {s : St} {Q : Post} : run C c85_80 k s Q = run C (.ops [⟨some 126, .ias (.t 122) (.t 124) 11, none, []⟩,
  ⟨some 127, .load 11 true (.t 126), none, []⟩,
  ⟨some 29, .alloc [.int .i64 0, .int .i64 0, .int .i64 0, .int .i64 0, .int .i64 0, .int .i64 0, .int .i64 0, .int .i64 0, .int .i64 0, .int .i64 0, .int .i64 0], none, []⟩,
  ⟨none, .store (.t 29) 11 (.t 127), none, [29]⟩] [14, 22, 23, 26, 27, 29, 108, 109, 110, 122, 123, 124]) k s Q := rfl
def c85_81 : ACode := .ops [⟨some 128, .mv (.t 26), none, []⟩,
  ⟨some 129, .fad (.t 29) 10, none, [29]⟩,
  ⟨some 130, .load 1 false (.t 129), none, [29]⟩,
  ⟨some 131, .mnmx false (.t 128) (.t 130), none, []⟩,
  ⟨some 132, .mv (.t 27), none, []⟩,
  ⟨some 133, .fad (.t 29) 10, none, [29]⟩,
  ⟨some 134, .load 1 false (.t 133), none, [29]⟩,
  ⟨some 135, .mnmx true (.t 132) (.t 134), none, []⟩,
  ⟨some 26, .mv (.t 131), none, []⟩,
  ⟨some 27, .mv (.t 135), none, []⟩] [14, 22, 23, 26, 27, 108, 109, 110, 122, 123, 124]
theorem r85_81 {C : Cs} {k : List Fr} {s : St} {Q : Post} : run C c85_81 k s Q = run C (.ops [⟨some 128, .mv (.t 26), none, []⟩,
  ⟨some 129, .fad (.t 29) 10, none, [29]⟩,
  ⟨some 130, .load 1 false (.t 129), none, [29]⟩,
  ⟨some 131, .mnmx false (.t 128) (.t 130), none, []⟩,
  ⟨some 132, .mv (.t 27), none, []⟩,
  ⟨some 133, .fad (.t 29) 10, none, [29]⟩,
  ⟨some 134, .load 1 false (.t 133), none, [29]⟩,
  ⟨some 135, .mnmx true (.t 132) (.t 134), none, []⟩,
  ⟨some 26, .mv (.t 131), none, []⟩,
  ⟨some 27, .mv (.t 135), none, []⟩] [14, 22, 23, 26, 27, 108, 109, 110, 122, 123, 124]) k s Q := rfl
def c85_82 : ACode := .seq c85_80 c85_81
theorem r85_82 {C : Cs} {k : List Fr} {s : St} {Q : Post} : run C c85_82 k s Q = run C (.seq c85_80 c85_81) k s Q := rfl
def c85_83 : ACode := .block 9 c85_82
theorem r85_83 {C : Cs} {k : List Fr} {s : St} {Q : Post} : run C c85_83 k s Q = run C (.block 9 c85_82) k s Q := rfl
def c85_84 : ACode := .ops [⟨some 136, .bin .add (.t 124) (.c (.int .i64 1)), none, []⟩,
  ⟨some 124, .mv (.t 136), none, []⟩] [14, 22, 23, 26, 27, 108, 109, 110, 122, 123, 124]
theorem r85_84 {C : Cs} {k : List Fr} {s : St} {Q : Post} : run C c85_84 k s Q = run C (.ops [⟨some 136, .bin .add (.t 124) (.c (.int .i64 1)), none, []⟩,
  ⟨some 124, .mv (.t 136), none, []⟩] [14, 22, 23, 26, 27, 108, 109, 110, 122, 123, 124]) k s Q := rfl
def c85_85 : ACode := .seq c85_83 c85_84
theorem r85_85 {C : Cs} {k : List Fr} {s : St} {Q : Post} : run C c85_85 k s Q = run C (.seq c85_83 c85_84) k s Q := rfl
def c85_86 : ACode := .seq c85_79 c85_85
theorem r85_86 {C : Cs} {k : List Fr} {s : St} {Q : Post} : run C c85_86 k s Q = run C (.seq c85_79 c85_85) k s Q := rfl
def c85_87 : ACode := .seq c85_78 c85_86
theorem r85_87 {C : Cs} {k : List Fr} {s : St} {Q : Post} : run C c85_87 k s Q = run C (.seq c85_78 c85_86) k s Q := rfl
def c85_88 : ACode := .keep [14, 22, 23, 26, 27, 108, 109, 110, 122, 123, 124] [14] c85_87
theorem r85_88 {C : Cs} {k : List Fr} {s : St} {Q : Post} : run C c85_88 k s Q = run C (.keep [14, 22, 23, 26, 27, 108, 109, 110, 122, 123, 124] [14] c85_87) k s Q := rfl
def c85_89 : ACode := .loop c85_88
theorem r85_89 {C : Cs} {k : List Fr} {s : St} {Q : Post} : run C c85_89 k s Q = run C (.loop c85_88) k s Q := rfl
def c85_90 : ACode := .block 8 c85_89
theorem r85_90 {C : Cs} {k : List Fr} {s : St} {Q : Post} : run C c85_90 k s Q = run C (.block 8 c85_89) k s Q := rfl
def c85_91 : ACode := .seq c85_77 c85_90
theorem r85_91 {C : Cs} {k : List Fr} {s : St} {Q : Post} : run C c85_91 k s Q = run C (.seq c85_77 c85_90) k s Q := rfl
def c85_92 : ACode := .ops [⟨some 137, .mv (.t 22), none, []⟩,
  ⟨some 138, .mv (.t 26), none, []⟩,
  ⟨some 139, .bin .add (.t 137) (.t 138), none, []⟩,
  ⟨some 140, .mv (.t 23), none, []⟩,
  ⟨some 141, .mv (.t 27), none, []⟩,
  ⟨some 142, .bin .add (.t 140) (.t 141), none, []⟩,
  ⟨some 22, .mv (.t 139), none, []⟩,
  ⟨some 23, .mv (.t 142), none, []⟩] [14, 22, 23, 108, 109, 110]
theorem r85_92 {C : Cs} {k : List Fr} {s : St} {Q : Post} : run C c85_92 k s Q = run C (.ops [⟨some 137, .mv (.t 22), none, []⟩,
  ⟨some 138, .mv (.t 26), none, []⟩,
  ⟨some 139, .bin .add (.t 137) (.t 138), none, []⟩,
  ⟨some 140, .mv (.t 23), none, []⟩,
  ⟨some 141, .mv (.t 27), none, []⟩,
  ⟨some 142, .bin .add (.t 140) (.t 141), none, []⟩,
  ⟨some 22, .mv (.t 139), none, []⟩,
  ⟨some 23, .mv (.t 142), none, []⟩] [14, 22, 23, 108, 109, 110]) k s Q := rfl
def c85_93 : ACode := .seq c85_91 c85_92
theorem r85_93 {C : Cs} {k : List Fr} {s : St} {Q : Post} : run C c85_93 k s Q = run C (.seq c85_91 c85_92) k s Q := rfl
def c85_94 : ACode := .seq c85_76 c85_93
theorem r85_94 {C : Cs} {k : List Fr} {s : St} {Q : Post} : run C c85_94 k s Q = run C (.seq c85_76 c85_93) k s Q := rfl
def c85_95 : ACode := .seq c85_75 c85_94
theorem r85_95 {C : Cs} {k : List Fr} {s : St} {Q : Post} : run C c85_95 k s Q = run C (.seq c85_75 c85_94) k s Q := rfl
def c85_96 : ACode := .block 7 c85_95
theorem r85_96 {C : Cs} {k : List Fr} {s : St} {Q : Post} : run C c85_96 k s Q = run C (.block 7 c85_95) k s Q := rfl
def c85_97 : ACode := .ops [⟨some 143, .bin .add (.t 110) (.c (.int .i64 1)), none, []⟩,
  ⟨some 110, .mv (.t 143), none, []⟩] [14, 22, 23, 108, 109, 110]
theorem r85_97 {C : Cs} {k : List Fr} {s : St} {Q : Post} : run C c85_97 k s Q = run C (.ops [⟨some 143, .bin .add (.t 110) (.c (.int .i64 1)), none, []⟩,
  ⟨some 110, .mv (.t 143), none, []⟩] [14, 22, 23, 108, 109, 110]) k s Q := rfl
def c85_98 : ACode := .seq c85_96 c85_97
theorem r85_98 {C : Cs} {k : List Fr} {s : St} {Q : Post} : run C c85_98 k s Q = run C (.seq c85_96 c85_97) k s Q := rfl
def c85_99 : ACode := .seq c85_74 c85_98
theorem r85_99 {C : Cs} {k : List Fr} {s : St} {Q : Post} : run C c85_99 k s Q = run C (.seq c85_74 c85_98) k s Q := rfl
def c85_100 : ACode := .seq c85_73 c85_99
theorem r85_100 {C : Cs} {k : List Fr} {s : St} {Q : Post} : run C c85_100 k s Q = run C (.seq c85_73 c85_99) k s Q := rfl
def c85_101 : ACode := .keep [14, 22, 23, 108, 109, 110] [14] c85_100
theorem r85_101 {C : Cs} {k : List Fr} {s : St} {Q : Post} : run C c85_101 k s Q = run C (.keep [14, 22, 23, 108, 109, 110] [14] c85_100) k s Q := rfl
def c85_102 : ACode := .loop c85_101
theorem r85_102 {C : Cs} {k : List Fr} {s : St} {Q : Post} : run C c85_102 k s Q = run C (.loop c85_101) k s Q := rfl
def c85_103 : ACode := .block 6 c85_102
theorem r85_103 {C : Cs} {k : List Fr} {s : St} {Q : Post} : run C c85_103 k s Q = run C (.block 6 c85_102) k s Q := rfl
def c85_104 : ACode := .seq c85_72 c85_103
theorem r85_104 {C : Cs} {k : List Fr} {s : St} {Q : Post} : run C c85_104 k s Q = run C (.seq c85_72 c85_103) k s Q := rfl
def c85_105 : ACode := .ops [⟨some 144, .mv (.t 22), none, []⟩,
  ⟨some 145, .mv (.t 23), none, []⟩,
  ⟨some 146, .mv (.t 14), none, []⟩,
  ⟨some 147, .len (.t 146), none, [14]⟩,
  ⟨some 148, .bin .leq (.t 147) (.c (.int .i64 1)), none, []⟩,
  ⟨some 8, .mv (.t 144), none, []⟩,
  ⟨some 9, .mv (.t 145), none, []⟩,
  ⟨some 10, .mv (.t 148), none, []⟩] [8, 9, 10]
theorem r85_105 {C : Cs} {k : List Fr} {s : St} {Q : Post} : run C c85_105 k s Q = run C (.ops [⟨some 144, .mv (.t 22), none, []⟩,
  ⟨some 145, .mv (.t 23), none, []⟩,
  ⟨some 146, .mv (.t 14), none, []⟩,
  ⟨some 147, .len (.t 146), none, [14]⟩,
  ⟨some 148, .bin .leq (.t 147) (.c (.int .i64 1)), none, []⟩,
  ⟨some 8, .mv (.t 144), none, []⟩,
  ⟨some 9, .mv (.t 145), none, []⟩,
  ⟨some 10, .mv (.t 148), none, []⟩] [8, 9, 10]) k s Q := rfl
def c85_106 : ACode := .seq c85_105 .ret
theorem r85_106 {C : Cs} {k : List Fr} {s : St} {Q : Post} : run C c85_106 k s Q = run C (.seq c85_105 .ret) k s Q := rfl
def c85_107 : ACode := .seq c85_104 c85_106
theorem r85_107 {C : Cs} {k : List Fr} {s : St} {Q : Post} : run C c85_107 k s Q = run C (.seq c85_104 c85_106) k s Q := rfl
def c85_108 : ACode := .seq c85_71 c85_107
theorem r85_108 {C : Cs} {k : List Fr} {s : St} {Q : Post} : run C c85_108 k s Q = run C (.seq c85_71 c85_107) k s Q := rfl
def c85_109 : ACode := .seq c85_70 c85_108
theorem r85_109 {C : Cs} {k : List Fr} {s : St} {Q : Post} : run C c85_109 k s Q = run C (.seq c85_70 c85_108) k s Q := rfl
def c85_110 : ACode := .seq c85_26 c85_109
theorem r85_110 {C : Cs} {k : List Fr} {s : St} {Q : Post} : run C c85_110 k s Q = run C (.seq c85_26 c85_109) k s Q := rfl
def c85_111 : ACode := .seq c85_8 c85_110
theorem r85_111 {C : Cs} {k : List Fr} {s : St} {Q : Post} : run C c85_111 k s Q = run C (.seq c85_8 c85_110) k s Q := rfl
def c85_112 : ACode := .seq c85_7 c85_111
theorem r85_112 {C : Cs} {k : List Fr} {s : St} {Q : Post} : run C c85_112 k s Q = run C (.seq c85_7 c85_111) k s Q := rfl
def c85_113 : ACode := .seq c85_0 c85_112
theorem r85_113 {C : Cs} {k : List Fr} {s : St} {Q : Post} : run C c85_113 k s Q = run C (.seq c85_0 c85_112) k s Q := rfl
def a85 : AFun := ⟨4, 149, c85_113, [.t 8, .t 9, .t 10]⟩
attribute [simp] r85_0 r85_1 r85_2 r85_3 r85_4 r85_5 r85_6 r85_7 r85_8 r85_9 r85_10 r85_11 r85_12 r85_13 r85_14 r85_15 r85_16 r85_17 r85_18 r85_19 r85_20 r85_21 r85_22 r85_23 r85_24 r85_25 r85_26 r85_27 r85_28 r85_29 r85_30 r85_31 r85_32 r85_33 r85_34 r85_35 r85_36 r85_37 r85_38 r85_39 r85_40 r85_41 r85_42 r85_43 r85_44 r85_45 r85_46 r85_47 r85_48 r85_49 r85_50 r85_51 r85_52 r85_53 r85_54 r85_55 r85_56 r85_57 r85_58 r85_59 r85_60 r85_61 r85_62 r85_63 r85_64 r85_65 r85_66 r85_67 r85_68 r85_69 r85_70 r85_71 r85_72 r85_73 r85_74 r85_75 r85_76 r85_77 r85_78 r85_79 r85_80 r85_81 r85_82 r85_83 r85_84 r85_85 r85_86 r85_87 r85_88 r85_89 r85_90 r85_91 r85_92 r85_93 r85_94 r85_95 r85_96 r85_97 r85_98 r85_99 r85_100 r85_101 r85_102 r85_103 r85_104 r85_105 r85_106 r85_107 r85_108 r85_109 r85_110 r85_111 r85_112 r85_113
theorem m85 : mFun Try.prog Try.f85 a85 = true := by decide +kernel


set_option maxRecDepth 8000 in
theorem runs_rMeetBox (a b c : Box) (h : some (meetB a b) = some c) : Runs (tbl [(157, sp2 fun (a b : Span) => some (meetS a b))]) a167 [Arg.enc a, Arg.enc b] (Arg.enc c) := by
  cases h
  refine ⟨rfl, fun g => run_def ?_⟩
  unfold a167
  simp -implicitDefEqProofs [run_round, meetB]
theorem c_rMeetBox : Contract Try.prog 167 (sp2 fun (a b : Box) => some (meetB a b)) :=
  contract_of_runs mixed (tbl_cons c_rMeet tbl_nil) Try.func167 m167 (sp2_runs runs_rMeetBox)

set_option maxHeartbeats 4000000 in
theorem runs_rcMeet (a b : List Piece) (most : Int) (c : List Piece × Bool) (h : MeetC a b most = some c) : Runs (tbl [(167, sp2 fun (a b : Box) => some (meetB a b)), (49, sp1 fun (b : Box) => some b.empty)]) a135 [Arg.enc a, Arg.enc b, Arg.enc most] (Arg.enc c) := by
  obtain ⟨⟨ha, hb, m0, m1⟩, rfl⟩ := part_some h
  clear h
  refine ⟨rfl, fun g => run_def ?_⟩
  unfold a135
  have la := ha.2
  have lb := hb.2
  have na : a.length ≤ maxN := by unfold maxN; omega
  have nb : b.length ≤ maxN := by unfold maxN; omega
  have p61 : (2 : Int) ^ 61 = 2305843009213693952 := by decide
  simp -implicitDefEqProofs [na, nb]
  refine run_while (c := c135_38) (fun n s => ∃ (i : Nat) (g : Nat → Nat), i + n = a.length ∧ ((prod (a.take i) b).length : Int) ≤ most ∧ s = ⟨[(1, .lst b.length (encL b)), (2, .int .i64 most), (8, .own 8 (g 8) 0 (prod (a.take i) b).length), (14, .lst a.length (encL a)), (15, .int .i64 a.length), (16, .int .i64 i)], [(8, ⟨encL (prod (a.take i) b), false, 11⟩)], g⟩) a.length ⟨0, bump 8 g, by omega, by simp [prod]; omega, by simp [prod, encL_nil]⟩ ?_
  rintro n s ⟨i, g, hi, hlen, rfl⟩
  by_cases h1 : i < a.length
  case neg =>
    have hil : i = a.length := by omega
    subst hil
    rw [List.take_length] at *
    have nn : (prod a b).length ≤ maxN := by unfold maxN; omega
    have c1 : (prod a b).length * 11 ≤ (encL (prod a b)).length := by rw [encL_length]; simp
    have htk : List.take ((prod a b).length * 11) (encL (prod a b)) = encL (prod a b) := take_rows _ _ (by simp)
    simp -implicitDefEqProofs [h1, meetP, hlen, nn, c1, htk]
  have w1 : IntKind.i64.wrap ((i : Int) + 1) = (i : Int) + 1 := wrap64 (by omega) (by omega)
  have hrow := rd_pc a i h1
  simp -implicitDefEqProofs [h1, hrow, nb]
  refine run_while (c := c135_28) (fun n s => ∃ (j : Nat) (g : Nat → Nat), j + n = b.length ∧ ((sofar a b i j a[i]).length : Int) ≤ most ∧ s = ⟨[(1, .lst b.length (encL b)), (2, .int .i64 most), (8, .own 8 (g 8) 0 (sofar a b i j a[i]).length), (10, .ptr 10 (g 10) 0), (14, .lst a.length (encL a)), (15, .int .i64 a.length), (16, .int .i64 i), (20, .lst b.length (encL b)), (21, .int .i64 b.length), (22, .int .i64 j)], [(8, ⟨encL (sofar a b i j a[i]), false, 11⟩), (10, ⟨Row.enc a[i], false, 0⟩)], g⟩) b.length ⟨0, bump 10 g, by omega, by simp [sofar, row]; omega, by simp [sofar, row]⟩ ?_
  rintro n2 s ⟨j, g, hj, hlen, rfl⟩
  by_cases h2 : j < b.length
  case neg =>
    have hjl : j = b.length := by omega
    subst hjl
    rw [sofar_end h1] at *
    simp -implicitDefEqProofs [h2, w1]
    exact ⟨n - 1, by omega, i + 1, by omega, hlen, ⟨rfl, by omega⟩, rfl⟩
  have w2 : IntKind.i64.wrap ((j : Int) + 1) = (j : Int) + 1 := wrap64 (by omega) (by omega)
  have hrow2 := rd_pc b j h2
  have v1 := ha.1 a[i] (List.getElem_mem h1)
  have v2 := hb.1 b[j] (List.getElem_mem h2)
  have w3 : IntKind.i64.wrap (a[i].value + b[j].value) = a[i].value + b[j].value := wrap64 (by omega) (by omega)
  have hs := sofar_row (a := a) (i := i) (x := a[i]) h2
  cases he : (meetB a[i].box b[j].box).empty
  case true =>
    rw [row_none (by simp [meetF, he]), List.append_nil] at hs
    simp -implicitDefEqProofs [h2, hrow2, he, w2]
    exact ⟨n2 - 1, by omega, j + 1, by omega, by rw [hs]; exact hlen, ⟨by rw [hs], by omega⟩, by rw [hs]⟩
  case false =>
    rw [row_some (z := ⟨meetB a[i].box b[j].box, a[i].value + b[j].value⟩) (by simp [meetF, he])] at hs
    have hs2 : (sofar a b i (j + 1) a[i]).length = (sofar a b i j a[i]).length + 1 := by rw [hs]; simp
    by_cases h3 : most ≤ (sofar a b i j a[i]).length
    case pos =>
      obtain ⟨r, hr⟩ := sofar_pre (a := a) (b := b) (i := i) (j := j + 1) h1
      have hno : ¬ ((prod a b).length : Int) ≤ most := by
        rw [hr, List.length_append]
        omega
      simp -implicitDefEqProofs [h2, hrow2, he, w2, h3, meetP, hno, encL_nil]
    case neg =>
      have nn : (sofar a b i j a[i]).length ≤ 1099511627775 := by omega
      have nn2 : (sofar a b i j a[i]).length ≤ maxN := by unfold maxN; omega
      have c1 : (sofar a b i j a[i]).length * 11 ≤ (encL (sofar a b i j a[i])).length := by rw [encL_length]; simp
      have htk : List.take ((sofar a b i j a[i]).length * 11) (encL (sofar a b i j a[i])) = encL (sofar a b i j a[i]) := take_rows _ _ (by simp)
      have hE : encL (sofar a b i (j + 1) a[i]) = encL (sofar a b i j a[i]) ++ Row.enc (⟨meetB a[i].box b[j].box, a[i].value + b[j].value⟩ : Piece) := by rw [hs, encL_append, encL_cons, encL_nil, List.append_nil]
      simp -implicitDefEqProofs [h2, hrow2, he, w2, w3, h3, nn, nn2, c1, htk]
      refine ⟨n2 - 1, by omega, j + 1, by omega, by omega, ⟨by omega, by omega⟩, ?_⟩
      rw [hE]
      rfl
theorem c_rcMeet : Contract Try.prog 135 (sp3 MeetC) :=
  contract_of_runs mixed (tbl_cons c_rMeetBox (tbl_cons c_rEmpty tbl_nil)) Try.func135 m135 (sp3_runs runs_rcMeet)

/-- the loop over groups: what is left of a level, what is done of it -/
theorem level_drop {most : Int} {g1 g2 : List Piece} {gs : List (List Piece)} : levelP most (g1 :: g2 :: gs) = if ((prod g1 g2).length : Int) ≤ most then (prod g1 g2 :: (levelP most gs).1, true) else (g1 :: (levelP most (g2 :: gs)).1, (levelP most (g2 :: gs)).2) := by rw [levelP]
theorem climb_same {most : Int} {f : Nat} {gs : List (List Piece)} (h : (levelP most gs).2 = false) : climbP most f gs = (gs, [(gs.length : Int)]) := by
  cases f with
  | zero => rfl
  | succ f => rw [climbP, if_neg (by simp [h])]
theorem levels_fit {most : Int} {cur : List (List Piece)} {k : Nat} (m1 : most ≤ 1073741824) (hs : smallG k cur) : smallG (k + 1) (levelP most cur).1 := level_small m1 cur hs

set_option maxHeartbeats 16000000 in
theorem runs_rRange (m : Model) (c : Int) (b : Box) (most : Int) (r : Tri Int Int Bool) (h : RangeC m c b most = some r) : Runs (tbl [(47, sp3 BoundS), (113, sp2 RLeaves), (135, sp3 MeetC)]) a85 [Arg.enc m, Arg.enc c, Arg.enc b, Arg.enc most] (Arg.enc r) := by
  obtain ⟨⟨hr, hb, m0, m1⟩, rfl⟩ := part_some h
  refine ⟨rfl, fun g => run_def ?_⟩
  unfold a85
  have hS : BoundS m c b = some (boundM m c b) := part_of ⟨hr, hb⟩ _
  unfold boundM at hS
  unfold rangeP
  by_cases hbad : c < 0 ∨ m.classes ≤ c ∨ b.empty = true
  case pos =>
    rw [if_pos hbad] at hS ⊢
    simp -implicitDefEqProofs [hS]
  rw [if_neg hbad] at hS ⊢
  have he : b.empty = false := by simpa using fun h => hbad (.inr (.inr h))
  have hle := hr.trees
  have b3 : m.trees.length ≤ maxN := by unfold maxN; omega
  simp -implicitDefEqProofs [hS, b3]
  -- the groups at the start
  refine run_while (c := c85_22) (fun n s => ∃ (i : Nat) (g : Nat → Nat), i + n = m.trees.length ∧ s = ⟨[(1, .int .i64 c), (3, .int .i64 most), (4, .ptr 4 (g 4) 0), (6, .ptr 6 (g 6) 0), (14, .own 14 (g 14) 0 (startTo m c b i).length), (41, .lst m.trees.length (encL m.trees)), (42, .int .i64 m.trees.length), (43, .int .i64 i)],
    [(4, ⟨Row.enc m, false, 0⟩), (6, ⟨Row.enc b, false, 0⟩), (14, ⟨encL (startTo m c b i), false, 1⟩)], g⟩) m.trees.length ⟨0, bump 14 (bump 6 (bump 4 g)), by omega, by simp [startTo, encL_nil]⟩ ?_
  rintro n s ⟨i, g, hi, rfl⟩
  have hl := startTo_len m c b i
  by_cases h1 : i < m.trees.length
  case pos =>
    have w1 : IntKind.i64.wrap ((i : Int) + 1) = (i : Int) + 1 := wrap64 (by omega) (by omega)
    have hrow := rd_tree m.trees i h1
    have hrt := hr.rt (List.getElem_mem h1)
    have hL : RLeaves m.trees[i].nodes b = some (pieces m.trees[i].nodes b) := part_of ⟨⟨_, hrt⟩, hb⟩ _
    have hpl : (pieces m.trees[i].nodes b).length ≤ maxN := by
      have h1 : (pieces m.trees[i].nodes b).length ≤ m.trees[i].nodes.length := piecesTo_len m.trees[i].nodes b m.trees[i].nodes.length
      have := hrt.le
      unfold maxN; omega
    by_cases hc : m.trees[i].cls = c
    case neg =>
      have hst : startTo m c b (i + 1) = startTo m c b i := by
        unfold startTo
        rw [List.take_succ_eq_append_getElem h1, List.filter_append]
        simp [hc]
      simp -implicitDefEqProofs [h1, hrow, w1, hc]
      exact ⟨n - 1, by omega, i + 1, by omega, ⟨by rw [hst], by omega⟩, by rw [hst]⟩
    case pos =>
      have hst : startTo m c b (i + 1) = startTo m c b i ++ [pieces m.trees[i].nodes b] := by
        unfold startTo
        rw [List.take_succ_eq_append_getElem h1, List.filter_append]
        simp [hc]
      have nn : (startTo m c b i).length ≤ 1099511627775 := by omega
      have nn2 : (startTo m c b i).length ≤ maxN := by unfold maxN; omega
      have hE : encL (startTo m c b (i + 1)) = encL (startTo m c b i) ++ [.lst (pieces m.trees[i].nodes b).length (encL (pieces m.trees[i].nodes b))] := by rw [hst, encL_append, encL_cons, encL_nil, List.append_nil]; rfl
      have h2 : (startTo m c b (i + 1)).length = (startTo m c b i).length + 1 := by rw [hst]; simp
      simp -implicitDefEqProofs [h1, hrow, w1, hc, hL, hpl, nn, nn2, lenG, takeG]
      exact ⟨n - 1, by omega, i + 1, by omega, ⟨by omega, by omega⟩, by rw [hE]⟩
  have hil : i = m.trees.length := by omega
  subst hil
  have hst : startTo m c b m.trees.length = startG m c b := by unfold startTo startG; rw [List.take_length]
  rw [hst]
  rw [hst] at hl
  have hsl := startG_len hr c b
  have hcs := climbP_small m1 (startG m c b).length 31 (startG m c b) (startG_small hr c b) (by omega)
  have hcs1 : smallG 40 (climb most (startG m c b)).1 := hcs.1.up (by omega)
  have hcs2 : (climb most (startG m c b)).1.length ≤ 8 := by have : (climb most (startG m c b)).1.length ≤ (startG m c b).length := hcs.2; omega
  clear hcs
  have hsm := startG_small hr c b
  have hcov : ∃ p t, Covers p t (startG m c b) := by
    obtain ⟨p, t, hp⟩ := empty_false.1 he
    exact ⟨p, t, startG_covers hr c hp⟩
  obtain ⟨p, t, hcov⟩ := hcov
  have hcov2 : Covers p t (climb most (startG m c b)).1 := Covers.climb _ _ hcov
  have hcl : (climbP most (startG m c b).length (startG m c b)).1 = (climb most (startG m c b)).1 := rfl
  generalize hz : (climb most (startG m c b)).1 = z at *
  generalize startG m c b = gs0 at *
  have c0 : 0 ≤ c := by omega
  have c3 : c < 3 := by have := hr.classes; omega
  simp -implicitDefEqProofs [h1]
  -- level by level
  refine run_while (c := c85_66) (fun n s => ∃ (cur : List (List Piece)) (V : AV) (ch : Bool) (f : Nat) (g : Nat → Nat), n = (if ch then cur.length + 1 else 0) ∧ cur.length ≤ 8 ∧ cur.length ≤ f ∧ smallG (48 - cur.length) cur ∧ (if ch then (climbP most f cur).1 = z else cur = z) ∧ ((ch = true ∧ cur = gs0 ∧ V = .own 14 (g 14) 0 cur.length) ∨ V = .lst cur.length (encL cur)) ∧
    s = ⟨[(1, .int .i64 c), (3, .int .i64 most), (4, .ptr 4 (g 4) 0), (14, V), (17, .bool ch)], [(4, ⟨Row.enc m, false, 0⟩), (14, ⟨encL gs0, false, 1⟩)], g⟩) (gs0.length + 1) ⟨gs0, _, true, gs0.length, g, by simp, hsl, by omega, hsm.up (by omega), by simpa using hcl, .inl ⟨rfl, rfl, rfl⟩, rfl⟩ ?_
  rintro n s ⟨cur, V, ch, f, g, hn, hc8, hf, hcsm, hcz, hV, rfl⟩
  have n1 : cur.length ≤ maxN := by unfold maxN; omega
  cases ch
  case true =>
    simp only [if_true] at hn hcz
    have hlen := level_len (most := most) cur
    have hstep := level_small (k := 48 - cur.length) m1 cur hcsm
    have hcsm60 : smallG 60 cur := hcsm.up (by omega)
    simp -implicitDefEqProofs []
    -- a level: rest is what is left of it
    refine run_while (c := c85_56) (fun n s => ∃ (pre rest done : List (List Piece)) (made : Bool) (g' : Nat → Nat), n = rest.length ∧ cur = pre ++ rest ∧ done.length + rest.length ≤ 8 ∧ done ++ (levelP most rest).1 = (levelP most cur).1 ∧ (made || (levelP most rest).2) = (levelP most cur).2 ∧ g' 14 = g 14 ∧
      s = ⟨[(1, .int .i64 c), (3, .int .i64 most), (4, .ptr 4 (g' 4) 0), (14, V), (17, .bool made), (18, .own 18 (g' 18) 0 done.length), (19, .int .i64 pre.length)], [(4, ⟨Row.enc m, false, 0⟩), (14, ⟨encL gs0, false, 1⟩), (18, ⟨encL done, false, 1⟩)], g'⟩) cur.length
      ⟨[], cur, [], false, bump 18 g, rfl, rfl, by simpa using hc8, by simp, by simp, by simp, by simp [encL_nil]⟩ ?_
    rintro n2 s ⟨pre, rest, done, made, g', hn2, hcur, hd8, hd, hm, hg14, rfl⟩
    have nn : done.length ≤ maxN := by unfold maxN; omega
    have nn2 : done.length ≤ 1099511627775 := by omega
    have hcl2 : cur.length = pre.length + rest.length := by rw [hcur]; simp
    have w1 : IntKind.i64.wrap ((pre.length : Int) + 1) = (pre.length : Int) + 1 := wrap64 (by omega) (by omega)
    have w2 : IntKind.i64.wrap ((pre.length : Int) + 1 + 1) = (pre.length : Int) + 1 + 1 := wrap64 (by omega) (by omega)
    match rest, hn2, hcur, hd8, hd, hm, hcl2 with
    | [], hn2, hcur, hd8, hd, hm, hcl2 =>
      have e1 : ¬ ((pre.length : Int) < cur.length) := by simp at hcl2; omega
      have e1' : ¬ (pre.length < cur.length) := by omega
      simp [levelP] at hd hm
      subst hd hm
      have hne : ∀ V', V' = AV.lst (levelP most cur).1.length (encL (levelP most cur).1) → V' = V' := fun _ _ => rfl
      cases hmd : (levelP most cur).2
      case false =>
        have hsame := hlen.2.2.2 hmd
        have hcz2 : cur = z := by rw [climb_same hmd] at hcz; exact hcz
        rcases hV with ⟨_, rfl, rfl⟩ | rfl
        · simp -implicitDefEqProofs [e1, e1', n1, nn, hg14, lenG, takeG]
          exact ⟨0, by omega, rfl, cur, hc8, ⟨f, hf⟩, hcsm, hcz2, by rw [hsame], by rw [hsame]⟩
        · simp -implicitDefEqProofs [e1, e1', n1, nn, hg14, lenG, takeG]
          exact ⟨0, by omega, rfl, cur, hc8, ⟨f, hf⟩, hcsm, hcz2, by rw [hsame], by rw [hsame]⟩
      case true =>
        have hlt := hlen.2.2.1 hmd
        obtain ⟨f, rfl⟩ : ∃ f', f = f' + 1 := ⟨f - 1, by omega⟩
        have hcz2 : (climbP most f (levelP most cur).1).1 = z := by rw [climbP, if_pos hmd] at hcz; exact hcz
        rcases hV with ⟨_, rfl, rfl⟩ | rfl
        · simp -implicitDefEqProofs [e1, e1', n1, nn, hg14, lenG, takeG]
          exact ⟨(levelP most cur).1.length + 1, by omega, (levelP most cur).1, rfl, by omega, _, f, by omega, hstep.up (by omega), hcz2, .inr rfl, rfl⟩
        · simp -implicitDefEqProofs [e1, e1', n1, nn, hg14, lenG, takeG]
          exact ⟨(levelP most cur).1.length + 1, by omega, (levelP most cur).1, rfl, by omega, _, f, by omega, hstep.up (by omega), hcz2, .inr rfl, rfl⟩
    | [g1], hn2, hcur, hd8, hd, hm, hcl2 =>
      have e0 : cur.length = pre.length + 1 := by simpa using hcl2
      have e1 : (pre.length : Int) < cur.length := by omega
      have e1' : pre.length < cur.length := by omega
      have e2 : ¬ ((pre.length : Int) + 1 < cur.length) := by omega
      have e2' : ¬ (pre.length + 1 < cur.length) := by omega
      have hrow : rd (encL cur) pre.length 1 false = some (.lst g1.length (encL g1)) := by
        rw [rdG cur pre.length e1']
        simp [hcur]
      simp [levelP] at hd hm
      have hE : encL (done ++ [g1]) = encL done ++ [AV.lst g1.length (encL g1)] := by simp [encL_append, encL_cons, encL_nil]
      have hdl : done.length + 1 ≤ 8 := by simpa using hd8
      have hp1 : (pre ++ [g1]).length = pre.length + 1 := by simp
      cases made
      all_goals
        rcases hV with ⟨_, hVc, rfl⟩ | rfl
        · subst hVc
          simp -implicitDefEqProofs [e1, e1', e2, e2', n1, nn, nn2, w1, w2, hrow, hg14, lenG, takeG]
          exact ⟨0, by omega, pre ++ [g1], [], rfl, by simp [hcur], done ++ [g1], by simpa using hdl, by simpa [levelP] using hd, by simpa [levelP] using hm, _, by simp [hg14], ⟨by simp, ⟨by simp, by simp⟩, by simp⟩, by rw [hE], rfl⟩
        · simp -implicitDefEqProofs [e1, e1', e2, e2', n1, nn, nn2, w1, w2, hrow, hg14, lenG, takeG]
          exact ⟨0, by omega, pre ++ [g1], [], rfl, by simp [hcur], done ++ [g1], by simpa using hdl, by simpa [levelP] using hd, by simpa [levelP] using hm, _, by simp [hg14], ⟨by simp, ⟨by simp, by simp⟩, by simp⟩, by rw [hE], rfl⟩
    | g1 :: g2 :: rest, hn2, hcur, hd8, hd, hm, hcl2 =>
      have e0 : cur.length = pre.length + (rest.length + 1 + 1) := by simpa using hcl2
      have e1 : (pre.length : Int) < cur.length := by omega
      have e1' : pre.length < cur.length := by omega
      have e2 : (pre.length : Int) + 1 < cur.length := by omega
      have e2' : pre.length + 1 < cur.length := by omega
      have e3 : (0 : Int) ≤ (pre.length : Int) + 1 := by omega
      have e4 : ((pre.length : Int) + 1).toNat = pre.length + 1 := by omega
      have hrow : rd (encL cur) pre.length 1 false = some (.lst g1.length (encL g1)) := by
        rw [rdG cur pre.length e1']
        simp [hcur]
      have hrow2 : rd (encL cur) (pre.length + 1) 1 false = some (.lst g2.length (encL g2)) := by
        rw [rdG cur (pre.length + 1) e2']
        simp [hcur]
      have hdl : done.length + (rest.length + 1 + 1) ≤ 8 := by simpa using hd8
      have hn2' : n2 = rest.length + 1 + 1 := by simpa using hn2
      have i1 : g1 ∈ cur := by rw [hcur]; simp
      have i2 : g2 ∈ cur := by rw [hcur]; simp
      have hM : MeetC g1 g2 most = some (meetP g1 g2 most) := part_of ⟨hcsm60.okG (by omega) i1, hcsm60.okG (by omega) i2, m0, m1⟩ _
      unfold meetP at hM
      rw [levelP] at hd hm
      by_cases hc : ((prod g1 g2).length : Int) ≤ most
      case pos =>
        rw [if_pos hc] at hd hm hM
        have nP : (prod g1 g2).length ≤ maxN := by unfold maxN; omega
        have hE : encL (done ++ [prod g1 g2]) = encL done ++ [AV.lst (prod g1 g2).length (encL (prod g1 g2))] := by simp [encL_append, encL_cons, encL_nil]
        rcases hV with ⟨_, hVc, rfl⟩ | rfl
        · subst hVc
          simp -implicitDefEqProofs [e1, e1', e2, e2', e3, e4, n1, nn, nn2, w1, w2, hrow, hrow2, hM, nP, hg14, lenG, takeG]
          exact ⟨rest.length, by omega, pre ++ [g1, g2], rest, rfl, by simp [hcur], done ++ [prod g1 g2], by simp; omega, by simpa using hd, by simpa using hm, _, by simp [hg14], ⟨by simp, ⟨by simp, by simp⟩, by simp; omega⟩, by rw [hE], rfl⟩
        · simp -implicitDefEqProofs [e1, e1', e2, e2', e3, e4, n1, nn, nn2, w1, w2, hrow, hrow2, hM, nP, hg14, lenG, takeG]
          exact ⟨rest.length, by omega, pre ++ [g1, g2], rest, rfl, by simp [hcur], done ++ [prod g1 g2], by simp; omega, by simpa using hd, by simpa using hm, _, by simp [hg14], ⟨by simp, ⟨by simp, by simp⟩, by simp; omega⟩, by rw [hE], rfl⟩
      case neg =>
        rw [if_neg hc] at hd hm hM
        have hE : encL (done ++ [g1]) = encL done ++ [AV.lst g1.length (encL g1)] := by simp [encL_append, encL_cons, encL_nil]
        cases made
        all_goals
          rcases hV with ⟨_, hVc, rfl⟩ | rfl
          · subst hVc
            simp -implicitDefEqProofs [e1, e1', e2, e2', e3, e4, n1, nn, nn2, w1, w2, hrow, hrow2, hM, hg14, lenG, takeG]
            exact ⟨rest.length + 1, by omega, pre ++ [g1], g2 :: rest, rfl, by simp [hcur], done ++ [g1], by simp; omega, by simpa using hd, by simpa using hm, _, by simp [hg14], ⟨by simp, ⟨by simp, by simp⟩, by simp⟩, by rw [hE], rfl⟩
          · simp -implicitDefEqProofs [e1, e1', e2, e2', e3, e4, n1, nn, nn2, w1, w2, hrow, hrow2, hM, hg14, lenG, takeG]
            exact ⟨rest.length + 1, by omega, pre ++ [g1], g2 :: rest, rfl, by simp [hcur], done ++ [g1], by simp; omega, by simpa using hd, by simpa using hm, _, by simp [hg14], ⟨by simp, ⟨by simp, by simp⟩, by simp⟩, by rw [hE], rfl⟩
  case false =>
    simp only [Bool.false_eq_true, if_false] at hn hcz
    subst hcz
    have hV' : V = .lst cur.length (encL cur) := by
      rcases hV with ⟨h, _⟩ | h
      · cases h
      · exact h
    subst hV'
    have hb2 := of_fits (Bias.get_fits hr c)
    simp -implicitDefEqProofs [n1, c0, c3]
    refine run_while (c := c85_100) (fun n s => ∃ (i : Nat) (g' : Nat → Nat), i + n = cur.length ∧ s = ⟨[(14, .lst cur.length (encL cur)), (22, .int .i64 ((cur.take i).foldl rangeF (m.bias.get c, m.bias.get c)).1), (23, .int .i64 ((cur.take i).foldl rangeF (m.bias.get c, m.bias.get c)).2), (108, .lst cur.length (encL cur)), (109, .int .i64 cur.length), (110, .int .i64 i)], [(14, ⟨encL gs0, false, 1⟩)], g'⟩) cur.length ⟨0, g, by omega, by simp⟩ ?_
    rintro n s ⟨i, g', hi, rfl⟩
    have w1 : IntKind.i64.wrap ((i : Int) + 1) = (i : Int) + 1 := wrap64 (by omega) (by omega)
    by_cases h2 : i < cur.length
    case neg =>
      have hil : i = cur.length := by omega
      subst hil
      simp -implicitDefEqProofs [h2, n1]
    have hrow := rdG cur i h2
    have hgi := hcs1 cur[i] (List.getElem_mem h2)
    have hrg := range_le (gs := cur.take (i + 1)) (fun x hx => hcs1 x (List.mem_of_mem_take hx)) (m.bias.get c, m.bias.get c)
    have hl2 : (cur.take (i + 1)).length ≤ 8 := by simp; omega
    have hs : (cur.take (i + 1)).foldl rangeF (m.bias.get c, m.bias.get c) = rangeF ((cur.take i).foldl rangeF (m.bias.get c, m.bias.get c)) cur[i] := by
      rw [List.take_succ_eq_append_getElem h2, List.foldl_append]
      rfl
    have hs1 : ((cur.take (i + 1)).foldl rangeF (m.bias.get c, m.bias.get c)).1 = ((cur.take i).foldl rangeF (m.bias.get c, m.bias.get c)).1 + (ends cur[i]).a := by rw [hs, rangeF]
    have hs2 : ((cur.take (i + 1)).foldl rangeF (m.bias.get c, m.bias.get c)).2 = ((cur.take i).foldl rangeF (m.bias.get c, m.bias.get c)).2 + (ends cur[i]).b := by rw [hs, rangeF]
    have w2 : IntKind.i64.wrap (((cur.take i).foldl rangeF (m.bias.get c, m.bias.get c)).1 + (ends cur[i]).a) = ((cur.take (i + 1)).foldl rangeF (m.bias.get c, m.bias.get c)).1 := by rw [← hs1]; exact wrap64 (by omega) (by omega)
    have w3 : IntKind.i64.wrap (((cur.take i).foldl rangeF (m.bias.get c, m.bias.get c)).2 + (ends cur[i]).b) = ((cur.take (i + 1)).foldl rangeF (m.bias.get c, m.bias.get c)).2 := by rw [← hs2]; exact wrap64 (by omega) (by omega)
    have hne : cur[i] ≠ [] := by
      obtain ⟨x, hx, _⟩ := hcov2 cur[i] (List.getElem_mem h2)
      intro e
      rw [e] at hx
      simp at hx
    clear hs1 hs2 hs hrg
    generalize hu1 : ((cur.take (i + 1)).foldl rangeF (m.bias.get c, m.bias.get c)).1 = u1 at *
    generalize hu2 : ((cur.take (i + 1)).foldl rangeF (m.bias.get c, m.bias.get c)).2 = u2 at *
    generalize cur[i] = ps at *
    have b4 : ps.length ≤ maxN := by have := hgi.2; unfold maxN; omega
    obtain ⟨x, xs, rfl⟩ : ∃ x xs, ps = x :: xs := by
      cases ps with
      | nil => exact absurd rfl hne
      | cons x xs => exact ⟨x, xs, rfl⟩
    have r0 : rd (encL (x :: xs)) 10 1 false = some (.int .i64 x.value) := rd_piece10 (x :: xs) 0 (by simp)
    have hpos : 0 < (x :: xs).length := by simp
    have hee : ends (x :: xs) = ⟨((x :: xs).foldl endF (x.value, x.value)).1, ((x :: xs).foldl endF (x.value, x.value)).2, true⟩ := rfl
    rw [hee] at w2 w3
    generalize x :: xs = ps at *
    simp only at w2 w3
    simp -implicitDefEqProofs [h2, hrow, b4, hpos, r0]
    refine run_while (c := c85_87) (fun n s => ∃ (j : Nat) (g' : Nat → Nat), j + n = ps.length ∧ s = ⟨[(14, .lst cur.length (encL cur)), (22, .int .i64 ((cur.take i).foldl rangeF (m.bias.get c, m.bias.get c)).1), (23, .int .i64 ((cur.take i).foldl rangeF (m.bias.get c, m.bias.get c)).2),
      (26, .int .i64 ((ps.take j).foldl endF (x.value, x.value)).1), (27, .int .i64 ((ps.take j).foldl endF (x.value, x.value)).2), (108, .lst cur.length (encL cur)), (109, .int .i64 cur.length), (110, .int .i64 i), (122, .lst ps.length (encL ps)), (123, .int .i64 ps.length), (124, .int .i64 j)], [(14, ⟨encL gs0, false, 1⟩)], g'⟩) ps.length ⟨0, g', by omega, by simp⟩ ?_
    rintro n3 s ⟨j, g2, hj, rfl⟩
    have w4 : IntKind.i64.wrap ((j : Int) + 1) = (j : Int) + 1 := wrap64 (by have := hgi.2; omega) (by have := hgi.2; omega)
    by_cases h3 : j < ps.length
    case pos =>
      have hrow3 := rd_pc ps j h3
      have hs3 : (ps.take (j + 1)).foldl endF (x.value, x.value) = endF ((ps.take j).foldl endF (x.value, x.value)) ps[j] := by
        rw [List.take_succ_eq_append_getElem h3, List.foldl_append]
        rfl
      simp -implicitDefEqProofs [h3, hrow3, w4]
      exact ⟨n3 - 1, by omega, j + 1, by omega, by rw [hs3]; rfl, by rw [hs3]; rfl, by omega⟩
    case neg =>
      have hjl : j = ps.length := by omega
      subst hjl
      rw [List.take_length]
      simp -implicitDefEqProofs [h3, w1, w2, w3]
      exact ⟨n - 1, by omega, i + 1, by omega, hu1.symm, hu2.symm, by omega⟩
theorem c_rRange : Contract Try.prog 85 (sp4 RangeC) :=
  contract_of_runs mixed (tbl_cons c_rSum (tbl_cons c_rLeaves (tbl_cons c_rcMeet tbl_nil))) Try.func85 m85 (sp4_runs runs_rRange)
end Go.Co
