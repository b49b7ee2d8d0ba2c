/- The law CoupleBoth: what its text computes (written by mkLCB.py). -/
import Derived.Test.YtbjnmbbhlaghaaaCoQ
import Derived.Test.YtbjnmbbhlaghaaaCoK
import Derived.Test.YtbjnmbbhlaghaaaCoU
import Derived.Test.YtbjnmbbhlaghaaaCoSh
namespace Go.Co
open Go.Am Go.Proofs
set_option linter.unusedSimpArgs false
set_option linter.unusedVariables false

/- copse/copselaw17.CoupleBoth -/
def c11_0 : ACode := .ops [⟨some 3, .box (.t 0) 4, none, []⟩,
  ⟨some 4, .box (.t 1) 8, none, []⟩,
  ⟨some 6, .mv (.c (.bool false)), none, []⟩] [2, 3, 4]
theorem r11_0 {C : Cs} {k : List Fr} {s : St} {Q : Post} : run C c11_0 k s Q = run C (.ops [⟨some 3, .box (.t 0) 4, none, []⟩,
  ⟨some 4, .box (.t 1) 8, none, []⟩,
  ⟨some 6, .mv (.c (.bool false)), none, []⟩] [2, 3, 4]) k s Q := rfl
def c11_1 : ACode := .ops [⟨some 25, .load 4 true (.t 3), none, [3]⟩,
  ⟨some 26, .call 45 [.t 25], none, []⟩,
  ⟨some 7, .alloc [.int .i64 0, .int .i64 0, .int .i64 0, .int .i64 0, .int .i64 0, .nils], none, []⟩,
  ⟨none, .store (.t 7) 6 (.t 26), none, [7]⟩] [2, 4, 7]
theorem r11_1 {C : Cs} {k : List Fr} {s : St} {Q : Post} : run C c11_1 k s Q = run C (.ops [⟨some 25, .load 4 true (.t 3), none, [3]⟩,
  ⟨some 26, .call 45 [.t 25], none, []⟩,
  ⟨some 7, .alloc [.int .i64 0, .int .i64 0, .int .i64 0, .int .i64 0, .int .i64 0, .nils], none, []⟩,
  ⟨none, .store (.t 7) 6 (.t 26), none, [7]⟩] [2, 4, 7]) k s Q := rfl
def c11_2 : ACode := .ops [⟨some 27, .load 8 true (.t 4), none, [4]⟩,
  ⟨some 28, .load 6 true (.t 7), none, [7]⟩,
  ⟨some 29, .call 59 [.t 27, .t 28], none, []⟩,
  ⟨some 8, .alloc [.int .i64 0, .int .i64 0, .int .i64 0, .int .i64 0, .int .i64 0, .int .i64 0, .int .i64 0, .int .i64 0, .int .i64 0, .int .i64 0, .int .i64 0, .int .i64 0, .int .i64 0, .int .i64 0, .int .i64 0, .bool false, .int .i64 0], none, []⟩,
  ⟨none, .store (.t 8) 17 (.t 29), none, [8]⟩] [2, 4, 7, 8]
theorem r11_2 {C : Cs} {k : List Fr} {s : St} {Q : Post} : run C c11_2 k s Q = run C (.ops [⟨some 27, .load 8 true (.t 4), none, [4]⟩,
  ⟨some 28, .load 6 true (.t 7), none, [7]⟩,
  ⟨some 29, .call 59 [.t 27, .t 28], none, []⟩,
  ⟨some 8, .alloc [.int .i64 0, .int .i64 0, .int .i64 0, .int .i64 0, .int .i64 0, .int .i64 0, .int .i64 0, .int .i64 0, .int .i64 0, .int .i64 0, .int .i64 0, .int .i64 0, .int .i64 0, .int .i64 0, .int .i64 0, .bool false, .int .i64 0], none, []⟩,
  ⟨none, .store (.t 8) 17 (.t 29), none, [8]⟩] [2, 4, 7, 8]) k s Q := rfl
def c11_3 : ACode := .ops [⟨some 30, .fad (.t 4) 4, none, [4]⟩,
  ⟨some 31, .load 1 false (.t 30), none, [4]⟩,
  ⟨some 32, .fad (.t 7) 0, none, [7]⟩,
  ⟨some 33, .load 1 false (.t 32), none, [7]⟩,
  ⟨some 34, .bin .sub (.t 33) (.c (.int .i64 1)), none, []⟩,
  ⟨some 35, .call 63 [.t 31, .c (.int .i64 0), .t 34], none, []⟩,
  ⟨some 36, .fad (.t 8) 0, none, [8]⟩,
  ⟨none, .store (.t 36) 1 (.c (.int .i64 3)), none, [8]⟩,
  ⟨some 37, .fad (.t 8) 12, none, [8]⟩,
  ⟨none, .store (.t 37) 1 (.c (.int .i64 0)), none, [8]⟩,
  ⟨some 38, .fad (.t 8) 13, none, [8]⟩,
  ⟨none, .store (.t 38) 1 (.c (.int .i64 0)), none, [8]⟩,
  ⟨some 39, .fad (.t 8) 14, none, [8]⟩,
  ⟨none, .store (.t 39) 1 (.t 35), none, [8]⟩] [2, 7, 8]
theorem r11_3 {C : Cs} {k : List Fr} {s : St} {Q : Post} : run C c11_3 k s Q = run C (.ops [⟨some 30, .fad (.t 4) 4, none, [4]⟩,
  ⟨some 31, .load 1 false (.t 30), none, [4]⟩,
  ⟨some 32, .fad (.t 7) 0, none, [7]⟩,
  ⟨some 33, .load 1 false (.t 32), none, [7]⟩,
  ⟨some 34, .bin .sub (.t 33) (.c (.int .i64 1)), none, []⟩,
  ⟨some 35, .call 63 [.t 31, .c (.int .i64 0), .t 34], none, []⟩,
  ⟨some 36, .fad (.t 8) 0, none, [8]⟩,
  ⟨none, .store (.t 36) 1 (.c (.int .i64 3)), none, [8]⟩,
  ⟨some 37, .fad (.t 8) 12, none, [8]⟩,
  ⟨none, .store (.t 37) 1 (.c (.int .i64 0)), none, [8]⟩,
  ⟨some 38, .fad (.t 8) 13, none, [8]⟩,
  ⟨none, .store (.t 38) 1 (.c (.int .i64 0)), none, [8]⟩,
  ⟨some 39, .fad (.t 8) 14, none, [8]⟩,
  ⟨none, .store (.t 39) 1 (.t 35), none, [8]⟩] [2, 7, 8]) k s Q := rfl
def c11_4 : ACode := .ops [⟨some 40, .load 17 true (.t 8), none, [8]⟩,
  ⟨some 41, .call 58 [.t 40], none, []⟩,
  ⟨some 9, .alloc [.int .i64 0, .int .i64 0, .int .i64 0, .int .i64 0, .int .i64 0, .int .i64 0, .int .i64 0, .int .i64 0, .int .i64 0, .int .i64 0], none, []⟩,
  ⟨none, .store (.t 9) 10 (.t 41), none, [9]⟩] [2, 7, 8, 9]
theorem r11_4 {C : Cs} {k : List Fr} {s : St} {Q : Post} : run C c11_4 k s Q = run C (.ops [⟨some 40, .load 17 true (.t 8), none, [8]⟩,
  ⟨some 41, .call 58 [.t 40], none, []⟩,
  ⟨some 9, .alloc [.int .i64 0, .int .i64 0, .int .i64 0, .int .i64 0, .int .i64 0, .int .i64 0, .int .i64 0, .int .i64 0, .int .i64 0, .int .i64 0], none, []⟩,
  ⟨none, .store (.t 9) 10 (.t 41), none, [9]⟩] [2, 7, 8, 9]) k s Q := rfl
def c11_5 : ACode := .ops [⟨some 43, .load 6 true (.t 7), none, [7]⟩,
  ⟨some 44, .load 17 true (.t 8), none, [8]⟩,
  ⟨some 45, .load 10 true (.t 9), none, [9]⟩,
  ⟨some 46, .call 52 [.t 43, .t 44, .t 45], none, []⟩,
  ⟨some 42, .mv (.t 46), none, []⟩,
  ⟨some 47, .ext (.t 42) 0, none, []⟩,
  ⟨some 48, .ext (.t 42) 1, none, []⟩,
  ⟨some 49, .ext (.t 42) 2, none, []⟩,
  ⟨some 10, .mv (.t 47), none, []⟩,
  ⟨some 11, .mv (.t 48), none, []⟩,
  ⟨some 12, .mv (.t 49), none, []⟩] [2, 7, 8, 9, 10, 11, 12]
theorem r11_5 {C : Cs} {k : List Fr} {s : St} {Q : Post} : run C c11_5 k s Q = run C (.ops [⟨some 43, .load 6 true (.t 7), none, [7]⟩,
  ⟨some 44, .load 17 true (.t 8), none, [8]⟩,
  ⟨some 45, .load 10 true (.t 9), none, [9]⟩,
  ⟨some 46, .call 52 [.t 43, .t 44, .t 45], none, []⟩,
  ⟨some 42, .mv (.t 46), none, []⟩,
  ⟨some 47, .ext (.t 42) 0, none, []⟩,
  ⟨some 48, .ext (.t 42) 1, none, []⟩,
  ⟨some 49, .ext (.t 42) 2, none, []⟩,
  ⟨some 10, .mv (.t 47), none, []⟩,
  ⟨some 11, .mv (.t 48), none, []⟩,
  ⟨some 12, .mv (.t 49), none, []⟩] [2, 7, 8, 9, 10, 11, 12]) k s Q := rfl
def c11_6 : ACode := .ops [⟨some 51, .load 6 true (.t 7), none, [7]⟩,
  ⟨some 52, .fad (.t 8) 1, none, [8]⟩,
  ⟨some 53, .load 1 false (.t 52), none, [8]⟩,
  ⟨some 54, .load 17 true (.t 8), none, [8]⟩,
  ⟨some 55, .load 10 true (.t 9), none, [9]⟩,
  ⟨some 56, .call 55 [.t 54, .t 55], none, []⟩,
  ⟨some 57, .call 47 [.t 51, .t 53, .t 56], none, []⟩,
  ⟨some 50, .mv (.t 57), none, []⟩,
  ⟨some 58, .ext (.t 50) 0, none, []⟩,
  ⟨some 59, .ext (.t 50) 1, none, []⟩,
  ⟨some 60, .ext (.t 50) 2, none, []⟩,
  ⟨some 13, .mv (.t 58), none, []⟩,
  ⟨some 14, .mv (.t 59), none, []⟩,
  ⟨some 15, .mv (.t 60), none, []⟩] [2, 7, 8, 9, 10, 11, 12, 13, 14, 15]
theorem r11_6 {C : Cs} {k : List Fr} {s : St} {Q : Post} : run C c11_6 k s Q = run C (.ops [⟨some 51, .load 6 true (.t 7), none, [7]⟩,
  ⟨some 52, .fad (.t 8) 1, none, [8]⟩,
  ⟨some 53, .load 1 false (.t 52), none, [8]⟩,
  ⟨some 54, .load 17 true (.t 8), none, [8]⟩,
  ⟨some 55, .load 10 true (.t 9), none, [9]⟩,
  ⟨some 56, .call 55 [.t 54, .t 55], none, []⟩,
  ⟨some 57, .call 47 [.t 51, .t 53, .t 56], none, []⟩,
  ⟨some 50, .mv (.t 57), none, []⟩,
  ⟨some 58, .ext (.t 50) 0, none, []⟩,
  ⟨some 59, .ext (.t 50) 1, none, []⟩,
  ⟨some 60, .ext (.t 50) 2, none, []⟩,
  ⟨some 13, .mv (.t 58), none, []⟩,
  ⟨some 14, .mv (.t 59), none, []⟩,
  ⟨some 15, .mv (.t 60), none, []⟩] [2, 7, 8, 9, 10, 11, 12, 13, 14, 15]) k s Q := rfl
def c11_7 : ACode := .ops [⟨some 62, .load 6 true (.t 7), none, [7]⟩,
  ⟨some 63, .fad (.t 8) 1, none, [8]⟩,
  ⟨some 64, .load 1 false (.t 63), none, [8]⟩,
  ⟨some 65, .load 17 true (.t 8), none, [8]⟩,
  ⟨some 66, .load 10 true (.t 9), none, [9]⟩,
  ⟨some 67, .call 54 [.t 65, .t 66], none, []⟩,
  ⟨some 68, .call 47 [.t 62, .t 64, .t 67], none, []⟩,
  ⟨some 61, .mv (.t 68), none, []⟩,
  ⟨some 69, .ext (.t 61) 0, none, []⟩,
  ⟨some 70, .ext (.t 61) 1, none, []⟩,
  ⟨some 71, .ext (.t 61) 2, none, []⟩,
  ⟨some 16, .mv (.t 69), none, []⟩,
  ⟨some 17, .mv (.t 70), none, []⟩,
  ⟨some 18, .mv (.t 71), none, []⟩] [2, 7, 8, 9, 10, 11, 12, 13, 14, 15, 16, 17, 18]
theorem r11_7 {C : Cs} {k : List Fr} {s : St} {Q : Post} : run C c11_7 k s Q = run C (.ops [⟨some 62, .load 6 true (.t 7), none, [7]⟩,
  ⟨some 63, .fad (.t 8) 1, none, [8]⟩,
  ⟨some 64, .load 1 false (.t 63), none, [8]⟩,
  ⟨some 65, .load 17 true (.t 8), none, [8]⟩,
  ⟨some 66, .load 10 true (.t 9), none, [9]⟩,
  ⟨some 67, .call 54 [.t 65, .t 66], none, []⟩,
  ⟨some 68, .call 47 [.t 62, .t 64, .t 67], none, []⟩,
  ⟨some 61, .mv (.t 68), none, []⟩,
  ⟨some 69, .ext (.t 61) 0, none, []⟩,
  ⟨some 70, .ext (.t 61) 1, none, []⟩,
  ⟨some 71, .ext (.t 61) 2, none, []⟩,
  ⟨some 16, .mv (.t 69), none, []⟩,
  ⟨some 17, .mv (.t 70), none, []⟩,
  ⟨some 18, .mv (.t 71), none, []⟩] [2, 7, 8, 9, 10, 11, 12, 13, 14, 15, 16, 17, 18]) k s Q := rfl
def c11_8 : ACode := .ops [⟨some 72, .mv (.t 12), none, []⟩,
  ⟨some 73, .un .not (.t 72), none, []⟩,
  ⟨some 74, .mv (.t 73), none, []⟩,
  ⟨some 75, .mv (.t 15), some (74, false), []⟩,
  ⟨some 76, .un .not (.t 75), some (74, false), []⟩,
  ⟨some 77, .pick (.t 74) (.c (.bool true)) (.t 76), none, []⟩,
  ⟨some 78, .mv (.t 77), none, []⟩,
  ⟨some 79, .mv (.t 18), some (78, false), []⟩,
  ⟨some 80, .un .not (.t 79), some (78, false), []⟩,
  ⟨some 81, .pick (.t 78) (.c (.bool true)) (.t 80), none, []⟩,
  ⟨some 82, .mv (.t 81), none, []⟩,
  ⟨some 83, .mv (.t 10), some (82, false), []⟩,
  ⟨some 84, .mv (.t 16), some (82, false), []⟩,
  ⟨some 85, .mv (.t 14), some (82, false), []⟩,
  ⟨some 86, .bin .sub (.t 84) (.t 85), some (82, false), []⟩,
  ⟨some 87, .bin .neq (.t 83) (.t 86), some (82, false), []⟩,
  ⟨some 88, .pick (.t 82) (.c (.bool true)) (.t 87), none, []⟩,
  ⟨some 89, .mv (.t 88), none, []⟩,
  ⟨some 90, .mv (.t 11), some (89, false), []⟩,
  ⟨some 91, .mv (.t 17), some (89, false), []⟩,
  ⟨some 92, .mv (.t 13), some (89, false), []⟩,
  ⟨some 93, .bin .sub (.t 91) (.t 92), some (89, false), []⟩,
  ⟨some 94, .bin .neq (.t 90) (.t 93), some (89, false), []⟩,
  ⟨some 95, .pick (.t 89) (.c (.bool true)) (.t 94), none, []⟩,
  ⟨some 96, .mv (.t 95), none, []⟩,
  ⟨some 97, .load 17 true (.t 8), some (96, false), [8]⟩,
  ⟨some 98, .load 10 true (.t 9), some (96, false), [9]⟩,
  ⟨some 99, .call 54 [.t 97, .t 98], some (96, false), []⟩,
  ⟨some 100, .load 17 true (.t 8), some (96, false), [8]⟩,
  ⟨some 101, .load 10 true (.t 9), some (96, false), [9]⟩,
  ⟨some 102, .call 55 [.t 100, .t 101], some (96, false), []⟩,
  ⟨some 103, .eqa true [false, false, false, false, false, false, false, false, false, false] (.t 99) (.t 102), some (96, false), []⟩,
  ⟨some 104, .pick (.t 96) (.c (.bool true)) (.t 103), none, []⟩] [2, 7, 8, 9, 10, 11, 104]
theorem r11_8 {C : Cs} {k : List Fr} {s : St} {Q : Post} : run C c11_8 k s Q = run C (.ops [⟨some 72, .mv (.t 12), none, []⟩,
  ⟨some 73, .un .not (.t 72), none, []⟩,
  ⟨some 74, .mv (.t 73), none, []⟩,
  ⟨some 75, .mv (.t 15), some (74, false), []⟩,
  ⟨some 76, .un .not (.t 75), some (74, false), []⟩,
  ⟨some 77, .pick (.t 74) (.c (.bool true)) (.t 76), none, []⟩,
  ⟨some 78, .mv (.t 77), none, []⟩,
  ⟨some 79, .mv (.t 18), some (78, false), []⟩,
  ⟨some 80, .un .not (.t 79), some (78, false), []⟩,
  ⟨some 81, .pick (.t 78) (.c (.bool true)) (.t 80), none, []⟩,
  ⟨some 82, .mv (.t 81), none, []⟩,
  ⟨some 83, .mv (.t 10), some (82, false), []⟩,
  ⟨some 84, .mv (.t 16), some (82, false), []⟩,
  ⟨some 85, .mv (.t 14), some (82, false), []⟩,
  ⟨some 86, .bin .sub (.t 84) (.t 85), some (82, false), []⟩,
  ⟨some 87, .bin .neq (.t 83) (.t 86), some (82, false), []⟩,
  ⟨some 88, .pick (.t 82) (.c (.bool true)) (.t 87), none, []⟩,
  ⟨some 89, .mv (.t 88), none, []⟩,
  ⟨some 90, .mv (.t 11), some (89, false), []⟩,
  ⟨some 91, .mv (.t 17), some (89, false), []⟩,
  ⟨some 92, .mv (.t 13), some (89, false), []⟩,
  ⟨some 93, .bin .sub (.t 91) (.t 92), some (89, false), []⟩,
  ⟨some 94, .bin .neq (.t 90) (.t 93), some (89, false), []⟩,
  ⟨some 95, .pick (.t 89) (.c (.bool true)) (.t 94), none, []⟩,
  ⟨some 96, .mv (.t 95), none, []⟩,
  ⟨some 97, .load 17 true (.t 8), some (96, false), [8]⟩,
  ⟨some 98, .load 10 true (.t 9), some (96, false), [9]⟩,
  ⟨some 99, .call 54 [.t 97, .t 98], some (96, false), []⟩,
  ⟨some 100, .load 17 true (.t 8), some (96, false), [8]⟩,
  ⟨some 101, .load 10 true (.t 9), some (96, false), [9]⟩,
  ⟨some 102, .call 55 [.t 100, .t 101], some (96, false), []⟩,
  ⟨some 103, .eqa true [false, false, false, false, false, false, false, false, false, false] (.t 99) (.t 102), some (96, false), []⟩,
  ⟨some 104, .pick (.t 96) (.c (.bool true)) (.t 103), none, []⟩] [2, 7, 8, 9, 10, 11, 104]) k s Q := rfl
def c11_9 : ACode := .ops [⟨some 6, .mv (.c (.bool false)), none, []⟩] [6]
theorem r11_9 {C : Cs} {k : List Fr} {s : St} {Q : Post} : run C c11_9 k s Q = run C (.ops [⟨some 6, .mv (.c (.bool false)), none, []⟩] [6]) k s Q := rfl
def c11_10 : ACode := .seq c11_9 .ret
theorem r11_10 {C : Cs} {k : List Fr} {s : St} {Q : Post} : run C c11_10 k s Q = run C (.seq c11_9 .ret) k s Q := rfl
def c11_11 : ACode := .cond (.t 104) c11_10 .skip
theorem r11_11 {C : Cs} {k : List Fr} {s : St} {Q : Post} : run C c11_11 k s Q = run C (.cond (.t 104) c11_10 .skip) k s Q := rfl
def c11_12 : ACode := .seq c11_8 c11_11
theorem r11_12 {C : Cs} {k : List Fr} {s : St} {Q : Post} : run C c11_12 k s Q = run C (.seq c11_8 c11_11) k s Q := rfl
def c11_13 : ACode := .ops [⟨some 105, .load 10 true (.t 9), none, [9]⟩,
  ⟨some 106, .mv (.t 2), none, []⟩,
  ⟨some 107, .call 66 [.t 105, .t 106], none, []⟩,
  ⟨some 19, .alloc [.int .i64 0, .int .i64 0, .int .i64 0, .int .i64 0], none, []⟩,
  ⟨none, .store (.t 19) 4 (.t 107), none, [19]⟩] [7, 8, 10, 11, 19]
theorem r11_13 {C : Cs} {k : List Fr} {s : St} {Q : Post} : run C c11_13 k s Q = run C (.ops [⟨some 105, .load 10 true (.t 9), none, [9]⟩,
  ⟨some 106, .mv (.t 2), none, []⟩,
  ⟨some 107, .call 66 [.t 105, .t 106], none, []⟩,
  ⟨some 19, .alloc [.int .i64 0, .int .i64 0, .int .i64 0, .int .i64 0], none, []⟩,
  ⟨none, .store (.t 19) 4 (.t 107), none, [19]⟩] [7, 8, 10, 11, 19]) k s Q := rfl
def c11_14 : ACode := .ops [⟨some 20, .alloc [.int .i64 0, .int .i64 0, .int .i64 0, .int .i64 0, .int .i64 0, .int .i64 0, .int .i64 0, .int .i64 0, .int .i64 0, .int .i64 0], none, []⟩] [7, 8, 10, 11, 19, 20]
theorem r11_14 {C : Cs} {k : List Fr} {s : St} {Q : Post} : run C c11_14 k s Q = run C (.ops [⟨some 20, .alloc [.int .i64 0, .int .i64 0, .int .i64 0, .int .i64 0, .int .i64 0, .int .i64 0, .int .i64 0, .int .i64 0, .int .i64 0, .int .i64 0], none, []⟩] [7, 8, 10, 11, 19, 20]) k s Q := rfl
def c11_15 : ACode := .ops [⟨some 108, .mv (.c (.int .i64 0)), none, []⟩] [7, 8, 10, 11, 19, 20, 108]
theorem r11_15 {C : Cs} {k : List Fr} {s : St} {Q : Post} : run C c11_15 k s Q = run C (.ops [⟨some 108, .mv (.c (.int .i64 0)), none, []⟩] [7, 8, 10, 11, 19, 20, 108]) k s Q := rfl
def c11_16 : ACode := .ops [⟨some 109, .bin .lss (.t 108) (.c (.int .i64 4)), none, []⟩] [7, 8, 10, 11, 19, 20, 108, 109]
theorem r11_16 {C : Cs} {k : List Fr} {s : St} {Q : Post} : run C c11_16 k s Q = run C (.ops [⟨some 109, .bin .lss (.t 108) (.c (.int .i64 4)), none, []⟩] [7, 8, 10, 11, 19, 20, 108, 109]) k s Q := rfl
def c11_17 : ACode := .cond (.t 109) .skip (.exit 0)
theorem r11_17 {C : Cs} {k : List Fr} {s : St} {Q : Post} : run C c11_17 k s Q = run C (.cond (.t 109) .skip (.exit 0)) k s Q := rfl
def c11_18 : ACode := .ops [⟨some 110, .mv (.t 108), none, []⟩,
  ⟨some 21, .mv (.t 110), none, []⟩] [7, 8, 10, 11, 19, 20, 21, 108]
theorem r11_18 {C : Cs} {k : List Fr} {s : St} {Q : Post} : run C c11_18 k s Q = run C (.ops [⟨some 110, .mv (.t 108), none, []⟩,
  ⟨some 21, .mv (.t 110), none, []⟩] [7, 8, 10, 11, 19, 20, 21, 108]) k s Q := rfl
def c11_19 : ACode := .ops [⟨some 111, .mv (.t 21), none, []⟩,
  ⟨some 112, .mv (.t 21), none, []⟩,
  ⟨some 113, .iad (.t 19) (.t 112) 1 4, none, [19]⟩,
  ⟨some 114, .load 1 false (.t 113), none, [19]⟩,
  ⟨some 115, .mv (.t 21), none, []⟩,
  ⟨some 116, .iad (.t 19) (.t 115) 1 4, none, [19]⟩,
  ⟨some 117, .load 1 false (.t 116), none, [19]⟩,
  ⟨some 118, .build [.int .i64 0, .int .i64 0] [(0, 1, .t 114), (1, 1, .t 117)], none, []⟩,
  ⟨some 119, .iad (.t 20) (.t 111) 2 5, none, [20]⟩,
  ⟨none, .store (.t 119) 2 (.t 118), none, [20]⟩] [7, 8, 10, 11, 19, 20, 108]
theorem r11_19 {C : Cs} {k : List Fr} {s : St} {Q : Post} : run C c11_19 k s Q = run C (.ops [⟨some 111, .mv (.t 21), none, []⟩,
  ⟨some 112, .mv (.t 21), none, []⟩,
  ⟨some 113, .iad (.t 19) (.t 112) 1 4, none, [19]⟩,
  ⟨some 114, .load 1 false (.t 113), none, [19]⟩,
  ⟨some 115, .mv (.t 21), none, []⟩,
  ⟨some 116, .iad (.t 19) (.t 115) 1 4, none, [19]⟩,
  ⟨some 117, .load 1 false (.t 116), none, [19]⟩,
  ⟨some 118, .build [.int .i64 0, .int .i64 0] [(0, 1, .t 114), (1, 1, .t 117)], none, []⟩,
  ⟨some 119, .iad (.t 20) (.t 111) 2 5, none, [20]⟩,
  ⟨none, .store (.t 119) 2 (.t 118), none, [20]⟩] [7, 8, 10, 11, 19, 20, 108]) k s Q := rfl
def c11_20 : ACode := .seq c11_18 c11_19
theorem r11_20 {C : Cs} {k : List Fr} {s : St} {Q : Post} : run C c11_20 k s Q = run C (.seq c11_18 c11_19) k s Q := rfl
def c11_21 : ACode := .block 1 c11_20
theorem r11_21 {C : Cs} {k : List Fr} {s : St} {Q : Post} : run C c11_21 k s Q = run C (.block 1 c11_20) k s Q := rfl
def c11_22 : ACode := .ops [⟨some 120, .bin .add (.t 108) (.c (.int .i64 1)), none, []⟩,
  ⟨some 108, .mv (.t 120), none, []⟩] [7, 8, 10, 11, 19, 20, 108]
theorem r11_22 {C : Cs} {k : List Fr} {s : St} {Q : Post} : run C c11_22 k s Q = run C (.ops [⟨some 120, .bin .add (.t 108) (.c (.int .i64 1)), none, []⟩,
  ⟨some 108, .mv (.t 120), none, []⟩] [7, 8, 10, 11, 19, 20, 108]) k s Q := rfl
def c11_23 : ACode := .seq c11_21 c11_22
theorem r11_23 {C : Cs} {k : List Fr} {s : St} {Q : Post} : run C c11_23 k s Q = run C (.seq c11_21 c11_22) k s Q := rfl
def c11_24 : ACode := .seq c11_17 c11_23
theorem r11_24 {C : Cs} {k : List Fr} {s : St} {Q : Post} : run C c11_24 k s Q = run C (.seq c11_17 c11_23) k s Q := rfl
def c11_25 : ACode := .seq c11_16 c11_24
theorem r11_25 {C : Cs} {k : List Fr} {s : St} {Q : Post} : run C c11_25 k s Q = run C (.seq c11_16 c11_24) k s Q := rfl
def c11_26 : ACode := .keep [7, 8, 10, 11, 19, 20, 108] [7, 8, 19, 20] c11_25
theorem r11_26 {C : Cs} {k : List Fr} {s : St} {Q : Post} : run C c11_26 k s Q = run C (.keep [7, 8, 10, 11, 19, 20, 108] [7, 8, 19, 20] c11_25) k s Q := rfl
def c11_27 : ACode := .loop c11_26
theorem r11_27 {C : Cs} {k : List Fr} {s : St} {Q : Post} : run C c11_27 k s Q = run C (.loop c11_26) k s Q := rfl
def c11_28 : ACode := .block 0 c11_27
theorem r11_28 {C : Cs} {k : List Fr} {s : St} {Q : Post} : run C c11_28 k s Q = run C (.block 0 c11_27) k s Q := rfl
def c11_29 : ACode := .seq c11_15 c11_28
theorem r11_29 {C : Cs} {k : List Fr} {s : St} {Q : Post} : run C c11_29 k s Q = run C (.seq c11_15 c11_28) k s Q := rfl
def c11_30 : ACode := .ops [⟨some 121, .fad (.t 8) 14, none, [8]⟩,
  ⟨some 122, .load 1 false (.t 121), none, [8]⟩,
  ⟨some 123, .iad (.t 20) (.t 122) 2 5, none, [20]⟩,
  ⟨some 124, .load 2 true (.t 123), none, [20]⟩,
  ⟨some 125, .iad (.t 20) (.c (.int .i64 4)) 2 5, none, [20]⟩,
  ⟨none, .store (.t 125) 2 (.t 124), none, [20]⟩] [7, 8, 10, 11, 20]
theorem r11_30 {C : Cs} {k : List Fr} {s : St} {Q : Post} : run C c11_30 k s Q = run C (.ops [⟨some 121, .fad (.t 8) 14, none, [8]⟩,
  ⟨some 122, .load 1 false (.t 121), none, [8]⟩,
  ⟨some 123, .iad (.t 20) (.t 122) 2 5, none, [20]⟩,
  ⟨some 124, .load 2 true (.t 123), none, [20]⟩,
  ⟨some 125, .iad (.t 20) (.c (.int .i64 4)) 2 5, none, [20]⟩,
  ⟨none, .store (.t 125) 2 (.t 124), none, [20]⟩] [7, 8, 10, 11, 20]) k s Q := rfl
def c11_31 : ACode := .ops [⟨some 127, .load 6 true (.t 7), none, [7]⟩,
  ⟨some 128, .load 17 true (.t 8), none, [8]⟩,
  ⟨some 129, .load 10 true (.t 20), none, [20]⟩,
  ⟨some 130, .call 52 [.t 127, .t 128, .t 129], none, []⟩,
  ⟨some 126, .mv (.t 130), none, []⟩,
  ⟨some 131, .ext (.t 126) 0, none, []⟩,
  ⟨some 132, .ext (.t 126) 1, none, []⟩,
  ⟨some 133, .ext (.t 126) 2, none, []⟩,
  ⟨some 22, .mv (.t 131), none, []⟩,
  ⟨some 23, .mv (.t 132), none, []⟩,
  ⟨some 24, .mv (.t 133), none, []⟩] [8, 10, 11, 20, 22, 23, 24]
theorem r11_31 {C : Cs} {k : List Fr} {s : St} {Q : Post} : run C c11_31 k s Q = run C (.ops [⟨some 127, .load 6 true (.t 7), none, [7]⟩,
  ⟨some 128, .load 17 true (.t 8), none, [8]⟩,
  ⟨some 129, .load 10 true (.t 20), none, [20]⟩,
  ⟨some 130, .call 52 [.t 127, .t 128, .t 129], none, []⟩,
  ⟨some 126, .mv (.t 130), none, []⟩,
  ⟨some 131, .ext (.t 126) 0, none, []⟩,
  ⟨some 132, .ext (.t 126) 1, none, []⟩,
  ⟨some 133, .ext (.t 126) 2, none, []⟩,
  ⟨some 22, .mv (.t 131), none, []⟩,
  ⟨some 23, .mv (.t 132), none, []⟩,
  ⟨some 24, .mv (.t 133), none, []⟩] [8, 10, 11, 20, 22, 23, 24]) k s Q := rfl
def c11_32 : ACode := .ops [⟨some 134, .mv (.t 22), none, []⟩,
  ⟨some 135, .bin .eql (.t 134) (.c (.int .i64 0)), none, []⟩,
  ⟨some 136, .mv (.t 135), none, []⟩,
  ⟨some 137, .mv (.t 23), some (136, true), []⟩,
  ⟨some 138, .bin .eql (.t 137) (.c (.int .i64 0)), some (136, true), []⟩,
  ⟨some 139, .pick (.t 136) (.t 138) (.c (.bool false)), none, []⟩,
  ⟨some 140, .mv (.t 139), none, []⟩,
  ⟨some 141, .mv (.t 24), some (140, true), []⟩,
  ⟨some 142, .pick (.t 140) (.t 141) (.c (.bool false)), none, []⟩,
  ⟨some 143, .mv (.t 142), none, []⟩,
  ⟨some 144, .load 17 true (.t 8), some (143, true), [8]⟩,
  ⟨some 145, .load 10 true (.t 20), some (143, true), [20]⟩,
  ⟨some 146, .call 53 [.t 144, .t 145], some (143, true), []⟩,
  ⟨some 147, .un .not (.t 146), some (143, true), []⟩,
  ⟨some 148, .pick (.t 143) (.t 147) (.c (.bool false)), none, []⟩,
  ⟨some 149, .mv (.t 148), none, []⟩,
  ⟨some 150, .mv (.t 10), some (149, true), []⟩,
  ⟨some 151, .bin .leq (.t 150) (.c (.int .i64 0)), some (149, true), []⟩,
  ⟨some 152, .pick (.t 149) (.t 151) (.c (.bool false)), none, []⟩,
  ⟨some 153, .mv (.t 152), none, []⟩,
  ⟨some 154, .mv (.t 11), some (153, true), []⟩,
  ⟨some 155, .bin .geq (.t 154) (.c (.int .i64 0)), some (153, true), []⟩,
  ⟨some 156, .pick (.t 153) (.t 155) (.c (.bool false)), none, []⟩,
  ⟨some 157, .mv (.t 156), none, []⟩,
  ⟨some 158, .call 6 [], some (157, true), []⟩,
  ⟨some 159, .pick (.t 157) (.t 158) (.c (.bool false)), none, []⟩,
  ⟨some 6, .mv (.t 159), none, []⟩] [6]
theorem r11_32 {C : Cs} {k : List Fr} {s : St} {Q : Post} : run C c11_32 k s Q = run C (.ops [⟨some 134, .mv (.t 22), none, []⟩,
  ⟨some 135, .bin .eql (.t 134) (.c (.int .i64 0)), none, []⟩,
  ⟨some 136, .mv (.t 135), none, []⟩,
  ⟨some 137, .mv (.t 23), some (136, true), []⟩,
  ⟨some 138, .bin .eql (.t 137) (.c (.int .i64 0)), some (136, true), []⟩,
  ⟨some 139, .pick (.t 136) (.t 138) (.c (.bool false)), none, []⟩,
  ⟨some 140, .mv (.t 139), none, []⟩,
  ⟨some 141, .mv (.t 24), some (140, true), []⟩,
  ⟨some 142, .pick (.t 140) (.t 141) (.c (.bool false)), none, []⟩,
  ⟨some 143, .mv (.t 142), none, []⟩,
  ⟨some 144, .load 17 true (.t 8), some (143, true), [8]⟩,
  ⟨some 145, .load 10 true (.t 20), some (143, true), [20]⟩,
  ⟨some 146, .call 53 [.t 144, .t 145], some (143, true), []⟩,
  ⟨some 147, .un .not (.t 146), some (143, true), []⟩,
  ⟨some 148, .pick (.t 143) (.t 147) (.c (.bool false)), none, []⟩,
  ⟨some 149, .mv (.t 148), none, []⟩,
  ⟨some 150, .mv (.t 10), some (149, true), []⟩,
  ⟨some 151, .bin .leq (.t 150) (.c (.int .i64 0)), some (149, true), []⟩,
  ⟨some 152, .pick (.t 149) (.t 151) (.c (.bool false)), none, []⟩,
  ⟨some 153, .mv (.t 152), none, []⟩,
  ⟨some 154, .mv (.t 11), some (153, true), []⟩,
  ⟨some 155, .bin .geq (.t 154) (.c (.int .i64 0)), some (153, true), []⟩,
  ⟨some 156, .pick (.t 153) (.t 155) (.c (.bool false)), none, []⟩,
  ⟨some 157, .mv (.t 156), none, []⟩,
  ⟨some 158, .call 6 [], some (157, true), []⟩,
  ⟨some 159, .pick (.t 157) (.t 158) (.c (.bool false)), none, []⟩,
  ⟨some 6, .mv (.t 159), none, []⟩] [6]) k s Q := rfl
def c11_33 : ACode := .seq c11_32 .ret
theorem r11_33 {C : Cs} {k : List Fr} {s : St} {Q : Post} : run C c11_33 k s Q = run C (.seq c11_32 .ret) k s Q := rfl
def c11_34 : ACode := .seq c11_31 c11_33
theorem r11_34 {C : Cs} {k : List Fr} {s : St} {Q : Post} : run C c11_34 k s Q = run C (.seq c11_31 c11_33) k s Q := rfl
def c11_35 : ACode := .seq c11_30 c11_34
theorem r11_35 {C : Cs} {k : List Fr} {s : St} {Q : Post} : run C c11_35 k s Q = run C (.seq c11_30 c11_34) k s Q := rfl
def c11_36 : ACode := .seq c11_29 c11_35
theorem r11_36 {C : Cs} {k : List Fr} {s : St} {Q : Post} : run C c11_36 k s Q = run C (.seq c11_29 c11_35) k s Q := rfl
def c11_37 : ACode := .seq c11_14 c11_36
theorem r11_37 {C : Cs} {k : List Fr} {s : St} {Q : Post} : run C c11_37 k s Q = run C (.seq c11_14 c11_36) k s Q := rfl
def c11_38 : ACode := .seq c11_13 c11_37
theorem r11_38 {C : Cs} {k : List Fr} {s : St} {Q : Post} : run C c11_38 k s Q = run C (.seq c11_13 c11_37) k s Q := rfl
def c11_39 : ACode := .seq c11_12 c11_38
theorem r11_39 {C : Cs} {k : List Fr} {s : St} {Q : Post} : run C c11_39 k s Q = run C (.seq c11_12 c11_38) k s Q := rfl
def c11_40 : ACode := .seq c11_7 c11_39
theorem r11_40 {C : Cs} {k : List Fr} {s : St} {Q : Post} : run C c11_40 k s Q = run C (.seq c11_7 c11_39) k s Q := rfl
def c11_41 : ACode := .seq c11_6 c11_40
theorem r11_41 {C : Cs} {k : List Fr} {s : St} {Q : Post} : run C c11_41 k s Q = run C (.seq c11_6 c11_40) k s Q := rfl
def c11_42 : ACode := .seq c11_5 c11_41
theorem r11_42 {C : Cs} {k : List Fr} {s : St} {Q : Post} : run C c11_42 k s Q = run C (.seq c11_5 c11_41) k s Q := rfl
def c11_43 : ACode := .seq c11_4 c11_42
theorem r11_43 {C : Cs} {k : List Fr} {s : St} {Q : Post} : run C c11_43 k s Q = run C (.seq c11_4 c11_42) k s Q := rfl
def c11_44 : ACode := .seq c11_3 c11_43
theorem r11_44 {C : Cs} {k : List Fr} {s : St} {Q : Post} : run C c11_44 k s Q = run C (.seq c11_3 c11_43) k s Q := rfl
def c11_45 : ACode := .seq c11_2 c11_44
theorem r11_45 {C : Cs} {k : List Fr} {s : St} {Q : Post} : run C c11_45 k s Q = run C (.seq c11_2 c11_44) k s Q := rfl
def c11_46 : ACode := .seq c11_1 c11_45
theorem r11_46 {C : Cs} {k : List Fr} {s : St} {Q : Post} : run C c11_46 k s Q = run C (.seq c11_1 c11_45) k s Q := rfl
def c11_47 : ACode := .seq c11_0 c11_46
theorem r11_47 {C : Cs} {k : List Fr} {s : St} {Q : Post} : run C c11_47 k s Q = run C (.seq c11_0 c11_46) k s Q := rfl
def a11 : AFun := ⟨3, 160, c11_47, [.t 6]⟩
attribute [simp] r11_0 r11_1 r11_2 r11_3 r11_4 r11_5 r11_6 r11_7 r11_8 r11_9 r11_10 r11_11 r11_12 r11_13 r11_14 r11_15 r11_16 r11_17 r11_18 r11_19 r11_20 r11_21 r11_22 r11_23 r11_24 r11_25 r11_26 r11_27 r11_28 r11_29 r11_30 r11_31 r11_32 r11_33 r11_34 r11_35 r11_36 r11_37 r11_38 r11_39 r11_40 r11_41 r11_42 r11_43 r11_44 r11_45 r11_46 r11_47
theorem m11 : mFun Try.prog Try.f11 a11 = true := by decide +kernel

/- copse/copselaw17.CoupleRuns -/
def c6_0 : ACode := .ops [⟨some 0, .mv (.c (.bool false)), none, []⟩] []
def c6_1 : ACode := .ops [⟨some 7, .call 43 [], none, []⟩,
  ⟨some 1, .alloc [.int .i64 0, .int .i64 0, .int .i64 0, .int .i64 0, .int .i64 0, .nils], none, []⟩,
  ⟨none, .store (.t 1) 6 (.t 7), none, [1]⟩] [1]
def c6_2 : ACode := .ops [⟨some 8, .build [.int .i64 0, .int .i64 0] [(0, 1, .c (.int .i64 0)), (1, 1, .c (.int .i64 9))], none, []⟩,
  ⟨some 9, .build [.int .i64 0, .int .i64 0, .int .i64 0, .int .i64 0, .int .i64 0, .int .i64 0, .int .i64 0, .int .i64 0, .int .i64 0, .int .i64 0] [(0, 2, .t 8)], none, []⟩,
  ⟨some 10, .build [.int .i64 0, .int .i64 0, .int .i64 0, .int .i64 0, .int .i64 0, .int .i64 0, .int .i64 0, .int .i64 0, .int .i64 0, .int .i64 0, .int .i64 0, .int .i64 0, .int .i64 0, .int .i64 0, .int .i64 0, .bool false, .int .i64 0] [(0, 1, .c (.int .i64 3)), (2, 10, .t 9)], none, []⟩,
  ⟨some 2, .alloc [.int .i64 0, .int .i64 0, .int .i64 0, .int .i64 0, .int .i64 0, .int .i64 0, .int .i64 0, .int .i64 0, .int .i64 0, .int .i64 0, .int .i64 0, .int .i64 0, .int .i64 0, .int .i64 0, .int .i64 0, .bool false, .int .i64 0], none, []⟩,
  ⟨none, .store (.t 2) 17 (.t 10), none, [2]⟩] [1, 2]
def c6_3 : ACode := .ops [⟨some 11, .build [.int .i64 0, .int .i64 0] [(0, 1, .c (.int .i64 0)), (1, 1, .c (.int .i64 5))], none, []⟩,
  ⟨some 12, .build [.int .i64 0, .int .i64 0] [], none, []⟩,
  ⟨some 13, .build [.int .i64 0, .int .i64 0] [], none, []⟩,
  ⟨some 14, .build [.int .i64 0, .int .i64 0] [], none, []⟩,
  ⟨some 15, .build [.int .i64 0, .int .i64 0] [(0, 1, .c (.int .i64 6)), (1, 1, .c (.int .i64 9))], none, []⟩,
  ⟨some 16, .build [.int .i64 0, .int .i64 0, .int .i64 0, .int .i64 0, .int .i64 0, .int .i64 0, .int .i64 0, .int .i64 0, .int .i64 0, .int .i64 0] [(0, 2, .t 11), (2, 2, .t 12), (4, 2, .t 13), (6, 2, .t 14), (8, 2, .t 15)], none, []⟩,
  ⟨some 3, .alloc [.int .i64 0, .int .i64 0, .int .i64 0, .int .i64 0, .int .i64 0, .int .i64 0, .int .i64 0, .int .i64 0, .int .i64 0, .int .i64 0], none, []⟩,
  ⟨none, .store (.t 3) 10 (.t 16), none, [3]⟩] [1, 2, 3]
def c6_4 : ACode := .ops [⟨some 18, .load 6 true (.t 1), none, [1]⟩,
  ⟨some 19, .load 17 true (.t 2), none, [2]⟩,
  ⟨some 20, .load 10 true (.t 3), none, [3]⟩,
  ⟨some 21, .call 52 [.t 18, .t 19, .t 20], none, []⟩,
  ⟨some 17, .mv (.t 21), none, []⟩,
  ⟨some 22, .ext (.t 17) 0, none, []⟩,
  ⟨some 23, .ext (.t 17) 1, none, []⟩,
  ⟨some 24, .ext (.t 17) 2, none, []⟩,
  ⟨some 4, .mv (.t 22), none, []⟩,
  ⟨some 5, .mv (.t 23), none, []⟩,
  ⟨some 6, .mv (.t 24), none, []⟩] [2, 3, 4, 5, 6]
def c6_5 : ACode := .ops [⟨some 25, .mv (.t 4), none, []⟩,
  ⟨some 26, .bin .eql (.t 25) (.c (.int .i64 10)), none, []⟩,
  ⟨some 27, .mv (.t 26), none, []⟩,
  ⟨some 28, .mv (.t 5), some (27, true), []⟩,
  ⟨some 29, .bin .eql (.t 28) (.c (.int .i64 10)), some (27, true), []⟩,
  ⟨some 30, .pick (.t 27) (.t 29) (.c (.bool false)), none, []⟩,
  ⟨some 31, .mv (.t 30), none, []⟩,
  ⟨some 32, .mv (.t 6), some (31, true), []⟩,
  ⟨some 33, .pick (.t 31) (.t 32) (.c (.bool false)), none, []⟩,
  ⟨some 34, .mv (.t 33), none, []⟩,
  ⟨some 35, .load 17 true (.t 2), some (34, true), [2]⟩,
  ⟨some 36, .load 10 true (.t 3), some (34, true), [3]⟩,
  ⟨some 37, .call 53 [.t 35, .t 36], some (34, true), []⟩,
  ⟨some 38, .pick (.t 34) (.t 37) (.c (.bool false)), none, []⟩,
  ⟨some 39, .mv (.t 38), none, []⟩,
  ⟨some 40, .load 17 true (.t 2), some (39, true), [2]⟩,
  ⟨some 41, .build [.int .i64 0, .int .i64 0] [(0, 1, .c (.int .i64 0)), (1, 1, .c (.int .i64 5))], some (39, true), []⟩,
  ⟨some 42, .build [.int .i64 0, .int .i64 0, .int .i64 0, .int .i64 0, .int .i64 0, .int .i64 0, .int .i64 0, .int .i64 0, .int .i64 0, .int .i64 0] [(0, 2, .t 41)], some (39, true), []⟩,
  ⟨some 43, .call 53 [.t 40, .t 42], some (39, true), []⟩,
  ⟨some 44, .un .not (.t 43), some (39, true), []⟩,
  ⟨some 45, .pick (.t 39) (.t 44) (.c (.bool false)), none, []⟩,
  ⟨some 46, .mv (.t 45), none, []⟩,
  ⟨some 47, .load 17 true (.t 2), some (46, true), [2]⟩,
  ⟨some 48, .load 10 true (.t 3), some (46, true), [3]⟩,
  ⟨some 49, .call 54 [.t 47, .t 48], some (46, true), []⟩,
  ⟨some 50, .build [.int .i64 0, .int .i64 0] [(0, 1, .c (.int .i64 6)), (1, 1, .c (.int .i64 9))], some (46, true), []⟩,
  ⟨some 51, .build [.int .i64 0, .int .i64 0, .int .i64 0, .int .i64 0, .int .i64 0, .int .i64 0, .int .i64 0, .int .i64 0, .int .i64 0, .int .i64 0] [(0, 2, .t 50)], some (46, true), []⟩,
  ⟨some 52, .eqa false [false, false, false, false, false, false, false, false, false, false] (.t 49) (.t 51), some (46, true), []⟩,
  ⟨some 53, .pick (.t 46) (.t 52) (.c (.bool false)), none, []⟩,
  ⟨some 54, .mv (.t 53), none, []⟩,
  ⟨some 55, .load 17 true (.t 2), some (54, true), [2]⟩,
  ⟨some 56, .load 10 true (.t 3), some (54, true), [3]⟩,
  ⟨some 57, .call 55 [.t 55, .t 56], some (54, true), []⟩,
  ⟨some 58, .build [.int .i64 0, .int .i64 0] [(0, 1, .c (.int .i64 0)), (1, 1, .c (.int .i64 5))], some (54, true), []⟩,
  ⟨some 59, .build [.int .i64 0, .int .i64 0, .int .i64 0, .int .i64 0, .int .i64 0, .int .i64 0, .int .i64 0, .int .i64 0, .int .i64 0, .int .i64 0] [(0, 2, .t 58)], some (54, true), []⟩,
  ⟨some 60, .eqa false [false, false, false, false, false, false, false, false, false, false] (.t 57) (.t 59), some (54, true), []⟩,
  ⟨some 61, .pick (.t 54) (.t 60) (.c (.bool false)), none, []⟩,
  ⟨some 0, .mv (.t 61), none, []⟩] [0]
def c6_6 : ACode := .seq c6_5 .ret
def c6_7 : ACode := .seq c6_4 c6_6
def c6_8 : ACode := .seq c6_3 c6_7
def c6_9 : ACode := .seq c6_2 c6_8
def c6_10 : ACode := .seq c6_1 c6_9
def c6_11 : ACode := .seq c6_0 c6_10
def a6 : AFun := ⟨0, 62, c6_11, [.t 0]⟩
theorem m6 : mFun Try.prog Try.f6 a6 = true := by decide +kernel
/- copse/copsekeep.Three -/
def c43_0 : ACode := .ops [⟨some 0, .alloc [.int .i64 0, .int .i64 0, .int .i64 0, .int .i64 0, .int .i64 0, .nils], none, []⟩] [0]
def c43_1 : ACode := .ops [⟨some 2, .build [.bool false, .int .i64 0, .int .i64 0, .int .i64 0, .int .i64 0, .int .i64 0] [(3, 1, .c (.int .i64 5)), (4, 1, .c (.int .i64 1)), (5, 1, .c (.int .i64 2))], none, []⟩,
  ⟨some 3, .call 111 [.t 2], none, []⟩,
  ⟨some 4, .build [.bool false, .int .i64 0, .int .i64 0, .int .i64 0, .int .i64 0, .int .i64 0] [(0, 1, .c (.bool true)), (1, 1, .c (.int .i64 10))], none, []⟩,
  ⟨some 5, .call 111 [.t 4], none, []⟩,
  ⟨some 6, .build [.bool false, .int .i64 0, .int .i64 0, .int .i64 0, .int .i64 0, .int .i64 0] [(0, 1, .c (.bool true)), (1, 1, .c (.int .i64 20))], none, []⟩,
  ⟨some 7, .call 111 [.t 6], none, []⟩,
  ⟨some 8, .mkrow 1 3 1 [.int .u64 0] [(0, 1, .t 3), (1, 1, .t 5), (2, 1, .t 7)], none, []⟩,
  ⟨some 1, .mv (.t 8), none, []⟩] [0, 1]
def c43_2 : ACode := .ops [⟨some 9, .build [.int .i64 0, .int .i64 0, .int .i64 0] [(0, 1, .c (.int .i64 3))], none, []⟩,
  ⟨some 10, .mv (.t 1), none, []⟩,
  ⟨some 11, .build [.int .i64 0, .nils] [(1, 1, .t 10)], none, []⟩,
  ⟨some 12, .mkrow 12 1 2 [.int .i64 0, .nils] [(0, 2, .t 11)], none, []⟩,
  ⟨some 13, .build [.int .i64 0, .int .i64 0, .int .i64 0, .int .i64 0, .int .i64 0, .nils] [(0, 1, .c (.int .i64 1)), (1, 1, .c (.int .i64 1)), (2, 3, .t 9), (5, 1, .t 12)], none, []⟩,
  ⟨none, .store (.t 0) 6 (.t 13), none, [0]⟩] [0]
def c43_3 : ACode := .seq c43_2 .ret
def c43_4 : ACode := .seq c43_1 c43_3
def c43_5 : ACode := .seq c43_0 c43_4
def a43 : AFun := ⟨0, 14, c43_5, [.cell 0 6 true]⟩
theorem m43 : mFun Try.prog Try.f43 a43 = true := by decide +kernel
def texts6 : List (Nat × AFun) := [(6, a6), (43, a43), (44, a44), (48, a48), (51, a51), (52, a52), (53, a53), (54, a54), (55, a55), (67, a67), (68, a68), (71, a71), (76, a76), (77, a77), (111, a111), (114, a114), (119, a119), (120, a120), (121, a121), (123, a123), (124, a124), (125, a125), (128, a128), (129, a129), (130, a130), (131, a131), (156, a156), (158, a158), (159, a159), (160, a160), (161, a161), (162, a162), (163, a163), (164, a164), (165, a165), (176, a176)]
theorem texts6_good : Go.Am.Good Try.prog texts6 :=
  good_cons Try.func6 m6 <| good_cons Try.func43 m43 <| good_cons Try.func44 m44 <| good_cons Try.func48 m48 <| good_cons Try.func51 m51 <| good_cons Try.func52 m52 <| good_cons Try.func53 m53 <| good_cons Try.func54 m54 <| good_cons Try.func55 m55 <| good_cons Try.func67 m67 <| good_cons Try.func68 m68 <| good_cons Try.func71 m71 <| good_cons Try.func76 m76 <| good_cons Try.func77 m77 <| good_cons Try.func111 m111 <| good_cons Try.func114 m114 <| good_cons Try.func119 m119 <| good_cons Try.func120 m120 <| good_cons Try.func121 m121 <| good_cons Try.func123 m123 <| good_cons Try.func124 m124 <| good_cons Try.func125 m125 <| good_cons Try.func128 m128 <| good_cons Try.func129 m129 <| good_cons Try.func130 m130 <| good_cons Try.func131 m131 <| good_cons Try.func156 m156 <| good_cons Try.func158 m158 <| good_cons Try.func159 m159 <| good_cons Try.func160 m160 <| good_cons Try.func161 m161 <| good_cons Try.func162 m162 <| good_cons Try.func163 m163 <| good_cons Try.func164 m164 <| good_cons Try.func165 m165 <| good_cons Try.func176 m176 <| good_nil
theorem c_closed6 : Contract Try.prog 6 (sp0 (some true)) := contract_closed mixed texts6_good (m := 1000) (n := 60) (by decide +kernel)


set_option maxHeartbeats 8000000 in
set_option maxRecDepth 100000 in
theorem runs_law (f : Forest) (a : Ask) (l : List Int) (c : Bool) (h : some true = some c) : Runs (tbl [(45, sp1 ModelC), (59, sp2 QueryC), (63, sp3 Within), (58, sp1 fun q => some (startOf q)), (52, sp3 ChangeC), (55, sp2 fun q b => some (firstB q b)), (54, sp2 fun q b => some (secondB q b)), (47, sp3 BoundS), (66, sp2 InsideC), (53, sp2 fun q b => some (orderedB q b)), (6, sp0 (some true))]) a11 [Arg.enc f, Arg.enc a, Arg.enc l] (Arg.enc c) := by
  cases h
  refine ⟨rfl, fun g => run_def ?_⟩
  unfold a11
  have hm := rm_modelOf f
  have hM : ModelC f = some (modelOf f) := rfl
  generalize modelOf f = m at *
  have hq := ok_queryOf m a hm
  have hQ : QueryC a m = some (queryOf m a) := part_of ⟨hm.dim.1, hm.dim.2, hm.classes.1, hm.classes.2⟩ _
  have hd := hm.dim
  have wd : IntKind.i64.wrap (m.dim - 1) = m.dim - 1 := wrap64 (by omega) (by omega)
  have hW := within_of a.feature 0 (m.dim - 1) (by omega)
  have hw := within_le a.feature 0 (m.dim - 1) (by omega)
  generalize within a.feature 0 (m.dim - 1) = k at *
  have hreg : (queryOf m a).region = regionOf m.dim a.spans := rfl
  have hqs := okQuery_spec hq
  have h0 := rSpan_le m.dim a.spans 0
  have h1 := rSpan_le m.dim a.spans 1
  have h2 := rSpan_le m.dim a.spans 2
  have h3 := rSpan_le m.dim a.spans 3
  generalize queryOf m a = q at *
  obtain ⟨kind, cls, region, qlo, qhi, feature, falls, budget⟩ := q
  simp only at hreg hqs
  unfold regionOf at hreg
  generalize rSpan m.dim a.spans 0 = s0 at *
  generalize rSpan m.dim a.spans 1 = s1 at *
  generalize rSpan m.dim a.spans 2 = s2 at *
  generalize rSpan m.dim a.spans 3 = s3 at *
  subst hreg
  have hkc : k = 0 ∨ k = 1 ∨ k = 2 ∨ k = 3 := by omega
  rcases hkc with rfl | rfl | rfl | rfl
  · have hp : paired (⟨3, cls, ⟨s0, s1, s2, s3, ⟨0, 0⟩⟩, 0, 0, 0, falls, budget⟩ : Query) = true := rfl
    have hSt : startOf (⟨3, cls, ⟨s0, s1, s2, s3, ⟨0, 0⟩⟩, 0, 0, 0, falls, budget⟩ : Query) = (⟨s0, s1, s2, s3, s0⟩ : Box) := rfl
    have hF : firstB (⟨3, cls, ⟨s0, s1, s2, s3, ⟨0, 0⟩⟩, 0, 0, 0, falls, budget⟩ : Query) (⟨s0, s1, s2, s3, s0⟩ : Box) = (⟨s0, s1, s2, s3, ⟨0, 0⟩⟩ : Box) := rfl
    have hS : secondB (⟨3, cls, ⟨s0, s1, s2, s3, ⟨0, 0⟩⟩, 0, 0, 0, falls, budget⟩ : Query) (⟨s0, s1, s2, s3, s0⟩ : Box) = (⟨s0, s1, s2, s3, ⟨0, 0⟩⟩ : Box) := rfl
    have hbo : okB (⟨s0, s1, s2, s3, s0⟩ : Box) := by unfold okB okS64 ok64; simp only; omega
    have hfo : okB (⟨s0, s1, s2, s3, ⟨0, 0⟩⟩ : Box) := by unfold okB okS64 ok64; simp only; omega
    have hfe : ((⟨s0, s1, s2, s3, ⟨0, 0⟩⟩ : Box)).empty = false := by
      unfold Box.empty Span.empty
      simp only [Bool.or_eq_false_iff, decide_eq_false_iff_not]
      omega
    have hbe : ((⟨s0, s1, s2, s3, s0⟩ : Box)).empty = false := by
      unfold Box.empty Span.empty
      simp only [Bool.or_eq_false_iff, decide_eq_false_iff_not]
      omega
    have hB : BoundS m cls (⟨s0, s1, s2, s3, ⟨0, 0⟩⟩ : Box) = some ⟨(boundP m cls (⟨s0, s1, s2, s3, ⟨0, 0⟩⟩ : Box)).1, (boundP m cls (⟨s0, s1, s2, s3, ⟨0, 0⟩⟩ : Box)).2, true⟩ := by
      unfold BoundS
      rw [part_of ⟨hm, hfo⟩, boundM, if_neg (by simp [hfe]; omega)]
    have hC : ChangeC m (⟨3, cls, ⟨s0, s1, s2, s3, ⟨0, 0⟩⟩, 0, 0, 0, falls, budget⟩ : Query) (⟨s0, s1, s2, s3, s0⟩ : Box) = some ⟨(boundP m cls (⟨s0, s1, s2, s3, ⟨0, 0⟩⟩ : Box)).1 - (boundP m cls (⟨s0, s1, s2, s3, ⟨0, 0⟩⟩ : Box)).2, (boundP m cls (⟨s0, s1, s2, s3, ⟨0, 0⟩⟩ : Box)).2 - (boundP m cls (⟨s0, s1, s2, s3, ⟨0, 0⟩⟩ : Box)).1, true⟩ := by
      unfold ChangeC
      rw [part_of ⟨hm, hbo⟩, change_some (m := m) hp hqs.1 hqs.2.1 hbe, hF, hS]
    have hle := boundP_le hm cls hfe
    generalize (boundP m cls (⟨s0, s1, s2, s3, ⟨0, 0⟩⟩ : Box)).1 = x at *
    generalize (boundP m cls (⟨s0, s1, s2, s3, ⟨0, 0⟩⟩ : Box)).2 = y at *
    have w1 : IntKind.i64.wrap (x - y) = x - y := wrap64 (by omega) (by omega)
    have w2 : IntKind.i64.wrap (y - x) = y - x := wrap64 (by omega) (by omega)
    have c1 : x - y ≤ 0 := by omega
    have c2 : 0 ≤ y - x := by omega
    have c3 : x ≤ y := by omega
    have hI : InsideC (⟨s0, s1, s2, s3, s0⟩ : Box) l = some (insideOf (⟨s0, s1, s2, s3, s0⟩ : Box) l) := part_of (by unfold small; simp only; omega) _
    have i0 := ins_small (s := s0) (by unfold small; omega) l 0
    have i1 := ins_small (s := s1) (by unfold small; omega) l 1
    have i2 := ins_small (s := s2) (by unfold small; omega) l 2
    have i3 := ins_small (s := s3) (by unfold small; omega) l 3
    have hoo : okB (oneB (insideOf (⟨s0, s1, s2, s3, s0⟩ : Box) l)) := by unfold okB okS64 ok64 oneB insideOf; simp only; omega
    generalize insideOf (⟨s0, s1, s2, s3, s0⟩ : Box) l = p at *
    have hF1 : firstB (⟨3, cls, ⟨s0, s1, s2, s3, ⟨0, 0⟩⟩, 0, 0, 0, falls, budget⟩ : Query) (⟨⟨p.p0, p.p0⟩, ⟨p.p1, p.p1⟩, ⟨p.p2, p.p2⟩, ⟨p.p3, p.p3⟩, ⟨p.p0, p.p0⟩⟩ : Box) = oneB p := rfl
    have hS1 : secondB (⟨3, cls, ⟨s0, s1, s2, s3, ⟨0, 0⟩⟩, 0, 0, 0, falls, budget⟩ : Query) (⟨⟨p.p0, p.p0⟩, ⟨p.p1, p.p1⟩, ⟨p.p2, p.p2⟩, ⟨p.p3, p.p3⟩, ⟨p.p0, p.p0⟩⟩ : Box) = oneB p := rfl
    have hO2 : okB (⟨⟨p.p0, p.p0⟩, ⟨p.p1, p.p1⟩, ⟨p.p2, p.p2⟩, ⟨p.p3, p.p3⟩, ⟨p.p0, p.p0⟩⟩ : Box) := by
      unfold okB okS64 ok64 oneB at *
      simp only at hoo ⊢
      omega
    have hOe : ((⟨⟨p.p0, p.p0⟩, ⟨p.p1, p.p1⟩, ⟨p.p2, p.p2⟩, ⟨p.p3, p.p3⟩, ⟨p.p0, p.p0⟩⟩ : Box)).empty = false := by
      unfold Box.empty Span.empty
      simp only [Bool.or_eq_false_iff, decide_eq_false_iff_not]
      omega
    have hC1 : ChangeC m (⟨3, cls, ⟨s0, s1, s2, s3, ⟨0, 0⟩⟩, 0, 0, 0, falls, budget⟩ : Query) (⟨⟨p.p0, p.p0⟩, ⟨p.p1, p.p1⟩, ⟨p.p2, p.p2⟩, ⟨p.p3, p.p3⟩, ⟨p.p0, p.p0⟩⟩ : Box) = some ⟨0, 0, true⟩ := by
      unfold ChangeC
      rw [part_of ⟨hm, hO2⟩, change_some (m := m) hp hqs.1 hqs.2.1 hOe, hF1, hS1, bound_one hm cls (one_in p) (fun q t h => one_only p q t h)]
      simp
    have hOr : orderedB (⟨3, cls, ⟨s0, s1, s2, s3, ⟨0, 0⟩⟩, 0, 0, 0, falls, budget⟩ : Query) (⟨⟨p.p0, p.p0⟩, ⟨p.p1, p.p1⟩, ⟨p.p2, p.p2⟩, ⟨p.p3, p.p3⟩, ⟨p.p0, p.p0⟩⟩ : Box) = false := by
      unfold orderedB
      rw [hOe]
      simp [Box.get]
    have hW : Within a.feature 0 (m.dim - 1) = some 0 := hW
    simp -implicitDefEqProofs [hM, hQ, wd, hW, hSt, hC, hF, hS, hB, w1, w2, c1, c2, c3, hI, hC1, hOr, run_round]
  · have hp : paired (⟨3, cls, ⟨s0, s1, s2, s3, ⟨0, 0⟩⟩, 0, 0, 1, falls, budget⟩ : Query) = true := rfl
    have hSt : startOf (⟨3, cls, ⟨s0, s1, s2, s3, ⟨0, 0⟩⟩, 0, 0, 1, falls, budget⟩ : Query) = (⟨s0, s1, s2, s3, s1⟩ : Box) := rfl
    have hF : firstB (⟨3, cls, ⟨s0, s1, s2, s3, ⟨0, 0⟩⟩, 0, 0, 1, falls, budget⟩ : Query) (⟨s0, s1, s2, s3, s1⟩ : Box) = (⟨s0, s1, s2, s3, ⟨0, 0⟩⟩ : Box) := rfl
    have hS : secondB (⟨3, cls, ⟨s0, s1, s2, s3, ⟨0, 0⟩⟩, 0, 0, 1, falls, budget⟩ : Query) (⟨s0, s1, s2, s3, s1⟩ : Box) = (⟨s0, s1, s2, s3, ⟨0, 0⟩⟩ : Box) := rfl
    have hbo : okB (⟨s0, s1, s2, s3, s1⟩ : Box) := by unfold okB okS64 ok64; simp only; omega
    have hfo : okB (⟨s0, s1, s2, s3, ⟨0, 0⟩⟩ : Box) := by unfold okB okS64 ok64; simp only; omega
    have hfe : ((⟨s0, s1, s2, s3, ⟨0, 0⟩⟩ : Box)).empty = false := by
      unfold Box.empty Span.empty
      simp only [Bool.or_eq_false_iff, decide_eq_false_iff_not]
      omega
    have hbe : ((⟨s0, s1, s2, s3, s1⟩ : Box)).empty = false := by
      unfold Box.empty Span.empty
      simp only [Bool.or_eq_false_iff, decide_eq_false_iff_not]
      omega
    have hB : BoundS m cls (⟨s0, s1, s2, s3, ⟨0, 0⟩⟩ : Box) = some ⟨(boundP m cls (⟨s0, s1, s2, s3, ⟨0, 0⟩⟩ : Box)).1, (boundP m cls (⟨s0, s1, s2, s3, ⟨0, 0⟩⟩ : Box)).2, true⟩ := by
      unfold BoundS
      rw [part_of ⟨hm, hfo⟩, boundM, if_neg (by simp [hfe]; omega)]
    have hC : ChangeC m (⟨3, cls, ⟨s0, s1, s2, s3, ⟨0, 0⟩⟩, 0, 0, 1, falls, budget⟩ : Query) (⟨s0, s1, s2, s3, s1⟩ : Box) = some ⟨(boundP m cls (⟨s0, s1, s2, s3, ⟨0, 0⟩⟩ : Box)).1 - (boundP m cls (⟨s0, s1, s2, s3, ⟨0, 0⟩⟩ : Box)).2, (boundP m cls (⟨s0, s1, s2, s3, ⟨0, 0⟩⟩ : Box)).2 - (boundP m cls (⟨s0, s1, s2, s3, ⟨0, 0⟩⟩ : Box)).1, true⟩ := by
      unfold ChangeC
      rw [part_of ⟨hm, hbo⟩, change_some (m := m) hp hqs.1 hqs.2.1 hbe, hF, hS]
    have hle := boundP_le hm cls hfe
    generalize (boundP m cls (⟨s0, s1, s2, s3, ⟨0, 0⟩⟩ : Box)).1 = x at *
    generalize (boundP m cls (⟨s0, s1, s2, s3, ⟨0, 0⟩⟩ : Box)).2 = y at *
    have w1 : IntKind.i64.wrap (x - y) = x - y := wrap64 (by omega) (by omega)
    have w2 : IntKind.i64.wrap (y - x) = y - x := wrap64 (by omega) (by omega)
    have c1 : x - y ≤ 0 := by omega
    have c2 : 0 ≤ y - x := by omega
    have c3 : x ≤ y := by omega
    have hI : InsideC (⟨s0, s1, s2, s3, s1⟩ : Box) l = some (insideOf (⟨s0, s1, s2, s3, s1⟩ : Box) l) := part_of (by unfold small; simp only; omega) _
    have i0 := ins_small (s := s0) (by unfold small; omega) l 0
    have i1 := ins_small (s := s1) (by unfold small; omega) l 1
    have i2 := ins_small (s := s2) (by unfold small; omega) l 2
    have i3 := ins_small (s := s3) (by unfold small; omega) l 3
    have hoo : okB (oneB (insideOf (⟨s0, s1, s2, s3, s1⟩ : Box) l)) := by unfold okB okS64 ok64 oneB insideOf; simp only; omega
    generalize insideOf (⟨s0, s1, s2, s3, s1⟩ : Box) l = p at *
    have hF1 : firstB (⟨3, cls, ⟨s0, s1, s2, s3, ⟨0, 0⟩⟩, 0, 0, 1, falls, budget⟩ : Query) (⟨⟨p.p0, p.p0⟩, ⟨p.p1, p.p1⟩, ⟨p.p2, p.p2⟩, ⟨p.p3, p.p3⟩, ⟨p.p1, p.p1⟩⟩ : Box) = oneB p := rfl
    have hS1 : secondB (⟨3, cls, ⟨s0, s1, s2, s3, ⟨0, 0⟩⟩, 0, 0, 1, falls, budget⟩ : Query) (⟨⟨p.p0, p.p0⟩, ⟨p.p1, p.p1⟩, ⟨p.p2, p.p2⟩, ⟨p.p3, p.p3⟩, ⟨p.p1, p.p1⟩⟩ : Box) = oneB p := rfl
    have hO2 : okB (⟨⟨p.p0, p.p0⟩, ⟨p.p1, p.p1⟩, ⟨p.p2, p.p2⟩, ⟨p.p3, p.p3⟩, ⟨p.p1, p.p1⟩⟩ : Box) := by
      unfold okB okS64 ok64 oneB at *
      simp only at hoo ⊢
      omega
    have hOe : ((⟨⟨p.p0, p.p0⟩, ⟨p.p1, p.p1⟩, ⟨p.p2, p.p2⟩, ⟨p.p3, p.p3⟩, ⟨p.p1, p.p1⟩⟩ : Box)).empty = false := by
      unfold Box.empty Span.empty
      simp only [Bool.or_eq_false_iff, decide_eq_false_iff_not]
      omega
    have hC1 : ChangeC m (⟨3, cls, ⟨s0, s1, s2, s3, ⟨0, 0⟩⟩, 0, 0, 1, falls, budget⟩ : Query) (⟨⟨p.p0, p.p0⟩, ⟨p.p1, p.p1⟩, ⟨p.p2, p.p2⟩, ⟨p.p3, p.p3⟩, ⟨p.p1, p.p1⟩⟩ : Box) = some ⟨0, 0, true⟩ := by
      unfold ChangeC
      rw [part_of ⟨hm, hO2⟩, change_some (m := m) hp hqs.1 hqs.2.1 hOe, hF1, hS1, bound_one hm cls (one_in p) (fun q t h => one_only p q t h)]
      simp
    have hOr : orderedB (⟨3, cls, ⟨s0, s1, s2, s3, ⟨0, 0⟩⟩, 0, 0, 1, falls, budget⟩ : Query) (⟨⟨p.p0, p.p0⟩, ⟨p.p1, p.p1⟩, ⟨p.p2, p.p2⟩, ⟨p.p3, p.p3⟩, ⟨p.p1, p.p1⟩⟩ : Box) = false := by
      unfold orderedB
      rw [hOe]
      simp [Box.get]
    have hW : Within a.feature 0 (m.dim - 1) = some 1 := hW
    simp -implicitDefEqProofs [hM, hQ, wd, hW, hSt, hC, hF, hS, hB, w1, w2, c1, c2, c3, hI, hC1, hOr, run_round]
  · have hp : paired (⟨3, cls, ⟨s0, s1, s2, s3, ⟨0, 0⟩⟩, 0, 0, 2, falls, budget⟩ : Query) = true := rfl
    have hSt : startOf (⟨3, cls, ⟨s0, s1, s2, s3, ⟨0, 0⟩⟩, 0, 0, 2, falls, budget⟩ : Query) = (⟨s0, s1, s2, s3, s2⟩ : Box) := rfl
    have hF : firstB (⟨3, cls, ⟨s0, s1, s2, s3, ⟨0, 0⟩⟩, 0, 0, 2, falls, budget⟩ : Query) (⟨s0, s1, s2, s3, s2⟩ : Box) = (⟨s0, s1, s2, s3, ⟨0, 0⟩⟩ : Box) := rfl
    have hS : secondB (⟨3, cls, ⟨s0, s1, s2, s3, ⟨0, 0⟩⟩, 0, 0, 2, falls, budget⟩ : Query) (⟨s0, s1, s2, s3, s2⟩ : Box) = (⟨s0, s1, s2, s3, ⟨0, 0⟩⟩ : Box) := rfl
    have hbo : okB (⟨s0, s1, s2, s3, s2⟩ : Box) := by unfold okB okS64 ok64; simp only; omega
    have hfo : okB (⟨s0, s1, s2, s3, ⟨0, 0⟩⟩ : Box) := by unfold okB okS64 ok64; simp only; omega
    have hfe : ((⟨s0, s1, s2, s3, ⟨0, 0⟩⟩ : Box)).empty = false := by
      unfold Box.empty Span.empty
      simp only [Bool.or_eq_false_iff, decide_eq_false_iff_not]
      omega
    have hbe : ((⟨s0, s1, s2, s3, s2⟩ : Box)).empty = false := by
      unfold Box.empty Span.empty
      simp only [Bool.or_eq_false_iff, decide_eq_false_iff_not]
      omega
    have hB : BoundS m cls (⟨s0, s1, s2, s3, ⟨0, 0⟩⟩ : Box) = some ⟨(boundP m cls (⟨s0, s1, s2, s3, ⟨0, 0⟩⟩ : Box)).1, (boundP m cls (⟨s0, s1, s2, s3, ⟨0, 0⟩⟩ : Box)).2, true⟩ := by
      unfold BoundS
      rw [part_of ⟨hm, hfo⟩, boundM, if_neg (by simp [hfe]; omega)]
    have hC : ChangeC m (⟨3, cls, ⟨s0, s1, s2, s3, ⟨0, 0⟩⟩, 0, 0, 2, falls, budget⟩ : Query) (⟨s0, s1, s2, s3, s2⟩ : Box) = some ⟨(boundP m cls (⟨s0, s1, s2, s3, ⟨0, 0⟩⟩ : Box)).1 - (boundP m cls (⟨s0, s1, s2, s3, ⟨0, 0⟩⟩ : Box)).2, (boundP m cls (⟨s0, s1, s2, s3, ⟨0, 0⟩⟩ : Box)).2 - (boundP m cls (⟨s0, s1, s2, s3, ⟨0, 0⟩⟩ : Box)).1, true⟩ := by
      unfold ChangeC
      rw [part_of ⟨hm, hbo⟩, change_some (m := m) hp hqs.1 hqs.2.1 hbe, hF, hS]
    have hle := boundP_le hm cls hfe
    generalize (boundP m cls (⟨s0, s1, s2, s3, ⟨0, 0⟩⟩ : Box)).1 = x at *
    generalize (boundP m cls (⟨s0, s1, s2, s3, ⟨0, 0⟩⟩ : Box)).2 = y at *
    have w1 : IntKind.i64.wrap (x - y) = x - y := wrap64 (by omega) (by omega)
    have w2 : IntKind.i64.wrap (y - x) = y - x := wrap64 (by omega) (by omega)
    have c1 : x - y ≤ 0 := by omega
    have c2 : 0 ≤ y - x := by omega
    have c3 : x ≤ y := by omega
    have hI : InsideC (⟨s0, s1, s2, s3, s2⟩ : Box) l = some (insideOf (⟨s0, s1, s2, s3, s2⟩ : Box) l) := part_of (by unfold small; simp only; omega) _
    have i0 := ins_small (s := s0) (by unfold small; omega) l 0
    have i1 := ins_small (s := s1) (by unfold small; omega) l 1
    have i2 := ins_small (s := s2) (by unfold small; omega) l 2
    have i3 := ins_small (s := s3) (by unfold small; omega) l 3
    have hoo : okB (oneB (insideOf (⟨s0, s1, s2, s3, s2⟩ : Box) l)) := by unfold okB okS64 ok64 oneB insideOf; simp only; omega
    generalize insideOf (⟨s0, s1, s2, s3, s2⟩ : Box) l = p at *
    have hF1 : firstB (⟨3, cls, ⟨s0, s1, s2, s3, ⟨0, 0⟩⟩, 0, 0, 2, falls, budget⟩ : Query) (⟨⟨p.p0, p.p0⟩, ⟨p.p1, p.p1⟩, ⟨p.p2, p.p2⟩, ⟨p.p3, p.p3⟩, ⟨p.p2, p.p2⟩⟩ : Box) = oneB p := rfl
    have hS1 : secondB (⟨3, cls, ⟨s0, s1, s2, s3, ⟨0, 0⟩⟩, 0, 0, 2, falls, budget⟩ : Query) (⟨⟨p.p0, p.p0⟩, ⟨p.p1, p.p1⟩, ⟨p.p2, p.p2⟩, ⟨p.p3, p.p3⟩, ⟨p.p2, p.p2⟩⟩ : Box) = oneB p := rfl
    have hO2 : okB (⟨⟨p.p0, p.p0⟩, ⟨p.p1, p.p1⟩, ⟨p.p2, p.p2⟩, ⟨p.p3, p.p3⟩, ⟨p.p2, p.p2⟩⟩ : Box) := by
      unfold okB okS64 ok64 oneB at *
      simp only at hoo ⊢
      omega
    have hOe : ((⟨⟨p.p0, p.p0⟩, ⟨p.p1, p.p1⟩, ⟨p.p2, p.p2⟩, ⟨p.p3, p.p3⟩, ⟨p.p2, p.p2⟩⟩ : Box)).empty = false := by
      unfold Box.empty Span.empty
      simp only [Bool.or_eq_false_iff, decide_eq_false_iff_not]
      omega
    have hC1 : ChangeC m (⟨3, cls, ⟨s0, s1, s2, s3, ⟨0, 0⟩⟩, 0, 0, 2, falls, budget⟩ : Query) (⟨⟨p.p0, p.p0⟩, ⟨p.p1, p.p1⟩, ⟨p.p2, p.p2⟩, ⟨p.p3, p.p3⟩, ⟨p.p2, p.p2⟩⟩ : Box) = some ⟨0, 0, true⟩ := by
      unfold ChangeC
      rw [part_of ⟨hm, hO2⟩, change_some (m := m) hp hqs.1 hqs.2.1 hOe, hF1, hS1, bound_one hm cls (one_in p) (fun q t h => one_only p q t h)]
      simp
    have hOr : orderedB (⟨3, cls, ⟨s0, s1, s2, s3, ⟨0, 0⟩⟩, 0, 0, 2, falls, budget⟩ : Query) (⟨⟨p.p0, p.p0⟩, ⟨p.p1, p.p1⟩, ⟨p.p2, p.p2⟩, ⟨p.p3, p.p3⟩, ⟨p.p2, p.p2⟩⟩ : Box) = false := by
      unfold orderedB
      rw [hOe]
      simp [Box.get]
    have hW : Within a.feature 0 (m.dim - 1) = some 2 := hW
    simp -implicitDefEqProofs [hM, hQ, wd, hW, hSt, hC, hF, hS, hB, w1, w2, c1, c2, c3, hI, hC1, hOr, run_round]
  · have hp : paired (⟨3, cls, ⟨s0, s1, s2, s3, ⟨0, 0⟩⟩, 0, 0, 3, falls, budget⟩ : Query) = true := rfl
    have hSt : startOf (⟨3, cls, ⟨s0, s1, s2, s3, ⟨0, 0⟩⟩, 0, 0, 3, falls, budget⟩ : Query) = (⟨s0, s1, s2, s3, s3⟩ : Box) := rfl
    have hF : firstB (⟨3, cls, ⟨s0, s1, s2, s3, ⟨0, 0⟩⟩, 0, 0, 3, falls, budget⟩ : Query) (⟨s0, s1, s2, s3, s3⟩ : Box) = (⟨s0, s1, s2, s3, ⟨0, 0⟩⟩ : Box) := rfl
    have hS : secondB (⟨3, cls, ⟨s0, s1, s2, s3, ⟨0, 0⟩⟩, 0, 0, 3, falls, budget⟩ : Query) (⟨s0, s1, s2, s3, s3⟩ : Box) = (⟨s0, s1, s2, s3, ⟨0, 0⟩⟩ : Box) := rfl
    have hbo : okB (⟨s0, s1, s2, s3, s3⟩ : Box) := by unfold okB okS64 ok64; simp only; omega
    have hfo : okB (⟨s0, s1, s2, s3, ⟨0, 0⟩⟩ : Box) := by unfold okB okS64 ok64; simp only; omega
    have hfe : ((⟨s0, s1, s2, s3, ⟨0, 0⟩⟩ : Box)).empty = false := by
      unfold Box.empty Span.empty
      simp only [Bool.or_eq_false_iff, decide_eq_false_iff_not]
      omega
    have hbe : ((⟨s0, s1, s2, s3, s3⟩ : Box)).empty = false := by
      unfold Box.empty Span.empty
      simp only [Bool.or_eq_false_iff, decide_eq_false_iff_not]
      omega
    have hB : BoundS m cls (⟨s0, s1, s2, s3, ⟨0, 0⟩⟩ : Box) = some ⟨(boundP m cls (⟨s0, s1, s2, s3, ⟨0, 0⟩⟩ : Box)).1, (boundP m cls (⟨s0, s1, s2, s3, ⟨0, 0⟩⟩ : Box)).2, true⟩ := by
      unfold BoundS
      rw [part_of ⟨hm, hfo⟩, boundM, if_neg (by simp [hfe]; omega)]
    have hC : ChangeC m (⟨3, cls, ⟨s0, s1, s2, s3, ⟨0, 0⟩⟩, 0, 0, 3, falls, budget⟩ : Query) (⟨s0, s1, s2, s3, s3⟩ : Box) = some ⟨(boundP m cls (⟨s0, s1, s2, s3, ⟨0, 0⟩⟩ : Box)).1 - (boundP m cls (⟨s0, s1, s2, s3, ⟨0, 0⟩⟩ : Box)).2, (boundP m cls (⟨s0, s1, s2, s3, ⟨0, 0⟩⟩ : Box)).2 - (boundP m cls (⟨s0, s1, s2, s3, ⟨0, 0⟩⟩ : Box)).1, true⟩ := by
      unfold ChangeC
      rw [part_of ⟨hm, hbo⟩, change_some (m := m) hp hqs.1 hqs.2.1 hbe, hF, hS]
    have hle := boundP_le hm cls hfe
    generalize (boundP m cls (⟨s0, s1, s2, s3, ⟨0, 0⟩⟩ : Box)).1 = x at *
    generalize (boundP m cls (⟨s0, s1, s2, s3, ⟨0, 0⟩⟩ : Box)).2 = y at *
    have w1 : IntKind.i64.wrap (x - y) = x - y := wrap64 (by omega) (by omega)
    have w2 : IntKind.i64.wrap (y - x) = y - x := wrap64 (by omega) (by omega)
    have c1 : x - y ≤ 0 := by omega
    have c2 : 0 ≤ y - x := by omega
    have c3 : x ≤ y := by omega
    have hI : InsideC (⟨s0, s1, s2, s3, s3⟩ : Box) l = some (insideOf (⟨s0, s1, s2, s3, s3⟩ : Box) l) := part_of (by unfold small; simp only; omega) _
    have i0 := ins_small (s := s0) (by unfold small; omega) l 0
    have i1 := ins_small (s := s1) (by unfold small; omega) l 1
    have i2 := ins_small (s := s2) (by unfold small; omega) l 2
    have i3 := ins_small (s := s3) (by unfold small; omega) l 3
    have hoo : okB (oneB (insideOf (⟨s0, s1, s2, s3, s3⟩ : Box) l)) := by unfold okB okS64 ok64 oneB insideOf; simp only; omega
    generalize insideOf (⟨s0, s1, s2, s3, s3⟩ : Box) l = p at *
    have hF1 : firstB (⟨3, cls, ⟨s0, s1, s2, s3, ⟨0, 0⟩⟩, 0, 0, 3, falls, budget⟩ : Query) (⟨⟨p.p0, p.p0⟩, ⟨p.p1, p.p1⟩, ⟨p.p2, p.p2⟩, ⟨p.p3, p.p3⟩, ⟨p.p3, p.p3⟩⟩ : Box) = oneB p := rfl
    have hS1 : secondB (⟨3, cls, ⟨s0, s1, s2, s3, ⟨0, 0⟩⟩, 0, 0, 3, falls, budget⟩ : Query) (⟨⟨p.p0, p.p0⟩, ⟨p.p1, p.p1⟩, ⟨p.p2, p.p2⟩, ⟨p.p3, p.p3⟩, ⟨p.p3, p.p3⟩⟩ : Box) = oneB p := rfl
    have hO2 : okB (⟨⟨p.p0, p.p0⟩, ⟨p.p1, p.p1⟩, ⟨p.p2, p.p2⟩, ⟨p.p3, p.p3⟩, ⟨p.p3, p.p3⟩⟩ : Box) := by
      unfold okB okS64 ok64 oneB at *
      simp only at hoo ⊢
      omega
    have hOe : ((⟨⟨p.p0, p.p0⟩, ⟨p.p1, p.p1⟩, ⟨p.p2, p.p2⟩, ⟨p.p3, p.p3⟩, ⟨p.p3, p.p3⟩⟩ : Box)).empty = false := by
      unfold Box.empty Span.empty
      simp only [Bool.or_eq_false_iff, decide_eq_false_iff_not]
      omega
    have hC1 : ChangeC m (⟨3, cls, ⟨s0, s1, s2, s3, ⟨0, 0⟩⟩, 0, 0, 3, falls, budget⟩ : Query) (⟨⟨p.p0, p.p0⟩, ⟨p.p1, p.p1⟩, ⟨p.p2, p.p2⟩, ⟨p.p3, p.p3⟩, ⟨p.p3, p.p3⟩⟩ : Box) = some ⟨0, 0, true⟩ := by
      unfold ChangeC
      rw [part_of ⟨hm, hO2⟩, change_some (m := m) hp hqs.1 hqs.2.1 hOe, hF1, hS1, bound_one hm cls (one_in p) (fun q t h => one_only p q t h)]
      simp
    have hOr : orderedB (⟨3, cls, ⟨s0, s1, s2, s3, ⟨0, 0⟩⟩, 0, 0, 3, falls, budget⟩ : Query) (⟨⟨p.p0, p.p0⟩, ⟨p.p1, p.p1⟩, ⟨p.p2, p.p2⟩, ⟨p.p3, p.p3⟩, ⟨p.p3, p.p3⟩⟩ : Box) = false := by
      unfold orderedB
      rw [hOe]
      simp [Box.get]
    have hW : Within a.feature 0 (m.dim - 1) = some 3 := hW
    simp -implicitDefEqProofs [hM, hQ, wd, hW, hSt, hC, hF, hS, hB, w1, w2, c1, c2, c3, hI, hC1, hOr, run_round]
def law_sp : List AV → Option AV := sp3 fun (_ : Forest) (_ : Ask) (_ : List Int) => some true
theorem law_holds : Contract Try.prog 11 law_sp :=
  contract_of_runs mixed (tbl_cons c_Model (tbl_cons c_Query (tbl_cons c_Within (tbl_cons c_Start (tbl_cons c_Change (tbl_cons c_First (tbl_cons c_cSecond (tbl_cons c_rSum (tbl_cons c_Inside (tbl_cons c_Ordered (tbl_cons c_closed6 tbl_nil))))))))))) Try.func11 m11 (sp3_runs runs_law)
theorem law_says (f : Forest) (a : Ask) (l : List Int) : law_sp [Arg.enc f, Arg.enc a, Arg.enc l] = some (.bool true) := by
  simp only [law_sp, sp3, Arg.dec_enc, Option.bind_some]
  rfl
end Go.Co
