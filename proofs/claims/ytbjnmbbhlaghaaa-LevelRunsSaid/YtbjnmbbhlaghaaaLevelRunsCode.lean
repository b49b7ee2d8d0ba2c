/- The code of the functions that this claim reaches, as AM reads it (written by a program of ours). -/
import Derived.Test.YtbjnmbbhlaghaaaAmDefs
namespace Go.Am
/-- copse/copselaw16.LevelRuns -/
def c20 : ACode :=
 .seq (
  .ops [⟨some 0, .mv (.c (.bool false)), none, []⟩] [0]) (
  .seq (
   .ops [⟨some 9, .call 43 [], none, []⟩,
     ⟨some 1, .alloc [.int .i64 0, .int .i64 0, .int .i64 0, .int .i64 0, .int .i64 0, .nils], none, []⟩,
     ⟨none, .store (.t 1) 6 (.t 9), none, [1]⟩] [9]) (
   .seq (
    .ops [⟨some 10, .build [.int .i64 0, .int .i64 0, .int .i64 0] [], none, []⟩,
      ⟨some 11, .fad (.t 1) 2, none, [1]⟩,
      ⟨none, .store (.t 11) 3 (.t 10), none, [1]⟩] [10, 11]) (
    .seq (
     .ops [⟨some 12, .call 81 [.c (.int .i64 5), .c (.int .i64 1), .c (.int .i64 (-1))], none, []⟩,
       ⟨some 13, .build [.int .i64 0, .nils] [(1, 1, .t 12)], none, []⟩,
       ⟨some 14, .call 81 [.c (.int .i64 5), .c (.int .i64 (-1)), .c (.int .i64 1)], none, []⟩,
       ⟨some 15, .build [.int .i64 0, .nils] [(1, 1, .t 14)], none, []⟩,
       ⟨some 16, .mkrow 10105 2 2 [.int .i64 0, .nils] [(0, 2, .t 13), (2, 2, .t 15)], none, []⟩,
       ⟨some 17, .fad (.t 1) 5, none, [1]⟩,
       ⟨none, .store (.t 17) 1 (.t 16), none, [1]⟩] [12, 13, 14, 15, 16, 17]) (
     .seq (
      .ops [⟨some 18, .build [.int .i64 0, .int .i64 0] [(0, 1, .c (.int .i64 0)), (1, 1, .c (.int .i64 9))], none, []⟩,
        ⟨some 19, .build [.int .i64 0, .int .i64 0, .int .i64 0, .int .i64 0, .int .i64 0, .int .i64 0, .int .i64 0, .int .i64 0, .int .i64 0, .int .i64 0] [(0, 2, .t 18)], none, []⟩,
        ⟨some 2, .alloc [.int .i64 0, .int .i64 0, .int .i64 0, .int .i64 0, .int .i64 0, .int .i64 0, .int .i64 0, .int .i64 0, .int .i64 0, .int .i64 0], none, []⟩,
        ⟨none, .store (.t 2) 10 (.t 19), none, [2]⟩] [18, 19]) (
      .seq (
       .ops [⟨some 21, .load 6 true (.t 1), none, [1]⟩,
         ⟨some 22, .load 10 true (.t 2), none, [2]⟩,
         ⟨some 23, .call 82 [.t 21, .c (.int .i64 0), .t 22, .c (.int .i64 9)], none, [10105]⟩,
         ⟨some 20, .mv (.t 23), none, []⟩,
         ⟨some 24, .ext (.t 20) 0, none, []⟩,
         ⟨some 25, .ext (.t 20) 1, none, []⟩,
         ⟨some 26, .ext (.t 20) 2, none, []⟩,
         ⟨some 3, .mv (.t 24), none, []⟩,
         ⟨some 4, .mv (.t 25), none, []⟩,
         ⟨some 5, .mv (.t 26), none, []⟩] [20, 21, 22, 23, 24, 25, 26]) (
       .seq (
        .ops [⟨some 28, .load 6 true (.t 1), none, [1]⟩,
          ⟨some 29, .load 10 true (.t 2), none, [2]⟩,
          ⟨some 30, .call 82 [.t 28, .c (.int .i64 0), .t 29, .c (.int .i64 1)], none, [10105]⟩,
          ⟨some 27, .mv (.t 30), none, []⟩,
          ⟨some 31, .ext (.t 27) 0, none, []⟩,
          ⟨some 32, .ext (.t 27) 1, none, []⟩,
          ⟨some 33, .ext (.t 27) 2, none, []⟩,
          ⟨some 6, .mv (.t 31), none, []⟩,
          ⟨some 7, .mv (.t 32), none, []⟩,
          ⟨some 8, .mv (.t 33), none, []⟩] [27, 28, 29, 30, 31, 32, 33]) (
        .seq (
         .ops [⟨some 34, .mv (.t 3), none, []⟩,
           ⟨some 35, .bin .eql (.t 34) (.c (.int .i64 0)), none, []⟩,
           ⟨some 36, .mv (.t 35), none, []⟩,
           ⟨some 37, .mv (.t 4), some (36, true), []⟩,
           ⟨some 38, .bin .eql (.t 37) (.c (.int .i64 0)), some (36, true), []⟩,
           ⟨some 39, .pick (.t 36) (.t 38) (.c (.bool false)), none, []⟩,
           ⟨some 40, .mv (.t 39), none, []⟩,
           ⟨some 41, .mv (.t 5), some (40, true), []⟩,
           ⟨some 42, .pick (.t 40) (.t 41) (.c (.bool false)), none, []⟩,
           ⟨some 43, .mv (.t 42), none, []⟩,
           ⟨some 44, .mv (.t 6), some (43, true), []⟩,
           ⟨some 45, .bin .eql (.t 44) (.c (.int .i64 (-2))), some (43, true), []⟩,
           ⟨some 46, .pick (.t 43) (.t 45) (.c (.bool false)), none, []⟩,
           ⟨some 47, .mv (.t 46), none, []⟩,
           ⟨some 48, .mv (.t 7), some (47, true), []⟩,
           ⟨some 49, .bin .eql (.t 48) (.c (.int .i64 2)), some (47, true), []⟩,
           ⟨some 50, .pick (.t 47) (.t 49) (.c (.bool false)), none, []⟩,
           ⟨some 51, .mv (.t 50), none, []⟩,
           ⟨some 52, .mv (.t 8), some (51, true), []⟩,
           ⟨some 53, .un .not (.t 52), some (51, true), []⟩,
           ⟨some 54, .pick (.t 51) (.t 53) (.c (.bool false)), none, []⟩,
           ⟨some 55, .mv (.t 54), none, []⟩,
           ⟨some 56, .load 6 true (.t 1), some (55, true), [1]⟩,
           ⟨some 57, .load 10 true (.t 2), some (55, true), [2]⟩,
           ⟨some 58, .call 84 [.t 56, .c (.int .i64 0), .t 57, .c (.int .i64 9)], some (55, true), [10105]⟩,
           ⟨some 59, .mkrow 59 2 1 [.int .i64 0] [(0, 1, .c (.int .i64 2)), (1, 1, .c (.int .i64 1))], some (55, true), []⟩,
           ⟨some 60, .call 83 [.t 58, .t 59], some (55, true), [59]⟩,
           ⟨some 61, .pick (.t 55) (.t 60) (.c (.bool false)), none, []⟩,
           ⟨some 62, .mv (.t 61), none, []⟩,
           ⟨some 63, .load 6 true (.t 1), some (62, true), [1]⟩,
           ⟨some 64, .load 10 true (.t 2), some (62, true), [2]⟩,
           ⟨some 65, .call 84 [.t 63, .c (.int .i64 0), .t 64, .c (.int .i64 1)], some (62, true), [10105]⟩,
           ⟨some 66, .mkrow 66 1 1 [.int .i64 0] [(0, 1, .c (.int .i64 2))], some (62, true), []⟩,
           ⟨some 67, .call 83 [.t 65, .t 66], some (62, true), [66]⟩,
           ⟨some 68, .pick (.t 62) (.t 67) (.c (.bool false)), none, []⟩,
           ⟨some 0, .mv (.t 68), none, []⟩] [1, 2, 3, 4, 5, 6, 7, 8, 34, 35, 36, 37, 38, 39, 40, 41, 42, 43, 44, 45, 46, 47, 48, 49, 50, 51, 52, 53, 54, 55, 56, 57, 58, 59, 60, 61, 62, 63, 64, 65, 66, 67, 68]) (
         .ret))))))))
def a20 : AFun := ⟨0, 69, c20, [.t 0]⟩

/-- copse/copsekeep.Three -/
def c43 : ACode :=
 .seq (
  .ops [⟨some 0, .alloc [.int .i64 0, .int .i64 0, .int .i64 0, .int .i64 0, .int .i64 0, .nils], none, []⟩] []) (
  .seq (
   .ops [⟨some 2, .build [.bool false, .int .i64 0, .int .i64 0, .int .i64 0, .int .i64 0, .int .i64 0] [(3, 1, .c (.int .i64 5)), (4, 1, .c (.int .i64 1)), (5, 1, .c (.int .i64 2))], none, []⟩,
     ⟨some 3, .call 111 [.t 2], none, []⟩,
     ⟨some 4, .build [.bool false, .int .i64 0, .int .i64 0, .int .i64 0, .int .i64 0, .int .i64 0] [(0, 1, .c (.bool true)), (1, 1, .c (.int .i64 10))], none, []⟩,
     ⟨some 5, .call 111 [.t 4], none, []⟩,
     ⟨some 6, .build [.bool false, .int .i64 0, .int .i64 0, .int .i64 0, .int .i64 0, .int .i64 0] [(0, 1, .c (.bool true)), (1, 1, .c (.int .i64 20))], none, []⟩,
     ⟨some 7, .call 111 [.t 6], none, []⟩,
     ⟨some 8, .mkrow 1 3 1 [.int .u64 0] [(0, 1, .t 3), (1, 1, .t 5), (2, 1, .t 7)], none, []⟩,
     ⟨some 1, .mv (.t 8), none, []⟩] [2, 3, 4, 5, 6, 7, 8]) (
   .seq (
    .ops [⟨some 9, .build [.int .i64 0, .int .i64 0, .int .i64 0] [(0, 1, .c (.int .i64 3))], none, []⟩,
      ⟨some 10, .mv (.t 1), none, []⟩,
      ⟨some 11, .build [.int .i64 0, .nils] [(1, 1, .t 10)], none, []⟩,
      ⟨some 12, .mkrow 12 1 2 [.int .i64 0, .nils] [(0, 2, .t 11)], none, []⟩,
      ⟨some 13, .build [.int .i64 0, .int .i64 0, .int .i64 0, .int .i64 0, .int .i64 0, .nils] [(0, 1, .c (.int .i64 1)), (1, 1, .c (.int .i64 1)), (2, 3, .t 9), (5, 1, .t 12)], none, []⟩,
      ⟨none, .store (.t 0) 6 (.t 13), none, [0]⟩] [1, 9, 10, 11, 12, 13]) (
    .ret)))
def a43 : AFun := ⟨0, 14, c43, [.cell 0 6 true]⟩

/-- copse/bound.Sum -/
def a44_0 : ACode := .keep [1, 5, 9, 10, 42, 43, 44] [5] (
 .seq (
  .ops [⟨some 45, .bin .lss (.t 44) (.t 43), none, []⟩] []) (
  .seq (
   .cond (.t 45) (
    .skip) (
    .exit 0)) (
   .seq (
    .block 1 (
     .seq (
      .ops [⟨some 46, .ias (.t 42) (.t 44) 2, none, []⟩,
        ⟨some 47, .load 2 true (.t 46), none, []⟩,
        ⟨some 12, .alloc [.int .i64 0, .nils], none, []⟩,
        ⟨none, .store (.t 12) 2 (.t 47), none, [12]⟩] [46, 47]) (
      .seq (
       .seq (
        .ops [⟨some 48, .fad (.t 12) 0, none, [12]⟩,
          ⟨some 49, .load 1 false (.t 48), none, [12]⟩,
          ⟨some 50, .mv (.t 1), none, []⟩,
          ⟨some 51, .bin .neq (.t 49) (.t 50), none, []⟩] [48, 49, 50]) (
        .cond (.t 51) (
         .exit 1) (
         .skip))) (
       .seq (
        .ops [⟨some 53, .fad (.t 12) 1, none, [12]⟩,
          ⟨some 54, .load 1 false (.t 53), none, [12]⟩,
          ⟨some 55, .load 10 true (.t 5), none, [5]⟩,
          ⟨some 56, .call 48 [.t 54, .t 55], none, []⟩,
          ⟨some 52, .mv (.t 56), none, []⟩,
          ⟨some 57, .ext (.t 52) 0, none, []⟩,
          ⟨some 58, .ext (.t 52) 1, none, []⟩,
          ⟨some 59, .ext (.t 52) 2, none, []⟩,
          ⟨some 13, .mv (.t 57), none, []⟩,
          ⟨some 14, .mv (.t 58), none, []⟩,
          ⟨some 15, .mv (.t 59), none, []⟩] [12, 15, 52, 53, 54, 55, 56, 57, 58, 59]) (
        .ops [⟨some 60, .mv (.t 9), none, []⟩,
          ⟨some 61, .mv (.t 13), none, []⟩,
          ⟨some 62, .bin .add (.t 60) (.t 61), none, []⟩,
          ⟨some 63, .mv (.t 10), none, []⟩,
          ⟨some 64, .mv (.t 14), none, []⟩,
          ⟨some 65, .bin .add (.t 63) (.t 64), none, []⟩,
          ⟨some 9, .mv (.t 62), none, []⟩,
          ⟨some 10, .mv (.t 65), none, []⟩] [13, 14, 60, 61, 62, 63, 64, 65]))))) (
    .ops [⟨some 66, .bin .add (.t 44) (.c (.int .i64 1)), none, []⟩,
      ⟨some 44, .mv (.t 66), none, []⟩] [66]))))
def c44 : ACode :=
 .seq (
  .ops [⟨some 3, .box (.t 0) 6, none, []⟩,
    ⟨some 5, .box (.t 2) 10, none, []⟩,
    ⟨some 6, .mv (.c (.int .i64 0)), none, []⟩,
    ⟨some 7, .mv (.c (.int .i64 0)), none, []⟩,
    ⟨some 8, .mv (.c (.bool false)), none, []⟩] [0, 2, 6, 7, 8]) (
  .seq (
   .seq (
    .ops [⟨some 16, .load 6 true (.t 3), none, [3]⟩,
      ⟨some 17, .call 71 [.t 16], none, []⟩,
      ⟨some 18, .un .not (.t 17), none, []⟩,
      ⟨some 19, .mv (.t 18), none, []⟩,
      ⟨some 20, .mv (.t 1), some (19, false), []⟩,
      ⟨some 21, .bin .lss (.t 20) (.c (.int .i64 0)), some (19, false), []⟩,
      ⟨some 22, .pick (.t 19) (.c (.bool true)) (.t 21), none, []⟩,
      ⟨some 23, .mv (.t 22), none, []⟩,
      ⟨some 24, .mv (.t 1), some (23, false), []⟩,
      ⟨some 25, .fad (.t 3) 1, some (23, false), [3]⟩,
      ⟨some 26, .load 1 false (.t 25), some (23, false), [3]⟩,
      ⟨some 27, .bin .geq (.t 24) (.t 26), some (23, false), []⟩,
      ⟨some 28, .pick (.t 23) (.c (.bool true)) (.t 27), none, []⟩,
      ⟨some 29, .mv (.t 28), none, []⟩,
      ⟨some 30, .load 10 true (.t 5), some (29, false), [5]⟩,
      ⟨some 31, .call 68 [.t 30], some (29, false), []⟩,
      ⟨some 32, .pick (.t 29) (.c (.bool true)) (.t 31), none, []⟩] [16, 17, 18, 19, 20, 21, 22, 23, 24, 25, 26, 27, 28, 29, 30, 31]) (
    .cond (.t 32) (
     .seq (
      .ops [⟨some 6, .mv (.c (.int .i64 0)), none, []⟩,
        ⟨some 7, .mv (.c (.int .i64 0)), none, []⟩,
        ⟨some 8, .mv (.c (.bool false)), none, []⟩] []) (
      .ret)) (
     .skip))) (
   .seq (
    .ops [⟨some 33, .mv (.t 1), none, []⟩,
      ⟨some 34, .fad (.t 3) 2, none, [3]⟩,
      ⟨some 35, .iad (.t 34) (.t 33) 1 3, none, [3]⟩,
      ⟨some 36, .load 1 false (.t 35), none, [3]⟩,
      ⟨some 37, .mv (.t 1), none, []⟩,
      ⟨some 38, .fad (.t 3) 2, none, [3]⟩,
      ⟨some 39, .iad (.t 38) (.t 37) 1 3, none, [3]⟩,
      ⟨some 40, .load 1 false (.t 39), none, [3]⟩,
      ⟨some 9, .mv (.t 36), none, []⟩,
      ⟨some 10, .mv (.t 40), none, []⟩] [33, 34, 35, 36, 37, 38, 39, 40]) (
    .seq (
     .seq (
      .ops [⟨some 41, .fad (.t 3) 5, none, [3]⟩,
        ⟨some 42, .load 1 false (.t 41), none, [3]⟩,
        ⟨some 43, .len (.t 42), none, []⟩,
        ⟨some 44, .mv (.c (.int .i64 0)), none, []⟩] [3, 41]) (
      .block 0 (
       .loop a44_0))) (
     .seq (
      .ops [⟨some 67, .mv (.t 9), none, []⟩,
        ⟨some 68, .mv (.t 10), none, []⟩,
        ⟨some 6, .mv (.t 67), none, []⟩,
        ⟨some 7, .mv (.t 68), none, []⟩,
        ⟨some 8, .mv (.c (.bool true)), none, []⟩] [9, 10, 67, 68]) (
      .ret)))))
def a44 : AFun := ⟨3, 69, c44, [.t 6, .t 7, .t 8]⟩

/-- copse/bound.Tree -/
def a48_0 : ACode := .keep [8, 9, 26, 27, 28] [] (
 .seq (
  .ops [⟨some 29, .bin .lss (.t 28) (.t 27), none, []⟩] []) (
  .seq (
   .cond (.t 29) (
    .skip) (
    .exit 0)) (
   .seq (
    .block 1 (
     .seq (
      .ops [⟨some 30, .ias (.t 26) (.t 28) 11, none, []⟩,
        ⟨some 31, .load 11 true (.t 30), none, []⟩,
        ⟨some 11, .alloc [.int .i64 0, .int .i64 0, .int .i64 0, .int .i64 0, .int .i64 0, .int .i64 0, .int .i64 0, .int .i64 0, .int .i64 0, .int .i64 0, .int .i64 0], none, []⟩,
        ⟨none, .store (.t 11) 11 (.t 31), none, [11]⟩] [30, 31]) (
      .ops [⟨some 32, .mv (.t 8), none, []⟩,
        ⟨some 33, .fad (.t 11) 10, none, [11]⟩,
        ⟨some 34, .load 1 false (.t 33), none, [11]⟩,
        ⟨some 35, .mnmx false (.t 32) (.t 34), none, []⟩,
        ⟨some 36, .mv (.t 9), none, []⟩,
        ⟨some 37, .fad (.t 11) 10, none, [11]⟩,
        ⟨some 38, .load 1 false (.t 37), none, [11]⟩,
        ⟨some 39, .mnmx true (.t 36) (.t 38), none, []⟩,
        ⟨some 8, .mv (.t 35), none, []⟩,
        ⟨some 9, .mv (.t 39), none, []⟩] [11, 32, 33, 34, 35, 36, 37, 38, 39]))) (
    .ops [⟨some 40, .bin .add (.t 28) (.c (.int .i64 1)), none, []⟩,
      ⟨some 28, .mv (.t 40), none, []⟩] [40]))))
def c48 : ACode :=
 .seq (
  .ops [⟨some 3, .box (.t 1) 10, none, []⟩,
    ⟨some 4, .mv (.c (.int .i64 0)), none, []⟩,
    ⟨some 5, .mv (.c (.int .i64 0)), none, []⟩,
    ⟨some 6, .mv (.c (.bool false)), none, []⟩] [1, 4, 5, 6]) (
  .seq (
   .ops [⟨some 12, .mv (.t 0), none, []⟩,
     ⟨some 13, .load 10 true (.t 3), none, [3]⟩,
     ⟨some 14, .call 51 [.t 12, .t 13], none, []⟩,
     ⟨some 7, .mv (.t 14), none, []⟩] [0, 3, 12, 13, 14]) (
   .seq (
    .seq (
     .ops [⟨some 15, .mv (.t 7), none, []⟩,
       ⟨some 16, .len (.t 15), none, []⟩,
       ⟨some 17, .bin .eql (.t 16) (.c (.int .i64 0)), none, []⟩] [15, 16]) (
     .cond (.t 17) (
      .seq (
       .ops [⟨some 4, .mv (.c (.int .i64 0)), none, []⟩,
         ⟨some 5, .mv (.c (.int .i64 0)), none, []⟩,
         ⟨some 6, .mv (.c (.bool false)), none, []⟩] []) (
       .ret)) (
      .skip))) (
    .seq (
     .ops [⟨some 18, .mv (.t 7), none, []⟩,
       ⟨some 19, .ias (.t 18) (.c (.int .i64 0)) 11, none, []⟩,
       ⟨some 20, .fad (.t 19) 10, none, []⟩,
       ⟨some 21, .load 1 false (.t 20), none, []⟩,
       ⟨some 22, .mv (.t 7), none, []⟩,
       ⟨some 23, .ias (.t 22) (.c (.int .i64 0)) 11, none, []⟩,
       ⟨some 24, .fad (.t 23) 10, none, []⟩,
       ⟨some 25, .load 1 false (.t 24), none, []⟩,
       ⟨some 8, .mv (.t 21), none, []⟩,
       ⟨some 9, .mv (.t 25), none, []⟩] [18, 19, 20, 21, 22, 23, 24, 25]) (
     .seq (
      .seq (
       .ops [⟨some 26, .mv (.t 7), none, []⟩,
         ⟨some 27, .len (.t 26), none, []⟩,
         ⟨some 28, .mv (.c (.int .i64 0)), none, []⟩] [7]) (
       .block 0 (
        .loop a48_0))) (
      .seq (
       .ops [⟨some 41, .mv (.t 8), none, []⟩,
         ⟨some 42, .mv (.t 9), none, []⟩,
         ⟨some 4, .mv (.t 41), none, []⟩,
         ⟨some 5, .mv (.t 42), none, []⟩,
         ⟨some 6, .mv (.c (.bool true)), none, []⟩] [8, 9, 41, 42]) (
       .ret))))))
def a48 : AFun := ⟨2, 43, c48, [.t 4, .t 5, .t 6]⟩

/-- copse/leaves.List -/
def a51_0 : ACode := .keep [5, 6, 24, 25, 26] [5, 6] (
 .seq (
  .ops [⟨some 27, .bin .lss (.t 26) (.t 25), none, []⟩] []) (
  .seq (
   .cond (.t 27) (
    .skip) (
    .exit 0)) (
   .seq (
    .block 1 (
     .seq (
      .ops [⟨some 28, .mv (.t 26), none, []⟩,
        ⟨some 29, .ias (.t 24) (.t 26) 1, none, []⟩,
        ⟨some 30, .load 1 false (.t 29), none, []⟩,
        ⟨some 7, .mv (.t 28), none, []⟩,
        ⟨some 8, .mv (.t 30), none, []⟩] [28, 29, 30]) (
      .seq (
       .ops [⟨some 32, .mv (.t 8), none, []⟩,
         ⟨some 33, .call 77 [.t 32], none, []⟩,
         ⟨some 31, .mv (.t 33), none, []⟩,
         ⟨some 34, .ext (.t 31) 0, none, []⟩,
         ⟨some 35, .ext (.t 31) 1, none, []⟩,
         ⟨some 9, .alloc [.bool false, .int .i64 0, .int .i64 0, .int .i64 0, .int .i64 0, .int .i64 0], none, []⟩,
         ⟨none, .store (.t 9) 6 (.t 34), none, [9]⟩,
         ⟨some 10, .mv (.t 35), none, []⟩] [8, 10, 31, 32, 33, 34, 35]) (
       .block 2 (
        .seq (
         .ops [⟨some 37, .fad (.t 9) 0, none, [9]⟩,
           ⟨some 38, .load 1 false (.t 37), none, [9]⟩,
           ⟨some 39, .un .not (.t 38), none, []⟩,
           ⟨some 36, .mv (.t 39), none, []⟩] [37, 38, 39]) (
         .cond (.t 36) (
          .ops [⟨some 41, .mv (.t 5), none, []⟩,
            ⟨some 42, .fad (.t 9) 4, none, [9]⟩,
            ⟨some 43, .load 1 false (.t 42), none, [9]⟩,
            ⟨some 44, .mv (.t 5), none, []⟩,
            ⟨some 45, .fad (.t 9) 5, none, [9]⟩,
            ⟨some 46, .load 1 false (.t 45), none, [9]⟩,
            ⟨some 47, .mv (.t 5), none, []⟩,
            ⟨some 48, .mv (.t 7), none, []⟩,
            ⟨some 49, .ias (.t 47) (.t 48) 10, none, [5]⟩,
            ⟨some 50, .load 10 true (.t 49), none, [5]⟩,
            ⟨some 51, .fad (.t 9) 2, none, [9]⟩,
            ⟨some 52, .load 1 false (.t 51), none, [9]⟩,
            ⟨some 53, .fad (.t 9) 3, none, [9]⟩,
            ⟨some 54, .load 1 false (.t 53), none, [9]⟩,
            ⟨some 55, .call 67 [.t 50, .t 52, .t 54], none, []⟩,
            ⟨some 40, .mv (.t 55), none, []⟩,
            ⟨some 56, .ext (.t 40) 0, none, []⟩,
            ⟨some 57, .ext (.t 40) 1, none, []⟩,
            ⟨some 58, .ias (.t 41) (.t 43) 10, none, [5]⟩,
            ⟨none, .store (.t 58) 10 (.t 56), none, [5]⟩,
            ⟨some 59, .ias (.t 44) (.t 46) 10, none, [5]⟩,
            ⟨none, .store (.t 59) 10 (.t 57), none, [5]⟩] [7, 9, 40, 41, 42, 43, 44, 45, 46, 47, 48, 49, 50, 51, 52, 53, 54, 55, 56, 57, 58, 59]) (
          .seq (
           .ops [⟨some 61, .mv (.t 5), none, []⟩,
             ⟨some 62, .mv (.t 7), none, []⟩,
             ⟨some 63, .ias (.t 61) (.t 62) 10, none, [5]⟩,
             ⟨some 64, .load 10 true (.t 63), none, [5]⟩,
             ⟨some 65, .call 68 [.t 64], none, []⟩,
             ⟨some 66, .un .not (.t 65), none, []⟩,
             ⟨some 60, .mv (.t 66), none, []⟩] [61, 62, 63, 64, 65, 66]) (
           .cond (.t 60) (
            .ops [⟨some 67, .mv (.t 6), none, []⟩,
              ⟨some 68, .mv (.t 5), none, []⟩,
              ⟨some 69, .mv (.t 7), none, []⟩,
              ⟨some 70, .ias (.t 68) (.t 69) 10, none, [5]⟩,
              ⟨some 71, .load 10 true (.t 70), none, [5]⟩,
              ⟨some 72, .fad (.t 9) 1, none, [9]⟩,
              ⟨some 73, .load 1 false (.t 72), none, [9]⟩,
              ⟨some 74, .build [.int .i64 0, .int .i64 0, .int .i64 0, .int .i64 0, .int .i64 0, .int .i64 0, .int .i64 0, .int .i64 0, .int .i64 0, .int .i64 0, .int .i64 0] [(0, 10, .t 71), (10, 1, .t 73)], none, []⟩,
              ⟨some 75, .mkrow 75 1 11 [.int .i64 0, .int .i64 0, .int .i64 0, .int .i64 0, .int .i64 0, .int .i64 0, .int .i64 0, .int .i64 0, .int .i64 0, .int .i64 0, .int .i64 0] [(0, 11, .t 74)], none, []⟩,
              ⟨some 76, .app 6 (.t 67) (.t 75) 11, none, [6, 75]⟩,
              ⟨some 6, .mv (.t 76), none, []⟩] [7, 9, 67, 68, 69, 70, 71, 72, 73, 74, 75, 76]) (
            .skip))))))))) (
    .ops [⟨some 77, .bin .add (.t 26) (.c (.int .i64 1)), none, []⟩,
      ⟨some 26, .mv (.t 77), none, []⟩] [77]))))
def c51 : ACode :=
 .seq (
  .ops [⟨some 3, .box (.t 1) 10, none, []⟩,
    ⟨some 4, .mv (.c (.nils)), none, []⟩] [1, 4]) (
  .seq (
   .seq (
    .ops [⟨some 11, .mv (.t 0), none, []⟩,
      ⟨some 12, .call 76 [.t 11, .c (.int .i64 4)], none, []⟩,
      ⟨some 13, .un .not (.t 12), none, []⟩,
      ⟨some 14, .mv (.t 13), none, []⟩,
      ⟨some 15, .load 10 true (.t 3), some (14, false), [3]⟩,
      ⟨some 16, .call 68 [.t 15], some (14, false), []⟩,
      ⟨some 17, .pick (.t 14) (.c (.bool true)) (.t 16), none, []⟩] [11, 12, 13, 14, 15, 16]) (
    .cond (.t 17) (
     .seq (
      .ops [⟨some 4, .mv (.c (.nils)), none, []⟩] []) (
      .ret)) (
     .skip))) (
   .seq (
    .ops [⟨some 18, .mv (.t 0), none, []⟩,
      ⟨some 19, .len (.t 18), none, []⟩,
      ⟨some 20, .mks 5 (.t 19) 10 [.int .i64 0, .int .i64 0, .int .i64 0, .int .i64 0, .int .i64 0, .int .i64 0, .int .i64 0, .int .i64 0, .int .i64 0, .int .i64 0], none, []⟩,
      ⟨some 5, .mv (.t 20), none, []⟩] [18, 19, 20]) (
    .seq (
     .ops [⟨some 21, .mv (.t 5), none, []⟩,
       ⟨some 22, .load 10 true (.t 3), none, [3]⟩,
       ⟨some 23, .ias (.t 21) (.c (.int .i64 0)) 10, none, [5]⟩,
       ⟨none, .store (.t 23) 10 (.t 22), none, [5]⟩] [3, 21, 22, 23]) (
     .seq (
      .ops [⟨some 6, .nil0 6 11, none, []⟩] []) (
      .seq (
       .seq (
        .ops [⟨some 24, .mv (.t 0), none, []⟩,
          ⟨some 25, .len (.t 24), none, []⟩,
          ⟨some 26, .mv (.c (.int .i64 0)), none, []⟩] [0]) (
        .block 0 (
         .loop a51_0))) (
       .seq (
        .ops [⟨some 78, .mv (.t 6), none, []⟩,
          ⟨some 4, .mv (.t 78), none, []⟩] [6, 78]) (
        .ret)))))))
def a51 : AFun := ⟨2, 79, c51, [.t 4]⟩

/-- copse/box.Cut -/
def c67 : ACode :=
 .seq (
  .ops [⟨some 3, .box (.t 0) 10, none, []⟩,
    ⟨some 6, .alloc [.int .i64 0, .int .i64 0, .int .i64 0, .int .i64 0, .int .i64 0, .int .i64 0, .int .i64 0, .int .i64 0, .int .i64 0, .int .i64 0], none, []⟩,
    ⟨some 7, .alloc [.int .i64 0, .int .i64 0, .int .i64 0, .int .i64 0, .int .i64 0, .int .i64 0, .int .i64 0, .int .i64 0, .int .i64 0, .int .i64 0], none, []⟩] [0]) (
  .seq (
   .ops [⟨some 10, .load 10 true (.t 3), none, [3]⟩,
     ⟨some 11, .load 10 true (.t 3), none, [3]⟩,
     ⟨some 8, .alloc [.int .i64 0, .int .i64 0, .int .i64 0, .int .i64 0, .int .i64 0, .int .i64 0, .int .i64 0, .int .i64 0, .int .i64 0, .int .i64 0], none, []⟩,
     ⟨some 9, .alloc [.int .i64 0, .int .i64 0, .int .i64 0, .int .i64 0, .int .i64 0, .int .i64 0, .int .i64 0, .int .i64 0, .int .i64 0, .int .i64 0], none, []⟩,
     ⟨none, .store (.t 8) 10 (.t 10), none, [8]⟩,
     ⟨none, .store (.t 9) 10 (.t 11), none, [9]⟩] [10, 11]) (
   .seq (
    .seq (
     .ops [⟨some 12, .mv (.t 1), none, []⟩,
       ⟨some 13, .bin .geq (.t 12) (.c (.int .i64 0)), none, []⟩,
       ⟨some 14, .mv (.t 13), none, []⟩,
       ⟨some 15, .mv (.t 1), some (14, true), []⟩,
       ⟨some 16, .bin .lss (.t 15) (.c (.int .i64 5)), some (14, true), []⟩,
       ⟨some 17, .pick (.t 14) (.t 16) (.c (.bool false)), none, []⟩] [12, 13, 14, 15, 16]) (
     .cond (.t 17) (
      .ops [⟨some 19, .mv (.t 1), none, []⟩,
        ⟨some 20, .mv (.t 1), none, []⟩,
        ⟨some 21, .mv (.t 1), none, []⟩,
        ⟨some 22, .iad (.t 3) (.t 21) 2 5, none, [3]⟩,
        ⟨some 23, .load 2 true (.t 22), none, [3]⟩,
        ⟨some 24, .mv (.t 2), none, []⟩,
        ⟨some 25, .call 120 [.t 23, .t 24], none, []⟩,
        ⟨some 18, .mv (.t 25), none, []⟩,
        ⟨some 26, .ext (.t 18) 0, none, []⟩,
        ⟨some 27, .ext (.t 18) 1, none, []⟩,
        ⟨some 28, .iad (.t 8) (.t 19) 2 5, none, [8]⟩,
        ⟨none, .store (.t 28) 2 (.t 26), none, [8]⟩,
        ⟨some 29, .iad (.t 9) (.t 20) 2 5, none, [9]⟩,
        ⟨none, .store (.t 29) 2 (.t 27), none, [9]⟩] [1, 2, 3, 18, 19, 20, 21, 22, 23, 24, 25, 26, 27, 28, 29]) (
      .skip))) (
    .seq (
     .ops [⟨some 30, .load 10 true (.t 8), none, [8]⟩,
       ⟨some 31, .load 10 true (.t 9), none, [9]⟩,
       ⟨none, .store (.t 6) 10 (.t 30), none, [6]⟩,
       ⟨none, .store (.t 7) 10 (.t 31), none, [7]⟩] [8, 9, 30, 31]) (
     .ret))))
def a67 : AFun := ⟨3, 32, c67, [.cell 6 10 true, .cell 7 10 true]⟩

/-- copse/box.Empty -/
def a68_0 : ACode := .keep [5, 6] [] (
 .seq (
  .ops [⟨some 7, .bin .lss (.t 6) (.c (.int .i64 5)), none, []⟩] []) (
  .seq (
   .cond (.t 7) (
    .skip) (
    .exit 0)) (
   .seq (
    .block 1 (
     .seq (
      .ops [⟨some 8, .idx (.t 5) (.t 6) 2 5 true, none, []⟩,
        ⟨some 4, .alloc [.int .i64 0, .int .i64 0], none, []⟩,
        ⟨none, .store (.t 4) 2 (.t 8), none, [4]⟩] [8]) (
      .seq (
       .ops [⟨some 9, .load 2 true (.t 4), none, [4]⟩,
         ⟨some 10, .call 121 [.t 9], none, []⟩] [4, 9]) (
       .cond (.t 10) (
        .seq (
         .ops [⟨some 2, .mv (.c (.bool true)), none, []⟩] []) (
         .ret)) (
        .skip))))) (
    .ops [⟨some 11, .bin .add (.t 6) (.c (.int .i64 1)), none, []⟩,
      ⟨some 6, .mv (.t 11), none, []⟩] [11]))))
def c68 : ACode :=
 .seq (
  .ops [⟨some 1, .box (.t 0) 10, none, []⟩,
    ⟨some 2, .mv (.c (.bool false)), none, []⟩] [0, 2]) (
  .seq (
   .seq (
    .ops [⟨some 5, .load 10 true (.t 1), none, [1]⟩,
      ⟨some 6, .mv (.c (.int .i64 0)), none, []⟩] [1]) (
    .block 0 (
     .loop a68_0))) (
   .seq (
    .ops [⟨some 2, .mv (.c (.bool false)), none, []⟩] []) (
    .ret)))
def a68 : AFun := ⟨1, 12, c68, [.t 2]⟩

/-- copse/model.Right -/
def a71_0 : ACode := .keep [1, 30, 31] [1] (
 .seq (
  .ops [⟨some 32, .bin .lss (.t 31) (.c (.int .i64 3)), none, []⟩] []) (
  .seq (
   .cond (.t 32) (
    .skip) (
    .exit 0)) (
   .seq (
    .block 1 (
     .seq (
      .ops [⟨some 33, .mv (.t 31), none, []⟩,
        ⟨some 34, .idx (.t 30) (.t 31) 1 3 false, none, []⟩,
        ⟨some 3, .mv (.t 33), none, []⟩,
        ⟨some 4, .mv (.t 34), none, []⟩] [33, 34]) (
      .seq (
       .ops [⟨some 35, .mv (.t 4), none, []⟩,
         ⟨some 36, .call 123 [.t 35, .c (.int .i64 32)], none, []⟩,
         ⟨some 37, .un .not (.t 36), none, []⟩,
         ⟨some 38, .mv (.t 37), none, []⟩,
         ⟨some 39, .mv (.t 3), some (38, false), []⟩,
         ⟨some 40, .fad (.t 1) 1, some (38, false), [1]⟩,
         ⟨some 41, .load 1 false (.t 40), some (38, false), [1]⟩,
         ⟨some 42, .bin .geq (.t 39) (.t 41), some (38, false), []⟩,
         ⟨some 43, .mv (.t 42), some (38, false), []⟩,
         ⟨some 44, .mv (.t 4), some (43, true), []⟩,
         ⟨some 45, .bin .neq (.t 44) (.c (.int .i64 0)), some (43, true), []⟩,
         ⟨some 46, .pick (.t 43) (.t 45) (.c (.bool false)), some (38, false), []⟩,
         ⟨some 47, .pick (.t 38) (.c (.bool true)) (.t 46), none, []⟩] [3, 4, 35, 36, 37, 38, 39, 40, 41, 42, 43, 44, 45, 46]) (
       .cond (.t 47) (
        .seq (
         .ops [⟨some 2, .mv (.c (.bool false)), none, []⟩] []) (
         .ret)) (
        .skip))))) (
    .ops [⟨some 48, .bin .add (.t 31) (.c (.int .i64 1)), none, []⟩,
      ⟨some 31, .mv (.t 48), none, []⟩] [48]))))
def c71 : ACode :=
 .seq (
  .ops [⟨some 1, .box (.t 0) 6, none, []⟩,
    ⟨some 2, .mv (.c (.bool false)), none, []⟩] [0, 2]) (
  .seq (
   .seq (
    .ops [⟨some 5, .fad (.t 1) 0, none, [1]⟩,
      ⟨some 6, .load 1 false (.t 5), none, [1]⟩,
      ⟨some 7, .bin .lss (.t 6) (.c (.int .i64 1)), none, []⟩,
      ⟨some 8, .mv (.t 7), none, []⟩,
      ⟨some 9, .fad (.t 1) 0, some (8, false), [1]⟩,
      ⟨some 10, .load 1 false (.t 9), some (8, false), [1]⟩,
      ⟨some 11, .bin .gtr (.t 10) (.c (.int .i64 4)), some (8, false), []⟩,
      ⟨some 12, .pick (.t 8) (.c (.bool true)) (.t 11), none, []⟩,
      ⟨some 13, .mv (.t 12), none, []⟩,
      ⟨some 14, .fad (.t 1) 1, some (13, false), [1]⟩,
      ⟨some 15, .load 1 false (.t 14), some (13, false), [1]⟩,
      ⟨some 16, .bin .lss (.t 15) (.c (.int .i64 1)), some (13, false), []⟩,
      ⟨some 17, .pick (.t 13) (.c (.bool true)) (.t 16), none, []⟩,
      ⟨some 18, .mv (.t 17), none, []⟩,
      ⟨some 19, .fad (.t 1) 1, some (18, false), [1]⟩,
      ⟨some 20, .load 1 false (.t 19), some (18, false), [1]⟩,
      ⟨some 21, .bin .gtr (.t 20) (.c (.int .i64 3)), some (18, false), []⟩,
      ⟨some 22, .pick (.t 18) (.c (.bool true)) (.t 21), none, []⟩,
      ⟨some 23, .mv (.t 22), none, []⟩,
      ⟨some 24, .fad (.t 1) 5, some (23, false), [1]⟩,
      ⟨some 25, .load 1 false (.t 24), some (23, false), [1]⟩,
      ⟨some 26, .len (.t 25), some (23, false), []⟩,
      ⟨some 27, .bin .gtr (.t 26) (.c (.int .i64 8)), some (23, false), []⟩,
      ⟨some 28, .pick (.t 23) (.c (.bool true)) (.t 27), none, []⟩] [5, 6, 7, 8, 9, 10, 11, 12, 13, 14, 15, 16, 17, 18, 19, 20, 21, 22, 23, 24, 25, 26, 27]) (
    .cond (.t 28) (
     .seq (
      .ops [⟨some 2, .mv (.c (.bool false)), none, []⟩] []) (
      .ret)) (
     .skip))) (
   .seq (
    .seq (
     .ops [⟨some 29, .fad (.t 1) 2, none, [1]⟩,
       ⟨some 30, .load 3 true (.t 29), none, [1]⟩,
       ⟨some 31, .mv (.c (.int .i64 0)), none, []⟩] [29]) (
     .block 0 (
      .loop a71_0))) (
    .seq (
     .ops [⟨some 49, .fad (.t 1) 5, none, [1]⟩,
       ⟨some 50, .load 1 false (.t 49), none, [1]⟩,
       ⟨some 51, .clo 125 [.t 1], none, [1]⟩,
       ⟨some 52, .call 124 [.t 50, .t 51], none, []⟩,
       ⟨some 53, .un .not (.t 52), none, []⟩,
       ⟨some 2, .mv (.t 53), none, []⟩] [1, 49, 50, 51, 52, 53]) (
     .ret))))
def a71 : AFun := ⟨1, 54, c71, [.t 2]⟩

/-- copse/tree.Right -/
def a76_1 : ACode := .keep [85, 86, 87] [5] (
 .seq (
  .ops [⟨some 88, .bin .lss (.t 87) (.t 86), none, []⟩] []) (
  .seq (
   .cond (.t 88) (
    .skip) (
    .exit 2)) (
   .seq (
    .block 3 (
     .seq (
      .ops [⟨some 89, .ias (.t 85) (.t 87) 1, none, [5]⟩,
        ⟨some 90, .load 1 false (.t 89), none, [5]⟩,
        ⟨some 11, .mv (.t 90), none, []⟩] [89, 90]) (
      .seq (
       .ops [⟨some 91, .mv (.t 11), none, []⟩,
         ⟨some 92, .bin .neq (.t 91) (.c (.int .i64 1)), none, []⟩] [11, 91]) (
       .cond (.t 92) (
        .seq (
         .ops [⟨some 4, .mv (.c (.bool false)), none, []⟩] []) (
         .ret)) (
        .skip))))) (
    .ops [⟨some 93, .bin .add (.t 87) (.c (.int .i64 1)), none, []⟩,
      ⟨some 87, .mv (.t 93), none, []⟩] [93]))))
def a76_0 : ACode := .keep [0, 1, 5, 23, 24, 25] [5] (
 .seq (
  .ops [⟨some 26, .bin .lss (.t 25) (.t 24), none, []⟩] []) (
  .seq (
   .cond (.t 26) (
    .skip) (
    .exit 0)) (
   .seq (
    .block 1 (
     .seq (
      .ops [⟨some 27, .mv (.t 25), none, []⟩,
        ⟨some 28, .ias (.t 23) (.t 25) 1, none, []⟩,
        ⟨some 29, .load 1 false (.t 28), none, []⟩,
        ⟨some 6, .mv (.t 27), none, []⟩,
        ⟨some 7, .mv (.t 29), none, []⟩] [27, 28, 29]) (
      .seq (
       .ops [⟨some 31, .mv (.t 7), none, []⟩,
         ⟨some 32, .call 77 [.t 31], none, []⟩,
         ⟨some 30, .mv (.t 32), none, []⟩,
         ⟨some 33, .ext (.t 30) 0, none, []⟩,
         ⟨some 34, .ext (.t 30) 1, none, []⟩,
         ⟨some 8, .alloc [.bool false, .int .i64 0, .int .i64 0, .int .i64 0, .int .i64 0, .int .i64 0], none, []⟩,
         ⟨none, .store (.t 8) 6 (.t 33), none, [8]⟩,
         ⟨some 9, .mv (.t 34), none, []⟩] [7, 30, 31, 32, 33, 34]) (
       .seq (
        .seq (
         .ops [⟨some 35, .mv (.t 9), none, []⟩,
           ⟨some 36, .un .not (.t 35), none, []⟩] [9, 35]) (
         .cond (.t 36) (
          .seq (
           .ops [⟨some 4, .mv (.c (.bool false)), none, []⟩] []) (
           .ret)) (
          .skip))) (
        .seq (
         .seq (
          .ops [⟨some 37, .fad (.t 8) 0, none, [8]⟩,
            ⟨some 38, .load 1 false (.t 37), none, [8]⟩] [37]) (
          .cond (.t 38) (
           .exit 1) (
           .skip))) (
         .seq (
          .seq (
           .ops [⟨some 39, .fad (.t 8) 2, none, [8]⟩,
             ⟨some 40, .load 1 false (.t 39), none, [8]⟩,
             ⟨some 41, .mv (.t 1), none, []⟩,
             ⟨some 42, .bin .geq (.t 40) (.t 41), none, []⟩,
             ⟨some 43, .mv (.t 42), none, []⟩,
             ⟨some 44, .fad (.t 8) 4, some (43, false), [8]⟩,
             ⟨some 45, .load 1 false (.t 44), some (43, false), [8]⟩,
             ⟨some 46, .fad (.t 8) 5, some (43, false), [8]⟩,
             ⟨some 47, .load 1 false (.t 46), some (43, false), [8]⟩,
             ⟨some 48, .bin .eql (.t 45) (.t 47), some (43, false), []⟩,
             ⟨some 49, .pick (.t 43) (.c (.bool true)) (.t 48), none, []⟩,
             ⟨some 50, .mv (.t 49), none, []⟩,
             ⟨some 51, .fad (.t 8) 4, some (50, false), [8]⟩,
             ⟨some 52, .load 1 false (.t 51), some (50, false), [8]⟩,
             ⟨some 53, .fad (.t 8) 5, some (50, false), [8]⟩,
             ⟨some 54, .load 1 false (.t 53), some (50, false), [8]⟩,
             ⟨some 55, .mnmx false (.t 52) (.t 54), some (50, false), []⟩,
             ⟨some 56, .mv (.t 6), some (50, false), []⟩,
             ⟨some 57, .bin .leq (.t 55) (.t 56), some (50, false), []⟩,
             ⟨some 58, .pick (.t 50) (.c (.bool true)) (.t 57), none, []⟩,
             ⟨some 59, .mv (.t 58), none, []⟩,
             ⟨some 60, .fad (.t 8) 4, some (59, false), [8]⟩,
             ⟨some 61, .load 1 false (.t 60), some (59, false), [8]⟩,
             ⟨some 62, .fad (.t 8) 5, some (59, false), [8]⟩,
             ⟨some 63, .load 1 false (.t 62), some (59, false), [8]⟩,
             ⟨some 64, .mnmx true (.t 61) (.t 63), some (59, false), []⟩,
             ⟨some 65, .mv (.t 0), some (59, false), []⟩,
             ⟨some 66, .len (.t 65), some (59, false), []⟩,
             ⟨some 67, .bin .geq (.t 64) (.t 66), some (59, false), []⟩,
             ⟨some 68, .pick (.t 59) (.c (.bool true)) (.t 67), none, []⟩] [6, 39, 40, 41, 42, 43, 44, 45, 46, 47, 48, 49, 50, 51, 52, 53, 54, 55, 56, 57, 58, 59, 60, 61, 62, 63, 64, 65, 66, 67]) (
           .cond (.t 68) (
            .seq (
             .ops [⟨some 4, .mv (.c (.bool false)), none, []⟩] []) (
             .ret)) (
            .skip))) (
          .seq (
           .ops [⟨some 69, .mv (.t 5), none, []⟩,
             ⟨some 70, .fad (.t 8) 4, none, [8]⟩,
             ⟨some 71, .load 1 false (.t 70), none, [8]⟩,
             ⟨some 72, .ias (.t 69) (.t 71) 1, none, [5]⟩,
             ⟨some 73, .load 1 false (.t 72), none, [5]⟩,
             ⟨some 74, .bin .add (.t 73) (.c (.int .i64 1)), none, []⟩,
             ⟨some 75, .ias (.t 69) (.t 71) 1, none, [5]⟩,
             ⟨none, .store (.t 75) 1 (.t 74), none, [5]⟩] [69, 70, 71, 72, 73, 74, 75]) (
           .ops [⟨some 76, .mv (.t 5), none, []⟩,
             ⟨some 77, .fad (.t 8) 5, none, [8]⟩,
             ⟨some 78, .load 1 false (.t 77), none, [8]⟩,
             ⟨some 79, .ias (.t 76) (.t 78) 1, none, [5]⟩,
             ⟨some 80, .load 1 false (.t 79), none, [5]⟩,
             ⟨some 81, .bin .add (.t 80) (.c (.int .i64 1)), none, []⟩,
             ⟨some 82, .ias (.t 76) (.t 78) 1, none, [5]⟩,
             ⟨none, .store (.t 82) 1 (.t 81), none, [5]⟩] [8, 76, 77, 78, 79, 80, 81, 82])))))))) (
    .ops [⟨some 83, .bin .add (.t 25) (.c (.int .i64 1)), none, []⟩,
      ⟨some 25, .mv (.t 83), none, []⟩] [83]))))
def c76 : ACode :=
 .seq (
  .ops [⟨some 4, .mv (.c (.bool false)), none, []⟩] [4]) (
  .seq (
   .seq (
    .ops [⟨some 12, .mv (.t 0), none, []⟩,
      ⟨some 13, .len (.t 12), none, []⟩,
      ⟨some 14, .bin .lss (.t 13) (.c (.int .i64 1)), none, []⟩,
      ⟨some 15, .mv (.t 14), none, []⟩,
      ⟨some 16, .mv (.t 0), some (15, false), []⟩,
      ⟨some 17, .len (.t 16), some (15, false), []⟩,
      ⟨some 18, .bin .gtr (.t 17) (.c (.int .i64 31)), some (15, false), []⟩,
      ⟨some 19, .pick (.t 15) (.c (.bool true)) (.t 18), none, []⟩] [12, 13, 14, 15, 16, 17, 18]) (
    .cond (.t 19) (
     .seq (
      .ops [⟨some 4, .mv (.c (.bool false)), none, []⟩] []) (
      .ret)) (
     .skip))) (
   .seq (
    .ops [⟨some 20, .mv (.t 0), none, []⟩,
      ⟨some 21, .len (.t 20), none, []⟩,
      ⟨some 22, .mks 5 (.t 21) 1 [.int .i64 0], none, []⟩,
      ⟨some 5, .mv (.t 22), none, []⟩] [20, 21, 22]) (
    .seq (
     .seq (
      .ops [⟨some 23, .mv (.t 0), none, []⟩,
        ⟨some 24, .len (.t 23), none, []⟩,
        ⟨some 25, .mv (.c (.int .i64 0)), none, []⟩] []) (
      .block 0 (
       .loop a76_0))) (
     .seq (
      .seq (
       .ops [⟨some 84, .mv (.t 5), none, []⟩,
         ⟨some 85, .sl (.t 84) (some (.c (.int .i64 1))) none 1, none, [5]⟩,
         ⟨some 86, .len (.t 85), none, [5]⟩,
         ⟨some 87, .mv (.c (.int .i64 0)), none, []⟩] [5, 84]) (
       .block 2 (
        .loop a76_1))) (
      .seq (
       .ops [⟨some 4, .mv (.c (.bool true)), none, []⟩] []) (
       .ret))))))
def a76 : AFun := ⟨2, 94, c76, [.t 4]⟩

/-- copse/node.Unpack -/
def c77 : ACode :=
 .seq (
  .ops [⟨some 1, .box (.t 0) 1, none, []⟩,
    ⟨some 2, .alloc [.bool false, .int .i64 0, .int .i64 0, .int .i64 0, .int .i64 0, .int .i64 0], none, []⟩,
    ⟨some 3, .mv (.c (.bool false)), none, []⟩] [0, 3]) (
  .seq (
   .ops [⟨some 7, .load 1 false (.t 1), none, [1]⟩,
     ⟨some 8, .call 128 [.t 7, .c (.int .i64 0), .c (.int .i64 32)], none, []⟩,
     ⟨some 4, .mv (.t 8), none, []⟩] [7, 8]) (
   .seq (
    .ops [⟨some 9, .mv (.t 4), none, []⟩,
      ⟨some 10, .build [.bool false, .int .i64 0, .int .i64 0, .int .i64 0, .int .i64 0, .int .i64 0] [(0, 1, .c (.bool true)), (1, 1, .t 9)], none, []⟩,
      ⟨some 5, .alloc [.bool false, .int .i64 0, .int .i64 0, .int .i64 0, .int .i64 0, .int .i64 0], none, []⟩,
      ⟨none, .store (.t 5) 6 (.t 10), none, [5]⟩] [9, 10]) (
    .seq (
     .seq (
      .ops [⟨some 11, .load 1 false (.t 1), none, [1]⟩,
        ⟨some 12, .call 129 [.t 11, .c (.int .i64 63), .c (.int .i64 1)], none, []⟩,
        ⟨some 13, .bin .eql (.t 12) (.c (.int .u64 0)), none, []⟩] [11, 12]) (
      .cond (.t 13) (
       .seq (
        .ops [⟨some 14, .clo 130 [.t 1], none, [1]⟩,
          ⟨some 6, .mv (.t 14), none, []⟩] [14]) (
        .ops [⟨some 15, .mv (.t 4), none, []⟩,
          ⟨some 16, .mv (.t 6), none, []⟩,
          ⟨some 17, .dyn (.t 16) [.c (.int .i64 32), .c (.int .i64 4)], none, []⟩,
          ⟨some 18, .mv (.t 6), none, []⟩,
          ⟨some 19, .dyn (.t 18) [.c (.int .i64 40), .c (.int .i64 8)], none, []⟩,
          ⟨some 20, .mv (.t 6), none, []⟩,
          ⟨some 21, .dyn (.t 20) [.c (.int .i64 48), .c (.int .i64 8)], none, []⟩,
          ⟨some 22, .build [.bool false, .int .i64 0, .int .i64 0, .int .i64 0, .int .i64 0, .int .i64 0] [(3, 1, .t 15), (2, 1, .t 17), (4, 1, .t 19), (5, 1, .t 21)], none, []⟩,
          ⟨none, .store (.t 5) 6 (.t 22), none, [5]⟩] [4, 6, 15, 16, 17, 18, 19, 20, 21, 22])) (
       .skip))) (
     .seq (
      .seq (
       .ops [⟨some 23, .load 1 false (.t 1), none, [1]⟩,
         ⟨some 24, .bin .eql (.t 23) (.c (.int .u64 0)), none, []⟩,
         ⟨some 25, .mv (.t 24), none, []⟩,
         ⟨some 26, .load 6 true (.t 5), some (25, false), [5]⟩,
         ⟨some 27, .call 131 [.t 26], some (25, false), []⟩,
         ⟨some 28, .load 1 false (.t 1), some (25, false), [1]⟩,
         ⟨some 29, .bin .neq (.t 27) (.t 28), some (25, false), []⟩,
         ⟨some 30, .pick (.t 25) (.c (.bool true)) (.t 29), none, []⟩] [1, 23, 24, 25, 26, 27, 28, 29]) (
       .cond (.t 30) (
        .seq (
         .ops [⟨some 31, .build [.bool false, .int .i64 0, .int .i64 0, .int .i64 0, .int .i64 0, .int .i64 0] [], none, []⟩,
           ⟨none, .store (.t 2) 6 (.t 31), none, [2]⟩,
           ⟨some 3, .mv (.c (.bool false)), none, []⟩] [31]) (
         .ret)) (
        .skip))) (
      .seq (
       .ops [⟨some 32, .load 6 true (.t 5), none, [5]⟩,
         ⟨none, .store (.t 2) 6 (.t 32), none, [2]⟩,
         ⟨some 3, .mv (.c (.bool true)), none, []⟩] [5, 32]) (
       .ret))))))
def a77 : AFun := ⟨1, 33, c77, [.cell 2 6 true, .t 3]⟩

/-- copse/copsekeep.Stump -/
def c81 : ACode :=
 .seq (
  .ops [⟨some 6, .nil0 6 1, none, []⟩] [6]) (
  .seq (
   .ops [⟨some 7, .mv (.t 0), none, []⟩,
     ⟨some 8, .build [.bool false, .int .i64 0, .int .i64 0, .int .i64 0, .int .i64 0, .int .i64 0] [(3, 1, .t 7), (4, 1, .c (.int .i64 1)), (5, 1, .c (.int .i64 2))], none, []⟩,
     ⟨some 9, .call 111 [.t 8], none, []⟩,
     ⟨some 10, .mv (.t 1), none, []⟩,
     ⟨some 11, .build [.bool false, .int .i64 0, .int .i64 0, .int .i64 0, .int .i64 0, .int .i64 0] [(0, 1, .c (.bool true)), (1, 1, .t 10)], none, []⟩,
     ⟨some 12, .call 111 [.t 11], none, []⟩,
     ⟨some 13, .mv (.t 2), none, []⟩,
     ⟨some 14, .build [.bool false, .int .i64 0, .int .i64 0, .int .i64 0, .int .i64 0, .int .i64 0] [(0, 1, .c (.bool true)), (1, 1, .t 13)], none, []⟩,
     ⟨some 15, .call 111 [.t 14], none, []⟩,
     ⟨some 16, .mkrow 6 3 1 [.int .u64 0] [(0, 1, .t 9), (1, 1, .t 12), (2, 1, .t 15)], none, []⟩,
     ⟨some 6, .mv (.t 16), none, []⟩] [0, 1, 2, 7, 8, 9, 10, 11, 12, 13, 14, 15, 16]) (
   .ret))
def a81 : AFun := ⟨3, 17, c81, [.t 6]⟩

/-- copse/level.Range -/
def a82_0 : ACode := .keep [11, 13, 14, 43, 44, 45] [] (
 .seq (
  .ops [⟨some 46, .bin .lss (.t 45) (.t 44), none, []⟩] []) (
  .seq (
   .cond (.t 46) (
    .skip) (
    .exit 0)) (
   .seq (
    .block 1 (
     .seq (
      .ops [⟨some 47, .ias (.t 43) (.t 45) 1, none, []⟩,
        ⟨some 48, .load 1 false (.t 47), none, []⟩,
        ⟨some 16, .mv (.t 48), none, []⟩] [47, 48]) (
      .seq (
       .ops [⟨some 50, .mv (.t 16), none, []⟩,
         ⟨some 51, .call 134 [.t 50], none, []⟩,
         ⟨some 49, .mv (.t 51), none, []⟩,
         ⟨some 52, .ext (.t 49) 0, none, []⟩,
         ⟨some 53, .ext (.t 49) 1, none, []⟩,
         ⟨some 54, .ext (.t 49) 2, none, []⟩,
         ⟨some 17, .mv (.t 52), none, []⟩,
         ⟨some 18, .mv (.t 53), none, []⟩,
         ⟨some 19, .mv (.t 54), none, []⟩] [16, 19, 49, 50, 51, 52, 53, 54]) (
       .ops [⟨some 55, .mv (.t 13), none, []⟩,
         ⟨some 56, .mv (.t 17), none, []⟩,
         ⟨some 57, .bin .add (.t 55) (.t 56), none, []⟩,
         ⟨some 58, .mv (.t 14), none, []⟩,
         ⟨some 59, .mv (.t 18), none, []⟩,
         ⟨some 60, .bin .add (.t 58) (.t 59), none, []⟩,
         ⟨some 13, .mv (.t 57), none, []⟩,
         ⟨some 14, .mv (.t 60), none, []⟩] [17, 18, 55, 56, 57, 58, 59, 60])))) (
    .ops [⟨some 61, .bin .add (.t 45) (.c (.int .i64 1)), none, []⟩,
      ⟨some 45, .mv (.t 61), none, []⟩] [61]))))
def c82 : ACode :=
 .seq (
  .ops [⟨some 4, .box (.t 0) 6, none, []⟩,
    ⟨some 6, .box (.t 2) 10, none, []⟩,
    ⟨some 8, .mv (.c (.int .i64 0)), none, []⟩,
    ⟨some 9, .mv (.c (.int .i64 0)), none, []⟩,
    ⟨some 10, .mv (.c (.bool false)), none, []⟩] [0, 2, 8, 9, 10]) (
  .seq (
   .ops [⟨some 21, .load 6 true (.t 4), none, [4]⟩,
     ⟨some 22, .mv (.t 1), none, []⟩,
     ⟨some 23, .load 10 true (.t 6), none, [6]⟩,
     ⟨some 24, .call 132 [.t 21, .t 22, .t 23], none, []⟩,
     ⟨some 20, .mv (.t 24), none, []⟩,
     ⟨some 25, .ext (.t 20) 0, none, []⟩,
     ⟨some 26, .ext (.t 20) 1, none, []⟩,
     ⟨some 11, .mv (.t 25), none, []⟩,
     ⟨some 12, .mv (.t 26), none, []⟩] [6, 20, 21, 22, 23, 24, 25, 26]) (
   .seq (
    .seq (
     .ops [⟨some 27, .mv (.t 12), none, []⟩,
       ⟨some 28, .un .not (.t 27), none, []⟩] [12, 27]) (
     .cond (.t 28) (
      .seq (
       .ops [⟨some 8, .mv (.c (.int .i64 0)), none, []⟩,
         ⟨some 9, .mv (.c (.int .i64 0)), none, []⟩,
         ⟨some 10, .mv (.c (.bool false)), none, []⟩] []) (
       .ret)) (
      .skip))) (
    .seq (
     .ops [⟨some 30, .mv (.t 11), none, []⟩,
       ⟨some 31, .mv (.t 3), none, []⟩,
       ⟨some 32, .call 133 [.t 30, .t 31], none, []⟩,
       ⟨some 29, .mv (.t 32), none, []⟩,
       ⟨some 33, .ext (.t 29) 0, none, []⟩,
       ⟨some 34, .ext (.t 29) 1, none, []⟩,
       ⟨some 11, .mv (.t 33), none, []⟩] [3, 29, 30, 31, 32, 33, 34]) (
     .seq (
      .ops [⟨some 35, .mv (.t 1), none, []⟩,
        ⟨some 36, .fad (.t 4) 2, none, [4]⟩,
        ⟨some 37, .iad (.t 36) (.t 35) 1 3, none, [4]⟩,
        ⟨some 38, .load 1 false (.t 37), none, [4]⟩,
        ⟨some 39, .mv (.t 1), none, []⟩,
        ⟨some 40, .fad (.t 4) 2, none, [4]⟩,
        ⟨some 41, .iad (.t 40) (.t 39) 1 3, none, [4]⟩,
        ⟨some 42, .load 1 false (.t 41), none, [4]⟩,
        ⟨some 13, .mv (.t 38), none, []⟩,
        ⟨some 14, .mv (.t 42), none, []⟩] [1, 4, 35, 36, 37, 38, 39, 40, 41, 42]) (
      .seq (
       .seq (
        .ops [⟨some 43, .mv (.t 11), none, []⟩,
          ⟨some 44, .len (.t 43), none, []⟩,
          ⟨some 45, .mv (.c (.int .i64 0)), none, []⟩] []) (
        .block 0 (
         .loop a82_0))) (
       .seq (
        .ops [⟨some 62, .mv (.t 13), none, []⟩,
          ⟨some 63, .mv (.t 14), none, []⟩,
          ⟨some 64, .mv (.t 11), none, []⟩,
          ⟨some 65, .len (.t 64), none, []⟩,
          ⟨some 66, .bin .leq (.t 65) (.c (.int .i64 1)), none, []⟩,
          ⟨some 8, .mv (.t 62), none, []⟩,
          ⟨some 9, .mv (.t 63), none, []⟩,
          ⟨some 10, .mv (.t 66), none, []⟩] [11, 13, 14, 62, 63, 64, 65, 66]) (
        .ret)))))))
def a82 : AFun := ⟨4, 67, c82, [.t 8, .t 9, .t 10]⟩

/-- copse/copsebook.Same[int] -/
def a83_0 : ACode := .keep [0, 1, 5] [] (
 .seq (
  .seq (
   .ops [⟨some 11, .mv (.t 5), none, []⟩,
     ⟨some 12, .mv (.t 0), none, []⟩,
     ⟨some 13, .len (.t 12), none, []⟩,
     ⟨some 14, .bin .lss (.t 11) (.t 13), none, []⟩] [11, 12, 13]) (
   .cond (.t 14) (
    .skip) (
    .exit 0))) (
  .seq (
   .block 1 (
    .seq (
     .ops [⟨some 17, .mv (.t 0), none, []⟩,
       ⟨some 18, .mv (.t 5), none, []⟩,
       ⟨some 19, .ias (.t 17) (.t 18) 1, none, []⟩,
       ⟨some 20, .load 1 false (.t 19), none, []⟩,
       ⟨some 21, .mv (.t 1), none, []⟩,
       ⟨some 22, .mv (.t 5), none, []⟩,
       ⟨some 23, .ias (.t 21) (.t 22) 1, none, []⟩,
       ⟨some 24, .load 1 false (.t 23), none, []⟩,
       ⟨some 25, .bin .neq (.t 20) (.t 24), none, []⟩] [17, 18, 19, 20, 21, 22, 23, 24]) (
     .cond (.t 25) (
      .seq (
       .ops [⟨some 4, .mv (.c (.bool false)), none, []⟩] []) (
       .ret)) (
      .skip)))) (
   .ops [⟨some 15, .mv (.t 5), none, []⟩,
     ⟨some 16, .bin .add (.t 15) (.c (.int .i64 1)), none, []⟩,
     ⟨some 5, .mv (.t 16), none, []⟩] [15, 16])))
def c83 : ACode :=
 .seq (
  .ops [⟨some 4, .mv (.c (.bool false)), none, []⟩] [4]) (
  .seq (
   .seq (
    .ops [⟨some 6, .mv (.t 0), none, []⟩,
      ⟨some 7, .len (.t 6), none, []⟩,
      ⟨some 8, .mv (.t 1), none, []⟩,
      ⟨some 9, .len (.t 8), none, []⟩,
      ⟨some 10, .bin .neq (.t 7) (.t 9), none, []⟩] [6, 7, 8, 9]) (
    .cond (.t 10) (
     .seq (
      .ops [⟨some 4, .mv (.c (.bool false)), none, []⟩] []) (
      .ret)) (
     .skip))) (
   .seq (
    .seq (
     .ops [⟨some 5, .mv (.c (.int .i64 0)), none, []⟩] []) (
     .block 0 (
      .loop a83_0))) (
    .seq (
     .ops [⟨some 4, .mv (.c (.bool true)), none, []⟩] []) (
     .ret))))
def a83 : AFun := ⟨2, 26, c83, [.t 4]⟩

/-- copse/level.Levels -/
def c84 : ACode :=
 .seq (
  .ops [⟨some 4, .box (.t 0) 6, none, []⟩,
    ⟨some 6, .box (.t 2) 10, none, []⟩,
    ⟨some 8, .mv (.c (.nils)), none, []⟩] [0, 2, 8]) (
  .seq (
   .ops [⟨some 14, .load 6 true (.t 4), none, [4]⟩,
     ⟨some 15, .mv (.t 1), none, []⟩,
     ⟨some 16, .load 10 true (.t 6), none, [6]⟩,
     ⟨some 17, .call 132 [.t 14, .t 15, .t 16], none, []⟩,
     ⟨some 13, .mv (.t 17), none, []⟩,
     ⟨some 18, .ext (.t 13) 0, none, []⟩,
     ⟨some 19, .ext (.t 13) 1, none, []⟩,
     ⟨some 9, .mv (.t 18), none, []⟩,
     ⟨some 10, .mv (.t 19), none, []⟩] [1, 4, 6, 13, 14, 15, 16, 17, 18, 19]) (
   .seq (
    .seq (
     .ops [⟨some 20, .mv (.t 10), none, []⟩,
       ⟨some 21, .un .not (.t 20), none, []⟩] [10, 20]) (
     .cond (.t 21) (
      .seq (
       .ops [⟨some 8, .mv (.c (.nils)), none, []⟩] []) (
       .ret)) (
      .skip))) (
    .seq (
     .ops [⟨some 23, .mv (.t 9), none, []⟩,
       ⟨some 24, .mv (.t 3), none, []⟩,
       ⟨some 25, .call 133 [.t 23, .t 24], none, []⟩,
       ⟨some 22, .mv (.t 25), none, []⟩,
       ⟨some 26, .ext (.t 22) 0, none, []⟩,
       ⟨some 27, .ext (.t 22) 1, none, []⟩,
       ⟨some 11, .mv (.t 26), none, []⟩,
       ⟨some 12, .mv (.t 27), none, []⟩] [3, 9, 11, 22, 23, 24, 25, 26, 27]) (
     .seq (
      .ops [⟨some 28, .mv (.t 12), none, []⟩,
        ⟨some 8, .mv (.t 28), none, []⟩] [12, 28]) (
      .ret)))))
def a84 : AFun := ⟨4, 29, c84, [.t 8]⟩

/-- copse/copseref6.Pack -/
def c111 : ACode :=
 .seq (
  .ops [⟨some 1, .box (.t 0) 6, none, []⟩,
    ⟨some 2, .mv (.c (.int .u64 0)), none, []⟩] [0, 2]) (
  .seq (
   .seq (
    .ops [⟨some 3, .load 6 true (.t 1), none, [1]⟩,
      ⟨some 4, .call 156 [.t 3], none, []⟩,
      ⟨some 5, .un .not (.t 4), none, []⟩] [3, 4]) (
    .cond (.t 5) (
     .seq (
      .ops [⟨some 2, .mv (.c (.int .u64 0)), none, []⟩] []) (
      .ret)) (
     .skip))) (
   .seq (
    .seq (
     .ops [⟨some 6, .fad (.t 1) 0, none, [1]⟩,
       ⟨some 7, .load 1 false (.t 6), none, [1]⟩] [6]) (
     .cond (.t 7) (
      .seq (
       .ops [⟨some 8, .fad (.t 1) 1, none, [1]⟩,
         ⟨some 9, .load 1 false (.t 8), none, [1]⟩,
         ⟨some 10, .conv .u64 (.t 9), none, []⟩,
         ⟨some 11, .bin .and (.t 10) (.c (.int .u64 4294967295)), none, []⟩,
         ⟨some 12, .bin .or (.c (.int .u64 9223372036854775808)) (.t 11), none, []⟩,
         ⟨some 2, .mv (.t 12), none, []⟩] [1, 8, 9, 10, 11, 12]) (
       .ret)) (
      .skip))) (
    .seq (
     .ops [⟨some 13, .fad (.t 1) 3, none, [1]⟩,
       ⟨some 14, .load 1 false (.t 13), none, [1]⟩,
       ⟨some 15, .conv .u64 (.t 14), none, []⟩,
       ⟨some 16, .bin .and (.t 15) (.c (.int .u64 4294967295)), none, []⟩,
       ⟨some 17, .fad (.t 1) 2, none, [1]⟩,
       ⟨some 18, .load 1 false (.t 17), none, [1]⟩,
       ⟨some 19, .conv .u64 (.t 18), none, []⟩,
       ⟨some 20, .bin .shl (.t 19) (.c (.int .u64 32)), none, []⟩,
       ⟨some 21, .bin .or (.t 16) (.t 20), none, []⟩,
       ⟨some 22, .fad (.t 1) 4, none, [1]⟩,
       ⟨some 23, .load 1 false (.t 22), none, [1]⟩,
       ⟨some 24, .conv .u64 (.t 23), none, []⟩,
       ⟨some 25, .bin .shl (.t 24) (.c (.int .u64 40)), none, []⟩,
       ⟨some 26, .bin .or (.t 21) (.t 25), none, []⟩,
       ⟨some 27, .fad (.t 1) 5, none, [1]⟩,
       ⟨some 28, .load 1 false (.t 27), none, [1]⟩,
       ⟨some 29, .conv .u64 (.t 28), none, []⟩,
       ⟨some 30, .bin .shl (.t 29) (.c (.int .u64 48)), none, []⟩,
       ⟨some 31, .bin .or (.t 26) (.t 30), none, []⟩,
       ⟨some 2, .mv (.t 31), none, []⟩] [1, 13, 14, 15, 16, 17, 18, 19, 20, 21, 22, 23, 24, 25, 26, 27, 28, 29, 30, 31]) (
     .ret))))
def a111 : AFun := ⟨1, 32, c111, [.t 2]⟩

/-- copse/copseref1.Fits -/
def c119 : ACode :=
 .seq (
  .ops [⟨some 4, .mv (.c (.bool false)), none, []⟩] [4]) (
  .seq (
   .seq (
    .ops [⟨some 6, .mv (.t 1), none, []⟩,
      ⟨some 7, .bin .lss (.t 6) (.c (.int .i64 1)), none, []⟩,
      ⟨some 8, .mv (.t 7), none, []⟩,
      ⟨some 9, .mv (.t 1), some (8, false), []⟩,
      ⟨some 10, .bin .gtr (.t 9) (.c (.int .i64 64)), some (8, false), []⟩,
      ⟨some 11, .pick (.t 8) (.c (.bool true)) (.t 10), none, []⟩] [6, 7, 8, 9, 10]) (
    .cond (.t 11) (
     .seq (
      .ops [⟨some 4, .mv (.c (.bool false)), none, []⟩] []) (
      .ret)) (
     .skip))) (
   .seq (
    .seq (
     .ops [⟨some 12, .mv (.t 1), none, []⟩,
       ⟨some 13, .bin .eql (.t 12) (.c (.int .i64 64)), none, []⟩] [12]) (
     .cond (.t 13) (
      .seq (
       .ops [⟨some 4, .mv (.c (.bool true)), none, []⟩] []) (
       .ret)) (
      .skip))) (
    .seq (
     .ops [⟨some 14, .mv (.t 1), none, []⟩,
       ⟨some 15, .bin .sub (.t 14) (.c (.int .i64 1)), none, []⟩,
       ⟨some 16, .bin .shl (.c (.int .i64 1)) (.t 15), none, []⟩,
       ⟨some 5, .mv (.t 16), none, []⟩] [1, 14, 15, 16]) (
     .seq (
      .ops [⟨some 17, .mv (.t 0), none, []⟩,
        ⟨some 18, .mv (.t 5), none, []⟩,
        ⟨some 19, .un .neg (.t 18), none, []⟩,
        ⟨some 20, .bin .geq (.t 17) (.t 19), none, []⟩,
        ⟨some 21, .mv (.t 20), none, []⟩,
        ⟨some 22, .mv (.t 0), some (21, true), []⟩,
        ⟨some 23, .mv (.t 5), some (21, true), []⟩,
        ⟨some 24, .bin .sub (.t 23) (.c (.int .i64 1)), some (21, true), []⟩,
        ⟨some 25, .bin .leq (.t 22) (.t 24), some (21, true), []⟩,
        ⟨some 26, .pick (.t 21) (.t 25) (.c (.bool false)), none, []⟩,
        ⟨some 4, .mv (.t 26), none, []⟩] [0, 5, 17, 18, 19, 20, 21, 22, 23, 24, 25, 26]) (
      .ret)))))
def a119 : AFun := ⟨2, 27, c119, [.t 4]⟩

/-- copse/span.Cut -/
def c120 : ACode :=
 .seq (
  .ops [⟨some 2, .box (.t 0) 2, none, []⟩,
    ⟨some 4, .alloc [.int .i64 0, .int .i64 0], none, []⟩,
    ⟨some 5, .alloc [.int .i64 0, .int .i64 0], none, []⟩] [0]) (
  .seq (
   .ops [⟨some 7, .fad (.t 2) 0, none, [2]⟩,
     ⟨some 8, .load 1 false (.t 7), none, [2]⟩,
     ⟨some 9, .fad (.t 2) 1, none, [2]⟩,
     ⟨some 10, .load 1 false (.t 9), none, [2]⟩,
     ⟨some 11, .mv (.t 1), none, []⟩,
     ⟨some 12, .mnmx false (.t 10) (.t 11), none, []⟩,
     ⟨some 13, .call 158 [.t 8, .t 12], none, []⟩,
     ⟨some 6, .alloc [.int .i64 0, .int .i64 0], none, []⟩,
     ⟨none, .store (.t 6) 2 (.t 13), none, [6]⟩] [7, 8, 9, 10, 11, 12, 13]) (
   .seq (
    .seq (
     .ops [⟨some 14, .mv (.t 1), none, []⟩,
       ⟨some 15, .fad (.t 2) 1, none, [2]⟩,
       ⟨some 16, .load 1 false (.t 15), none, [2]⟩,
       ⟨some 17, .bin .geq (.t 14) (.t 16), none, []⟩] [14, 15, 16]) (
     .cond (.t 17) (
      .seq (
       .ops [⟨some 18, .load 2 true (.t 6), none, [6]⟩,
         ⟨some 19, .call 159 [], none, []⟩,
         ⟨none, .store (.t 4) 2 (.t 18), none, [4]⟩,
         ⟨none, .store (.t 5) 2 (.t 19), none, [5]⟩] [6, 18, 19]) (
       .ret)) (
      .skip))) (
    .seq (
     .ops [⟨some 20, .load 2 true (.t 6), none, [6]⟩,
       ⟨some 21, .fad (.t 2) 0, none, [2]⟩,
       ⟨some 22, .load 1 false (.t 21), none, [2]⟩,
       ⟨some 23, .mv (.t 1), none, []⟩,
       ⟨some 24, .bin .add (.t 23) (.c (.int .i64 1)), none, []⟩,
       ⟨some 25, .mnmx true (.t 22) (.t 24), none, []⟩,
       ⟨some 26, .fad (.t 2) 1, none, [2]⟩,
       ⟨some 27, .load 1 false (.t 26), none, [2]⟩,
       ⟨some 28, .call 158 [.t 25, .t 27], none, []⟩,
       ⟨none, .store (.t 4) 2 (.t 20), none, [4]⟩,
       ⟨none, .store (.t 5) 2 (.t 28), none, [5]⟩] [1, 2, 6, 20, 21, 22, 23, 24, 25, 26, 27, 28]) (
     .ret))))
def a120 : AFun := ⟨2, 29, c120, [.cell 4 2 true, .cell 5 2 true]⟩

/-- copse/span.Empty -/
def c121 : ACode :=
 .seq (
  .ops [⟨some 1, .box (.t 0) 2, none, []⟩,
    ⟨some 2, .mv (.c (.bool false)), none, []⟩] [0, 2]) (
  .seq (
   .ops [⟨some 3, .fad (.t 1) 0, none, [1]⟩,
     ⟨some 4, .load 1 false (.t 3), none, [1]⟩,
     ⟨some 5, .fad (.t 1) 1, none, [1]⟩,
     ⟨some 6, .load 1 false (.t 5), none, [1]⟩,
     ⟨some 7, .bin .gtr (.t 4) (.t 6), none, []⟩,
     ⟨some 2, .mv (.t 7), none, []⟩] [1, 3, 4, 5, 6, 7]) (
   .ret))
def a121 : AFun := ⟨1, 8, c121, [.t 2]⟩

/-- copse/bits.Fits -/
def c123 : ACode :=
 .seq (
  .ops [⟨some 4, .mv (.c (.bool false)), none, []⟩] [4]) (
  .seq (
   .seq (
    .ops [⟨some 5, .mv (.t 1), none, []⟩,
      ⟨some 6, .bin .lss (.t 5) (.c (.int .i64 1)), none, []⟩,
      ⟨some 7, .mv (.t 6), none, []⟩,
      ⟨some 8, .mv (.t 1), some (7, false), []⟩,
      ⟨some 9, .bin .gtr (.t 8) (.c (.int .i64 64)), some (7, false), []⟩,
      ⟨some 10, .pick (.t 7) (.c (.bool true)) (.t 9), none, []⟩] [5, 6, 7, 8, 9]) (
    .cond (.t 10) (
     .seq (
      .ops [⟨some 4, .mv (.c (.bool false)), none, []⟩] []) (
      .ret)) (
     .skip))) (
   .seq (
    .ops [⟨some 11, .mv (.t 0), none, []⟩,
      ⟨some 12, .mv (.t 1), none, []⟩,
      ⟨some 13, .bin .sub (.t 12) (.c (.int .i64 1)), none, []⟩,
      ⟨some 14, .conv .u64 (.t 13), none, []⟩,
      ⟨some 15, .bin .shr (.t 11) (.t 14), none, []⟩,
      ⟨some 16, .bin .eql (.t 15) (.c (.int .i64 0)), none, []⟩,
      ⟨some 17, .mv (.t 16), none, []⟩,
      ⟨some 18, .mv (.t 0), some (17, false), []⟩,
      ⟨some 19, .mv (.t 1), some (17, false), []⟩,
      ⟨some 20, .bin .sub (.t 19) (.c (.int .i64 1)), some (17, false), []⟩,
      ⟨some 21, .conv .u64 (.t 20), some (17, false), []⟩,
      ⟨some 22, .bin .shr (.t 18) (.t 21), some (17, false), []⟩,
      ⟨some 23, .bin .eql (.t 22) (.c (.int .i64 (-1))), some (17, false), []⟩,
      ⟨some 24, .pick (.t 17) (.c (.bool true)) (.t 23), none, []⟩,
      ⟨some 4, .mv (.t 24), none, []⟩] [0, 1, 11, 12, 13, 14, 15, 16, 17, 18, 19, 20, 21, 22, 23, 24]) (
    .ret)))
def a123 : AFun := ⟨2, 25, c123, [.t 4]⟩

/-- slices.ContainsFunc[[]copse/api.Tree,copse/api.Tree] -/
def c124 : ACode :=
 .seq (
  .ops [⟨some 4, .mv (.c (.bool false)), none, []⟩] [4]) (
  .seq (
   .ops [⟨some 5, .mv (.t 0), none, []⟩,
     ⟨some 6, .mv (.t 1), none, []⟩,
     ⟨some 7, .call 160 [.t 5, .t 6], none, []⟩,
     ⟨some 8, .bin .geq (.t 7) (.c (.int .i64 0)), none, []⟩,
     ⟨some 4, .mv (.t 8), none, []⟩] [0, 1, 5, 6, 7, 8]) (
   .ret))
def a124 : AFun := ⟨2, 9, c124, [.t 4]⟩

/-- copse/model.Right$1 -/
def c125 : ACode :=
 .seq (
  .ops [⟨some 2, .box (.t 0) 2, none, []⟩,
    ⟨some 3, .mv (.c (.bool false)), none, []⟩] [0, 3]) (
  .seq (
   .ops [⟨some 4, .fad (.t 2) 0, none, [2]⟩,
     ⟨some 5, .load 1 false (.t 4), none, [2]⟩,
     ⟨some 6, .bin .lss (.t 5) (.c (.int .i64 0)), none, []⟩,
     ⟨some 7, .mv (.t 6), none, []⟩,
     ⟨some 8, .fad (.t 2) 0, some (7, false), [2]⟩,
     ⟨some 9, .load 1 false (.t 8), some (7, false), [2]⟩,
     ⟨some 10, .fad (.t 1) 1, some (7, false), []⟩,
     ⟨some 11, .load 1 false (.t 10), some (7, false), []⟩,
     ⟨some 12, .bin .geq (.t 9) (.t 11), some (7, false), []⟩,
     ⟨some 13, .pick (.t 7) (.c (.bool true)) (.t 12), none, []⟩,
     ⟨some 14, .mv (.t 13), none, []⟩,
     ⟨some 15, .fad (.t 2) 1, some (14, false), [2]⟩,
     ⟨some 16, .load 1 false (.t 15), some (14, false), [2]⟩,
     ⟨some 17, .fad (.t 1) 0, some (14, false), []⟩,
     ⟨some 18, .load 1 false (.t 17), some (14, false), []⟩,
     ⟨some 19, .call 76 [.t 16, .t 18], some (14, false), []⟩,
     ⟨some 20, .un .not (.t 19), some (14, false), []⟩,
     ⟨some 21, .pick (.t 14) (.c (.bool true)) (.t 20), none, []⟩,
     ⟨some 3, .mv (.t 21), none, []⟩] [1, 2, 4, 5, 6, 7, 8, 9, 10, 11, 12, 13, 14, 15, 16, 17, 18, 19, 20, 21]) (
   .ret))
def a125 : AFun := ⟨2, 22, c125, [.t 3]⟩

/-- copse/bits.Signed -/
def c128 : ACode :=
 .seq (
  .ops [⟨some 6, .mv (.c (.int .i64 0)), none, []⟩] [6]) (
  .seq (
   .ops [⟨some 7, .mv (.t 0), none, []⟩,
     ⟨some 8, .mv (.t 1), none, []⟩,
     ⟨some 9, .mv (.t 2), none, []⟩,
     ⟨some 10, .call 129 [.t 7, .t 8, .t 9], none, []⟩,
     ⟨some 11, .conv .i64 (.t 10), none, []⟩,
     ⟨some 12, .mv (.t 2), none, []⟩,
     ⟨some 13, .call 161 [.t 11, .t 12], none, []⟩,
     ⟨some 6, .mv (.t 13), none, []⟩] [0, 1, 2, 7, 8, 9, 10, 11, 12, 13]) (
   .ret))
def a128 : AFun := ⟨3, 14, c128, [.t 6]⟩

/-- copse/bits.Get -/
def c129 : ACode :=
 .seq (
  .ops [⟨some 6, .mv (.c (.int .u64 0)), none, []⟩] [6]) (
  .seq (
   .seq (
    .ops [⟨some 7, .mv (.t 1), none, []⟩,
      ⟨some 8, .mv (.t 2), none, []⟩,
      ⟨some 9, .call 162 [.t 7, .t 8], none, []⟩,
      ⟨some 10, .un .not (.t 9), none, []⟩] [7, 8, 9]) (
    .cond (.t 10) (
     .seq (
      .ops [⟨some 6, .mv (.c (.int .u64 0)), none, []⟩] []) (
      .ret)) (
     .skip))) (
   .seq (
    .ops [⟨some 11, .mv (.t 0), none, []⟩,
      ⟨some 12, .mv (.t 1), none, []⟩,
      ⟨some 13, .conv .u64 (.t 12), none, []⟩,
      ⟨some 14, .bin .shr (.t 11) (.t 13), none, []⟩,
      ⟨some 15, .mv (.t 2), none, []⟩,
      ⟨some 16, .call 163 [.t 15], none, []⟩,
      ⟨some 17, .bin .and (.t 14) (.t 16), none, []⟩,
      ⟨some 6, .mv (.t 17), none, []⟩] [0, 1, 2, 11, 12, 13, 14, 15, 16, 17]) (
    .ret)))
def a129 : AFun := ⟨3, 18, c129, [.t 6]⟩

/-- copse/node.Unpack$1 -/
def c130 : ACode :=
 .seq (
  .ops [⟨some 5, .mv (.c (.int .i64 0)), none, []⟩] [5]) (
  .seq (
   .ops [⟨some 6, .load 1 false (.t 2), none, []⟩,
     ⟨some 7, .mv (.t 0), none, []⟩,
     ⟨some 8, .mv (.t 1), none, []⟩,
     ⟨some 9, .call 129 [.t 6, .t 7, .t 8], none, []⟩,
     ⟨some 10, .conv .i64 (.t 9), none, []⟩,
     ⟨some 5, .mv (.t 10), none, []⟩] [0, 1, 2, 6, 7, 8, 9, 10]) (
   .ret))
def a130 : AFun := ⟨3, 11, c130, [.t 5]⟩

/-- copse/node.Pack -/
def c131 : ACode :=
 .seq (
  .ops [⟨some 1, .box (.t 0) 6, none, []⟩,
    ⟨some 2, .mv (.c (.int .u64 0)), none, []⟩] [0, 2]) (
  .seq (
   .seq (
    .ops [⟨some 4, .load 6 true (.t 1), none, [1]⟩,
      ⟨some 5, .call 164 [.t 4], none, []⟩,
      ⟨some 6, .un .not (.t 5), none, []⟩] [4, 5]) (
    .cond (.t 6) (
     .seq (
      .ops [⟨some 2, .mv (.c (.int .u64 0)), none, []⟩] []) (
      .ret)) (
     .skip))) (
   .seq (
    .seq (
     .ops [⟨some 7, .fad (.t 1) 0, none, [1]⟩,
       ⟨some 8, .load 1 false (.t 7), none, [1]⟩] [7]) (
     .cond (.t 8) (
      .seq (
       .ops [⟨some 9, .fad (.t 1) 1, none, [1]⟩,
         ⟨some 10, .load 1 false (.t 9), none, [1]⟩,
         ⟨some 11, .conv .u64 (.t 10), none, []⟩,
         ⟨some 12, .call 165 [.c (.int .u64 9223372036854775808), .c (.int .i64 0), .c (.int .i64 32), .t 11], none, []⟩,
         ⟨some 2, .mv (.t 12), none, []⟩] [1, 9, 10, 11, 12]) (
       .ret)) (
      .skip))) (
    .seq (
     .ops [⟨some 13, .fad (.t 1) 3, none, [1]⟩,
       ⟨some 14, .load 1 false (.t 13), none, [1]⟩,
       ⟨some 15, .conv .u64 (.t 14), none, []⟩,
       ⟨some 16, .call 165 [.c (.int .u64 0), .c (.int .i64 0), .c (.int .i64 32), .t 15], none, []⟩,
       ⟨some 3, .mv (.t 16), none, []⟩] [13, 14, 15, 16]) (
     .seq (
      .ops [⟨some 17, .mv (.t 3), none, []⟩,
        ⟨some 18, .fad (.t 1) 2, none, [1]⟩,
        ⟨some 19, .load 1 false (.t 18), none, [1]⟩,
        ⟨some 20, .conv .u64 (.t 19), none, []⟩,
        ⟨some 21, .call 165 [.t 17, .c (.int .i64 32), .c (.int .i64 4), .t 20], none, []⟩,
        ⟨some 3, .mv (.t 21), none, []⟩] [17, 18, 19, 20, 21]) (
      .seq (
       .ops [⟨some 22, .mv (.t 3), none, []⟩,
         ⟨some 23, .fad (.t 1) 4, none, [1]⟩,
         ⟨some 24, .load 1 false (.t 23), none, [1]⟩,
         ⟨some 25, .conv .u64 (.t 24), none, []⟩,
         ⟨some 26, .call 165 [.t 22, .c (.int .i64 40), .c (.int .i64 8), .t 25], none, []⟩,
         ⟨some 3, .mv (.t 26), none, []⟩] [22, 23, 24, 25, 26]) (
       .seq (
        .ops [⟨some 27, .mv (.t 3), none, []⟩,
          ⟨some 28, .fad (.t 1) 5, none, [1]⟩,
          ⟨some 29, .load 1 false (.t 28), none, [1]⟩,
          ⟨some 30, .conv .u64 (.t 29), none, []⟩,
          ⟨some 31, .call 165 [.t 27, .c (.int .i64 48), .c (.int .i64 8), .t 30], none, []⟩,
          ⟨some 2, .mv (.t 31), none, []⟩] [1, 3, 27, 28, 29, 30, 31]) (
        .ret)))))))
def a131 : AFun := ⟨1, 32, c131, [.t 2]⟩

/-- copse/level.start -/
def a132_0 : ACode := .keep [1, 5, 11, 25, 26, 27] [5, 11] (
 .seq (
  .ops [⟨some 28, .bin .lss (.t 27) (.t 26), none, []⟩] []) (
  .seq (
   .cond (.t 28) (
    .skip) (
    .exit 0)) (
   .seq (
    .block 1 (
     .seq (
      .ops [⟨some 29, .ias (.t 25) (.t 27) 2, none, []⟩,
        ⟨some 30, .load 2 true (.t 29), none, []⟩,
        ⟨some 13, .alloc [.int .i64 0, .nils], none, []⟩,
        ⟨none, .store (.t 13) 2 (.t 30), none, [13]⟩] [29, 30]) (
      .seq (
       .ops [⟨some 31, .fad (.t 13) 0, none, [13]⟩,
         ⟨some 32, .load 1 false (.t 31), none, [13]⟩,
         ⟨some 33, .mv (.t 1), none, []⟩,
         ⟨some 34, .bin .eql (.t 32) (.t 33), none, []⟩] [31, 32, 33]) (
       .cond (.t 34) (
        .ops [⟨some 35, .mv (.t 11), none, []⟩,
          ⟨some 36, .fad (.t 13) 1, none, [13]⟩,
          ⟨some 37, .load 1 false (.t 36), none, [13]⟩,
          ⟨some 38, .load 10 true (.t 5), none, [5]⟩,
          ⟨some 39, .call 51 [.t 37, .t 38], none, []⟩,
          ⟨some 40, .mkrow 40 1 1 [.nils] [(0, 1, .t 39)], none, []⟩,
          ⟨some 41, .app 11 (.t 35) (.t 40) 1, none, [11, 40]⟩,
          ⟨some 11, .mv (.t 41), none, []⟩] [13, 35, 36, 37, 38, 39, 40, 41]) (
        .skip))))) (
    .ops [⟨some 42, .bin .add (.t 27) (.c (.int .i64 1)), none, []⟩,
      ⟨some 27, .mv (.t 42), none, []⟩] [42]))))
def c132 : ACode :=
 .seq (
  .ops [⟨some 3, .box (.t 0) 6, none, []⟩,
    ⟨some 5, .box (.t 2) 10, none, []⟩,
    ⟨some 6, .mv (.c (.nils)), none, []⟩,
    ⟨some 7, .mv (.c (.bool false)), none, []⟩] [0, 2, 6, 7]) (
  .seq (
   .seq (
    .ops [⟨some 15, .load 6 true (.t 3), none, [3]⟩,
      ⟨some 16, .mv (.t 1), none, []⟩,
      ⟨some 17, .load 10 true (.t 5), none, [5]⟩,
      ⟨some 18, .call 44 [.t 15, .t 16, .t 17], none, []⟩,
      ⟨some 14, .mv (.t 18), none, []⟩,
      ⟨some 19, .ext (.t 14) 0, none, []⟩,
      ⟨some 20, .ext (.t 14) 1, none, []⟩,
      ⟨some 21, .ext (.t 14) 2, none, []⟩,
      ⟨some 8, .mv (.t 19), none, []⟩,
      ⟨some 9, .mv (.t 20), none, []⟩,
      ⟨some 10, .mv (.t 21), none, []⟩] [8, 9, 14, 15, 16, 17, 18, 19, 20, 21]) (
    .seq (
     .ops [⟨some 22, .mv (.t 10), none, []⟩,
       ⟨some 23, .un .not (.t 22), none, []⟩] [10, 22]) (
     .cond (.t 23) (
      .seq (
       .ops [⟨some 6, .mv (.c (.nils)), none, []⟩,
         ⟨some 7, .mv (.c (.bool false)), none, []⟩] []) (
       .ret)) (
      .skip)))) (
   .seq (
    .ops [⟨some 11, .nil0 11 1, none, []⟩] []) (
    .seq (
     .seq (
      .ops [⟨some 24, .fad (.t 3) 5, none, [3]⟩,
        ⟨some 25, .load 1 false (.t 24), none, [3]⟩,
        ⟨some 26, .len (.t 25), none, []⟩,
        ⟨some 27, .mv (.c (.int .i64 0)), none, []⟩] [3, 24]) (
      .block 0 (
       .loop a132_0))) (
     .seq (
      .ops [⟨some 43, .mv (.t 11), none, []⟩,
        ⟨some 6, .mv (.t 43), none, []⟩,
        ⟨some 7, .mv (.c (.bool true)), none, []⟩] [11, 43]) (
      .ret)))))
def a132 : AFun := ⟨3, 44, c132, [.t 6, .t 7]⟩

/-- copse/level.climb -/
def a133_0 : ACode := .keep [0, 1, 6] [6] (
 .block 1 (
  .seq (
   .ops [⟨some 13, .mv (.t 0), none, []⟩,
     ⟨some 14, .mv (.t 1), none, []⟩,
     ⟨some 15, .call 166 [.t 13, .t 14], none, []⟩,
     ⟨some 12, .mv (.t 15), none, []⟩,
     ⟨some 16, .ext (.t 12) 0, none, []⟩,
     ⟨some 17, .ext (.t 12) 1, none, []⟩,
     ⟨some 7, .mv (.t 16), none, []⟩,
     ⟨some 8, .mv (.t 17), none, []⟩] [12, 13, 14, 15, 16, 17]) (
   .seq (
    .seq (
     .ops [⟨some 18, .mv (.t 8), none, []⟩,
       ⟨some 19, .un .not (.t 18), none, []⟩] [8, 18]) (
     .cond (.t 19) (
      .seq (
       .ops [⟨some 20, .mv (.t 0), none, []⟩,
         ⟨some 21, .mv (.t 6), none, []⟩,
         ⟨some 4, .mv (.t 20), none, []⟩,
         ⟨some 5, .mv (.t 21), none, []⟩] [0, 6, 20, 21]) (
       .ret)) (
      .skip))) (
    .seq (
     .ops [⟨some 22, .mv (.t 7), none, []⟩,
       ⟨some 0, .mv (.t 22), none, []⟩] [7, 22]) (
     .ops [⟨some 23, .mv (.t 6), none, []⟩,
       ⟨some 24, .mv (.t 0), none, []⟩,
       ⟨some 25, .len (.t 24), none, []⟩,
       ⟨some 26, .mkrow 26 1 1 [.int .i64 0] [(0, 1, .t 25)], none, []⟩,
       ⟨some 27, .app 6 (.t 23) (.t 26) 1, none, [6, 26]⟩,
       ⟨some 6, .mv (.t 27), none, []⟩] [23, 24, 25, 26, 27])))))
def c133 : ACode :=
 .seq (
  .ops [⟨some 4, .mv (.c (.nils)), none, []⟩,
    ⟨some 5, .mv (.c (.nils)), none, []⟩] [4, 5]) (
  .seq (
   .ops [⟨some 9, .mv (.t 0), none, []⟩,
     ⟨some 10, .len (.t 9), none, []⟩,
     ⟨some 11, .mkrow 6 1 1 [.int .i64 0] [(0, 1, .t 10)], none, []⟩,
     ⟨some 6, .mv (.t 11), none, []⟩] [9, 10, 11]) (
   .block 0 (
    .loop a133_0)))
def a133 : AFun := ⟨2, 28, c133, [.t 4, .t 5]⟩

/-- copse/clique.Ends -/
def a134_0 : ACode := .keep [5, 6, 20, 21, 22] [] (
 .seq (
  .ops [⟨some 23, .bin .lss (.t 22) (.t 21), none, []⟩] []) (
  .seq (
   .cond (.t 23) (
    .skip) (
    .exit 0)) (
   .seq (
    .block 1 (
     .seq (
      .ops [⟨some 24, .ias (.t 20) (.t 22) 11, none, []⟩,
        ⟨some 25, .load 11 true (.t 24), none, []⟩,
        ⟨some 8, .alloc [.int .i64 0, .int .i64 0, .int .i64 0, .int .i64 0, .int .i64 0, .int .i64 0, .int .i64 0, .int .i64 0, .int .i64 0, .int .i64 0, .int .i64 0], none, []⟩,
        ⟨none, .store (.t 8) 11 (.t 25), none, [8]⟩] [24, 25]) (
      .ops [⟨some 26, .mv (.t 5), none, []⟩,
        ⟨some 27, .fad (.t 8) 10, none, [8]⟩,
        ⟨some 28, .load 1 false (.t 27), none, [8]⟩,
        ⟨some 29, .mnmx false (.t 26) (.t 28), none, []⟩,
        ⟨some 30, .mv (.t 6), none, []⟩,
        ⟨some 31, .fad (.t 8) 10, none, [8]⟩,
        ⟨some 32, .load 1 false (.t 31), none, [8]⟩,
        ⟨some 33, .mnmx true (.t 30) (.t 32), none, []⟩,
        ⟨some 5, .mv (.t 29), none, []⟩,
        ⟨some 6, .mv (.t 33), none, []⟩] [8, 26, 27, 28, 29, 30, 31, 32, 33]))) (
    .ops [⟨some 34, .bin .add (.t 22) (.c (.int .i64 1)), none, []⟩,
      ⟨some 22, .mv (.t 34), none, []⟩] [34]))))
def c134 : ACode :=
 .seq (
  .ops [⟨some 2, .mv (.c (.int .i64 0)), none, []⟩,
    ⟨some 3, .mv (.c (.int .i64 0)), none, []⟩,
    ⟨some 4, .mv (.c (.bool false)), none, []⟩] [2, 3, 4]) (
  .seq (
   .seq (
    .ops [⟨some 9, .mv (.t 0), none, []⟩,
      ⟨some 10, .len (.t 9), none, []⟩,
      ⟨some 11, .bin .eql (.t 10) (.c (.int .i64 0)), none, []⟩] [9, 10]) (
    .cond (.t 11) (
     .seq (
      .ops [⟨some 2, .mv (.c (.int .i64 0)), none, []⟩,
        ⟨some 3, .mv (.c (.int .i64 0)), none, []⟩,
        ⟨some 4, .mv (.c (.bool false)), none, []⟩] []) (
      .ret)) (
     .skip))) (
   .seq (
    .ops [⟨some 12, .mv (.t 0), none, []⟩,
      ⟨some 13, .ias (.t 12) (.c (.int .i64 0)) 11, none, []⟩,
      ⟨some 14, .fad (.t 13) 10, none, []⟩,
      ⟨some 15, .load 1 false (.t 14), none, []⟩,
      ⟨some 16, .mv (.t 0), none, []⟩,
      ⟨some 17, .ias (.t 16) (.c (.int .i64 0)) 11, none, []⟩,
      ⟨some 18, .fad (.t 17) 10, none, []⟩,
      ⟨some 19, .load 1 false (.t 18), none, []⟩,
      ⟨some 5, .mv (.t 15), none, []⟩,
      ⟨some 6, .mv (.t 19), none, []⟩] [12, 13, 14, 15, 16, 17, 18, 19]) (
    .seq (
     .seq (
      .ops [⟨some 20, .mv (.t 0), none, []⟩,
        ⟨some 21, .len (.t 20), none, []⟩,
        ⟨some 22, .mv (.c (.int .i64 0)), none, []⟩] [0]) (
      .block 0 (
       .loop a134_0))) (
     .seq (
      .ops [⟨some 35, .mv (.t 5), none, []⟩,
        ⟨some 36, .mv (.t 6), none, []⟩,
        ⟨some 2, .mv (.t 35), none, []⟩,
        ⟨some 3, .mv (.t 36), none, []⟩,
        ⟨some 4, .mv (.c (.bool true)), none, []⟩] [5, 6, 35, 36]) (
      .ret)))))
def a134 : AFun := ⟨1, 37, c134, [.t 2, .t 3, .t 4]⟩

/-- copse/copseref6.RightNode -/
def c156 : ACode :=
 .seq (
  .ops [⟨some 1, .box (.t 0) 6, none, []⟩,
    ⟨some 2, .mv (.c (.bool false)), none, []⟩] [0, 2]) (
  .seq (
   .seq (
    .ops [⟨some 3, .fad (.t 1) 0, none, [1]⟩,
      ⟨some 4, .load 1 false (.t 3), none, [1]⟩] [3]) (
    .cond (.t 4) (
     .seq (
      .ops [⟨some 5, .fad (.t 1) 1, none, [1]⟩,
        ⟨some 6, .load 1 false (.t 5), none, [1]⟩,
        ⟨some 7, .call 119 [.t 6, .c (.int .i64 32)], none, []⟩,
        ⟨some 8, .mv (.t 7), none, []⟩,
        ⟨some 9, .fad (.t 1) 2, some (8, true), [1]⟩,
        ⟨some 10, .load 1 false (.t 9), some (8, true), [1]⟩,
        ⟨some 11, .bin .eql (.t 10) (.c (.int .i64 0)), some (8, true), []⟩,
        ⟨some 12, .pick (.t 8) (.t 11) (.c (.bool false)), none, []⟩,
        ⟨some 13, .mv (.t 12), none, []⟩,
        ⟨some 14, .fad (.t 1) 3, some (13, true), [1]⟩,
        ⟨some 15, .load 1 false (.t 14), some (13, true), [1]⟩,
        ⟨some 16, .bin .eql (.t 15) (.c (.int .i64 0)), some (13, true), []⟩,
        ⟨some 17, .pick (.t 13) (.t 16) (.c (.bool false)), none, []⟩,
        ⟨some 18, .mv (.t 17), none, []⟩,
        ⟨some 19, .fad (.t 1) 4, some (18, true), [1]⟩,
        ⟨some 20, .load 1 false (.t 19), some (18, true), [1]⟩,
        ⟨some 21, .bin .eql (.t 20) (.c (.int .i64 0)), some (18, true), []⟩,
        ⟨some 22, .pick (.t 18) (.t 21) (.c (.bool false)), none, []⟩,
        ⟨some 23, .mv (.t 22), none, []⟩,
        ⟨some 24, .fad (.t 1) 5, some (23, true), [1]⟩,
        ⟨some 25, .load 1 false (.t 24), some (23, true), [1]⟩,
        ⟨some 26, .bin .eql (.t 25) (.c (.int .i64 0)), some (23, true), []⟩,
        ⟨some 27, .pick (.t 23) (.t 26) (.c (.bool false)), none, []⟩,
        ⟨some 2, .mv (.t 27), none, []⟩] [1, 5, 6, 7, 8, 9, 10, 11, 12, 13, 14, 15, 16, 17, 18, 19, 20, 21, 22, 23, 24, 25, 26, 27]) (
      .ret)) (
     .skip))) (
   .seq (
    .ops [⟨some 28, .fad (.t 1) 1, none, [1]⟩,
      ⟨some 29, .load 1 false (.t 28), none, [1]⟩,
      ⟨some 30, .bin .eql (.t 29) (.c (.int .i64 0)), none, []⟩,
      ⟨some 31, .mv (.t 30), none, []⟩,
      ⟨some 32, .fad (.t 1) 2, some (31, true), [1]⟩,
      ⟨some 33, .load 1 false (.t 32), some (31, true), [1]⟩,
      ⟨some 34, .bin .geq (.t 33) (.c (.int .i64 0)), some (31, true), []⟩,
      ⟨some 35, .pick (.t 31) (.t 34) (.c (.bool false)), none, []⟩,
      ⟨some 36, .mv (.t 35), none, []⟩,
      ⟨some 37, .fad (.t 1) 2, some (36, true), [1]⟩,
      ⟨some 38, .load 1 false (.t 37), some (36, true), [1]⟩,
      ⟨some 39, .bin .lss (.t 38) (.c (.int .i64 4)), some (36, true), []⟩,
      ⟨some 40, .pick (.t 36) (.t 39) (.c (.bool false)), none, []⟩,
      ⟨some 41, .mv (.t 40), none, []⟩,
      ⟨some 42, .fad (.t 1) 3, some (41, true), [1]⟩,
      ⟨some 43, .load 1 false (.t 42), some (41, true), [1]⟩,
      ⟨some 44, .call 119 [.t 43, .c (.int .i64 32)], some (41, true), []⟩,
      ⟨some 45, .pick (.t 41) (.t 44) (.c (.bool false)), none, []⟩,
      ⟨some 46, .mv (.t 45), none, []⟩,
      ⟨some 47, .fad (.t 1) 4, some (46, true), [1]⟩,
      ⟨some 48, .load 1 false (.t 47), some (46, true), [1]⟩,
      ⟨some 49, .bin .geq (.t 48) (.c (.int .i64 1)), some (46, true), []⟩,
      ⟨some 50, .pick (.t 46) (.t 49) (.c (.bool false)), none, []⟩,
      ⟨some 51, .mv (.t 50), none, []⟩,
      ⟨some 52, .fad (.t 1) 4, some (51, true), [1]⟩,
      ⟨some 53, .load 1 false (.t 52), some (51, true), [1]⟩,
      ⟨some 54, .bin .lss (.t 53) (.c (.int .i64 31)), some (51, true), []⟩,
      ⟨some 55, .pick (.t 51) (.t 54) (.c (.bool false)), none, []⟩,
      ⟨some 56, .mv (.t 55), none, []⟩,
      ⟨some 57, .fad (.t 1) 5, some (56, true), [1]⟩,
      ⟨some 58, .load 1 false (.t 57), some (56, true), [1]⟩,
      ⟨some 59, .bin .geq (.t 58) (.c (.int .i64 1)), some (56, true), []⟩,
      ⟨some 60, .pick (.t 56) (.t 59) (.c (.bool false)), none, []⟩,
      ⟨some 61, .mv (.t 60), none, []⟩,
      ⟨some 62, .fad (.t 1) 5, some (61, true), [1]⟩,
      ⟨some 63, .load 1 false (.t 62), some (61, true), [1]⟩,
      ⟨some 64, .bin .lss (.t 63) (.c (.int .i64 31)), some (61, true), []⟩,
      ⟨some 65, .pick (.t 61) (.t 64) (.c (.bool false)), none, []⟩,
      ⟨some 2, .mv (.t 65), none, []⟩] [1, 28, 29, 30, 31, 32, 33, 34, 35, 36, 37, 38, 39, 40, 41, 42, 43, 44, 45, 46, 47, 48, 49, 50, 51, 52, 53, 54, 55, 56, 57, 58, 59, 60, 61, 62, 63, 64, 65]) (
    .ret)))
def a156 : AFun := ⟨1, 66, c156, [.t 2]⟩

/-- copse/span.of -/
def c158 : ACode :=
 .seq (
  .ops [⟨some 4, .alloc [.int .i64 0, .int .i64 0], none, []⟩] []) (
  .seq (
   .seq (
    .ops [⟨some 5, .mv (.t 0), none, []⟩,
      ⟨some 6, .mv (.t 1), none, []⟩,
      ⟨some 7, .bin .gtr (.t 5) (.t 6), none, []⟩] [5, 6]) (
    .cond (.t 7) (
     .seq (
      .ops [⟨some 8, .call 159 [], none, []⟩,
        ⟨none, .store (.t 4) 2 (.t 8), none, [4]⟩] [8]) (
      .ret)) (
     .skip))) (
   .seq (
    .ops [⟨some 9, .mv (.t 0), none, []⟩,
      ⟨some 10, .mv (.t 1), none, []⟩,
      ⟨some 11, .build [.int .i64 0, .int .i64 0] [(0, 1, .t 9), (1, 1, .t 10)], none, []⟩,
      ⟨none, .store (.t 4) 2 (.t 11), none, [4]⟩] [0, 1, 9, 10, 11]) (
    .ret)))
def a158 : AFun := ⟨2, 12, c158, [.cell 4 2 true]⟩

/-- copse/span.none -/
def c159 : ACode :=
 .seq (
  .ops [⟨some 0, .alloc [.int .i64 0, .int .i64 0], none, []⟩] []) (
  .seq (
   .ops [⟨some 1, .build [.int .i64 0, .int .i64 0] [(0, 1, .c (.int .i64 1))], none, []⟩,
     ⟨none, .store (.t 0) 2 (.t 1), none, [0]⟩] [1]) (
   .ret))
def a159 : AFun := ⟨0, 2, c159, [.cell 0 2 true]⟩

/-- slices.IndexFunc[[]copse/api.Tree,copse/api.Tree] -/
def a160_0 : ACode := .keep [0, 1, 7, 8] [] (
 .seq (
  .ops [⟨some 9, .bin .lss (.t 8) (.t 7), none, []⟩] []) (
  .seq (
   .cond (.t 9) (
    .skip) (
    .exit 0)) (
   .seq (
    .block 1 (
     .seq (
      .ops [⟨some 10, .mv (.t 8), none, []⟩,
        ⟨some 5, .mv (.t 10), none, []⟩] [10]) (
      .seq (
       .ops [⟨some 11, .mv (.t 1), none, []⟩,
         ⟨some 12, .mv (.t 0), none, []⟩,
         ⟨some 13, .mv (.t 5), none, []⟩,
         ⟨some 14, .ias (.t 12) (.t 13) 2, none, []⟩,
         ⟨some 15, .load 2 true (.t 14), none, []⟩,
         ⟨some 16, .dyn (.t 11) [.t 15], none, []⟩] [11, 12, 13, 14, 15]) (
       .cond (.t 16) (
        .seq (
         .ops [⟨some 17, .mv (.t 5), none, []⟩,
           ⟨some 4, .mv (.t 17), none, []⟩] [5, 17]) (
         .ret)) (
        .skip))))) (
    .ops [⟨some 18, .bin .add (.t 8) (.c (.int .i64 1)), none, []⟩,
      ⟨some 8, .mv (.t 18), none, []⟩] [18]))))
def c160 : ACode :=
 .seq (
  .ops [⟨some 4, .mv (.c (.int .i64 0)), none, []⟩] [4]) (
  .seq (
   .seq (
    .ops [⟨some 6, .mv (.t 0), none, []⟩,
      ⟨some 7, .len (.t 6), none, []⟩,
      ⟨some 8, .mv (.c (.int .i64 0)), none, []⟩] [6]) (
    .block 0 (
     .loop a160_0))) (
   .seq (
    .ops [⟨some 4, .mv (.c (.int .i64 (-1))), none, []⟩] []) (
    .ret)))
def a160 : AFun := ⟨2, 19, c160, [.t 4]⟩

/-- copse/bits.Wrap -/
def c161 : ACode :=
 .seq (
  .ops [⟨some 4, .mv (.c (.int .i64 0)), none, []⟩] [4]) (
  .seq (
   .seq (
    .ops [⟨some 6, .mv (.t 1), none, []⟩,
      ⟨some 7, .bin .lss (.t 6) (.c (.int .i64 1)), none, []⟩,
      ⟨some 8, .mv (.t 7), none, []⟩,
      ⟨some 9, .mv (.t 1), some (8, false), []⟩,
      ⟨some 10, .bin .geq (.t 9) (.c (.int .i64 64)), some (8, false), []⟩,
      ⟨some 11, .pick (.t 8) (.c (.bool true)) (.t 10), none, []⟩] [6, 7, 8, 9, 10]) (
    .cond (.t 11) (
     .seq (
      .ops [⟨some 12, .mv (.t 0), none, []⟩,
        ⟨some 4, .mv (.t 12), none, []⟩] [0, 12]) (
      .ret)) (
     .skip))) (
   .seq (
    .ops [⟨some 13, .mv (.t 1), none, []⟩,
      ⟨some 14, .bin .sub (.c (.int .i64 64)) (.t 13), none, []⟩,
      ⟨some 15, .conv .u64 (.t 14), none, []⟩,
      ⟨some 5, .mv (.t 15), none, []⟩] [1, 13, 14, 15]) (
    .seq (
     .ops [⟨some 16, .mv (.t 0), none, []⟩,
       ⟨some 17, .mv (.t 5), none, []⟩,
       ⟨some 18, .bin .shl (.t 16) (.t 17), none, []⟩,
       ⟨some 19, .mv (.t 5), none, []⟩,
       ⟨some 20, .bin .shr (.t 18) (.t 19), none, []⟩,
       ⟨some 4, .mv (.t 20), none, []⟩] [0, 5, 16, 17, 18, 19, 20]) (
     .ret))))
def a161 : AFun := ⟨2, 21, c161, [.t 4]⟩

/-- copse/bits.field -/
def c162 : ACode :=
 .seq (
  .ops [⟨some 4, .mv (.c (.bool false)), none, []⟩] [4]) (
  .seq (
   .ops [⟨some 5, .mv (.t 0), none, []⟩,
     ⟨some 6, .bin .geq (.t 5) (.c (.int .i64 0)), none, []⟩,
     ⟨some 7, .mv (.t 6), none, []⟩,
     ⟨some 8, .mv (.t 0), some (7, true), []⟩,
     ⟨some 9, .bin .lss (.t 8) (.c (.int .i64 64)), some (7, true), []⟩,
     ⟨some 10, .pick (.t 7) (.t 9) (.c (.bool false)), none, []⟩,
     ⟨some 11, .mv (.t 10), none, []⟩,
     ⟨some 12, .mv (.t 1), some (11, true), []⟩,
     ⟨some 13, .bin .geq (.t 12) (.c (.int .i64 1)), some (11, true), []⟩,
     ⟨some 14, .pick (.t 11) (.t 13) (.c (.bool false)), none, []⟩,
     ⟨some 15, .mv (.t 14), none, []⟩,
     ⟨some 16, .mv (.t 1), some (15, true), []⟩,
     ⟨some 17, .mv (.t 0), some (15, true), []⟩,
     ⟨some 18, .bin .sub (.c (.int .i64 64)) (.t 17), some (15, true), []⟩,
     ⟨some 19, .bin .leq (.t 16) (.t 18), some (15, true), []⟩,
     ⟨some 20, .pick (.t 15) (.t 19) (.c (.bool false)), none, []⟩,
     ⟨some 4, .mv (.t 20), none, []⟩] [0, 1, 5, 6, 7, 8, 9, 10, 11, 12, 13, 14, 15, 16, 17, 18, 19, 20]) (
   .ret))
def a162 : AFun := ⟨2, 21, c162, [.t 4]⟩

/-- copse/bits.mask -/
def c163 : ACode :=
 .seq (
  .ops [⟨some 2, .mv (.c (.int .u64 0)), none, []⟩] [2]) (
  .seq (
   .ops [⟨some 3, .mv (.t 0), none, []⟩,
     ⟨some 4, .bin .sub (.c (.int .i64 64)) (.t 3), none, []⟩,
     ⟨some 5, .conv .u64 (.t 4), none, []⟩,
     ⟨some 6, .bin .shr (.c (.int .u64 18446744073709551615)) (.t 5), none, []⟩,
     ⟨some 2, .mv (.t 6), none, []⟩] [0, 3, 4, 5, 6]) (
   .ret))
def a163 : AFun := ⟨1, 7, c163, [.t 2]⟩

/-- copse/node.Right -/
def c164 : ACode :=
 .seq (
  .ops [⟨some 1, .box (.t 0) 6, none, []⟩,
    ⟨some 2, .mv (.c (.bool false)), none, []⟩] [0, 2]) (
  .seq (
   .seq (
    .ops [⟨some 3, .fad (.t 1) 0, none, [1]⟩,
      ⟨some 4, .load 1 false (.t 3), none, [1]⟩] [3]) (
    .cond (.t 4) (
     .seq (
      .ops [⟨some 5, .load 6 true (.t 1), none, [1]⟩,
        ⟨some 6, .fad (.t 1) 1, none, [1]⟩,
        ⟨some 7, .load 1 false (.t 6), none, [1]⟩,
        ⟨some 8, .build [.bool false, .int .i64 0, .int .i64 0, .int .i64 0, .int .i64 0, .int .i64 0] [(0, 1, .c (.bool true)), (1, 1, .t 7)], none, []⟩,
        ⟨some 9, .eqa false [true, false, false, false, false, false] (.t 5) (.t 8), none, []⟩,
        ⟨some 10, .mv (.t 9), none, []⟩,
        ⟨some 11, .fad (.t 1) 1, some (10, true), [1]⟩,
        ⟨some 12, .load 1 false (.t 11), some (10, true), [1]⟩,
        ⟨some 13, .call 123 [.t 12, .c (.int .i64 32)], some (10, true), []⟩,
        ⟨some 14, .pick (.t 10) (.t 13) (.c (.bool false)), none, []⟩,
        ⟨some 2, .mv (.t 14), none, []⟩] [1, 5, 6, 7, 8, 9, 10, 11, 12, 13, 14]) (
      .ret)) (
     .skip))) (
   .seq (
    .ops [⟨some 15, .fad (.t 1) 1, none, [1]⟩,
      ⟨some 16, .load 1 false (.t 15), none, [1]⟩,
      ⟨some 17, .bin .eql (.t 16) (.c (.int .i64 0)), none, []⟩,
      ⟨some 18, .mv (.t 17), none, []⟩,
      ⟨some 19, .fad (.t 1) 2, some (18, true), [1]⟩,
      ⟨some 20, .load 1 false (.t 19), some (18, true), [1]⟩,
      ⟨some 21, .bin .geq (.t 20) (.c (.int .i64 0)), some (18, true), []⟩,
      ⟨some 22, .pick (.t 18) (.t 21) (.c (.bool false)), none, []⟩,
      ⟨some 23, .mv (.t 22), none, []⟩,
      ⟨some 24, .fad (.t 1) 2, some (23, true), [1]⟩,
      ⟨some 25, .load 1 false (.t 24), some (23, true), [1]⟩,
      ⟨some 26, .bin .lss (.t 25) (.c (.int .i64 4)), some (23, true), []⟩,
      ⟨some 27, .pick (.t 23) (.t 26) (.c (.bool false)), none, []⟩,
      ⟨some 28, .mv (.t 27), none, []⟩,
      ⟨some 29, .fad (.t 1) 3, some (28, true), [1]⟩,
      ⟨some 30, .load 1 false (.t 29), some (28, true), [1]⟩,
      ⟨some 31, .call 123 [.t 30, .c (.int .i64 32)], some (28, true), []⟩,
      ⟨some 32, .pick (.t 28) (.t 31) (.c (.bool false)), none, []⟩,
      ⟨some 33, .mv (.t 32), none, []⟩,
      ⟨some 34, .fad (.t 1) 4, some (33, true), [1]⟩,
      ⟨some 35, .load 1 false (.t 34), some (33, true), [1]⟩,
      ⟨some 36, .call 176 [.t 35], some (33, true), []⟩,
      ⟨some 37, .pick (.t 33) (.t 36) (.c (.bool false)), none, []⟩,
      ⟨some 38, .mv (.t 37), none, []⟩,
      ⟨some 39, .fad (.t 1) 5, some (38, true), [1]⟩,
      ⟨some 40, .load 1 false (.t 39), some (38, true), [1]⟩,
      ⟨some 41, .call 176 [.t 40], some (38, true), []⟩,
      ⟨some 42, .pick (.t 38) (.t 41) (.c (.bool false)), none, []⟩,
      ⟨some 2, .mv (.t 42), none, []⟩] [1, 15, 16, 17, 18, 19, 20, 21, 22, 23, 24, 25, 26, 27, 28, 29, 30, 31, 32, 33, 34, 35, 36, 37, 38, 39, 40, 41, 42]) (
    .ret)))
def a164 : AFun := ⟨1, 43, c164, [.t 2]⟩

/-- copse/bits.Put -/
def c165 : ACode :=
 .seq (
  .ops [⟨some 8, .mv (.c (.int .u64 0)), none, []⟩] [8]) (
  .seq (
   .seq (
    .ops [⟨some 10, .mv (.t 1), none, []⟩,
      ⟨some 11, .mv (.t 2), none, []⟩,
      ⟨some 12, .call 162 [.t 10, .t 11], none, []⟩,
      ⟨some 13, .un .not (.t 12), none, []⟩] [10, 11, 12]) (
    .cond (.t 13) (
     .seq (
      .ops [⟨some 14, .mv (.t 0), none, []⟩,
        ⟨some 8, .mv (.t 14), none, []⟩] [0, 14]) (
      .ret)) (
     .skip))) (
   .seq (
    .ops [⟨some 15, .mv (.t 2), none, []⟩,
      ⟨some 16, .call 163 [.t 15], none, []⟩,
      ⟨some 17, .mv (.t 1), none, []⟩,
      ⟨some 18, .conv .u64 (.t 17), none, []⟩,
      ⟨some 19, .bin .shl (.t 16) (.t 18), none, []⟩,
      ⟨some 9, .mv (.t 19), none, []⟩] [2, 15, 16, 17, 18, 19]) (
    .seq (
     .ops [⟨some 20, .mv (.t 0), none, []⟩,
       ⟨some 21, .mv (.t 9), none, []⟩,
       ⟨some 22, .bin .andNot (.t 20) (.t 21), none, []⟩,
       ⟨some 23, .mv (.t 3), none, []⟩,
       ⟨some 24, .mv (.t 1), none, []⟩,
       ⟨some 25, .conv .u64 (.t 24), none, []⟩,
       ⟨some 26, .bin .shl (.t 23) (.t 25), none, []⟩,
       ⟨some 27, .mv (.t 9), none, []⟩,
       ⟨some 28, .bin .and (.t 26) (.t 27), none, []⟩,
       ⟨some 29, .bin .or (.t 22) (.t 28), none, []⟩,
       ⟨some 8, .mv (.t 29), none, []⟩] [0, 1, 3, 9, 20, 21, 22, 23, 24, 25, 26, 27, 28, 29]) (
     .ret))))
def a165 : AFun := ⟨4, 30, c165, [.t 8]⟩

/-- copse/level.level -/
def a166_0 : ACode := .keep [0, 1, 6, 7] [6] (
 .seq (
  .seq (
   .ops [⟨some 10, .mv (.t 0), none, []⟩,
     ⟨some 11, .len (.t 10), none, []⟩,
     ⟨some 12, .bin .gtr (.t 11) (.c (.int .i64 0)), none, []⟩] [10, 11]) (
   .cond (.t 12) (
    .skip) (
    .exit 0))) (
  .block 1 (
   .seq (
    .seq (
     .ops [⟨some 13, .mv (.t 0), none, []⟩,
       ⟨some 14, .len (.t 13), none, []⟩,
       ⟨some 15, .bin .gtr (.t 14) (.c (.int .i64 1)), none, []⟩] [13, 14]) (
     .cond (.t 15) (
      .seq (
       .ops [⟨some 17, .mv (.t 0), none, []⟩,
         ⟨some 18, .ias (.t 17) (.c (.int .i64 0)) 1, none, []⟩,
         ⟨some 19, .load 1 false (.t 18), none, []⟩,
         ⟨some 20, .mv (.t 0), none, []⟩,
         ⟨some 21, .ias (.t 20) (.c (.int .i64 1)) 1, none, []⟩,
         ⟨some 22, .load 1 false (.t 21), none, []⟩,
         ⟨some 23, .mv (.t 1), none, []⟩,
         ⟨some 24, .call 177 [.t 19, .t 22, .t 23], none, []⟩,
         ⟨some 16, .mv (.t 24), none, []⟩,
         ⟨some 25, .ext (.t 16) 0, none, []⟩,
         ⟨some 26, .ext (.t 16) 1, none, []⟩,
         ⟨some 8, .mv (.t 25), none, []⟩,
         ⟨some 9, .mv (.t 26), none, []⟩] [16, 17, 18, 19, 20, 21, 22, 23, 24, 25, 26]) (
       .seq (
        .ops [⟨some 27, .mv (.t 9), none, []⟩] [9]) (
        .cond (.t 27) (
         .seq (
          .ops [⟨some 28, .mv (.t 6), none, []⟩,
            ⟨some 29, .mv (.t 8), none, []⟩,
            ⟨some 30, .mkrow 30 1 1 [.nils] [(0, 1, .t 29)], none, []⟩,
            ⟨some 31, .app 6 (.t 28) (.t 30) 1, none, [6, 30]⟩,
            ⟨some 32, .mv (.t 0), none, []⟩,
            ⟨some 33, .sl (.t 32) (some (.c (.int .i64 2))) none 1, none, []⟩,
            ⟨some 6, .mv (.t 31), none, []⟩,
            ⟨some 0, .mv (.t 33), none, []⟩,
            ⟨some 7, .mv (.c (.bool true)), none, []⟩] [8, 28, 29, 30, 31, 32, 33]) (
          .exit 1)) (
         .skip)))) (
      .skip))) (
    .ops [⟨some 34, .mv (.t 6), none, []⟩,
      ⟨some 35, .mv (.t 0), none, []⟩,
      ⟨some 36, .ias (.t 35) (.c (.int .i64 0)) 1, none, []⟩,
      ⟨some 37, .load 1 false (.t 36), none, []⟩,
      ⟨some 38, .mkrow 38 1 1 [.nils] [(0, 1, .t 37)], none, []⟩,
      ⟨some 39, .app 6 (.t 34) (.t 38) 1, none, [6, 38]⟩,
      ⟨some 40, .mv (.t 0), none, []⟩,
      ⟨some 41, .sl (.t 40) (some (.c (.int .i64 1))) none 1, none, []⟩,
      ⟨some 6, .mv (.t 39), none, []⟩,
      ⟨some 0, .mv (.t 41), none, []⟩] [34, 35, 36, 37, 38, 39, 40, 41]))))
def c166 : ACode :=
 .seq (
  .ops [⟨some 4, .mv (.c (.nils)), none, []⟩,
    ⟨some 5, .mv (.c (.bool false)), none, []⟩] [4, 5]) (
  .seq (
   .ops [⟨some 6, .nil0 6 1, none, []⟩] []) (
   .seq (
    .ops [⟨some 7, .mv (.c (.bool false)), none, []⟩] []) (
    .seq (
     .block 0 (
      .loop a166_0)) (
     .seq (
      .ops [⟨some 42, .mv (.t 6), none, []⟩,
        ⟨some 43, .mv (.t 7), none, []⟩,
        ⟨some 4, .mv (.t 42), none, []⟩,
        ⟨some 5, .mv (.t 43), none, []⟩] [6, 7, 42, 43]) (
      .ret)))))
def a166 : AFun := ⟨2, 44, c166, [.t 4, .t 5]⟩

/-- copse/node.child -/
def c176 : ACode :=
 .seq (
  .ops [⟨some 2, .mv (.c (.bool false)), none, []⟩] [2]) (
  .seq (
   .ops [⟨some 3, .mv (.t 0), none, []⟩,
     ⟨some 4, .bin .geq (.t 3) (.c (.int .i64 1)), none, []⟩,
     ⟨some 5, .mv (.t 4), none, []⟩,
     ⟨some 6, .mv (.t 0), some (5, true), []⟩,
     ⟨some 7, .bin .lss (.t 6) (.c (.int .i64 31)), some (5, true), []⟩,
     ⟨some 8, .pick (.t 5) (.t 7) (.c (.bool false)), none, []⟩,
     ⟨some 2, .mv (.t 8), none, []⟩] [0, 3, 4, 5, 6, 7, 8]) (
   .ret))
def a176 : AFun := ⟨1, 9, c176, [.t 2]⟩

/-- copse/clique.Meet -/
def a177_1 : ACode := .keep [1, 2, 8, 10, 14, 15, 16, 20, 21, 22] [8, 10] (
 .seq (
  .ops [⟨some 23, .bin .lss (.t 22) (.t 21), none, []⟩] []) (
  .seq (
   .cond (.t 23) (
    .skip) (
    .exit 2)) (
   .seq (
    .block 3 (
     .seq (
      .ops [⟨some 24, .ias (.t 20) (.t 22) 11, none, []⟩,
        ⟨some 25, .load 11 true (.t 24), none, []⟩,
        ⟨some 12, .alloc [.int .i64 0, .int .i64 0, .int .i64 0, .int .i64 0, .int .i64 0, .int .i64 0, .int .i64 0, .int .i64 0, .int .i64 0, .int .i64 0, .int .i64 0], none, []⟩,
        ⟨none, .store (.t 12) 11 (.t 25), none, [12]⟩] [24, 25]) (
      .seq (
       .ops [⟨some 26, .fad (.t 10) 0, none, [10]⟩,
         ⟨some 27, .load 10 true (.t 26), none, [10]⟩,
         ⟨some 28, .fad (.t 12) 0, none, [12]⟩,
         ⟨some 29, .load 10 true (.t 28), none, [12]⟩,
         ⟨some 30, .call 190 [.t 27, .t 29], none, []⟩,
         ⟨some 13, .alloc [.int .i64 0, .int .i64 0, .int .i64 0, .int .i64 0, .int .i64 0, .int .i64 0, .int .i64 0, .int .i64 0, .int .i64 0, .int .i64 0], none, []⟩,
         ⟨none, .store (.t 13) 10 (.t 30), none, [13]⟩] [26, 27, 28, 29, 30]) (
       .seq (
        .seq (
         .ops [⟨some 31, .load 10 true (.t 13), none, [13]⟩,
           ⟨some 32, .call 68 [.t 31], none, []⟩] [31]) (
         .cond (.t 32) (
          .exit 3) (
          .skip))) (
        .seq (
         .seq (
          .ops [⟨some 33, .mv (.t 8), none, []⟩,
            ⟨some 34, .len (.t 33), none, [8]⟩,
            ⟨some 35, .mv (.t 2), none, []⟩,
            ⟨some 36, .bin .geq (.t 34) (.t 35), none, []⟩] [33, 34, 35]) (
          .cond (.t 36) (
           .seq (
            .ops [⟨some 6, .mv (.c (.nils)), none, []⟩,
              ⟨some 7, .mv (.c (.bool false)), none, []⟩] []) (
            .ret)) (
           .skip))) (
         .ops [⟨some 37, .mv (.t 8), none, []⟩,
           ⟨some 38, .load 10 true (.t 13), none, [13]⟩,
           ⟨some 39, .fad (.t 10) 10, none, [10]⟩,
           ⟨some 40, .load 1 false (.t 39), none, [10]⟩,
           ⟨some 41, .fad (.t 12) 10, none, [12]⟩,
           ⟨some 42, .load 1 false (.t 41), none, [12]⟩,
           ⟨some 43, .bin .add (.t 40) (.t 42), none, []⟩,
           ⟨some 44, .build [.int .i64 0, .int .i64 0, .int .i64 0, .int .i64 0, .int .i64 0, .int .i64 0, .int .i64 0, .int .i64 0, .int .i64 0, .int .i64 0, .int .i64 0] [(0, 10, .t 38), (10, 1, .t 43)], none, []⟩,
           ⟨some 45, .mkrow 45 1 11 [.int .i64 0, .int .i64 0, .int .i64 0, .int .i64 0, .int .i64 0, .int .i64 0, .int .i64 0, .int .i64 0, .int .i64 0, .int .i64 0, .int .i64 0] [(0, 11, .t 44)], none, []⟩,
           ⟨some 46, .app 8 (.t 37) (.t 45) 11, none, [8, 45]⟩,
           ⟨some 8, .mv (.t 46), none, []⟩] [12, 13, 37, 38, 39, 40, 41, 42, 43, 44, 45, 46])))))) (
    .ops [⟨some 47, .bin .add (.t 22) (.c (.int .i64 1)), none, []⟩,
      ⟨some 22, .mv (.t 47), none, []⟩] [47]))))
def a177_0 : ACode := .keep [1, 2, 8, 14, 15, 16] [8] (
 .seq (
  .ops [⟨some 17, .bin .lss (.t 16) (.t 15), none, []⟩] []) (
  .seq (
   .cond (.t 17) (
    .skip) (
    .exit 0)) (
   .seq (
    .block 1 (
     .seq (
      .ops [⟨some 18, .ias (.t 14) (.t 16) 11, none, []⟩,
        ⟨some 19, .load 11 true (.t 18), none, []⟩,
        ⟨some 10, .alloc [.int .i64 0, .int .i64 0, .int .i64 0, .int .i64 0, .int .i64 0, .int .i64 0, .int .i64 0, .int .i64 0, .int .i64 0, .int .i64 0, .int .i64 0], none, []⟩,
        ⟨none, .store (.t 10) 11 (.t 19), none, [10]⟩] [18, 19]) (
      .seq (
       .ops [⟨some 20, .mv (.t 1), none, []⟩,
         ⟨some 21, .len (.t 20), none, []⟩,
         ⟨some 22, .mv (.c (.int .i64 0)), none, []⟩] []) (
       .block 2 (
        .loop a177_1))))) (
    .ops [⟨some 48, .bin .add (.t 16) (.c (.int .i64 1)), none, []⟩,
      ⟨some 16, .mv (.t 48), none, []⟩] [48]))))
def c177 : ACode :=
 .seq (
  .ops [⟨some 6, .mv (.c (.nils)), none, []⟩,
    ⟨some 7, .mv (.c (.bool false)), none, []⟩] [6, 7]) (
  .seq (
   .ops [⟨some 8, .nil0 8 11, none, []⟩] []) (
   .seq (
    .seq (
     .ops [⟨some 14, .mv (.t 0), none, []⟩,
       ⟨some 15, .len (.t 14), none, []⟩,
       ⟨some 16, .mv (.c (.int .i64 0)), none, []⟩] [0]) (
     .block 0 (
      .loop a177_0))) (
    .seq (
     .ops [⟨some 49, .mv (.t 8), none, []⟩,
       ⟨some 6, .mv (.t 49), none, []⟩,
       ⟨some 7, .mv (.c (.bool true)), none, []⟩] [8, 49]) (
     .ret))))
def a177 : AFun := ⟨3, 50, c177, [.t 6, .t 7]⟩

/-- copse/box.Meet -/
def a190_0 : ACode := .keep [2, 3, 4, 6] [2, 3, 4] (
 .seq (
  .ops [⟨some 7, .bin .lss (.t 6) (.c (.int .i64 5)), none, []⟩] []) (
  .seq (
   .cond (.t 7) (
    .skip) (
    .exit 0)) (
   .seq (
    .block 1 (
     .seq (
      .ops [⟨some 8, .mv (.t 6), none, []⟩,
        ⟨some 5, .mv (.t 8), none, []⟩] [8]) (
      .ops [⟨some 9, .mv (.t 5), none, []⟩,
        ⟨some 10, .mv (.t 5), none, []⟩,
        ⟨some 11, .iad (.t 2) (.t 10) 2 5, none, [2]⟩,
        ⟨some 12, .load 2 true (.t 11), none, [2]⟩,
        ⟨some 13, .mv (.t 5), none, []⟩,
        ⟨some 14, .iad (.t 3) (.t 13) 2 5, none, [3]⟩,
        ⟨some 15, .load 2 true (.t 14), none, [3]⟩,
        ⟨some 16, .call 198 [.t 12, .t 15], none, []⟩,
        ⟨some 17, .iad (.t 2) (.t 9) 2 5, none, [2]⟩,
        ⟨none, .store (.t 17) 2 (.t 16), none, [2]⟩] [5, 9, 10, 11, 12, 13, 14, 15, 16, 17]))) (
    .ops [⟨some 18, .bin .add (.t 6) (.c (.int .i64 1)), none, []⟩,
      ⟨some 6, .mv (.t 18), none, []⟩] [18]))))
def c190 : ACode :=
 .seq (
  .ops [⟨some 2, .box (.t 0) 10, none, []⟩,
    ⟨some 3, .box (.t 1) 10, none, []⟩,
    ⟨some 4, .alloc [.int .i64 0, .int .i64 0, .int .i64 0, .int .i64 0, .int .i64 0, .int .i64 0, .int .i64 0, .int .i64 0, .int .i64 0, .int .i64 0], none, []⟩] [0, 1]) (
  .seq (
   .seq (
    .ops [⟨some 6, .mv (.c (.int .i64 0)), none, []⟩] []) (
    .block 0 (
     .loop a190_0))) (
   .seq (
    .ops [⟨some 19, .load 10 true (.t 2), none, [2]⟩,
      ⟨none, .store (.t 4) 10 (.t 19), none, [4]⟩] [2, 19]) (
    .ret)))
def a190 : AFun := ⟨2, 20, c190, [.cell 4 10 true]⟩

/-- copse/span.Meet -/
def c198 : ACode :=
 .seq (
  .ops [⟨some 2, .box (.t 0) 2, none, []⟩,
    ⟨some 3, .box (.t 1) 2, none, []⟩,
    ⟨some 4, .alloc [.int .i64 0, .int .i64 0], none, []⟩] [0, 1]) (
  .seq (
   .ops [⟨some 5, .fad (.t 2) 0, none, [2]⟩,
     ⟨some 6, .load 1 false (.t 5), none, [2]⟩,
     ⟨some 7, .fad (.t 3) 0, none, [3]⟩,
     ⟨some 8, .load 1 false (.t 7), none, [3]⟩,
     ⟨some 9, .mnmx true (.t 6) (.t 8), none, []⟩,
     ⟨some 10, .fad (.t 2) 1, none, [2]⟩,
     ⟨some 11, .load 1 false (.t 10), none, [2]⟩,
     ⟨some 12, .fad (.t 3) 1, none, [3]⟩,
     ⟨some 13, .load 1 false (.t 12), none, [3]⟩,
     ⟨some 14, .mnmx false (.t 11) (.t 13), none, []⟩,
     ⟨some 15, .call 158 [.t 9, .t 14], none, []⟩,
     ⟨none, .store (.t 4) 2 (.t 15), none, [4]⟩] [2, 3, 5, 6, 7, 8, 9, 10, 11, 12, 13, 14, 15]) (
   .ret))
def a198 : AFun := ⟨2, 16, c198, [.cell 4 2 true]⟩

end Go.Am
