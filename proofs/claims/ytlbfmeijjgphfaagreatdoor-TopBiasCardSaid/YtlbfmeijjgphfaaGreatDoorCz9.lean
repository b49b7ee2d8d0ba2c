/- CO: texts of this claim, one behind the other. -/
import Derived.Test.YtlbfmeijjgphfaaGreatDoorCz8
import Derived.Test.YtlbfmeijjgphfaaGreatDoorCz7
import Derived.Test.YtlbfmeijjgphfaaGreatDoorCz1
set_option linter.unusedVariables false
set_option linter.unusedSimpArgs false
/- CO: proofs' steps: how deep they go, the boxes that are closed by sums; what is shown. -/
set_option maxHeartbeats 16000000
set_option maxRecDepth 100000
namespace Go.Co
open Go.Am Go.Proofs
attribute [-simp] Go.Am.eff_gcall
def c155_9:ACode:=.seq (.ops [⟨some 1,.box (.t 0) 3,none,[]⟩,⟨some 2,.mv (.c (.bool false)),none,[]⟩] [1]) (.seq (.seq (.ops [⟨some 3,.fad (.t 1) 0,none,[1]⟩,⟨some 4,.load 1 false (.t 3),none,[1]⟩] [1,4]) (.cond (.t 4) (.seq (.ops [⟨some 5,.load 3 true (.t 1),none,[1]⟩,⟨some 6,.build [.bool false,.int .i64 0,.int .i64 0] [(0,1,.c (.bool true))],none,[]⟩,⟨some 7,.eqa false [true,false,false] (.t 5) (.t 6),none,[]⟩,⟨some 2,.mv (.t 7),none,[]⟩] [2]) .ret) .skip)) (.seq (.ops [⟨some 8,.fad (.t 1) 1,none,[1]⟩,⟨some 9,.load 1 false (.t 8),none,[1]⟩,⟨some 10,.bin .geq (.t 9) (.c (.int .i64 0)),none,[]⟩,⟨some 11,.mv (.t 10),none,[]⟩,⟨some 12,.fad (.t 1) 1,some (11,true),[1]⟩,⟨some 13,.load 1 false (.t 12),some (11,true),[1]⟩,⟨some 14,.bin .leq (.t 13) (.c (.int .i64 4)),some (11,true),[]⟩,⟨some 15,.pick (.t 11) (.t 14) (.c (.bool false)),none,[]⟩,⟨some 2,.mv (.t 15),none,[]⟩] [2]) .ret))
theorem r155_9:type_of% (rr c155_9.eq_1):=rr rfl
def a155:AFun:=⟨1,16,c155_9,[.t 2]⟩
attribute [simp] r155_9
theorem m155:mFun Tryz.prog Tryz.f155 a155=true:=by decide +kernel
def c117_31:ACode:=.seq (.ops [⟨some 13,.bin .lss (.t 12) (.t 11),none,[]⟩] [3,4,10,11,12,13]) (.seq (.cond (.t 13) .skip (.exit 0)) (.seq (.block 1 (.seq (.ops [⟨some 14,.ias (.t 10) (.t 12) 3,none,[]⟩,⟨some 15,.load 3 true (.t 14),none,[]⟩,⟨some 6,.alloc [.bool false,.int .i64 0,.int .i64 0],none,[]⟩,⟨none,.store (.t 6) 3 (.t 15),none,[6]⟩] [3,4,6,10,11,12]) (.seq (.seq (.ops [⟨some 16,.mv (.t 3),none,[]⟩,⟨some 17,.bin .eql (.t 16) (.c (.int .i64 0)),none,[]⟩,⟨some 18,.mv (.t 17),none,[]⟩,⟨some 19,.load 3 true (.t 6),some (18,false),[6]⟩,⟨some 20,.call 155 [.t 19],some (18,false),[]⟩,⟨some 21,.un .not (.t 20),some (18,false),[]⟩,⟨some 22,.pick (.t 18) (.c (.bool true)) (.t 21),none,[]⟩] [3,4,6,10,11,12,22]) (.cond (.t 22) (.seq (.ops [⟨some 2,.mv (.c (.int .i64 0)),none,[]⟩] [2]) .ret) .skip)) (.seq (.seq (.ops [⟨some 23,.fad (.t 6) 0,none,[6]⟩,⟨some 24,.load 1 false (.t 23),none,[6]⟩] [3,4,10,11,12,24]) (.cond (.t 24) (.seq (.ops [⟨some 25,.mv (.t 3),none,[]⟩,⟨some 26,.bin .sub (.t 25) (.c (.int .i64 1)),none,[]⟩,⟨some 3,.mv (.t 26),none,[]⟩] [3,4,10,11,12]) (.exit 1)) .skip)) (.seq (.ops [⟨some 27,.mv (.t 3),none,[]⟩,⟨some 28,.bin .add (.t 27) (.c (.int .i64 1)),none,[]⟩,⟨some 3,.mv (.t 28),none,[]⟩] [3,4,10,11,12]) (.ops [⟨some 29,.mv (.t 4),none,[]⟩,⟨some 30,.mv (.t 3),none,[]⟩,⟨some 31,.mnmx true (.t 29) (.t 30),none,[]⟩,⟨some 4,.mv (.t 31),none,[]⟩] [3,4,10,11,12])))))) (.ops [⟨some 32,.bin .add (.t 12) (.c (.int .i64 1)),none,[]⟩,⟨some 12,.mv (.t 32),none,[]⟩] [3,4,10,11,12])))
theorem r117_31:type_of% (rr c117_31.eq_1):=rr rfl
def c117_47:ACode:=.seq (.ops [⟨some 2,.mv (.c (.int .i64 0)),none,[]⟩] [0]) (.seq (.seq (.ops [⟨some 7,.mv (.t 0),none,[]⟩,⟨some 8,.len (.t 7),none,[]⟩,⟨some 9,.bin .gtr (.t 8) (.c (.int .i64 65536)),none,[]⟩] [0,9]) (.cond (.t 9) (.seq (.ops [⟨some 2,.mv (.c (.int .i64 0)),none,[]⟩] [2]) .ret) .skip)) (.seq (.ops [⟨some 3,.mv (.c (.int .i64 1)),none,[]⟩,⟨some 4,.mv (.c (.int .i64 1)),none,[]⟩] [0,3,4]) (.seq (.seq (.ops [⟨some 10,.mv (.t 0),none,[]⟩,⟨some 11,.len (.t 10),none,[]⟩,⟨some 12,.mv (.c (.int .i64 0)),none,[]⟩] [3,4,10,11,12]) (.block 0 (.loop (.keep [3,4,10,11,12] [] c117_31)))) (.seq (.seq (.ops [⟨some 33,.mv (.t 3),none,[]⟩,⟨some 34,.bin .neq (.t 33) (.c (.int .i64 0)),none,[]⟩,⟨some 35,.mv (.t 34),none,[]⟩,⟨some 36,.mv (.t 4),some (35,false),[]⟩,⟨some 37,.bin .gtr (.t 36) (.c (.int .i64 200)),some (35,false),[]⟩,⟨some 38,.pick (.t 35) (.c (.bool true)) (.t 37),none,[]⟩] [4,38]) (.cond (.t 38) (.seq (.ops [⟨some 2,.mv (.c (.int .i64 0)),none,[]⟩] [2]) .ret) .skip)) (.seq (.ops [⟨some 39,.mv (.t 4),none,[]⟩,⟨some 2,.mv (.t 39),none,[]⟩] [2]) .ret)))))
theorem r117_47:type_of% (rr c117_47.eq_1):=rr rfl
def a117:AFun:=⟨1,40,c117_47,[.t 2]⟩
attribute [simp] r117_31 r117_47
theorem m117:mFun Tryz.prog Tryz.f117 a117=true:=by decide +kernel
def c79_3:ACode:=.seq (.ops [⟨some 2,.mv (.c (.bool false)),none,[]⟩] [0]) (.seq (.ops [⟨some 3,.mv (.t 0),none,[]⟩,⟨some 4,.call 117 [.t 3],none,[]⟩,⟨some 5,.bin .gtr (.t 4) (.c (.int .i64 0)),none,[]⟩,⟨some 2,.mv (.t 5),none,[]⟩] [2]) .ret)
theorem r79_3:type_of% (rr c79_3.eq_1):=rr rfl
def a79:AFun:=⟨1,6,c79_3,[.t 2]⟩
attribute [simp] r79_3
theorem m79:mFun Tryz.prog Tryz.f79 a79=true:=by decide +kernel
def c49_38:ACode:=.seq (.ops [⟨some 22,.bin .lss (.t 21) (.t 20),none,[]⟩] [6,7,19,20,21,22]) (.seq (.cond (.t 22) .skip (.exit 0)) (.seq (.block 1 (.seq (.ops [⟨some 23,.ias (.t 19) (.t 21) 3,none,[]⟩,⟨some 24,.load 3 true (.t 23),none,[]⟩,⟨some 9,.alloc [.bool false,.int .i64 0,.int .i64 0],none,[]⟩,⟨none,.store (.t 9) 3 (.t 24),none,[9]⟩] [6,7,9,19,20,21]) (.seq (.ops [⟨some 25,.mv (.t 6),none,[]⟩,⟨some 26,.len (.t 25),none,[6]⟩,⟨some 27,.bin .sub (.t 26) (.c (.int .i64 1)),none,[]⟩,⟨some 10,.mv (.t 27),none,[]⟩] [6,7,9,10,19,20,21]) (.seq (.ops [⟨some 28,.mv (.t 6),none,[]⟩,⟨some 29,.mv (.t 10),none,[]⟩,⟨some 30,.ias (.t 28) (.t 29) 10,none,[6]⟩,⟨some 31,.load 10 true (.t 30),none,[6]⟩,⟨some 11,.alloc [.int .i64 0,.int .i64 0,.int .i64 0,.int .i64 0,.int .i64 0,.int .i64 0,.int .i64 0,.int .i64 0,.int .i64 0,.int .i64 0],none,[]⟩,⟨none,.store (.t 11) 10 (.t 31),none,[11]⟩] [6,7,9,10,11,19,20,21]) (.seq (.ops [⟨some 32,.mv (.t 6),none,[]⟩,⟨some 33,.mv (.t 10),none,[]⟩,⟨some 34,.sl (.t 32) none (some (.t 33)) 10,none,[6]⟩,⟨some 6,.mv (.t 34),none,[]⟩] [6,7,9,11,19,20,21]) (.seq (.seq (.ops [⟨some 35,.fad (.t 9) 0,none,[9]⟩,⟨some 36,.load 1 false (.t 35),none,[9]⟩] [6,7,9,11,19,20,21,36]) (.cond (.t 36) (.seq (.ops [⟨some 37,.mv (.t 7),none,[]⟩,⟨some 38,.load 10 true (.t 11),none,[11]⟩,⟨some 39,.mkrow 39 1 10 [.int .i64 0,.int .i64 0,.int .i64 0,.int .i64 0,.int .i64 0,.int .i64 0,.int .i64 0,.int .i64 0,.int .i64 0,.int .i64 0] [(0,10,.t 38)],none,[]⟩,⟨some 40,.app 7 [7] (.t 37) (.t 39) 10,none,[7,39]⟩,⟨some 7,.mv (.t 40),none,[]⟩] [6,7,19,20,21]) (.exit 1)) .skip)) (.seq (.seq (.ops [⟨some 41,.fad (.t 9) 2,none,[9]⟩,⟨some 42,.load 1 false (.t 41),none,[9]⟩,⟨some 43,.fad (.t 9) 1,none,[9]⟩,⟨some 44,.load 1 false (.t 43),none,[9]⟩,⟨some 45,.iad (.t 11) (.t 44) 2 5,none,[11]⟩,⟨some 46,.fad (.t 45) 0,none,[11]⟩,⟨some 47,.load 1 false (.t 46),none,[11]⟩,⟨some 48,.bin .lss (.t 42) (.t 47),none,[]⟩,⟨some 49,.mv (.t 48),none,[]⟩,⟨some 50,.fad (.t 9) 2,some (49,false),[9]⟩,⟨some 51,.load 1 false (.t 50),some (49,false),[9]⟩,⟨some 52,.fad (.t 9) 1,some (49,false),[9]⟩,⟨some 53,.load 1 false (.t 52),some (49,false),[9]⟩,⟨some 54,.iad (.t 11) (.t 53) 2 5,some (49,false),[11]⟩,⟨some 55,.fad (.t 54) 1,some (49,false),[11]⟩,⟨some 56,.load 1 false (.t 55),some (49,false),[11]⟩,⟨some 57,.bin .geq (.t 51) (.t 56),some (49,false),[]⟩,⟨some 58,.pick (.t 49) (.c (.bool true)) (.t 57),none,[]⟩] [6,7,9,11,19,20,21,58]) (.cond (.t 58) (.seq (.ops [⟨some 4,.mv (.c (.nils)),none,[]⟩,⟨some 5,.mv (.c (.bool false)),none,[]⟩] [4,5]) .ret) .skip)) (.seq (.ops [⟨some 60,.load 10 true (.t 11),none,[11]⟩,⟨some 61,.fad (.t 9) 1,none,[9]⟩,⟨some 62,.load 1 false (.t 61),none,[9]⟩,⟨some 63,.fad (.t 9) 2,none,[9]⟩,⟨some 64,.load 1 false (.t 63),none,[9]⟩,⟨some 65,.call 68 [.t 60,.t 62,.t 64],none,[]⟩,⟨some 59,.mv (.t 65),none,[]⟩,⟨some 66,.ext (.t 59) 0,none,[]⟩,⟨some 67,.ext (.t 59) 1,none,[]⟩,⟨some 12,.alloc [.int .i64 0,.int .i64 0,.int .i64 0,.int .i64 0,.int .i64 0,.int .i64 0,.int .i64 0,.int .i64 0,.int .i64 0,.int .i64 0],none,[]⟩,⟨some 13,.alloc [.int .i64 0,.int .i64 0,.int .i64 0,.int .i64 0,.int .i64 0,.int .i64 0,.int .i64 0,.int .i64 0,.int .i64 0,.int .i64 0],none,[]⟩,⟨none,.store (.t 12) 10 (.t 66),none,[12]⟩,⟨none,.store (.t 13) 10 (.t 67),none,[13]⟩] [6,7,12,13,19,20,21]) (.ops [⟨some 68,.mv (.t 6),none,[]⟩,⟨some 69,.load 10 true (.t 13),none,[13]⟩,⟨some 70,.load 10 true (.t 12),none,[12]⟩,⟨some 71,.mkrow 71 2 10 [.int .i64 0,.int .i64 0,.int .i64 0,.int .i64 0,.int .i64 0,.int .i64 0,.int .i64 0,.int .i64 0,.int .i64 0,.int .i64 0] [(0,10,.t 69),(10,10,.t 70)],none,[]⟩,⟨some 72,.app 6 [6] (.t 68) (.t 71) 10,none,[6,71]⟩,⟨some 6,.mv (.t 72),none,[]⟩] [6,7,19,20,21]))))))))) (.ops [⟨some 73,.bin .add (.t 21) (.c (.int .i64 1)),none,[]⟩,⟨some 21,.mv (.t 73),none,[]⟩] [6,7,19,20,21])))
theorem r49_38:type_of% (rr c49_38.eq_1):=rr rfl
def c49_49:ACode:=.seq (.ops [⟨some 2,.box (.t 0) 10,none,[]⟩,⟨some 4,.mv (.c (.nils)),none,[]⟩,⟨some 5,.mv (.c (.bool false)),none,[]⟩] [1,2]) (.seq (.seq (.ops [⟨some 14,.mv (.t 1),none,[]⟩,⟨some 15,.call 79 [.t 14],none,[]⟩,⟨some 16,.un .not (.t 15),none,[]⟩] [1,2,16]) (.cond (.t 16) (.seq (.ops [⟨some 4,.mv (.c (.nils)),none,[]⟩,⟨some 5,.mv (.c (.bool false)),none,[]⟩] [4,5]) .ret) .skip)) (.seq (.ops [⟨some 17,.load 10 true (.t 2),none,[2]⟩,⟨some 18,.mkrow 6 1 10 [.int .i64 0,.int .i64 0,.int .i64 0,.int .i64 0,.int .i64 0,.int .i64 0,.int .i64 0,.int .i64 0,.int .i64 0,.int .i64 0] [(0,10,.t 17)],none,[]⟩,⟨some 6,.mv (.t 18),none,[]⟩] [1,6]) (.seq (.ops [⟨some 7,.nil0 7 10,none,[]⟩] [1,6,7]) (.seq (.seq (.ops [⟨some 19,.mv (.t 1),none,[]⟩,⟨some 20,.len (.t 19),none,[]⟩,⟨some 21,.mv (.c (.int .i64 0)),none,[]⟩] [6,7,19,20,21]) (.block 0 (.loop (.keep [6,7,19,20,21] [6,7] c49_38)))) (.seq (.ops [⟨some 74,.mv (.t 7),none,[]⟩,⟨some 4,.mv (.t 74),none,[]⟩,⟨some 5,.mv (.c (.bool true)),none,[]⟩] [4,5]) .ret)))))
theorem r49_49:type_of% (rr c49_49.eq_1):=rr rfl
def a49:AFun:=⟨2,75,c49_49,[.t 4,.t 5]⟩
attribute [simp] r49_38 r49_49
theorem m49:mFun Tryz.prog Tryz.f49 a49=true:=by decide +kernel
def c50_65:ACode:=.seq (.ops [⟨some 3,.box (.t 0) 6,none,[]⟩,⟨some 4,.box (.t 1) 17,none,[]⟩,⟨some 5,.box (.t 2) 10,none,[]⟩,⟨some 6,.mv (.c (.bool false)),none,[]⟩] [3,4,5]) (.seq (.seq (.ops [⟨some 15,.load 10 true (.t 5),none,[5]⟩,⟨some 16,.call 52 [.t 15],none,[]⟩] [3,4,5,16]) (.cond (.t 16) (.seq (.ops [⟨some 6,.mv (.c (.bool true)),none,[]⟩] [6]) .ret) .skip)) (.seq (.ops [⟨some 18,.load 6 true (.t 3),none,[3]⟩,⟨some 19,.fad (.t 4) 1,none,[4]⟩,⟨some 20,.load 1 false (.t 19),none,[4]⟩,⟨some 21,.load 10 true (.t 5),none,[5]⟩,⟨some 22,.call 80 [.t 18,.t 20,.t 21],none,[]⟩,⟨some 17,.mv (.t 22),none,[]⟩,⟨some 23,.ext (.t 17) 0,none,[]⟩,⟨some 24,.ext (.t 17) 1,none,[]⟩,⟨some 7,.mv (.t 23),none,[]⟩,⟨some 8,.mv (.t 24),none,[]⟩] [3,4,5,7,8]) (.seq (.seq (.ops [⟨some 25,.fad (.t 4) 0,none,[4]⟩,⟨some 26,.load 1 false (.t 25),none,[4]⟩] [3,4,5,7,8,26]) (.block 0 (.seq (.ops [⟨some 28,.bin .eql (.t 26) (.c (.int .i64 1)),none,[]⟩,⟨some 27,.mv (.t 28),none,[]⟩] [3,4,5,7,8,26,27]) (.cond (.t 27) (.seq (.ops [⟨some 29,.fad (.t 4) 12,none,[4]⟩,⟨some 30,.load 1 false (.t 29),none,[4]⟩,⟨some 31,.mv (.t 7),none,[]⟩,⟨some 32,.bin .leq (.t 30) (.t 31),none,[]⟩,⟨some 33,.mv (.t 32),none,[]⟩,⟨some 34,.mv (.t 8),some (33,true),[]⟩,⟨some 35,.fad (.t 4) 13,some (33,true),[4]⟩,⟨some 36,.load 1 false (.t 35),some (33,true),[4]⟩,⟨some 37,.bin .leq (.t 34) (.t 36),some (33,true),[]⟩,⟨some 38,.pick (.t 33) (.t 37) (.c (.bool false)),none,[]⟩,⟨some 6,.mv (.t 38),none,[]⟩] [6]) .ret) (.seq (.ops [⟨some 40,.bin .eql (.t 26) (.c (.int .i64 2)),none,[]⟩,⟨some 39,.mv (.t 40),none,[]⟩] [3,4,5,7,8,39]) (.cond (.t 39) (.seq (.seq (.ops [⟨some 41,.fad (.t 3) 1,none,[3]⟩,⟨some 42,.load 1 false (.t 41),none,[3]⟩,⟨some 43,.mv (.c (.int .i64 0)),none,[]⟩] [3,4,5,7,42,43]) (.block 1 (.loop (.keep [3,4,5,7,42,43] [3,4,5] (.seq (.ops [⟨some 44,.bin .lss (.t 43) (.t 42),none,[]⟩] [3,4,5,7,42,43,44]) (.seq (.cond (.t 44) .skip (.exit 1)) (.seq (.block 2 (.seq (.ops [⟨some 45,.mv (.t 43),none,[]⟩,⟨some 9,.mv (.t 45),none,[]⟩] [3,4,5,7,9,42,43]) (.seq (.ops [⟨some 47,.load 6 true (.t 3),none,[3]⟩,⟨some 48,.mv (.t 9),none,[]⟩,⟨some 49,.load 10 true (.t 5),none,[5]⟩,⟨some 50,.call 80 [.t 47,.t 48,.t 49],none,[]⟩,⟨some 46,.mv (.t 50),none,[]⟩,⟨some 51,.ext (.t 46) 0,none,[]⟩,⟨some 52,.ext (.t 46) 1,none,[]⟩,⟨some 10,.mv (.t 51),none,[]⟩,⟨some 11,.mv (.t 52),none,[]⟩] [3,4,5,7,9,11,42,43]) (.seq (.ops [⟨some 53,.mv (.t 9),none,[]⟩,⟨some 54,.fad (.t 4) 1,none,[4]⟩,⟨some 55,.load 1 false (.t 54),none,[4]⟩,⟨some 56,.bin .neq (.t 53) (.t 55),none,[]⟩,⟨some 57,.mv (.t 56),none,[]⟩,⟨some 58,.mv (.t 11),some (57,true),[]⟩,⟨some 59,.mv (.t 7),some (57,true),[]⟩,⟨some 60,.bin .geq (.t 58) (.t 59),some (57,true),[]⟩,⟨some 61,.pick (.t 57) (.t 60) (.c (.bool false)),none,[]⟩] [3,4,5,7,42,43,61]) (.cond (.t 61) (.seq (.ops [⟨some 6,.mv (.c (.bool false)),none,[]⟩] [6]) .ret) .skip))))) (.ops [⟨some 62,.bin .add (.t 43) (.c (.int .i64 1)),none,[]⟩,⟨some 43,.mv (.t 62),none,[]⟩] [3,4,5,7,42,43])))))))) (.seq (.ops [⟨some 6,.mv (.c (.bool true)),none,[]⟩] [6]) .ret)) .skip)))))) (.seq (.seq (.ops [⟨some 63,.fad (.t 4) 14,none,[4]⟩,⟨some 64,.load 1 false (.t 63),none,[4]⟩,⟨some 65,.iad (.t 5) (.t 64) 2 5,none,[5]⟩,⟨some 66,.fad (.t 65) 0,none,[5]⟩,⟨some 67,.load 1 false (.t 66),none,[5]⟩,⟨some 68,.iad (.t 5) (.c (.int .i64 4)) 2 5,none,[5]⟩,⟨some 69,.fad (.t 68) 1,none,[5]⟩,⟨some 70,.load 1 false (.t 69),none,[5]⟩,⟨some 71,.bin .geq (.t 67) (.t 70),none,[]⟩] [3,4,5,7,8,71]) (.cond (.t 71) (.seq (.ops [⟨some 6,.mv (.c (.bool true)),none,[]⟩] [6]) .ret) .skip)) (.seq (.ops [⟨some 72,.load 10 true (.t 5),none,[5]⟩,⟨some 12,.alloc [.int .i64 0,.int .i64 0,.int .i64 0,.int .i64 0,.int .i64 0,.int .i64 0,.int .i64 0,.int .i64 0,.int .i64 0,.int .i64 0],none,[]⟩,⟨none,.store (.t 12) 10 (.t 72),none,[12]⟩] [3,4,5,7,8,12]) (.seq (.ops [⟨some 73,.fad (.t 4) 14,none,[4]⟩,⟨some 74,.load 1 false (.t 73),none,[4]⟩,⟨some 75,.iad (.t 5) (.c (.int .i64 4)) 2 5,none,[5]⟩,⟨some 76,.load 2 true (.t 75),none,[5]⟩,⟨some 77,.iad (.t 12) (.t 74) 2 5,none,[12]⟩,⟨none,.store (.t 77) 2 (.t 76),none,[12]⟩] [3,4,7,8,12]) (.seq (.ops [⟨some 79,.load 6 true (.t 3),none,[3]⟩,⟨some 80,.fad (.t 4) 1,none,[4]⟩,⟨some 81,.load 1 false (.t 80),none,[4]⟩,⟨some 82,.load 10 true (.t 12),none,[12]⟩,⟨some 83,.call 80 [.t 79,.t 81,.t 82],none,[]⟩,⟨some 78,.mv (.t 83),none,[]⟩,⟨some 84,.ext (.t 78) 0,none,[]⟩,⟨some 85,.ext (.t 78) 1,none,[]⟩,⟨some 13,.mv (.t 84),none,[]⟩,⟨some 14,.mv (.t 85),none,[]⟩] [4,7,8,13,14]) (.seq (.seq (.ops [⟨some 86,.fad (.t 4) 15,none,[4]⟩,⟨some 87,.load 1 false (.t 86),none,[4]⟩] [7,8,13,14,87]) (.cond (.t 87) (.seq (.ops [⟨some 88,.mv (.t 14),none,[]⟩,⟨some 89,.mv (.t 7),none,[]⟩,⟨some 90,.bin .leq (.t 88) (.t 89),none,[]⟩,⟨some 6,.mv (.t 90),none,[]⟩] [6]) .ret) .skip)) (.seq (.ops [⟨some 91,.mv (.t 13),none,[]⟩,⟨some 92,.mv (.t 8),none,[]⟩,⟨some 93,.bin .geq (.t 91) (.t 92),none,[]⟩,⟨some 6,.mv (.t 93),none,[]⟩] [6]) .ret)))))))))
theorem r50_65:type_of% (rr c50_65.eq_1):=rr rfl
def a50:AFun:=⟨3,94,c50_65,[.t 6]⟩
attribute [simp] r50_65
theorem m50:mFun Tryz.prog Tryz.f50 a50=true:=by decide +kernel
def rightS (s:Step):Bool:=if s.sum then decide (s.place=0)&&decide (s.cut=0) else decide (0≤s.place)&&decide (s.place≤4)
theorem runs_pright (s:Step) (r:Bool) (h:some (rightS s)=some r):Runs (tbl []) a155 [Arg.enc s] (Arg.enc r):=by
 cases h
 refine⟨rfl,fun g=>run_def ?_⟩
 unfold a155 rightS
 obtain⟨sum,place,cut⟩:=s
 cases sum
 ·by_cases h0:0≤place<;>simp -implicitDefEqProofs [h0]
 ·by_cases h0:place=0<;>by_cases h1:cut=0<;>simp -implicitDefEqProofs [h0,h1]
theorem c_pright:Contract Tryz.prog 155 (sp1 fun s=>some (rightS s)) :=
 contract_of_runs mixed tbl_nil Tryz.func155 m155 (sp1_runs runs_pright)
def deepN:Nat→Nat→List Step→Nat
 | left,most,[]=>if left=0∧most≤200 then most else 0
 | left,most,s::l=>if left=0 then 0 else if rightS s=true then (if s.sum then deepN (left-1) most l else deepN (left+1) (if most<left+1 then left+1 else most) l) else 0
def deepV (l:List Step):Int:=if l.length≤65536 then (deepN 1 1 l:Nat) else 0
theorem rd_step (l:List Step) (i:Nat) (h:i<l.length):rd (encL l) (i*3) 3 true=some (Arg.enc l[i]):=rd_row l i h
theorem runs_deep (l:List Step) (r:Int) (h:some (deepV l)=some r):Runs (tbl [(155,sp1 fun s=>some (rightS s))]) a117 [Arg.enc l] (Arg.enc r):=by
 cases h
 refine⟨rfl,fun g=>run_def ?_⟩
 unfold a117 deepV
 by_cases b1:l.length≤maxN
 case neg=>simp -implicitDefEqProofs [b1]
 by_cases h6:l.length≤65536
 case neg =>
  have h6':(65536:Int)<l.length:=by omega
  simp -implicitDefEqProofs [b1,h6,h6']
 have h6':¬ (65536:Int)<l.length:=by omega
 rw[if_pos h6]
 generalize hD:deepN 1 1 l=D at *
 simp -implicitDefEqProofs [b1,h6']
 refine run_while (c:=c117_31) (fun n s=>∃(i left most:Nat) (g:Nat→Nat),i+n=l.length∧left≤i+1∧most≤i+1∧deepN left most (l.drop i)=D∧s=⟨[(3,.int .i64 left),(4,.int .i64 most),(10,.lst l.length (encL l)),(11,.int .i64 l.length),(12,.int .i64 i)],[],g⟩) l.length ⟨0,1,1,g,by omega,by omega,by omega,by simpa using hD,by simp⟩ ?_
 rintro n s ⟨i,left,most,g,hi,hl,hmo,hE,rfl⟩
 by_cases h1:i<l.length
 case pos =>
  have w1:IntKind.i64.wrap ((i:Int)+1)=(i:Int)+1:=wrap64 (by omega) (by omega)
  have hrow:=rd_step l i h1
  rw[List.drop_eq_getElem_cons h1,deepN] at hE
  generalize l[i]=s at *
  obtain⟨sm,pl,ct⟩:=s
  by_cases h0:left=0
  case pos =>
   subst h0
   rw[if_pos rfl] at hE
   subst hE
   simp -implicitDefEqProofs [h1,hrow]
  rw[if_neg h0] at hE
  have h0':¬ (left:Int)=0:=by omega
  cases hr:rightS ⟨sm,pl,ct⟩
  case false =>
   rw[hr,if_neg (by simp)] at hE
   subst hE
   simp -implicitDefEqProofs [h1,hrow,h0,h0',hr]
  rw[hr,if_pos rfl] at hE
  simp only at hE
  cases sm
  case true =>
   rw[if_pos rfl] at hE
   have w2:IntKind.i64.wrap ((left:Int)-1)=((left-1:Nat):Int):=by rw[wrap64 (by omega) (by omega)];omega
   simp -implicitDefEqProofs [h1,hrow,h0,h0',hr,w1,w2]
   exact⟨n-1,by omega,i+1,by omega,left-1,by omega,most,by omega,hE,rfl,rfl,by omega⟩
  case false =>
   rw[if_neg (by simp)] at hE
   have w2:IntKind.i64.wrap ((left:Int)+1)=(left:Int)+1:=wrap64 (by omega) (by omega)
   by_cases hm:most<left+1
   ·rw[if_pos hm] at hE
    have hm':(most:Int)<(left:Int)+1:=by omega
    simp -implicitDefEqProofs [h1,hrow,h0,h0',hr,w1,w2,hm']
    exact⟨n-1,by omega,i+1,by omega,left+1,by omega,left+1,by omega,hE,by omega,by omega,by omega⟩
   ·rw[if_neg hm] at hE
    have hm':¬ (most:Int)<(left:Int)+1:=by omega
    simp -implicitDefEqProofs [h1,hrow,h0,h0',hr,w1,w2,hm']
    exact⟨n-1,by omega,i+1,by omega,left+1,by omega,most,by omega,hE,by omega,by omega,by omega⟩
 case neg =>
  have hil:i=l.length:=by omega
  subst hil
  rw[List.drop_length,deepN] at hE
  by_cases h0:left=0
  case neg =>
   rw[if_neg (fun h=>h0 h.1)] at hE
   subst hE
   have h0':¬ (left:Int)=0:=by omega
   simp -implicitDefEqProofs [h1,h0,h0']
  subst h0
  by_cases hm:most≤200
  ·rw[if_pos ⟨rfl,hm⟩] at hE
   subst hE
   have hm':¬ (200:Int)<most:=by omega
   simp -implicitDefEqProofs [h1,hm']
  ·rw[if_neg (fun h=>hm h.2)] at hE
   subst hE
   have hm':(200:Int)<most:=by omega
   simp -implicitDefEqProofs [h1,hm']
theorem c_deep:Contract Tryz.prog 117 (sp1 fun l=>some (deepV l)) :=
 contract_of_runs mixed (tbl_cons c_pright tbl_nil) Tryz.func117 m117 (sp1_runs runs_deep)
theorem runs_pRight (l:List Step) (r:Bool) (h:some (decide (0<deepV l))=some r):Runs (tbl [(117,sp1 fun l=>some (deepV l))]) a79 [Arg.enc l] (Arg.enc r):=by
 cases h
 refine⟨rfl,fun g=>run_def ?_⟩
 unfold a79
 simp -implicitDefEqProofs []
theorem c_pRight:Contract Tryz.prog 79 (sp1 fun l=>some (decide (0<deepV l))) :=
 contract_of_runs mixed (tbl_cons c_deep tbl_nil) Tryz.func79 m79 (sp1_runs runs_pRight)
def walkS:List Box→List Step→Option (List Box)
 | [],[]=>some []
 | _::_,[]=>none
 | [],_::_=>none
 | b::bs,s::l=>if s.sum then (walkS bs l).map (b::·) else if (b.get s.place).lo≤s.cut∧s.cut<(b.get s.place).hi then walkS ((cutB b s.place s.cut).1::(cutB b s.place s.cut).2::bs) l else none
noncomputable def PSumsC (b:Box) (l:List Step):Option (List Box×Bool):=Part (okB b) (if 0<deepV l then (match walkS [b] l with
 | some out=>(out,true)
 | none=>([],false)) else ([],false))
theorem box_cells (b:Box) {k:Int} (h0:0≤k) (h4:k≤4):rd (Row.enc b) (k.toNat*2) 1 false=some (.int .i64 (b.get k).lo)∧rd (Row.enc b) (k.toNat*2+1) 1 false=some (.int .i64 (b.get k).hi):=by
 have h1:=rd_nlo b k.toNat (by omega)
 have h2:=rd_nhi b k.toNat (by omega)
 rw[show ((k.toNat:Nat):Int)=k by omega] at h1 h2
 exact⟨h1,h2⟩
theorem runs_pSums (b:Box) (l:List Step) (r:List Box×Bool) (h:PSumsC b l=some r):Runs (tbl [(79,sp1 fun l=>some (decide (0<deepV l))),(68,sp3 CutB)]) a49 [Arg.enc b,Arg.enc l] (Arg.enc r):=by
 obtain⟨hb,rfl⟩:=part_some h
 clear h
 refine⟨rfl,fun g=>run_def ?_⟩
 unfold a49
 by_cases hd:0<deepV l
 case neg=>simp -implicitDefEqProofs [hd,encL_nil]
 rw[if_pos hd]
 have h6:l.length≤65536:=by
  unfold deepV at hd
  split at hd
  ·assumption
  ·omega
 have b1:l.length≤maxN:=by unfold maxN;omega
 have hd1:0<deepN 1 1 l:=by
  unfold deepV at hd
  rw[if_pos h6] at hd
  omega
 generalize hres:walkS [b] l=res at *
 simp -implicitDefEqProofs [hd,b1]
 refine run_while (c:=c49_38) (fun n s=>∃(i most:Nat) (R O:List Box) (G:List AV) (g:Nat→Nat),i+n=l.length∧R.length≤i+1∧O.length≤i∧0<deepN R.length most (l.drop i)∧(∀ x∈R,okB x)∧(walkS R.reverse (l.drop i)).map (O++·)=res ∧
  s=⟨[(6,.own 6 (g 6) 0 R.length),(7,.own 7 (g 7) 0 O.length),(19,.lst l.length (encL l)),(20,.int .i64 l.length),(21,.int .i64 i)],[(6,⟨encL R++G,false,10⟩),(7,⟨encL O,false,10⟩)],g⟩) l.length ⟨0,1,[b],[],[],bump 7 (bump 6 (bump 2 g)),by omega,by simp,by simp,by simpa using hd1,by simpa using hb,by simpa using hres,by simp[encL_cons,encL_nil]⟩ ?_
 rintro n s ⟨i,most,R,O,G,g,hi,hRl,hOl,hdn,hRok,hW,rfl⟩
 by_cases h1:i<l.length
 case pos =>
  have w1:IntKind.i64.wrap ((i:Int)+1)=(i:Int)+1:=wrap64 (by omega) (by omega)
  have hrow:=rd_step l i h1
  rw[List.drop_eq_getElem_cons h1] at hdn hW
  generalize l[i]=s at *
  rcases List.eq_nil_or_concat R with rfl|⟨R,x,rfl⟩
  ·rw[List.length_nil,deepN,if_pos rfl] at hdn
   omega
  rw[List.concat_eq_append] at *
  rw[List.reverse_append,List.reverse_singleton,List.singleton_append,walkS] at hW
  have e2:(R++[x]).length=R.length+1:=by simp
  rw[e2] at hdn hRl
  rw[deepN,if_neg (by omega)] at hdn
  have hrs:rightS s=true:=by
   cases hr:rightS s
   ·rw[hr,if_neg (by simp)] at hdn;omega
   ·rfl
  rw[if_pos hrs] at hdn
  have hxok:okB x:=hRok x (by simp)
  have hRok':∀ z∈R,okB z:=fun z hz=>hRok z (by simp[hz])
  have wL:IntKind.i64.wrap ((R.length:Nat):Int)=R.length:=wrap64 (by omega) (by omega)
  have c0:R.length+1≤maxN:=by unfold maxN;omega
  have c9:(R.length:Int)<(R.length:Int)+1:=by omega
  have c10:(R.length:Int)≤(R.length:Int)+1:=by omega
  have c11:R.length≤1099511627774:=by omega
  have c12:O.length≤1099511627775:=by omega
  have htop:rd (encL R++(Row.enc x++G)) (R.length*10) 10 true=some (.agg (Row.enc x)):=by
   have:=rd_top R x G
   rw[encL_append,List.append_assoc] at this
   simpa [encL_cons,encL_nil] using this
  have e1:encL (R++[x])++G=encL R++(Row.enc x++G):=by simp[encL_append,encL_cons,encL_nil]
  rw[e1,e2]
  have htk:=take_boxG R (Row.enc x++G)
  have hlen:=len_boxG R (Row.enc x++G)
  generalize (Row.enc x++G)=G2 at *
  have hlen2:R.length*10≤(encL R).length+G2.length:=by simpa using hlen
  have hOk:=takeB O
  have hOl2:=lenB O
  cases hs:s.sum
  case true =>
   rw[hs,if_pos rfl] at hdn hW
   rw[Nat.add_sub_cancel] at hdn
   have hsn:=encL_snocB O x
   have hW2:(walkS R.reverse (l.drop (i+1))).map ((O++[x])++·)=res:=by
    rw[← hW,Option.map_map]
    congr 1
    funext y
    simp
   have htop:rd (encL R++G2) (R.length*10) 10 true=some (.agg [.int .i64 x.s0.lo,.int .i64 x.s0.hi,.int .i64 x.s1.lo,.int .i64 x.s1.hi,.int .i64 x.s2.lo,.int .i64 x.s2.hi,.int .i64 x.s3.lo,.int .i64 x.s3.hi,.int .i64 x.s4.lo,.int .i64 x.s4.hi]):=htop
   simp -implicitDefEqProofs [h1,hrow,hs,c0,c9,c10,c12,wL,w1,htop,hlen2,hOk,hOl2]
   exact⟨n-1,by omega,i+1,by omega,most,R,by omega,O++[x],by simp;omega,hdn,hRok',hW2,⟨rfl,by simp,by omega⟩,⟨G2,rfl⟩,hsn.symm⟩
  case false =>
   rw[hs,if_neg (by simp)] at hdn hW
   unfold rightS at hrs
   rw[hs,if_neg (by simp)] at hrs
   simp only[Bool.and_eq_true,decide_eq_true_eq] at hrs
   obtain⟨k0,k4⟩:=hrs
   obtain⟨sum,k,at_⟩:=s
   simp only at hs k0 k4 hW
   subst hs
   have k5:k<5:=by omega
   obtain⟨hlo,hhi⟩:=box_cells x k0 k4
   by_cases hin:(x.get k).lo≤at_∧at_<(x.get k).hi
   case neg =>
    rw[if_neg hin] at hW
    have hW':res=none:=by rw[← hW];rfl
    subst hW'
    have htop:rd (encL R++G2) (R.length*10) 10 true=some (.agg [.int .i64 x.s0.lo,.int .i64 x.s0.hi,.int .i64 x.s1.lo,.int .i64 x.s1.hi,.int .i64 x.s2.lo,.int .i64 x.s2.hi,.int .i64 x.s3.lo,.int .i64 x.s3.hi,.int .i64 x.s4.lo,.int .i64 x.s4.hi]):=htop
    have hk5:k=0∨k=1∨k=2∨k=3∨k=4:=by omega
    by_cases hlt:at_<(x.get k).lo
    ·rcases hk5 with rfl|rfl|rfl|rfl|rfl<;>simp only[Box.get,reduceIte,Int.reduceEq] at hlt<;>simp -implicitDefEqProofs [h1,hrow,c0,c9,c10,wL,htop,hlen2,hlt,encL_nil]
    ·have hge:(x.get k).hi≤at_:=by omega
     rcases hk5 with rfl|rfl|rfl|rfl|rfl<;>simp only[Box.get,reduceIte,Int.reduceEq] at hlt hge<;>simp -implicitDefEqProofs [h1,hrow,c0,c9,c10,wL,htop,hlen2,hlt,hge,encL_nil]
   case pos =>
    rw[if_pos hin] at hW
    obtain⟨l1,l2⟩:=hin
    have hg64:=okB_get hxok k
    have hat:ok64 at_:=by unfold okS64 ok64 at hg64;unfold ok64;omega
    have hCu:=cutB_of hxok k hat
    have hok2:=okB_cut hxok k hat
    generalize cutB x k at_=yz at *
    obtain⟨y,z⟩:=yz
    simp only at hW hok2
    have htop:rd (encL R++G2) (R.length*10) 10 true=some (.agg [.int .i64 x.s0.lo,.int .i64 x.s0.hi,.int .i64 x.s1.lo,.int .i64 x.s1.hi,.int .i64 x.s2.lo,.int .i64 x.s2.hi,.int .i64 x.s3.lo,.int .i64 x.s3.hi,.int .i64 x.s4.lo,.int .i64 x.s4.hi]):=htop
    have hk5:k=0∨k=1∨k=2∨k=3∨k=4:=by omega
    have hlt:¬ at_<(x.get k).lo:=by omega
    have hge:¬ (x.get k).hi≤at_:=by omega
    have hok3:∀ b'∈R++[z,y],okB b':=fun b' hb'=>by
     rcases List.mem_append.1 hb' with hb'|hb'
     ·exact hRok' b' hb'
     ·simp at hb'
      rcases hb' with rfl|rfl
      ·exact hok2.2
      ·exact hok2.1
    have hrow2:encL (R++[z,y])++[]=encL R++(Row.enc z++Row.enc y):=by simp[encL_append,encL_cons,encL_nil]
    have hl2:(R++[z,y]).length=R.length+1+1:=by simp
    have hdn2:=hdn
    rw[← hl2] at hdn2
    have hW3:(walkS (R++[z,y]).reverse (l.drop (i+1))).map (O++·)=res:=by simpa using hW
    rcases hk5 with rfl|rfl|rfl|rfl|rfl<;>simp only[Box.get,reduceIte,Int.reduceEq] at hlt hge<;>simp -implicitDefEqProofs [h1,hrow,c0,c9,c10,c11,wL,w1,htop,hlen2,hlt,hge,hCu,htk]
    all_goals exact⟨n-1,by omega,i+1,by omega,_,R++[z,y],by simp;omega,O,by omega,hdn2,hok3,hW3,⟨by simp,rfl,by omega⟩,⟨[],hrow2.symm⟩,rfl⟩
 case neg =>
  have hil:i=l.length:=by omega
  subst hil
  rw[List.drop_length] at hdn hW
  have hR0:R=[]:=by
   rw[deepN] at hdn
   split at hdn
   ·rename_i h;exact List.length_eq_zero_iff.1 h.1
   ·omega
  subst hR0
  have hW':res=some O:=by rw[← hW];simp[walkS]
  subst hW'
  have hOk:=takeB O
  have hOl2:=lenB O
  simp -implicitDefEqProofs [h1,hOk,hOl2]
theorem c_pSums:Contract Tryz.prog 49 (sp2 PSumsC) :=
 contract_of_runs mixed (tbl_cons c_pRight (tbl_cons c_bCut tbl_nil)) Tryz.func49 m49 (sp2_runs runs_pSums)
end Go.Co
/- CO: is a verdict proven? by the checker, and by the document. -/
set_option maxHeartbeats 16000000
set_option maxRecDepth 100000
namespace Go.Co
open Go.Am Go.Proofs
attribute [-simp] Go.Am.eff_gcall
def shownB (m:Model) (q:Query) (b:Box):Bool:=if b.empty then true else shownM m q b
noncomputable def ShownC (m:Model) (q:Query) (b:Box):Option Bool:=Part (RM m∧okQuery m q=true∧okB b) (shownB m q b)
theorem sums_in {m:Model} {b:Box} (hm:RM m) (hb:okB b) (he:b.empty=false) {c:Int} (h0:0≤c) (h1:c<m.classes):SumsC m c b=some ((boundP m c b).1,(boundP m c b).2):=by
 unfold SumsC
 rw[part_of ⟨hm,hb⟩]
 unfold sumsP
 rw[if_neg (by simp[he];omega)]
theorem runs_shown (m:Model) (q:Query) (b:Box) (r:Bool) (h:ShownC m q b=some r):Runs (tbl [(52,sp1 fun (b:Box)=>some b.empty),(80,sp3 SumsC)]) a50 [Arg.enc m,Arg.enc q,Arg.enc b] (Arg.enc r):=by
 obtain⟨⟨hm,hq,hb⟩,rfl⟩:=part_some h
 clear h
 refine⟨rfl,fun g=>run_def ?_⟩
 unfold a50
 unfold shownB
 cases he:b.empty
 case true=>simp -implicitDefEqProofs [he]
 rw[if_neg (by simp)]
 have hs:=okQuery_spec hq
 have hk:=okKind_spec hs.2.2.2.2.2
 have hcl:=hm.classes
 have hS:=sums_in hm hb he hs.1 hs.2.1
 have s0:=sums_in hm hb he (c:=0) (by omega) (by omega)
 have s1:2≤m.classes→_:=fun h=>sums_in hm hb he (c:=1) (by omega) (by omega)
 have s2:m.classes=3→_:=fun h=>sums_in hm hb he (c:=2) (by omega) (by omega)
 have hokp:okB (pairB q b):=by
  unfold pairB
  split
  ·exact okB_set hb _ hb.2.2.2.2
  ·exact hb
 have hP:=sums_in hm hokp (pair_some he) hs.1 hs.2.1
 rcases hk with⟨k,_⟩|⟨k,k2,_⟩|⟨k,f0,f1,_⟩
 ·unfold shownM
  rw[if_pos k]
  generalize boundP m q.cls b=z at *
  obtain⟨z1,z2⟩:=z
  obtain⟨kind,cls,region,lo,hi,feature,falls,budget⟩:=q
  simp only at *
  subst k
  by_cases c1:lo≤z1
  ·simp -implicitDefEqProofs [he,hS,c1]
  ·simp -implicitDefEqProofs [he,hS,c1]
 ·unfold shownM
  rw[if_neg (by omega),if_pos k]
  have s1:=s1 k2
  have hx:0≤q.cls:=hs.1
  have hx1:=hs.2.1
  obtain⟨kind,cls,region,lo,hi,feature,falls,budget⟩:=q
  obtain⟨dim,classes,bias,trees⟩:=m
  simp only at *
  subst k
  have hcs:(classes=2∧cls=0)∨(classes=2∧cls=1)∨(classes=3∧cls=0)∨(classes=3∧cls=1)∨(classes=3∧cls=2):=by omega
  rcases hcs with⟨rfl,rfl⟩|⟨rfl,rfl⟩|⟨rfl,rfl⟩|⟨rfl,rfl⟩|⟨rfl,rfl⟩
  ·rcases Int.lt_or_le (boundP ⟨dim,2,bias,trees⟩ 1 b).2 (boundP ⟨dim,2,bias,trees⟩ 0 b).1 with g1|g1<;>simp -implicitDefEqProofs [he,hS,s0,s1,run_round,g1]
  ·rcases Int.lt_or_le (boundP ⟨dim,2,bias,trees⟩ 0 b).2 (boundP ⟨dim,2,bias,trees⟩ 1 b).1 with g1|g1<;>simp -implicitDefEqProofs [he,hS,s0,s1,run_round,g1]
  ·have s2:=s2 rfl
   rcases Int.lt_or_le (boundP ⟨dim,3,bias,trees⟩ 1 b).2 (boundP ⟨dim,3,bias,trees⟩ 0 b).1 with g1|g1<;>rcases Int.lt_or_le (boundP ⟨dim,3,bias,trees⟩ 2 b).2 (boundP ⟨dim,3,bias,trees⟩ 0 b).1 with g2|g2<;>simp -implicitDefEqProofs [he,hS,s0,s1,s2,run_round,g1,g2]
  ·have s2:=s2 rfl
   rcases Int.lt_or_le (boundP ⟨dim,3,bias,trees⟩ 0 b).2 (boundP ⟨dim,3,bias,trees⟩ 1 b).1 with g1|g1<;>rcases Int.lt_or_le (boundP ⟨dim,3,bias,trees⟩ 2 b).2 (boundP ⟨dim,3,bias,trees⟩ 1 b).1 with g2|g2<;>simp -implicitDefEqProofs [he,hS,s0,s1,s2,run_round,g1,g2]
  ·have s2:=s2 rfl
   rcases Int.lt_or_le (boundP ⟨dim,3,bias,trees⟩ 0 b).2 (boundP ⟨dim,3,bias,trees⟩ 2 b).1 with g1|g1<;>rcases Int.lt_or_le (boundP ⟨dim,3,bias,trees⟩ 1 b).2 (boundP ⟨dim,3,bias,trees⟩ 2 b).1 with g2|g2<;>simp -implicitDefEqProofs [he,hS,s0,s1,s2,run_round,g1,g2]
 ·have hd:=hm.dim
  have hpb:pairB q b=b.set q.feature b.s4:=by unfold pairB;rw[if_pos (by unfold paired;simp;omega)]
  rw[hpb] at hP
  unfold shownM
  rw[if_neg (by omega),if_neg (by omega),hpb]
  generalize boundP m q.cls b=z at *
  generalize boundP m q.cls (b.set q.feature b.s4)=y at *
  obtain⟨z1,z2⟩:=z
  obtain⟨y1,y2⟩:=y
  obtain⟨kind,cls,region,lo,hi,feature,falls,budget⟩:=q
  simp only at *
  subst k
  have hc:feature=0∨feature=1∨feature=2∨feature=3:=by omega
  by_cases hle:b.s4.hi≤(b.get feature).lo
  ·rcases hc with rfl|rfl|rfl|rfl<;>simp only[Box.get,reduceIte,Int.reduceEq] at hle<;>simp -implicitDefEqProofs [Box.get,he,hS,hle]
  ·cases falls
   ·by_cases g1:z2≤y1<;>(rcases hc with rfl|rfl|rfl|rfl)<;>simp only[Box.get,Box.set,reduceIte,Int.reduceEq] at hle hP<;>simp -implicitDefEqProofs [Box.get,he,hS,hP,hle,g1]
   ·by_cases g1:y2≤z1<;>(rcases hc with rfl|rfl|rfl|rfl)<;>simp only[Box.get,Box.set,reduceIte,Int.reduceEq] at hle hP<;>simp -implicitDefEqProofs [Box.get,he,hS,hP,hle,g1]
theorem c_shown:Contract Tryz.prog 50 (sp3 ShownC) :=
 contract_of_runs mixed (tbl_cons c_bEmpty (tbl_cons c_sums tbl_nil)) Tryz.func50 m50 (sp3_runs runs_shown)
end Go.Co
/- CO: is a verdict proven? by the checker, and by the document. -/
set_option maxHeartbeats 16000000
set_option maxRecDepth 100000
namespace Go.Co
open Go.Am Go.Proofs
attribute [-simp] Go.Am.eff_gcall
theorem walkS_ok:∀(R:List Box) (l:List Step),(∀ x∈R,okB x)→∀ L,walkS R l=some L→∀ x∈L,okB x
 | [],[],_,L,h,x,hx=>by
  unfold walkS at h;cases h;simp at hx
 | _::_,[],_,L,h,x,hx=>by unfold walkS at h;cases h
 | [],_::_,_,L,h,x,hx=>by unfold walkS at h;cases h
 | b::bs,s::l,hR,L,h,x,hx=>by
  unfold walkS at h
  split at h
  ·rw[Option.map_eq_some_iff] at h
   obtain⟨L',h',rfl⟩:=h
   rcases List.mem_cons.1 hx with rfl|hx
   ·exact hR _ (by simp)
   ·exact walkS_ok bs l (fun y hy=>hR y (by simp[hy])) L' h' x hx
  ·split at h
   ·rename_i hin
    have hbok:=hR b (by simp)
    have hg64:=okB_get hbok s.place
    have hat:ok64 s.cut:=by unfold okS64 ok64 at hg64;unfold ok64;omega
    have hok2:=okB_cut hbok s.place hat
    refine walkS_ok _ l (fun y hy=>?_) L h x hx
    simp only[List.mem_cons] at hy
    rcases hy with rfl|rfl|hy
    ·exact hok2.1
    ·exact hok2.2
    ·exact hR y (by simp[hy])
   ·cases h
theorem walkS_len:∀(R:List Box) (l:List Step),∀ L,walkS R l=some L→L.length≤l.length
 | [],[],L,h=>by unfold walkS at h;cases h;simp
 | _::_,[],L,h=>by unfold walkS at h;cases h
 | [],_::_,L,h=>by unfold walkS at h;cases h
 | b::bs,s::l,L,h=>by
  unfold walkS at h
  split at h
  ·rw[Option.map_eq_some_iff] at h
   obtain⟨L',h',rfl⟩:=h
   have:=walkS_len bs l L' h'
   simp;omega
  ·split at h
   ·have:=walkS_len _ l L h
    simp;omega
   ·cases h
def c24_24:ACode:=.seq (.ops [⟨some 32,.bin .lss (.t 31) (.t 30),none,[]⟩] [3,4,9,29,30,31,32]) (.seq (.cond (.t 32) .skip (.exit 1)) (.seq (.block 2 (.seq (.ops [⟨some 33,.ias (.t 29) (.t 31) 10,none,[]⟩,⟨some 34,.load 10 true (.t 33),none,[]⟩,⟨some 11,.alloc [.int .i64 0,.int .i64 0,.int .i64 0,.int .i64 0,.int .i64 0,.int .i64 0,.int .i64 0,.int .i64 0,.int .i64 0,.int .i64 0],none,[]⟩,⟨none,.store (.t 11) 10 (.t 34),none,[11]⟩] [3,4,9,11,29,30,31]) (.seq (.ops [⟨some 35,.load 6 true (.t 3),none,[3]⟩,⟨some 36,.load 17 true (.t 4),none,[4]⟩,⟨some 37,.load 10 true (.t 11),none,[11]⟩,⟨some 38,.call 50 [.t 35,.t 36,.t 37],none,[]⟩,⟨some 39,.un .not (.t 38),none,[]⟩] [3,4,9,29,30,31,39]) (.cond (.t 39) (.seq (.ops [⟨some 6,.mv (.c (.bool false)),none,[]⟩] [6]) .ret) .skip)))) (.ops [⟨some 40,.bin .add (.t 31) (.c (.int .i64 1)),none,[]⟩,⟨some 31,.mv (.t 40),none,[]⟩] [3,4,9,29,30,31])))
theorem r24_24:type_of% (rr c24_24.eq_1):=rr rfl
def c24_47:ACode:=.seq (.ops [⟨some 3,.box (.t 0) 6,none,[]⟩,⟨some 4,.box (.t 1) 17,none,[]⟩,⟨some 5,.box (.t 2) 8,none,[]⟩,⟨some 6,.mv (.c (.bool false)),none,[]⟩] [3,4,5]) (.seq (.seq (.ops [⟨some 12,.load 6 true (.t 3),none,[3]⟩,⟨some 13,.load 17 true (.t 4),none,[4]⟩,⟨some 14,.call 40 [.t 12,.t 13],none,[]⟩,⟨some 15,.un .not (.t 14),none,[]⟩] [3,4,5,15]) (.cond (.t 15) (.seq (.ops [⟨some 6,.mv (.c (.bool false)),none,[]⟩] [6]) .ret) .skip)) (.seq (.ops [⟨some 16,.load 17 true (.t 4),none,[4]⟩,⟨some 17,.call 15 [.t 16],none,[]⟩,⟨some 7,.alloc [.int .i64 0,.int .i64 0,.int .i64 0,.int .i64 0,.int .i64 0,.int .i64 0,.int .i64 0,.int .i64 0,.int .i64 0,.int .i64 0],none,[]⟩,⟨none,.store (.t 7) 10 (.t 17),none,[7]⟩] [3,4,5,7]) (.seq (.seq (.ops [⟨some 18,.fad (.t 5) 0,none,[5]⟩,⟨some 19,.load 1 false (.t 18),none,[5]⟩] [3,4,5,7,19]) (.block 0 (.seq (.ops [⟨some 21,.bin .eql (.t 19) (.c (.int .i64 1)),none,[]⟩,⟨some 20,.mv (.t 21),none,[]⟩] [3,4,5,7,19,20]) (.cond (.t 20) (.seq (.ops [⟨some 23,.load 10 true (.t 7),none,[7]⟩,⟨some 24,.fad (.t 5) 1,none,[5]⟩,⟨some 25,.load 1 false (.t 24),none,[5]⟩,⟨some 26,.call 49 [.t 23,.t 25],none,[]⟩,⟨some 22,.mv (.t 26),none,[]⟩,⟨some 27,.ext (.t 22) 0,none,[]⟩,⟨some 28,.ext (.t 22) 1,none,[]⟩,⟨some 8,.mv (.t 27),none,[]⟩,⟨some 9,.mv (.t 28),none,[]⟩] [3,4,8,9]) (.seq (.seq (.ops [⟨some 29,.mv (.t 8),none,[]⟩,⟨some 30,.len (.t 29),none,[]⟩,⟨some 31,.mv (.c (.int .i64 0)),none,[]⟩] [3,4,9,29,30,31]) (.block 1 (.loop (.keep [3,4,9,29,30,31] [3,4] c24_24)))) (.seq (.ops [⟨some 41,.mv (.t 9),none,[]⟩,⟨some 6,.mv (.t 41),none,[]⟩] [6]) .ret))) (.seq (.ops [⟨some 43,.bin .eql (.t 19) (.c (.int .i64 2)),none,[]⟩,⟨some 42,.mv (.t 43),none,[]⟩] [3,4,5,7,42]) (.cond (.t 42) (.seq (.ops [⟨some 44,.load 10 true (.t 7),none,[7]⟩,⟨some 45,.fad (.t 5) 2,none,[5]⟩,⟨some 46,.load 4 true (.t 45),none,[5]⟩,⟨some 47,.fad (.t 5) 6,none,[5]⟩,⟨some 48,.load 1 false (.t 47),none,[5]⟩,⟨some 49,.call 51 [.t 44,.t 46,.t 48],none,[]⟩,⟨some 50,.mv (.t 49),none,[]⟩,⟨some 51,.load 6 true (.t 3),some (50,true),[3]⟩,⟨some 52,.load 17 true (.t 4),some (50,true),[4]⟩,⟨some 53,.fad (.t 5) 2,some (50,true),[5]⟩,⟨some 54,.load 4 true (.t 53),some (50,true),[5]⟩,⟨some 55,.fad (.t 5) 6,some (50,true),[5]⟩,⟨some 56,.load 1 false (.t 55),some (50,true),[5]⟩,⟨some 57,.call 19 [.t 51,.t 52,.t 54,.t 56],some (50,true),[]⟩,⟨some 58,.pick (.t 50) (.t 57) (.c (.bool false)),none,[]⟩,⟨some 6,.mv (.t 58),none,[]⟩] [6]) .ret) .skip)))))) (.seq (.ops [⟨some 6,.mv (.c (.bool false)),none,[]⟩] [6]) .ret))))
theorem r24_47:type_of% (rr c24_47.eq_1):=rr rfl
def a24:AFun:=⟨3,59,c24_47,[.t 6]⟩
attribute [simp] r24_24 r24_47
theorem m24:mFun Tryz.prog Tryz.f24 a24=true:=by decide +kernel
def allShown (m:Model) (q:Query) (l:Option (List Box)):Bool:=match l with
 | some bs=>bs.all (shownB m q)
 | none=>false
def holdsV (m:Model) (q:Query) (l:List Step):Bool:=decide (0<deepV l)&&allShown m q (walkS [startOf q] l)
def provesM (m:Model) (q:Query) (v:Verdict):Bool:=okQuery m q&&(if v.kind=1 then holdsV m q v.proof else if v.kind=2 then hasB (startOf q) v.witness v.twin&&breaks m q v.witness v.twin else false)
noncomputable def ProvesC (m:Model) (q:Query) (v:Verdict):Option Bool:=if m.dim<1 then some false else Part (RM m) (provesM m q v)
theorem runs_Proves (m:Model) (q:Query) (v:Verdict) (r:Bool) (h:ProvesC m q v=some r):Runs (tbl [(40,sp2 QRight),(15,sp1 fun q=>some (startOf q)),(49,sp2 PSumsC),(50,sp3 ShownC),(51,sp3 fun b p t=>some (hasB b p t)),(19,sp4 BreaksC)]) a24 [Arg.enc m,Arg.enc q,Arg.enc v] (Arg.enc r):=by
 unfold ProvesC at h
 refine⟨rfl,fun g=>run_def ?_⟩
 unfold a24
 by_cases hd:m.dim<1
 case pos =>
  rw[if_pos hd] at h
  cases h
  have hQ:QRight m q=some false:=by unfold QRight;rw[if_pos (by omega)]
  simp -implicitDefEqProofs [hQ]
 rw[if_neg hd] at h
 obtain⟨hm,rfl⟩:=part_some h
 clear h
 have hQ:QRight m q=some (okQuery m q):=by unfold QRight;rw[if_neg (by have:=hm.dim;omega)];exact part_of hm _
 unfold provesM
 cases hq:okQuery m q
 case false =>
  rw[hq] at hQ
  simp -implicitDefEqProofs [hQ]
 rw[hq] at hQ
 have hst:=okQuery_start hq
 obtain⟨kind,pf,w,tw,sp⟩:=v
 simp only[Bool.true_and]
 by_cases k1:kind=1
 case neg =>
  rw[if_neg k1]
  by_cases k2:kind=2
  case neg=>simp -implicitDefEqProofs [hQ,k1,k2]
  subst k2
  have hB:BreaksC m q w tw=some (breaks m q w tw):=part_of hm _
  cases hh:hasB (startOf q) w tw
  case false=>simp -implicitDefEqProofs [hQ,hh]
  simp -implicitDefEqProofs [hQ,hh,hB]
 subst k1
 rw[if_pos rfl]
 unfold holdsV
 have hPS:PSumsC (startOf q) pf=some (if 0<deepV pf then (match walkS [startOf q] pf with
  | some out=>(out,true)
  | none=>([],false)) else ([],false)):=part_of hst.2.1 _
 by_cases hdp:0<deepV pf
 case neg =>
  rw[if_neg hdp] at hPS
  simp -implicitDefEqProofs [hQ,hPS,hdp,encL_nil,run_round]
 rw[if_pos hdp] at hPS
 have hok:=walkS_ok [startOf q] pf
 have hlen:=walkS_len [startOf q] pf
 have h6:pf.length≤65536:=by
  unfold deepV at hdp
  split at hdp
  ·assumption
  ·omega
 cases hwk:walkS [startOf q] pf with
 | none =>
  rw[hwk] at hPS
  simp -implicitDefEqProofs [hQ,hPS,hdp,allShown,encL_nil,run_round]
 | some L =>
  rw[hwk] at hPS
  have hLok:=hok (by simpa using hst.2.1) L hwk
  have hLl:=hlen L hwk
  have b1:L.length≤maxN:=by unfold maxN;omega
  have hSh:∀ x∈L,ShownC m q x=some (shownB m q x):=fun x hx=>part_of ⟨hm,hq,hLok x hx⟩ _
  simp -implicitDefEqProofs [hQ,hPS,hdp,allShown,b1]
  refine run_while (c:=c24_24) (fun n s=>∃(i:Nat) (g:Nat→Nat),i+n=L.length∧(∀ x∈L.take i,shownB m q x=true)∧s=⟨[(3,.ptr 3 (g 3) 0),(4,.ptr 4 (g 4) 0),(9,.bool true),(29,.lst L.length (encL L)),(30,.int .i64 L.length),(31,.int .i64 i)],
   [(3,⟨Row.enc m,false,0⟩),(4,⟨Row.enc q,false,0⟩)],g⟩) L.length ⟨0,bump 7 (bump 5 (bump 4 (bump 3 g))),by omega,by simp,by simp⟩ ?_
  rintro n s ⟨i,g,hi,hal,rfl⟩
  by_cases h1:i<L.length
  case pos =>
   have w1:IntKind.i64.wrap ((i:Int)+1)=(i:Int)+1:=wrap64 (by omega) (by omega)
   have hrow:=rd_box L i h1
   have hB:=hSh L[i] (List.getElem_mem h1)
   have hmem:L[i]∈L:=List.getElem_mem h1
   have htk:L.take (i+1)=L.take i++[L[i]]:=List.take_succ_eq_append_getElem h1
   generalize L[i]=x at *
   cases hx:shownB m q x
   case false =>
    have:L.all (shownB m q)=false:=by
     rw[List.all_eq_false]
     exact⟨x,hmem,by simp[hx]⟩
    rw[hx] at hB
    simp -implicitDefEqProofs [h1,hrow,hB,this]
   case true =>
    rw[hx] at hB
    simp -implicitDefEqProofs [h1,hrow,hB,w1]
    refine⟨n-1,by omega,i+1,by omega,fun y hy=>?_,by omega⟩
    rw[htk,List.mem_append,List.mem_singleton] at hy
    rcases hy with hy|rfl
    ·exact hal y hy
    ·exact hx
  case neg =>
   have hil:i=L.length:=by omega
   subst hil
   rw[List.take_length] at hal
   have:L.all (shownB m q)=true:=List.all_eq_true.2 hal
   simp -implicitDefEqProofs [h1,this]
theorem c_Proves:Contract Tryz.prog 24 (sp3 ProvesC) :=
 contract_of_runs mixed (tbl_cons c_qRight (tbl_cons c_Start (tbl_cons c_pSums (tbl_cons c_shown (tbl_cons c_Has (tbl_cons c_Breaks tbl_nil)))))) Tryz.func24 m24 (sp3_runs runs_Proves)
end Go.Co
/- CO: the document's check, and that it says what the checker says. -/
namespace Go.Co
open Go.Am Go.Proofs
attribute [-simp] Go.Am.eff_gcall
end Go.Co
/- CO: what proofs and searches say of points. -/
namespace Go.Co
open Go.Am Go.Proofs
theorem searchN_cons (m:Model) (q:Query) (n:Nat) (sp:Int) (b:Box) (bs:List Box) (pf:List Step):searchN m q (n+1) sp (b::bs) pf=if closedM m q b then searchN m q n (sp+1) bs (pf++[sumS]) else
  if corner m q b then ⟨2,[],lowB b,b.s4.hi,sp+1⟩ else
  if (splitM m q b).c then searchN m q n (sp+1) ((cutB b (splitM m q b).a (splitM m q b).b).1::(cutB b (splitM m q b).a (splitM m q b).b).2::bs) (pf++[⟨false,(splitM m q b).a,(splitM m q b).b⟩]) else ⟨3,[],zeroP,0,sp+1⟩:=rfl
theorem searchN_nil (m:Model) (q:Query) (n:Nat) (sp:Int) (pf:List Step):searchN m q n sp [] pf=⟨1,pf,zeroP,0,sp⟩:=by cases n<;>rfl
end Go.Co
/- CO: queries whose region, budget or ends are others. -/
namespace Go.Co
open Go.Am Go.Proofs
def withBudget (q:Query) (n:Int):Query:={ q with budget:=n }
end Go.Co
/- CO: how deep proofs go; a search's proof is one; boxes that numbers cut. -/
namespace Go.Co
open Go.Am Go.Proofs
attribute [-simp] Go.Am.eff_gcall
def wS (s:Span):Nat:=(s.hi-s.lo).toNat
def wide (b:Box):Nat:=wS b.s0+wS b.s1+wS b.s2+wS b.s3+wS b.s4
theorem wide_set (b:Box) {k:Int} (h0:0≤k) (h5:k<5) (s:Span):wide (b.set k s)+wS (b.get k)=wide b+wS s:=by
 have hc:k=0∨k=1∨k=2∨k=3∨k=4:=by omega
 rcases hc with rfl|rfl|rfl|rfl|rfl<;>simp only[Box.set,Box.get,reduceIte,Int.reduceEq,wide]<;>omega
theorem wide_cut {b:Box} {k n:Int} (h0:0≤k) (h5:k<5) (h1:(b.get k).lo≤n) (h2:n<(b.get k).hi):wide (cutB b k n).1+1≤wide b∧wide (cutB b k n).2+1≤wide b:=by
 rw[cutB_halves h0 h5 h1 h2]
 have e1:=wide_set b h0 h5 ⟨(b.get k).lo,n⟩
 have e2:=wide_set b h0 h5 ⟨n+1,(b.get k).hi⟩
 unfold wS at e1 e2
 simp only at e1 e2 ⊢
 omega
def WI (W:Nat):List Box→Prop
 | []=>True
 | x::R=>R.length+wide x≤W∧WI W R
theorem WI.cut {W:Nat} {x:Box} {R:List Box} (h:WI W (x::R)) {k n:Int} (h0:0≤k) (h5:k<5) (h1:(x.get k).lo≤n) (h2:n<(x.get k).hi):WI W ((cutB x k n).1::(cutB x k n).2::R):=by
 obtain⟨g1,g2⟩:=h
 have hw:=wide_cut h0 h5 h1 h2
 exact⟨by rw[List.length_cons];omega,by omega,g2⟩
def cutK' (c:Cutting) (n:Nat):Int:=within (pick c.place n) 0 5
def stopS (c:Cutting) (x:Box) (cuts n:Nat):Prop:=cutK' c n=5∨20≤cuts∨c.place.length=0∨(x.get (cutK' c n)).hi≤(x.get (cutK' c n)).lo
instance (c:Cutting) (x:Box) (cuts n:Nat):Decidable (stopS c x cuts n):=by unfold stopS;exact inferInstance
end Go.Co
/- CO: a query is asked of a pruned model as of the whole one. -/
namespace Go.Co
open Go.Am Go.Proofs
end Go.Co
/- CO: a search under way. -/
namespace Go.Co
open Go.Am
structure Srch where
 m:Model
 q:Query
 left:List Box
 proof:List Step
 v:Verdict
 spent:Int
def Srch.cells (x:Srch):List AV:=Row.enc x.m++(Row.enc x.q++([.lst x.left.length (encL x.left),.lst x.proof.length (encL x.proof)]++(Row.enc x.v++[.int .i64 x.spent])))
def decTwo:List AV→Option (List Box×List Step)
 | [.lst n w,.lst k z]=>(decL Box n w).bind fun l=>(decL Step k z).map fun p=>(l,p)
 | _=>none
def decOne:List AV→Option Int
 | [.int .i64 n]=>some n
 | _=>none
theorem decTwo_some {xs:List AV} {p:List Box×List Step} (h:decTwo xs=some p):xs=[.lst p.1.length (encL p.1),.lst p.2.length (encL p.2)]:=by
 unfold decTwo at h
 split at h
 ·rw[Option.bind_eq_some_iff] at h
  obtain⟨l,h1,h⟩:=h
  rw[Option.map_eq_some_iff] at h
  obtain⟨k,h2,rfl⟩:=h
  obtain⟨rfl,rfl⟩:=decL_some _ _ _ h1
  obtain⟨rfl,rfl⟩:=decL_some _ _ _ h2
  rfl
 ·cases h
theorem decOne_some {xs:List AV} {n:Int} (h:decOne xs=some n):xs=[.int .i64 n]:=by
 unfold decOne at h
 split at h
 ·cases h;rfl
 ·cases h
instance:Row Srch where
 sz:=34
 enc:=Srch.cells
 dec xs:=(Row.dec (xs.take 6):Option Model).bind fun m=>(Row.dec ((xs.drop 6).take 17):Option Query).bind fun q=>(decTwo (((xs.drop 6).drop 17).take 2)).bind fun p=>(Row.dec ((((xs.drop 6).drop 17).drop 2).take 8):Option Verdict).bind fun v=>(decOne ((((xs.drop 6).drop 17).drop 2).drop 8)).map fun n=>⟨m,q,p.1,p.2,v,n⟩
 pos:=by decide
 len _:=rfl
 dec_enc x:=by
  have h1:x.cells.take 6=Row.enc x.m:=rfl
  have h2:(x.cells.drop 6).take 17=Row.enc x.q:=rfl
  have h3:((x.cells.drop 6).drop 17).take 2=[.lst x.left.length (encL x.left),.lst x.proof.length (encL x.proof)]:=rfl
  have h4:(((x.cells.drop 6).drop 17).drop 2).take 8=Row.enc x.v:=rfl
  have h5:(((x.cells.drop 6).drop 17).drop 2).drop 8=[.int .i64 x.spent]:=rfl
  rw[h1,h2,h3,h4,h5,Row.dec_enc,Row.dec_enc,Row.dec_enc]
  simp only[Option.bind_some,decTwo,decL_encL,Option.map_some,decOne]
 enc_dec xs a h:=by
  rw[Option.bind_eq_some_iff] at h
  obtain⟨m,h1,h⟩:=h
  rw[Option.bind_eq_some_iff] at h
  obtain⟨q,h2,h⟩:=h
  rw[Option.bind_eq_some_iff] at h
  obtain⟨p,h3,h⟩:=h
  rw[Option.bind_eq_some_iff] at h
  obtain⟨v,h4,h⟩:=h
  rw[Option.map_eq_some_iff] at h
  obtain⟨n,h5,rfl⟩:=h
  have e1:=Row.enc_dec _ _ h1
  have e2:=Row.enc_dec _ _ h2
  have e3:=decTwo_some h3
  have e4:=Row.enc_dec _ _ h4
  have e5:=decOne_some h5
  unfold Srch.cells
  simp only
  rw[← e1,← e2,← e3,← e4,← e5]
  simp only[List.take_append_drop]
theorem enc_ref_Srch (x:Srch):Arg.enc (⟨x⟩:Ref Srch)=.ipt 0 x.cells:=rfl
theorem dec_ref_Srch (x:Srch):(Arg.dec (.ipt 0 x.cells):Option (Ref Srch))=some ⟨x⟩:=Arg.dec_enc (⟨x⟩:Ref Srch)
theorem encL_inj {α:Type} [Row α] {l l':List α} (hl:l.length=l'.length) (h:encL l=encL l'):l=l':=by
 have h1:=decL_encL l
 rw[hl,h,decL_encL] at h1
 cases h1
 rfl
end Go.Co
