/- CO: texts of this claim, one behind the other. -/
import Derived.Test.YtlbfmeijjgphfaaGreatDoorCz9
set_option linter.unusedVariables false
set_option linter.unusedSimpArgs false
/- CO: the search: what is kept of it, a step of it. -/
set_option maxHeartbeats 16000000
set_option maxRecDepth 100000
namespace Go.Co
open Go.Am Go.Proofs
attribute [-simp] Go.Am.eff_gcall Go.Am.eff_gcal2
def c69_9:ACode:=.seq (.ops [⟨some 2,.nil0 2 3,none,[]⟩] [0]) (.seq (.seq (.nilq (.t 0) 3 4 [0,4]) (.cond (.t 4) (.seq (.ops [⟨some 2,.nil0 2 3,none,[]⟩] [2]) .ret) .skip)) (.seq (.ops [⟨some 5,.mkrow 5 0 3 [.bool false,.int .i64 0,.int .i64 0] [],none,[]⟩,⟨some 6,.mv (.t 0),none,[]⟩,⟨some 7,.app 2 [5] (.t 5) (.t 6) 3,none,[5]⟩,⟨some 2,.mv (.t 7),none,[]⟩] [2]) .ret))
theorem r69_9:type_of% (rr c69_9.eq_1):=rr rfl
def a69:AFun:=⟨1,8,c69_9,[.t 2]⟩
attribute [simp] r69_9
theorem m69:mFun Tryz.prog Tryz.f69 a69=true:=by decide +kernel
def c34_15:ACode:=.seq (.ops [⟨some 2,.box (.t 0) 6,none,[]⟩,⟨some 3,.box (.t 1) 17,none,[]⟩,⟨some 4,.mv (.c (.nilv false)),none,[]⟩] [2,3]) (.seq (.ops [⟨some 6,.load 6 true (.t 2),none,[2]⟩,⟨some 7,.load 17 true (.t 3),none,[3]⟩,⟨some 8,.build [.int .i64 0,.int .i64 0,.int .i64 0,.int .i64 0,.int .i64 0,.nils,.int .i64 0,.int .i64 0,.int .i64 0,.int .i64 0,.int .i64 0,.int .i64 0,.int .i64 0,.int .i64 0,.int .i64 0,.int .i64 0,.int .i64 0,.int .i64 0,.int .i64 0,.int .i64 0,.int .i64 0,.bool false,.int .i64 0,.nils,.nils,.int .i64 0,.nils,.int .i64 0,.int .i64 0,.int .i64 0,.int .i64 0,.int .i64 0,.int .i64 0,.int .i64 0] [(0,6,.t 6),(6,17,.t 7)],none,[]⟩,⟨some 9,.box (.t 8) 34,none,[]⟩,⟨some 5,.mv (.t 9),none,[]⟩] [2,3,5]) (.seq (.seq (.ops [⟨some 10,.load 6 true (.t 2),none,[2]⟩,⟨some 11,.load 17 true (.t 3),none,[3]⟩,⟨some 12,.call 40 [.t 10,.t 11],none,[]⟩,⟨some 13,.un .not (.t 12),none,[]⟩] [3,5,13]) (.cond (.t 13) (.seq (.ops [⟨some 14,.mv (.t 5),none,[]⟩,⟨some 15,.chk (.t 14),none,[9]⟩,⟨some 16,.fad (.t 15) 25,none,[9]⟩,⟨some 17,.fad (.t 16) 0,none,[9]⟩,⟨none,.store (.t 17) 1 (.c (.int .i64 4)),none,[9]⟩] [5]) (.seq (.ops [⟨some 18,.mv (.t 5),none,[]⟩,⟨some 4,.mv (.t 18),none,[]⟩] [4]) .ret)) .skip)) (.seq (.ops [⟨some 19,.mv (.t 5),none,[]⟩,⟨some 20,.load 17 true (.t 3),none,[3]⟩,⟨some 21,.call 15 [.t 20],none,[]⟩,⟨some 22,.mkrow 10523 1 10 [.int .i64 0,.int .i64 0,.int .i64 0,.int .i64 0,.int .i64 0,.int .i64 0,.int .i64 0,.int .i64 0,.int .i64 0,.int .i64 0] [(0,10,.t 21)],none,[]⟩,⟨some 23,.chk (.t 19),none,[9]⟩,⟨some 24,.fad (.t 23) 23,none,[9]⟩,⟨none,.store (.t 24) 1 (.t 22),none,[9]⟩] [5]) (.seq (.ops [⟨some 25,.mv (.t 5),none,[]⟩,⟨some 4,.mv (.t 25),none,[]⟩] [4]) .ret))))
theorem r34_15:type_of% (rr c34_15.eq_1):=rr rfl
def a34:AFun:=⟨2,26,c34_15,[.t 4]⟩
attribute [simp] r34_15
theorem m34:mFun Tryz.prog Tryz.f34 a34=true:=by decide +kernel
def c35_56:ACode:=.seq (.ops [⟨some 2,.mv (.c (.bool false)),none,[]⟩] [0]) (.seq (.seq (.ops [⟨some 12,.mv (.t 0),none,[]⟩,⟨some 13,.chk (.t 12),none,[0]⟩,⟨some 14,.fad (.t 13) 25,none,[0]⟩,⟨some 15,.fad (.t 14) 0,none,[0]⟩,⟨some 16,.load 1 false (.t 15),none,[0]⟩,⟨some 17,.bin .neq (.t 16) (.c (.int .i64 0)),none,[]⟩,⟨some 18,.mv (.t 17),none,[]⟩,⟨some 19,.mv (.t 0),some (18,false),[]⟩,⟨some 20,.chk (.t 19),some (18,false),[0]⟩,⟨some 21,.fad (.t 20) 33,some (18,false),[0]⟩,⟨some 22,.load 1 false (.t 21),some (18,false),[0]⟩,⟨some 23,.mv (.t 0),some (18,false),[]⟩,⟨some 24,.chk (.t 23),some (18,false),[0]⟩,⟨some 25,.fad (.t 24) 6,some (18,false),[0]⟩,⟨some 26,.fad (.t 25) 16,some (18,false),[0]⟩,⟨some 27,.load 1 false (.t 26),some (18,false),[0]⟩,⟨some 28,.bin .geq (.t 22) (.t 27),some (18,false),[]⟩,⟨some 29,.pick (.t 18) (.c (.bool true)) (.t 28),none,[]⟩] [0,29]) (.cond (.t 29) (.seq (.ops [⟨some 2,.mv (.c (.bool false)),none,[]⟩] [2]) .ret) .skip)) (.seq (.ops [⟨some 30,.mv (.t 0),none,[]⟩,⟨some 31,.chk (.t 30),none,[0]⟩,⟨some 32,.fad (.t 31) 33,none,[0]⟩,⟨some 33,.load 1 false (.t 32),none,[0]⟩,⟨some 34,.bin .add (.t 33) (.c (.int .i64 1)),none,[]⟩,⟨some 35,.chk (.t 30),none,[0]⟩,⟨some 36,.fad (.t 35) 33,none,[0]⟩,⟨none,.store (.t 36) 1 (.t 34),none,[0]⟩] [0]) (.seq (.ops [⟨some 37,.mv (.t 0),none,[]⟩,⟨some 38,.chk (.t 37),none,[0]⟩,⟨some 39,.fad (.t 38) 23,none,[0]⟩,⟨some 40,.load 1 false (.t 39),none,[0]⟩,⟨some 41,.len (.t 40),none,[1,2,10023,10024]⟩,⟨some 42,.bin .sub (.t 41) (.c (.int .i64 1)),none,[]⟩,⟨some 3,.mv (.t 42),none,[]⟩] [0,3]) (.seq (.ops [⟨some 43,.mv (.t 0),none,[]⟩,⟨some 44,.chk (.t 43),none,[0]⟩,⟨some 45,.fad (.t 44) 23,none,[0]⟩,⟨some 46,.load 1 false (.t 45),none,[0]⟩,⟨some 47,.mv (.t 3),none,[]⟩,⟨some 48,.ias (.t 46) (.t 47) 10,none,[1,2,10023,10024]⟩,⟨some 49,.load 10 true (.t 48),none,[1,2,10023,10024]⟩,⟨some 4,.alloc [.int .i64 0,.int .i64 0,.int .i64 0,.int .i64 0,.int .i64 0,.int .i64 0,.int .i64 0,.int .i64 0,.int .i64 0,.int .i64 0],none,[]⟩,⟨none,.store (.t 4) 10 (.t 49),none,[4]⟩] [0,3,4]) (.seq (.ops [⟨some 50,.mv (.t 0),none,[]⟩,⟨some 51,.mv (.t 0),none,[]⟩,⟨some 52,.chk (.t 51),none,[0]⟩,⟨some 53,.fad (.t 52) 23,none,[0]⟩,⟨some 54,.load 1 false (.t 53),none,[0]⟩,⟨some 55,.mv (.t 3),none,[]⟩,⟨some 56,.sl (.t 54) none (some (.t 55)) 10,none,[1,2,10023,10024]⟩,⟨some 57,.chk (.t 50),none,[0]⟩,⟨some 58,.fad (.t 57) 23,none,[0]⟩,⟨none,.store (.t 58) 1 (.t 56),none,[0]⟩] [0,4]) (.seq (.seq (.ops [⟨some 59,.mv (.t 0),none,[]⟩,⟨some 60,.chk (.t 59),none,[0]⟩,⟨some 61,.fad (.t 60) 0,none,[0]⟩,⟨some 62,.load 6 true (.t 61),none,[0]⟩,⟨some 63,.mv (.t 0),none,[]⟩,⟨some 64,.chk (.t 63),none,[0]⟩,⟨some 65,.fad (.t 64) 6,none,[0]⟩,⟨some 66,.load 17 true (.t 65),none,[0]⟩,⟨some 67,.load 10 true (.t 4),none,[4]⟩,⟨some 68,.call 65 [.t 62,.t 66,.t 67],none,[1,2,10023,10024]⟩] [0,4,68]) (.cond (.t 68) (.seq (.ops [⟨some 69,.mv (.t 0),none,[]⟩,⟨some 70,.mv (.t 0),none,[]⟩,⟨some 71,.chk (.t 70),none,[0]⟩,⟨some 72,.fad (.t 71) 24,none,[0]⟩,⟨some 73,.load 1 false (.t 72),none,[0]⟩,⟨some 74,.build [.bool false,.int .i64 0,.int .i64 0] [(0,1,.c (.bool true))],none,[]⟩,⟨some 75,.mkrow 75 1 3 [.bool false,.int .i64 0,.int .i64 0] [(0,3,.t 74)],none,[]⟩,⟨some 76,.app 10024 [1,2,10023,10024] (.t 73) (.t 75) 3,none,[1,2,75,10023,10024]⟩,⟨some 77,.chk (.t 69),none,[0]⟩,⟨some 78,.fad (.t 77) 24,none,[0]⟩,⟨none,.store (.t 78) 1 (.t 76),none,[0]⟩] [0]) (.seq (.seq (.ops [⟨some 79,.mv (.t 0),none,[]⟩,⟨some 80,.chk (.t 79),none,[0]⟩,⟨some 81,.fad (.t 80) 23,none,[0]⟩,⟨some 82,.load 1 false (.t 81),none,[0]⟩,⟨some 83,.len (.t 82),none,[1,2,10023,10024]⟩,⟨some 84,.bin .eql (.t 83) (.c (.int .i64 0)),none,[]⟩] [0,84]) (.cond (.t 84) (.ops [⟨some 85,.mv (.t 0),none,[]⟩,⟨some 86,.mv (.t 0),none,[]⟩,⟨some 87,.chk (.t 86),none,[0]⟩,⟨some 88,.fad (.t 87) 24,none,[0]⟩,⟨some 89,.load 1 false (.t 88),none,[0]⟩,⟨some 90,.build [.int .i64 0,.nils,.int .i64 0,.int .i64 0,.int .i64 0,.int .i64 0,.int .i64 0,.int .i64 0] [(0,1,.c (.int .i64 1)),(1,1,.t 89)],none,[]⟩,⟨some 91,.chk (.t 85),none,[0]⟩,⟨some 92,.fad (.t 91) 25,none,[0]⟩,⟨none,.store (.t 92) 8 (.t 90),none,[0]⟩] []) .skip)) (.seq (.ops [⟨some 2,.mv (.c (.bool true)),none,[]⟩] [2]) .ret))) .skip)) (.seq (.seq (.ops [⟨some 94,.load 10 true (.t 4),none,[4]⟩,⟨some 95,.call 66 [.t 94],none,[]⟩,⟨some 93,.mv (.t 95),none,[]⟩,⟨some 96,.ext (.t 93) 0,none,[]⟩,⟨some 97,.ext (.t 93) 1,none,[]⟩,⟨some 5,.alloc [.int .i64 0,.int .i64 0,.int .i64 0,.int .i64 0],none,[]⟩,⟨none,.store (.t 5) 4 (.t 96),none,[5]⟩,⟨some 6,.mv (.t 97),none,[]⟩] [0,4,5,6]) (.seq (.ops [⟨some 98,.mv (.t 0),none,[]⟩,⟨some 99,.chk (.t 98),none,[0]⟩,⟨some 100,.fad (.t 99) 0,none,[0]⟩,⟨some 101,.load 6 true (.t 100),none,[0]⟩,⟨some 102,.mv (.t 0),none,[]⟩,⟨some 103,.chk (.t 102),none,[0]⟩,⟨some 104,.fad (.t 103) 6,none,[0]⟩,⟨some 105,.load 17 true (.t 104),none,[0]⟩,⟨some 106,.load 4 true (.t 5),none,[5]⟩,⟨some 107,.mv (.t 6),none,[]⟩,⟨some 108,.call 19 [.t 101,.t 105,.t 106,.t 107],none,[1,2,10023,10024]⟩] [0,4,5,6,108]) (.cond (.t 108) (.seq (.ops [⟨some 109,.mv (.t 0),none,[]⟩,⟨some 110,.load 4 true (.t 5),none,[5]⟩,⟨some 111,.mv (.t 6),none,[]⟩,⟨some 112,.build [.int .i64 0,.nils,.int .i64 0,.int .i64 0,.int .i64 0,.int .i64 0,.int .i64 0,.int .i64 0] [(0,1,.c (.int .i64 2)),(2,4,.t 110),(6,1,.t 111)],none,[]⟩,⟨some 113,.chk (.t 109),none,[0]⟩,⟨some 114,.fad (.t 113) 25,none,[0]⟩,⟨none,.store (.t 114) 8 (.t 112),none,[0]⟩] []) (.seq (.ops [⟨some 2,.mv (.c (.bool true)),none,[]⟩] [2]) .ret)) .skip))) (.seq (.ops [⟨some 116,.mv (.t 0),none,[]⟩,⟨some 117,.chk (.t 116),none,[0]⟩,⟨some 118,.fad (.t 117) 0,none,[0]⟩,⟨some 119,.load 6 true (.t 118),none,[0]⟩,⟨some 120,.mv (.t 0),none,[]⟩,⟨some 121,.chk (.t 120),none,[0]⟩,⟨some 122,.fad (.t 121) 6,none,[0]⟩,⟨some 123,.load 17 true (.t 122),none,[0]⟩,⟨some 124,.load 10 true (.t 4),none,[4]⟩,⟨some 125,.call 67 [.t 119,.t 123,.t 124],none,[1,2,10023,10024]⟩,⟨some 115,.mv (.t 125),none,[]⟩,⟨some 126,.ext (.t 115) 0,none,[]⟩,⟨some 127,.ext (.t 115) 1,none,[]⟩,⟨some 128,.ext (.t 115) 2,none,[]⟩,⟨some 7,.mv (.t 126),none,[]⟩,⟨some 8,.mv (.t 127),none,[]⟩,⟨some 9,.mv (.t 128),none,[]⟩] [0,4,7,8,9]) (.seq (.seq (.ops [⟨some 129,.mv (.t 9),none,[]⟩,⟨some 130,.un .not (.t 129),none,[]⟩] [0,4,7,8,130]) (.cond (.t 130) (.seq (.ops [⟨some 131,.mv (.t 0),none,[]⟩,⟨some 132,.build [.int .i64 0,.nils,.int .i64 0,.int .i64 0,.int .i64 0,.int .i64 0,.int .i64 0,.int .i64 0] [(0,1,.c (.int .i64 3))],none,[]⟩,⟨some 133,.chk (.t 131),none,[0]⟩,⟨some 134,.fad (.t 133) 25,none,[0]⟩,⟨none,.store (.t 134) 8 (.t 132),none,[0]⟩] []) (.seq (.ops [⟨some 2,.mv (.c (.bool true)),none,[]⟩] [2]) .ret)) .skip)) (.seq (.ops [⟨some 136,.load 10 true (.t 4),none,[4]⟩,⟨some 137,.mv (.t 7),none,[]⟩,⟨some 138,.mv (.t 8),none,[]⟩,⟨some 139,.call 68 [.t 136,.t 137,.t 138],none,[]⟩,⟨some 135,.mv (.t 139),none,[]⟩,⟨some 140,.ext (.t 135) 0,none,[]⟩,⟨some 141,.ext (.t 135) 1,none,[]⟩,⟨some 10,.alloc [.int .i64 0,.int .i64 0,.int .i64 0,.int .i64 0,.int .i64 0,.int .i64 0,.int .i64 0,.int .i64 0,.int .i64 0,.int .i64 0],none,[]⟩,⟨some 11,.alloc [.int .i64 0,.int .i64 0,.int .i64 0,.int .i64 0,.int .i64 0,.int .i64 0,.int .i64 0,.int .i64 0,.int .i64 0,.int .i64 0],none,[]⟩,⟨none,.store (.t 10) 10 (.t 140),none,[10]⟩,⟨none,.store (.t 11) 10 (.t 141),none,[11]⟩] [0,7,8,10,11]) (.seq (.ops [⟨some 142,.mv (.t 0),none,[]⟩,⟨some 143,.mv (.t 0),none,[]⟩,⟨some 144,.chk (.t 143),none,[0]⟩,⟨some 145,.fad (.t 144) 23,none,[0]⟩,⟨some 146,.load 1 false (.t 145),none,[0]⟩,⟨some 147,.load 10 true (.t 11),none,[11]⟩,⟨some 148,.load 10 true (.t 10),none,[10]⟩,⟨some 149,.mkrow 149 2 10 [.int .i64 0,.int .i64 0,.int .i64 0,.int .i64 0,.int .i64 0,.int .i64 0,.int .i64 0,.int .i64 0,.int .i64 0,.int .i64 0] [(0,10,.t 147),(10,10,.t 148)],none,[]⟩,⟨some 150,.app 10023 [1,2,10023,10024] (.t 146) (.t 149) 10,none,[1,2,149,10023,10024]⟩,⟨some 151,.chk (.t 142),none,[0]⟩,⟨some 152,.fad (.t 151) 23,none,[0]⟩,⟨none,.store (.t 152) 1 (.t 150),none,[0]⟩] [0,7,8]) (.seq (.ops [⟨some 153,.mv (.t 0),none,[]⟩,⟨some 154,.mv (.t 0),none,[]⟩,⟨some 155,.chk (.t 154),none,[0]⟩,⟨some 156,.fad (.t 155) 24,none,[0]⟩,⟨some 157,.load 1 false (.t 156),none,[0]⟩,⟨some 158,.mv (.t 7),none,[]⟩,⟨some 159,.mv (.t 8),none,[]⟩,⟨some 160,.build [.bool false,.int .i64 0,.int .i64 0] [(1,1,.t 158),(2,1,.t 159)],none,[]⟩,⟨some 161,.mkrow 161 1 3 [.bool false,.int .i64 0,.int .i64 0] [(0,3,.t 160)],none,[]⟩,⟨some 162,.app 10024 [1,2,10023,10024] (.t 157) (.t 161) 3,none,[1,2,161,10023,10024]⟩,⟨some 163,.chk (.t 153),none,[0]⟩,⟨some 164,.fad (.t 163) 24,none,[0]⟩,⟨none,.store (.t 164) 1 (.t 162),none,[0]⟩] []) (.seq (.ops [⟨some 2,.mv (.c (.bool true)),none,[]⟩] [2]) .ret)))))))))))))
theorem r35_56:type_of% (rr c35_56.eq_1):=rr rfl
def a35:AFun:=⟨1,165,c35_56,[.t 2]⟩
attribute [simp] r35_56
theorem m35:mFun Tryz.prog Tryz.f35 a35=true:=by decide +kernel
def c36_14:ACode:=.seq (.ops [⟨some 2,.alloc [.int .i64 0,.nils,.int .i64 0,.int .i64 0,.int .i64 0,.int .i64 0,.int .i64 0,.int .i64 0],none,[]⟩] [0,2]) (.seq (.ops [⟨some 4,.mv (.t 0),none,[]⟩,⟨some 5,.chk (.t 4),none,[]⟩,⟨some 6,.fad (.t 5) 25,none,[]⟩,⟨some 7,.load 8 true (.t 6),none,[]⟩,⟨some 3,.alloc [.int .i64 0,.nils,.int .i64 0,.int .i64 0,.int .i64 0,.int .i64 0,.int .i64 0,.int .i64 0],none,[]⟩,⟨none,.store (.t 3) 8 (.t 7),none,[3]⟩] [0,2,3]) (.seq (.seq (.ops [⟨some 8,.fad (.t 3) 0,none,[3]⟩,⟨some 9,.load 1 false (.t 8),none,[3]⟩,⟨some 10,.bin .eql (.t 9) (.c (.int .i64 0)),none,[]⟩] [0,2,3,10]) (.cond (.t 10) (.ops [⟨some 11,.fad (.t 3) 0,none,[3]⟩,⟨none,.store (.t 11) 1 (.c (.int .i64 3)),none,[3]⟩] [0,2,3]) .skip)) (.seq (.ops [⟨some 12,.fad (.t 3) 1,none,[3]⟩,⟨some 13,.load 1 false (.t 12),none,[3]⟩,⟨some 14,.call 69 [.t 13],none,[]⟩,⟨some 15,.fad (.t 3) 1,none,[3]⟩,⟨none,.store (.t 15) 1 (.t 14),none,[3]⟩] [0,2,3]) (.seq (.ops [⟨some 16,.mv (.t 0),none,[]⟩,⟨some 17,.chk (.t 16),none,[]⟩,⟨some 18,.fad (.t 17) 33,none,[]⟩,⟨some 19,.load 1 false (.t 18),none,[]⟩,⟨some 20,.fad (.t 3) 7,none,[3]⟩,⟨none,.store (.t 20) 1 (.t 19),none,[3]⟩] [2,3]) (.seq (.ops [⟨some 21,.load 8 true (.t 3),none,[3]⟩,⟨none,.store (.t 2) 8 (.t 21),none,[2]⟩] [2]) .ret)))))
theorem r36_14:type_of% (rr c36_14.eq_1):=rr rfl
def a36:AFun:=⟨1,22,c36_14,[.cell 2 8 true]⟩
attribute [simp] r36_14
theorem m36:mFun Tryz.prog Tryz.f36 a36=true:=by decide +kernel
def c14_6:ACode:=.seq (.seq (.ops [⟨some 9,.mv (.t 5),none,[]⟩,⟨some 10,.gcal2 35 [.t 9] [20001,20002,20003] 20002 20003,none,[20001,20002,20003]⟩] [4,5,10]) (.cond (.t 10) .skip (.exit 0))) (.block 1 .skip)
theorem r14_6:type_of% (rr c14_6.eq_1):=rr rfl
def c14_11:ACode:=.seq (.ops [⟨some 11,.mv (.t 5),none,[]⟩,⟨some 12,.call 36 [.t 11],none,[20001,20002,20003]⟩,⟨none,.store (.t 4) 8 (.t 12),none,[4]⟩] [4]) .ret
theorem r14_11:type_of% (rr c14_11.eq_1):=rr rfl
def c14_14:ACode:=.seq (.ops [⟨some 2,.box (.t 0) 6,none,[]⟩,⟨some 3,.box (.t 1) 17,none,[]⟩,⟨some 4,.alloc [.int .i64 0,.nils,.int .i64 0,.int .i64 0,.int .i64 0,.int .i64 0,.int .i64 0,.int .i64 0],none,[]⟩] [2,3,4]) (.seq (.ops [⟨some 6,.load 6 true (.t 2),none,[2]⟩,⟨some 7,.load 17 true (.t 3),none,[3]⟩,⟨some 8,.gcal2 34 [.t 6,.t 7] [] 20001 20002,none,[]⟩,⟨some 5,.mv (.t 8),none,[]⟩] [4,5]) (.seq (.block 0 (.loop (.keep [4,5] [4,20001,20002,20003] c14_6))) c14_11))
theorem r14_14:type_of% (rr c14_14.eq_1):=rr rfl
def a14:AFun:=⟨2,13,c14_14,[.cell 4 8 true]⟩
attribute [simp] r14_6 r14_11 r14_14
theorem m14:mFun Tryz.prog Tryz.f14 a14=true:=by decide +kernel
noncomputable def CloneC (l:List Step):Option (List Step):=Part (l.length≤1099511627776) l
theorem runs_Clone (l c:List Step) (h:CloneC l=some c):Runs (tbl []) a69 [Arg.enc l] (Arg.enc c):=by
 obtain⟨hl,rfl⟩:=part_some h
 refine⟨rfl,fun g=>run_def ?_⟩
 unfold a69
 simp -implicitDefEqProofs []
 refine run_nilq_lst _ _ _ _ rfl ?_ ?_
 ·intro h0
  have:l=[]:=List.length_eq_zero_iff.1 h0
  subst this
  simp -implicitDefEqProofs [encL_nil]
 ·have h1:(encL l).length=l.length*3:=encL_length l
  have h2:=take_stepsE l
  by_cases h0:l=[]
  ·subst h0
   simp -implicitDefEqProofs [encL_nil]
  ·have h3:l.length≠0:=fun e=>h0 (List.length_eq_zero_iff.1 e)
   simp -implicitDefEqProofs [hl,h1,h2,h3]
theorem c_Clone:Contract Tryz.prog 69 (sp1 CloneC) :=
 contract_of_runs mixed tbl_nil Tryz.func69 m69 (sp1_runs runs_Clone)
structure SS where
 m:Model
 q:Query
 lf:Bool
 L:List Box
 G:List AV
 pf:List Step
 kind:Int
 w:Point
 tw:Int
 sp:Int
def SS.cellsV (x:SS) (l p:AV):List AV:=[.int .i64 x.m.dim,.int .i64 x.m.classes,.int .i64 x.m.bias.b0,.int .i64 x.m.bias.b1,.int .i64 x.m.bias.b2,.lst x.m.trees.length (encL x.m.trees),
 .int .i64 x.q.kind,.int .i64 x.q.cls,.int .i64 x.q.region.s0.lo,.int .i64 x.q.region.s0.hi,.int .i64 x.q.region.s1.lo,.int .i64 x.q.region.s1.hi,.int .i64 x.q.region.s2.lo,.int .i64 x.q.region.s2.hi,.int .i64 x.q.region.s3.lo,.int .i64 x.q.region.s3.hi,.int .i64 x.q.region.s4.lo,.int .i64 x.q.region.s4.hi,.int .i64 x.q.lo,.int .i64 x.q.hi,.int .i64 x.q.feature,.bool x.q.falls,.int .i64 x.q.budget,
 l,p,.int .i64 x.kind,if x.kind=1 then p else .nils,.int .i64 x.w.p0,.int .i64 x.w.p1,.int .i64 x.w.p2,.int .i64 x.w.p3,.int .i64 x.tw,.int .i64 0,.int .i64 x.sp]
def SS.lv (x:SS) (a g:Nat):AV:=if x.lf then .own a g 0 x.L.length else .nils
def SS.pv (x:SS) (b g:Nat):AV:=if x.pf=[] then .nils else .own b g 0 x.pf.length
def SS.lh (x:SS) (a:Nat):Hp:=if x.lf then [(a,⟨encL x.L++x.G,false,10⟩)] else []
def SS.ph (x:SS) (b:Nat):Hp:=if x.pf=[] then [] else [(b,⟨encL x.pf,false,3⟩)]
def SS.hp (x:SS) (s a b ga gb:Nat):Hp:=(s,⟨x.cellsV (x.lv a ga) (x.pv b gb),false,0⟩)::(x.lh a++x.ph b)
structure SS.Ok (x:SS):Prop where
 m:RM x.m
 q:x.lf=true→okQuery x.m x.q=true
 n:x.lf=false→x.kind=4∧x.pf=[]∧x.L=[]∧x.G=[]
 l:x.kind=0→x.L≠[]
 p:x.kind=1→x.pf≠[]
 b:∀ b∈x.L,okB b
 g:x.G.all AV.plain=true
 s0:0≤x.sp
 s1:x.sp≤65536
 ll:(x.L.length:Int)≤x.sp+1
 pl:(x.pf.length:Int)≤x.sp
 z:x.kind≠2→x.w=zeroP∧x.tw=0
theorem SS.inj {x y:SS} (hx:x.Ok) (hy:y.Ok) (h:x.hp 0 1 2 0 0=y.hp 0 1 2 0 0):x=y:=by
 obtain⟨⟨d,c,⟨b0,b1,b2⟩,tr⟩,⟨qk,qc,⟨⟨r0,r1⟩,⟨r2,r3⟩,⟨r4,r5⟩,⟨r6,r7⟩,⟨r8,r9⟩⟩,ql,qh,qf,qfa,qb⟩,lf,L,G,pf,kind,⟨w0,w1,w2,w3⟩,tw,sp⟩:=x
 obtain⟨⟨d',c',⟨b0',b1',b2'⟩,tr'⟩,⟨qk',qc',⟨⟨r0',r1'⟩,⟨r2',r3'⟩,⟨r4',r5'⟩,⟨r6',r7'⟩,⟨r8',r9'⟩⟩,ql',qh',qf',qfa',qb'⟩,lf',L',G',pf',kind',⟨w0',w1',w2',w3'⟩,tw',sp'⟩:=y
 unfold SS.hp at h
 rw[List.cons.injEq] at h
 obtain⟨h1,h2⟩:=h
 simp only[Prod.mk.injEq,Blk.mk.injEq,SS.cellsV,List.cons.injEq,AV.int.injEq,AV.bool.injEq,AV.lst.injEq,true_and,and_true] at h1
 obtain⟨rfl,rfl,rfl,rfl,rfl,⟨t1,t2⟩,rfl,rfl,rfl,rfl,rfl,rfl,rfl,rfl,rfl,rfl,rfl,rfl,rfl,rfl,rfl,rfl,rfl,hl,hp,rfl,hv,rfl,rfl,rfl,rfl,rfl,rfl⟩:=h1
 have ht:=encL_inj t1 t2
 subst ht
 have hn:=hx.n
 have hn':=hy.n
 simp only[SS.lv,SS.pv] at hl hp
 have hlf:lf=lf':=by
  cases lf<;>cases lf'<;>simp at hl ⊢
 subst hlf
 have hpf:pf=[]↔pf'=[]:=by
  by_cases e:pf=[]<;>by_cases e':pf'=[]<;>simp[e,e'] at hp ⊢
 simp only[SS.lh,SS.ph] at h2
 cases lf
 ·obtain⟨-,e1,e2,e3⟩:=hn rfl
  obtain⟨-,f1,f2,f3⟩:=hn' rfl
  simp only at e1 e2 e3 f1 f2 f3
  subst e1 e2 e3 f1 f2 f3
  rfl
 ·simp only[if_true,AV.own.injEq,true_and] at hl
  simp only[if_true,List.cons_append,List.nil_append,List.cons.injEq,Prod.mk.injEq,Blk.mk.injEq,true_and,and_true] at h2
  obtain⟨h3,h4⟩:=h2
  have h5:=List.append_inj h3 (by rw[encL_length,encL_length,hl])
  have h6:=encL_inj hl h5.1
  obtain⟨_,h7⟩:=h5
  subst h6 h7
  by_cases e:pf=[]
  ·have e':=hpf.1 e
   subst e e'
   rfl
  ·have e':pf'≠[]:=fun k=>e (hpf.2 k)
   rw[if_neg e,if_neg e'] at h4 hp
   simp only[AV.own.injEq,true_and] at hp
   simp only[List.cons.injEq,Prod.mk.injEq,Blk.mk.injEq,true_and,and_true] at h4
   have:=encL_inj hp h4
   subst this
   rfl
def stepS (x:SS):Bool×SS :=
 if x.kind≠0∨x.q.budget≤x.sp then (false,x) else
 if closedM x.m x.q (x.L.getLastD default) then (true,{ x with L:=x.L.dropLast,G:=Row.enc (x.L.getLastD default)++x.G,sp:=x.sp+1,pf:=x.pf++[sumS],kind:=if x.L.dropLast=[] then 1 else 0 }) else
 if corner x.m x.q (x.L.getLastD default) then (true,{ x with L:=x.L.dropLast,G:=Row.enc (x.L.getLastD default)++x.G,sp:=x.sp+1,kind:=2,w:=lowB (x.L.getLastD default),tw:=(x.L.getLastD default).s4.hi }) else
 if (splitM x.m x.q (x.L.getLastD default)).c then (true,{ x with L:=x.L.dropLast++[(cutB (x.L.getLastD default) (splitM x.m x.q (x.L.getLastD default)).a (splitM x.m x.q (x.L.getLastD default)).b).2,(cutB (x.L.getLastD default) (splitM x.m x.q (x.L.getLastD default)).a (splitM x.m x.q (x.L.getLastD default)).b).1],G:=[],sp:=x.sp+1,pf:=x.pf++[⟨false,(splitM x.m x.q (x.L.getLastD default)).a,(splitM x.m x.q (x.L.getLastD default)).b⟩] }) else
 (true,{ x with L:=x.L.dropLast,G:=Row.enc (x.L.getLastD default)++x.G,sp:=x.sp+1,kind:=3 })
open Classical in
noncomputable def stepG:GSp:=fun args h=>if hx:∃ x:SS,x.Ok∧args=[.ptr 0 0 0]∧h=x.hp 0 1 2 0 0 then some (.bool (stepS (Classical.choose hx)).1,(stepS (Classical.choose hx)).2.hp 0 3 4 0 0) else none
theorem stepG_of {x:SS} (h:x.Ok):stepG [.ptr 0 0 0] (x.hp 0 1 2 0 0)=some (.bool (stepS x).1,(stepS x).2.hp 0 3 4 0 0):=by
 unfold stepG
 have hx:∃ y:SS,y.Ok∧[AV.ptr 0 0 0]=[.ptr 0 0 0]∧x.hp 0 1 2 0 0=y.hp 0 1 2 0 0:=⟨x,h,rfl,rfl⟩
 rw[dif_pos hx]
 have hc:=Classical.choose_spec hx
 have e:Classical.choose hx=x:=(SS.inj h hc.1 hc.2.2).symm
 rw[e]
noncomputable abbrev ssT:Cs:=tbl [(65,sp3 ClosedC),(66,sp1 fun b=>some (lowB b,b.s4.hi)),(19,sp4 BreaksC),(67,sp3 SplitC),(68,sp3 CutB)]
abbrev stepRun (x:SS) (n1 n2:Option Nat) (r:AV) (h:Hp):Prop:=run ssT a35.code [] ⟨argEnv 0 [.ptr 0 0 0],x.hp 0 1 2 0 0,fun _=>0⟩ (gfinN2 a35.res true n1 n2 r h)
theorem run_stepA (x:SS) (hx:x.Ok) (hA:x.kind≠0∨x.q.budget≤x.sp):stepRun x (if x.lf then some 1 else none) (if x.pf=[] then none else some 2) (.bool false) (x.hp 0 3 4 0 0):=by
 obtain⟨m,q,lf,L,G,pf,kind,w,tw,sp⟩:=x
 have hpl:(encL L++G).all AV.plain=true:=by rw[List.all_append,encL_plain];exact hx.g
 have hpp:(encL pf).all AV.plain=true:=encL_plain pf
 have hk1:=hx.p
 have hn:=hx.n
 simp only at hA hk1 hn
 unfold stepRun a35
 cases lf
 ·obtain⟨rfl,rfl,rfl,rfl⟩:=hn rfl
  simp -implicitDefEqProofs [SS.hp,SS.cellsV,SS.lv,SS.pv,SS.lh,SS.ph]
 ·by_cases hpf:pf=[]
  ·subst hpf
   have hk:¬ kind=1:=fun e=>hk1 e rfl
   by_cases h0:kind=0
   ·have hb:q.budget≤sp:=by omega
    simp -implicitDefEqProofs [SS.hp,SS.cellsV,SS.lv,SS.pv,SS.lh,SS.ph,h0,hb,mapM1_nrm hpl]
   ·simp -implicitDefEqProofs [SS.hp,SS.cellsV,SS.lv,SS.pv,SS.lh,SS.ph,h0,hk,mapM1_nrm hpl]
  ·by_cases h0:kind=0
   ·have hb:q.budget≤sp:=by omega
    simp -implicitDefEqProofs [SS.hp,SS.cellsV,SS.lv,SS.pv,SS.lh,SS.ph,h0,hb,hpf,mapM1_nrm hpl,mapM1_nrm hpp]
   ·by_cases h1:kind=1
    ·simp -implicitDefEqProofs [SS.hp,SS.cellsV,SS.lv,SS.pv,SS.lh,SS.ph,h1,hpf,mapM1_nrm hpl,mapM1_nrm hpp]
    ·simp -implicitDefEqProofs [SS.hp,SS.cellsV,SS.lv,SS.pv,SS.lh,SS.ph,h0,h1,hpf,mapM1_nrm hpl,mapM1_nrm hpp]
theorem run_stepB (m:Model) (q:Query) (R:List Box) (b:Box) (G:List AV) (pf:List Step) (w:Point) (tw sp:Int) (hx:SS.Ok ⟨m,q,true,R++[b],G,pf,0,w,tw,sp⟩) (hw:w=zeroP∧tw=0) (hbu:¬ q.budget≤sp) :
  ∃ n1 n2,stepRun ⟨m,q,true,R++[b],G,pf,0,w,tw,sp⟩ n1 n2 (.bool (stepS ⟨m,q,true,R++[b],G,pf,0,w,tw,sp⟩).1) ((stepS ⟨m,q,true,R++[b],G,pf,0,w,tw,sp⟩).2.hp 0 3 4 0 0):=by
 obtain⟨rfl,rfl⟩:=hw
 have hm:RM m:=hx.m
 have hg:G.all AV.plain=true:=hx.g
 have hpp:(encL pf).all AV.plain=true:=encL_plain pf
 have hbok:okB b:=hx.b b (by simp)
 have hRl:=hx.ll
 have hpl:=hx.pl
 have hs0:=hx.s0
 have hs1:=hx.s1
 simp only[List.length_append,List.length_singleton] at hRl hpl hs0 hs1
 have wL:IntKind.i64.wrap ((R.length:Nat):Int)=R.length:=wrap64 (by omega) (by omega)
 have c0:R.length+1≤maxN:=by unfold maxN;omega
 have c0':R.length≤maxN:=by unfold maxN;omega
 have c9:(R.length:Int)<(R.length:Int)+1:=by omega
 have c10:(R.length:Int)≤(R.length:Int)+1:=by omega
 have c11:R.length≤1099511627774:=by omega
 have c12:pf.length≤1099511627775:=by omega
 have w1:IntKind.i64.wrap (sp+1)=sp+1:=wrap64 (by omega) (by omega)
 have htop:rd (encL R++(Row.enc b++G)) (R.length*10) 10 true=some (.agg (Row.enc b)):=by
  have:=rd_top R b G
  rw[encL_append,List.append_assoc] at this
  simpa [encL_cons,encL_nil] using this
 have e1:encL (R++[b])++G=encL R++(Row.enc b++G):=by simp[encL_append,encL_cons,encL_nil]
 have e2:(R++[b]).length=R.length+1:=by simp
 have e3:(R++[b]).getLastD default=b:=by simp
 have e4:(R++[b]).dropLast=R:=by simp
 have htk:=take_boxG R (Row.enc b++G)
 have hlen:=len_boxG R (Row.enc b++G)
 have hX:(encL R++(Row.enc b++G)).all AV.plain=true:=by
  rw[List.all_append,List.all_append,encL_plain,hg]
  rfl
 have hst:stepS ⟨m,q,true,R++[b],G,pf,0,zeroP,0,sp⟩=(if closedM m q b then (true,⟨m,q,true,R,Row.enc b++G,pf++[sumS],if R=[] then 1 else 0,zeroP,0,sp+1⟩) else
   if corner m q b then (true,⟨m,q,true,R,Row.enc b++G,pf,2,lowB b,b.s4.hi,sp+1⟩) else
   if (splitM m q b).c then (true,⟨m,q,true,R++[(cutB b (splitM m q b).a (splitM m q b).b).2,(cutB b (splitM m q b).a (splitM m q b).b).1],[],pf++[⟨false,(splitM m q b).a,(splitM m q b).b⟩],0,zeroP,0,sp+1⟩) else
   (true,⟨m,q,true,R,Row.enc b++G,pf,3,zeroP,0,sp+1⟩)):=by
  unfold stepS
  rw[if_neg (by simp only[not_or];exact⟨fun h=>h rfl,hbu⟩)]
  simp only[e3,e4]
 rw[hst]
 have hhp:SS.hp ⟨m,q,true,R++[b],G,pf,0,zeroP,0,sp⟩ 0 1 2 0 0=SS.hp ⟨m,q,true,R++[b],G,pf,0,zeroP,0,sp⟩ 0 1 2 0 0:=rfl
 unfold stepRun a35
 generalize hG2:Row.enc b++G=G2 at *
 have hlen2:R.length*10≤(encL R).length+G2.length:=by simpa using hlen
 have htop:rd (encL R++G2) (R.length*10) 10 true=some (.agg [.int .i64 b.s0.lo,.int .i64 b.s0.hi,.int .i64 b.s1.lo,.int .i64 b.s1.hi,.int .i64 b.s2.lo,.int .i64 b.s2.hi,.int .i64 b.s3.lo,.int .i64 b.s3.hi,.int .i64 b.s4.lo,.int .i64 b.s4.hi]):=htop
 have hCl:ClosedC m q b=some (closedM m q b):=part_of ⟨hm,hbok⟩ _
 have hBr:BreaksC m q (lowB b) b.s4.hi=some (corner m q b):=part_of hm _
 have hSp:SplitC m q b=some (splitM m q b):=part_of hm _
 have htkp:=take_stepsE pf
 have hlnp:=len_steps pf
 cases hcl:closedM m q b
 case true =>
  rw[hcl] at hCl
  rw[if_pos rfl]
  have hsn:encL (pf++[sumS])=encL pf++[.bool true,.int .i64 0,.int .i64 0]:=by rw[encL_append];rfl
  have hps:(encL pf++[AV.bool true,.int .i64 0,.int .i64 0]).all AV.plain=true:=by rw[List.all_append,hpp];rfl
  refine⟨some 1,some 10024, ?_⟩
  by_cases hR:R=[]
  ·have hz:((R.length:Int)=0)=True:=eq_true (by rw[hR];rfl)
   by_cases hpf:pf=[]
   ·subst hpf
    have hs':encL [sumS]=[AV.bool true,.int .i64 0,.int .i64 0]:=rfl
    simp -implicitDefEqProofs [SS.hp,SS.cellsV,SS.lv,SS.pv,SS.lh,SS.ph,e1,e2,hs',c0,c0',c9,c10,wL,if_pos hR,hz,hbu,w1,htop,hlen2,hCl,zeroP,mapM1_nrm hX]
    exact hR
   ·generalize hY:encL pf++[AV.bool true,.int .i64 0,.int .i64 0]=Y at *
    simp -implicitDefEqProofs [SS.hp,SS.cellsV,SS.lv,SS.pv,SS.lh,SS.ph,e1,e2,hsn,c0,c0',c9,c10,wL,if_pos hR,hz,hbu,w1,htop,hlen2,hCl,zeroP,mapM1_nrm hX,mapM1_nrm hps,hY,hpf,c12,htkp,hlnp]
    exact hR
  ·have hz:((R.length:Int)=0)=False:=eq_false (fun e=>hR (List.length_eq_zero_iff.1 (by omega)))
   by_cases hpf:pf=[]
   ·subst hpf
    have hs':encL [sumS]=[AV.bool true,.int .i64 0,.int .i64 0]:=rfl
    simp -implicitDefEqProofs [SS.hp,SS.cellsV,SS.lv,SS.pv,SS.lh,SS.ph,e1,e2,hs',c0,c0',c9,c10,wL,if_neg hR,hz,hbu,w1,htop,hlen2,hCl,zeroP,mapM1_nrm hX]
    exact hR
   ·generalize hY:encL pf++[AV.bool true,.int .i64 0,.int .i64 0]=Y at *
    simp -implicitDefEqProofs [SS.hp,SS.cellsV,SS.lv,SS.pv,SS.lh,SS.ph,e1,e2,hsn,c0,c0',c9,c10,wL,if_neg hR,hz,hbu,w1,htop,hlen2,hCl,zeroP,mapM1_nrm hX,mapM1_nrm hps,hY,hpf,c12,htkp,hlnp]
    exact hR
 case false =>
  rw[hcl] at hCl
  rw[if_neg Bool.false_ne_true]
  cases hco:corner m q b
  case true =>
   rw[hco] at hBr
   rw[if_pos rfl]
   by_cases hpf:pf=[]
   ·subst hpf
    refine⟨some 1,none, ?_⟩
    simp -implicitDefEqProofs [SS.hp,SS.cellsV,SS.lv,SS.pv,SS.lh,SS.ph,e1,e2,c0,c0',c9,c10,wL,hbu,w1,htop,hlen2,hCl,hBr,mapM1_nrm hX]
   ·refine⟨some 1,some 2, ?_⟩
    simp -implicitDefEqProofs [SS.hp,SS.cellsV,SS.lv,SS.pv,SS.lh,SS.ph,e1,e2,c0,c0',c9,c10,wL,hbu,w1,htop,hlen2,hCl,hBr,hpf,mapM1_nrm hX,mapM1_nrm hpp]
  case false =>
   rw[hco] at hBr
   rw[if_neg Bool.false_ne_true]
   have hin:=split_in (m:=m) (q:=q) (b:=b)
   have hkok:=fun i:Int=>cuts_ok hm (q:=q) (b:=b) (i:=i)
   generalize splitM m q b=z at *
   obtain⟨k,at_,ok⟩:=z
   simp only at hin
   cases ok
   case false =>
    rw[if_neg Bool.false_ne_true]
    by_cases hpf:pf=[]
    ·subst hpf
     refine⟨some 1,none, ?_⟩
     simp -implicitDefEqProofs [SS.hp,SS.cellsV,SS.lv,SS.pv,SS.lh,SS.ph,e1,e2,c0,c0',c9,c10,wL,hbu,w1,htop,hlen2,hCl,hBr,hSp,zeroP,mapM1_nrm hX]
    ·refine⟨some 1,some 2, ?_⟩
     simp -implicitDefEqProofs [SS.hp,SS.cellsV,SS.lv,SS.pv,SS.lh,SS.ph,e1,e2,c0,c0',c9,c10,wL,hbu,w1,htop,hlen2,hCl,hBr,hSp,zeroP,hpf,mapM1_nrm hX,mapM1_nrm hpp]
   case true =>
    rw[if_pos rfl]
    obtain⟨k0,k5,kin⟩:=hin rfl
    have hCu:CutB b k at_=some (cutB b k at_):=cutB_of hbok k (hkok _ _ kin)
    generalize cutB b k at_=xy at *
    obtain⟨x,y⟩:=xy
    simp only
    have hsn:encL (pf++[⟨false,k,at_⟩])=encL pf++[.bool false,.int .i64 k,.int .i64 at_]:=by rw[encL_append];rfl
    have hps:(encL pf++[AV.bool false,.int .i64 k,.int .i64 at_]).all AV.plain=true:=by rw[List.all_append,hpp];rfl
    have hrow2:encL (R++[y,x])++[]=encL R++[.int .i64 y.s0.lo,.int .i64 y.s0.hi,.int .i64 y.s1.lo,.int .i64 y.s1.hi,.int .i64 y.s2.lo,.int .i64 y.s2.hi,.int .i64 y.s3.lo,.int .i64 y.s3.hi,.int .i64 y.s4.lo,.int .i64 y.s4.hi,.int .i64 x.s0.lo,.int .i64 x.s0.hi,.int .i64 x.s1.lo,.int .i64 x.s1.hi,.int .i64 x.s2.lo,.int .i64 x.s2.hi,.int .i64 x.s3.lo,.int .i64 x.s3.hi,.int .i64 x.s4.lo,.int .i64 x.s4.hi]:=by simp[encL_append,encL_cons,encL_nil]
    have hpz:(encL R++[AV.int .i64 y.s0.lo,.int .i64 y.s0.hi,.int .i64 y.s1.lo,.int .i64 y.s1.hi,.int .i64 y.s2.lo,.int .i64 y.s2.hi,.int .i64 y.s3.lo,.int .i64 y.s3.hi,.int .i64 y.s4.lo,.int .i64 y.s4.hi,.int .i64 x.s0.lo,.int .i64 x.s0.hi,.int .i64 x.s1.lo,.int .i64 x.s1.hi,.int .i64 x.s2.lo,.int .i64 x.s2.hi,.int .i64 x.s3.lo,.int .i64 x.s3.hi,.int .i64 x.s4.lo,.int .i64 x.s4.hi]).all AV.plain=true:=by rw[List.all_append,encL_plain];rfl
    have e5:(R++[y,x]).length=R.length+2:=by simp
    generalize hZ:encL R++[AV.int .i64 y.s0.lo,.int .i64 y.s0.hi,.int .i64 y.s1.lo,.int .i64 y.s1.hi,.int .i64 y.s2.lo,.int .i64 y.s2.hi,.int .i64 y.s3.lo,.int .i64 y.s3.hi,.int .i64 y.s4.lo,.int .i64 y.s4.hi,.int .i64 x.s0.lo,.int .i64 x.s0.hi,.int .i64 x.s1.lo,.int .i64 x.s1.hi,.int .i64 x.s2.lo,.int .i64 x.s2.hi,.int .i64 x.s3.lo,.int .i64 x.s3.hi,.int .i64 x.s4.lo,.int .i64 x.s4.hi]=Z at *
    have hrow3:encL (R++[y,x])=Z:=by rw[← hrow2,List.append_nil]
    refine⟨some 10023,some 10024, ?_⟩
    by_cases hpf:pf=[]
    ·subst hpf
     have hs':encL [(⟨false,k,at_⟩:Step)]=[AV.bool false,.int .i64 k,.int .i64 at_]:=rfl
     simp -implicitDefEqProofs [SS.hp,SS.cellsV,SS.lv,SS.pv,SS.lh,SS.ph,e1,e2,e5,c0,c0',c9,c10,c11,wL,hbu,w1,htop,hlen2,hCl,hBr,hSp,hCu,htk,hs',hrow3,hZ,zeroP,mapM1_nrm hpz]
    ·generalize hY:encL pf++[AV.bool false,.int .i64 k,.int .i64 at_]=Y at *
     simp -implicitDefEqProofs [SS.hp,SS.cellsV,SS.lv,SS.pv,SS.lh,SS.ph,e1,e2,e5,c0,c0',c9,c10,c11,c12,wL,hbu,w1,htop,hlen2,hCl,hBr,hSp,hCu,htk,hsn,hrow3,hZ,hY,hpf,htkp,hlnp,zeroP,mapM1_nrm hpz,mapM1_nrm hps]
end Go.Co
/- CO: a search run to its end. -/
set_option maxHeartbeats 16000000
set_option maxRecDepth 100000
namespace Go.Co
open Go.Am Go.Proofs
attribute [-simp] Go.Am.eff_gcall Go.Am.eff_gcal2
theorem run_step (x:SS) (hx:x.Ok):∃ n1 n2,stepRun x n1 n2 (.bool (stepS x).1) ((stepS x).2.hp 0 3 4 0 0):=by
 by_cases hA:x.kind≠0∨x.q.budget≤x.sp
 ·have e:stepS x=(false,x):=by unfold stepS;rw[if_pos hA]
  rw[e]
  exact⟨_,_,run_stepA x hx hA⟩
 ·obtain⟨m,q,lf,L,G,pf,kind,w,tw,sp⟩:=x
  simp only[not_or,ne_eq,Decidable.not_not] at hA
  obtain⟨rfl,hb⟩:=hA
  have hn:=hx.n
  have hl:=hx.l rfl
  have hz:=hx.z (show (0:Int)≠2 by decide)
  simp only at hn hl hb hz
  cases lf
  ·exact absurd (hn rfl).1 (by decide)
  ·rcases List.eq_nil_or_concat L with rfl|⟨R,b,rfl⟩
   ·exact absurd rfl hl
   ·rw[List.concat_eq_append] at *
    exact run_stepB m q R b G pf w tw sp hx hz hb
theorem c_Step:Contract Tryz.prog (gBase+35) (gspec stepG) :=
 gcontractN2 (C:=ssT) mixed (tbl_cons c_Closed (tbl_cons c_gCorner (tbl_cons c_Breaks (tbl_cons c_Split (tbl_cons c_bCut tbl_nil))))) Tryz.func35 m35 fun args h r h' hs=>by
  unfold stepG at hs
  split at hs
  ·rename_i hx
   have hc:=Classical.choose_spec hx
   generalize Classical.choose hx=x at *
   obtain⟨hok,rfl,rfl⟩:=hc
   simp only[Option.some.injEq,Prod.mk.injEq] at hs
   obtain⟨rfl,rfl⟩:=hs
   exact⟨rfl,true,run_step x hok⟩
  ·cases hs
def newS (m:Model) (q:Query):SS:=if okQuery m q then ⟨m,q,true,[startOf q],[],[],0,zeroP,0,0⟩ else ⟨m,q,false,[],[],[],4,zeroP,0,0⟩
open Classical in
noncomputable def newG:GSp:=fun args h=>match args,h with
 | [x,y],[]=>(Arg.dec x:Option Model).bind fun m=>(Arg.dec y:Option Query).bind fun q=>if RM m then some (.ptr 3 0 0,(newS m q).hp 3 4 99 0 0) else none
 | _,_=>none
noncomputable abbrev nwT:Cs:=tbl [(40,sp2 QRight),(15,sp1 fun q=>some (startOf q))]
theorem run_New (m:Model) (q:Query) (hm:RM m):run nwT a34.code [] ⟨argEnv 0 [Arg.enc m,Arg.enc q],[],fun _=>0⟩ (gfinN2 a34.res false (some 9) (if okQuery m q then some 10523 else none) (.ptr 3 0 0) ((newS m q).hp 3 4 99 0 0)):=by
 unfold a34 newS
 have hM:QRight m q=some (okQuery m q):=by unfold QRight;rw[if_neg (by have:=hm.dim;omega)];exact part_of hm _
 cases hq:okQuery m q
 case false =>
  rw[hq] at hM
  simp -implicitDefEqProofs [hM,SS.hp,SS.cellsV,SS.lv,SS.pv,SS.lh,SS.ph,zeroP]
 case true =>
  rw[hq] at hM
  simp -implicitDefEqProofs [hM,SS.hp,SS.cellsV,SS.lv,SS.pv,SS.lh,SS.ph,zeroP,encL_cons,encL_nil]
theorem c_New:Contract Tryz.prog (gBase+34) (gspec newG) :=
 gcontractN2 (C:=nwT) mixed (tbl_cons c_qRight (tbl_cons c_Start tbl_nil)) Tryz.func34 m34 fun args h r h' hs=>by
  unfold newG at hs
  split at hs
  ·rename_i x y
   rw[Option.bind_eq_some_iff] at hs
   obtain⟨m,hm,hs⟩:=hs
   rw[Option.bind_eq_some_iff] at hs
   obtain⟨q,hq,hs⟩:=hs
   split at hs
   ·rename_i hr
    simp only[Option.some.injEq,Prod.mk.injEq] at hs
    obtain⟨rfl,rfl⟩:=hs
    obtain rfl:=Arg.enc_dec _ _ hm
    obtain rfl:=Arg.enc_dec _ _ hq
    exact⟨rfl,false,_,_,run_New m q hr⟩
   ·cases hs
  ·cases hs
theorem newG_of {m:Model} (hm:RM m) (q:Query):newG [Arg.enc m,Arg.enc q] []=some (.ptr 3 0 0,(newS m q).hp 3 4 99 0 0):=by
 unfold newG
 simp only[Arg.dec_enc,Option.bind_some]
 rw[if_pos hm]
def verOf (s:Srch):Verdict:=⟨if s.v.kind=0 then 3 else s.v.kind,s.v.proof,s.v.witness,s.v.twin,s.spent⟩
noncomputable def VerC (r:Ref Srch):Option Verdict:=Part (r.v.v.proof.length≤1099511627776) (verOf r.v)
theorem runs_Verdict (x:Ref Srch) (r:Verdict) (h:VerC x=some r):Runs (tbl [(69,sp1 CloneC)]) a36 [Arg.enc x] (Arg.enc r):=by
 obtain⟨x⟩:=x
 obtain⟨hl,rfl⟩:=part_some h
 simp only at hl
 have hC:CloneC x.v.proof=some x.v.proof:=part_of hl _
 refine⟨rfl,fun g=>run_def ?_⟩
 rw[enc_ref_Srch]
 unfold a36 Srch.cells verOf
 by_cases hk:x.v.kind=0
 ·simp -implicitDefEqProofs [hC,hk]
 ·simp -implicitDefEqProofs [hC,hk]
theorem c_Verdict:Contract Tryz.prog 36 (sp1 VerC) :=
 contract_of_runs mixed (tbl_cons c_Clone tbl_nil) Tryz.func36 m36 (sp1_runs runs_Verdict)
def verS (x:SS):Verdict:=⟨if x.kind=0 then 3 else x.kind,if x.kind=1 then x.pf else [],x.w,x.tw,x.sp⟩
def fuelS (x:SS):Nat:=(x.q.budget-x.sp).toNat
def resS (x:SS):Verdict:=if x.kind=0 then searchN x.m x.q (fuelS x) x.sp x.L.reverse x.pf else verS x
theorem new_ok {m:Model} (hm:RM m) (q:Query):(newS m q).Ok∧resS (newS m q)=searchM m q:=by
 unfold newS searchM
 cases hq:okQuery m q
 ·rw[if_neg Bool.false_ne_true,if_neg Bool.false_ne_true]
  refine⟨⟨hm,by simp,by simp,by simp,by simp,by simp,by simp,by simp,by simp,by simp,by simp,by simp⟩, ?_⟩
  unfold resS verS
  simp
 ·rw[if_pos rfl,if_pos rfl]
  have hst:=okQuery_start hq
  refine⟨⟨hm,fun _=>hq,by simp,by simp,by simp,by simpa using hst.2.1,by simp,by simp,by simp,by simp,by simp,by simp⟩, ?_⟩
  unfold resS fuelS
  simp
theorem step_ok {x:SS} (hx:x.Ok):(stepS x).2.Ok∧resS (stepS x).2=resS x∧((stepS x).1=false→(stepS x).2=x∧resS x=verS x) ∧
  ((stepS x).1=true→x.kind=0∧x.sp<x.q.budget∧(stepS x).2.sp=x.sp+1∧(stepS x).2.q=x.q):=by
 by_cases hA:x.kind≠0∨x.q.budget≤x.sp
 ·have e:stepS x=(false,x):=by unfold stepS;rw[if_pos hA]
  rw[e]
  refine⟨hx,rfl,fun _=>⟨rfl, ?_⟩,fun h=>by cases h⟩
  unfold resS
  split
  ·rename_i hk
   have hb:x.q.budget≤x.sp:=by omega
   have hf:fuelS x=0:=by unfold fuelS;omega
   have hz:=hx.z (by omega)
   have hl:=hx.l hk
   rw[hf]
   unfold verS
   rw[if_pos hk,if_neg (by omega),hz.1,hz.2]
   cases hr:x.L.reverse with
   | nil=>exact absurd (List.reverse_eq_nil_iff.1 hr) hl
   | cons b bs=>rfl
  ·rfl
 ·obtain⟨m,q,lf,L,G,pf,kind,w,tw,sp⟩:=x
  simp only[not_or,ne_eq,Decidable.not_not] at hA
  obtain⟨rfl,hb⟩:=hA
  have hn:=hx.n
  have hl:=hx.l rfl
  have hz:=hx.z (show (0:Int)≠2 by decide)
  have hq:=hx.q
  simp only at hn hl hb hz hq
  obtain⟨rfl,rfl⟩:=hz
  cases lf
  ·exact absurd (hn rfl).1 (by decide)
  ·rcases List.eq_nil_or_concat L with rfl|⟨R,b,rfl⟩
   ·exact absurd rfl hl
   ·rw[List.concat_eq_append] at *
    have hq:=hq rfl
    have hm:RM m:=hx.m
    have hbu:=(okQuery_spec hq).2.2.2.1
    have hbok:okB b:=hx.b b (by simp)
    have hRok:∀ y∈R,okB y:=fun y hy=>hx.b y (by simp[hy])
    have hg:G.all AV.plain=true:=hx.g
    have hg2:(Row.enc b++G).all AV.plain=true:=by rw[List.all_append,hg];rfl
    have hRl:=hx.ll
    have hpl:=hx.pl
    have hs0:=hx.s0
    simp only[List.length_append,List.length_singleton] at hRl hpl hs0
    have hb':sp<q.budget:=by omega
    have e3:(R++[b]).getLastD default=b:=by simp
    have e4:(R++[b]).dropLast=R:=by simp
    have hfu:fuelS ⟨m,q,true,R++[b],G,pf,0,zeroP,0,sp⟩=(q.budget-(sp+1)).toNat+1:=by unfold fuelS;simp only;omega
    have hres:resS ⟨m,q,true,R++[b],G,pf,0,zeroP,0,sp⟩=searchN m q ((q.budget-(sp+1)).toNat+1) sp (b::R.reverse) pf:=by
     unfold resS
     rw[if_pos rfl,hfu]
     simp
    rw[hres,searchN_cons]
    unfold stepS
    rw[if_neg (by simp only[not_or];exact⟨fun h=>h rfl,hb⟩)]
    simp only[e3,e4]
    cases hcl:closedM m q b
    case true =>
     rw[if_pos rfl,if_pos rfl]
     refine⟨⟨hm,fun _=>hq,by simp, ?_,by simp,hRok,hg2,by simp only;omega,by simp only;omega,by simp only;omega,by simp;omega,fun _=>⟨rfl,rfl⟩⟩, ?_,fun h=>(by cases h),fun _=>⟨trivial,hb',rfl,rfl⟩⟩
     ·intro h
      simp only at h ⊢
      intro hR
      rw[if_pos hR] at h
      cases h
     ·unfold resS
      by_cases hR:R=[]
      ·subst hR
       simp[verS,searchN_nil]
      ·simp only[if_neg hR,if_true]
       unfold fuelS
       rfl
    case false =>
     rw[if_neg Bool.false_ne_true,if_neg Bool.false_ne_true]
     cases hco:corner m q b
     case true =>
      rw[if_pos rfl,if_pos rfl]
      exact⟨⟨hm,fun _=>hq,by simp,by simp,by simp,hRok,hg2,by simp only;omega,by simp only;omega,by simp only;omega,by simp only;omega,fun h=>absurd rfl h⟩,by simp[resS,verS],fun h=>(by cases h),fun _=>⟨trivial,hb',rfl,rfl⟩⟩
     case false =>
      rw[if_neg Bool.false_ne_true,if_neg Bool.false_ne_true]
      have hin:=split_in (m:=m) (q:=q) (b:=b)
      have hkok:=fun i:Int=>cuts_ok hm (q:=q) (b:=b) (i:=i)
      generalize splitM m q b=z at *
      obtain⟨k,at_,ok⟩:=z
      simp only at hin
      cases ok
      case false =>
       rw[if_neg Bool.false_ne_true,if_neg Bool.false_ne_true]
       exact⟨⟨hm,fun _=>hq,by simp,by simp,by simp,hRok,hg2,by simp only;omega,by simp only;omega,by simp only;omega,by simp only;omega,fun _=>⟨rfl,rfl⟩⟩,by simp[resS,verS],fun h=>(by cases h),fun _=>⟨trivial,hb',rfl,rfl⟩⟩
      case true =>
       rw[if_pos rfl,if_pos rfl]
       obtain⟨k0,k5,kin⟩:=hin rfl
       have hok2:=okB_cut hbok k (hkok _ _ kin)
       refine⟨⟨hm,fun _=>hq,by simp,by simp,by simp, ?_,by simp,by simp only;omega,by simp only;omega,by simp;omega,by simp;omega,fun _=>⟨rfl,rfl⟩⟩, ?_,fun h=>(by cases h),fun _=>⟨trivial,hb',rfl,rfl⟩⟩
       ·intro y hy
        simp only[List.mem_append,List.mem_cons,List.not_mem_nil,or_false] at hy
        rcases hy with hy|rfl|rfl
        ·exact hRok y hy
        ·exact hok2.2
        ·exact hok2.1
       ·unfold resS fuelS
        simp
end Go.Co
/- CO: a search run to its end: what comes of it. -/
set_option maxHeartbeats 16000000
set_option maxRecDepth 100000
namespace Go.Co
open Go.Am Go.Proofs
attribute [-simp] Go.Am.eff_gcall Go.Am.eff_gcal2
noncomputable abbrev rnT:Cs:=tbl [(1000000+34,gspec newG),(1000000+35,gspec stepG),(36,sp1 VerC)]
def runE (g:Nat→Nat) (t:List (Nat×AV)):Env:=(4,.ptr 4 (g 4) 0)::(5,.ptr 20001 (g 20001) 0)::t
def runH (x:SS) (g:Nat→Nat):Hp:=(4,⟨[.int .i64 0,.nils,.int .i64 0,.int .i64 0,.int .i64 0,.int .i64 0,.int .i64 0,.int .i64 0],false,0⟩)::x.hp 20001 20002 20003 (g 20002) (g 20003)
theorem step_lf (x:SS):(stepS x).2.lf=x.lf:=by
 unfold stepS
 split
 ·rfl
 ·split
  ·rfl
  ·split
   ·rfl
   ·split<;>rfl
theorem step_pf (x:SS):x.pf≠[]→(stepS x).2.pf≠[]:=by
 intro h
 unfold stepS
 split
 ·exact h
 ·split
  ·simp
  ·split
   ·exact h
   ·split
    ·simp
    ·exact h
theorem run_on (x:SS) (hx:x.Ok) (ht:(stepS x).1=true) (g:Nat→Nat) (fs:List Fr) (Q:Post) (hQ:∀ g',kont rnT fs Q .normal ⟨runE g' [(10,.bool true)],runH (stepS x).2 g',g'⟩) :
  run rnT c14_6 fs ⟨runE g [],runH x g,g⟩ Q:=by
 have hG:=stepG_of hx
 have hso:=step_ok hx
 have hk:=hso.2.2.2 ht
 have hy:=hso.1
 have hlf:=step_lf x
 have hpp:=step_pf x
 rw[ht] at hG
 generalize stepS x=ty at *
 obtain⟨t,y⟩:=ty
 simp only at ht hlf hpp hy hG hQ
 subst ht
 obtain⟨m,q,lf,L,G,pf,kind,w,tw,sp⟩:=x
 obtain⟨m',q',lf',L',G',pf',kind',w',tw',sp'⟩:=y
 have hn:=hx.n
 have hk1':=hy.p
 have hk0:=hk.1
 simp only at hlf hpp hn hk1' hk0
 subst hlf hk0
 have hlt:lf'=true:=by
  cases lf'
  ·exact absurd (hn rfl).1 (by decide)
  ·rfl
 subst hlt
 have hX:(encL L++G).all AV.plain=true:=by rw[List.all_append,encL_plain];exact hx.g
 have hX':(encL L'++G').all AV.plain=true:=by rw[List.all_append,encL_plain];exact hy.g
 have hp:(encL pf).all AV.plain=true:=encL_plain pf
 have hp':(encL pf').all AV.plain=true:=encL_plain pf'
 simp only[SS.hp,SS.cellsV,SS.lv,SS.pv,SS.lh,SS.ph,if_true] at hG
 have hQ1:=hQ (bump 20002 g)
 have hQ2:=hQ (bump 20003 (bump 20002 g))
 simp only[runE,runH,SS.hp,SS.cellsV,SS.lv,SS.pv,SS.lh,SS.ph,if_true] at hQ1 hQ2
 have h01:¬ (0:Int)=1:=by decide
 by_cases hpf:pf=[]
 ·subst hpf
  by_cases hpf':pf'=[]
  ·subst hpf'
   have h1:¬ kind'=1:=fun e=>hk1' e rfl
   simp[h01,h1,bump] at hG hQ1
   simp -implicitDefEqProofs [runE,runH,SS.hp,SS.cellsV,SS.lv,SS.pv,SS.lh,SS.ph,hG,mapM1_nrm hX,mapM1_up hX']
   exact hQ1
  ·by_cases h1:kind'=1
   ·simp[h01,h1,hpf',bump] at hG hQ2
    simp -implicitDefEqProofs [runE,runH,SS.hp,SS.cellsV,SS.lv,SS.pv,SS.lh,SS.ph,hG,mapM1_nrm hX,mapM1_up hX',mapM1_up hp']
    exact hQ2
   ·simp[h01,h1,hpf',bump] at hG hQ2
    simp -implicitDefEqProofs [runE,runH,SS.hp,SS.cellsV,SS.lv,SS.pv,SS.lh,SS.ph,hG,mapM1_nrm hX,mapM1_up hX',mapM1_up hp']
    exact hQ2
 ·by_cases hpf':pf'=[]
  ·exact absurd hpf' (hpp hpf)
  ·by_cases h1:kind'=1
   ·simp[h01,h1,hpf,hpf',bump] at hG hQ2
    simp -implicitDefEqProofs [runE,runH,SS.hp,SS.cellsV,SS.lv,SS.pv,SS.lh,SS.ph,hG,hpf,mapM1_nrm hX,mapM1_nrm hp,mapM1_up hX',mapM1_up hp']
    exact hQ2
   ·simp[h01,h1,hpf,hpf',bump] at hG hQ2
    simp -implicitDefEqProofs [runE,runH,SS.hp,SS.cellsV,SS.lv,SS.pv,SS.lh,SS.ph,hG,hpf,mapM1_nrm hX,mapM1_nrm hp,mapM1_up hX',mapM1_up hp']
    exact hQ2
theorem run_off (x:SS) (hx:x.Ok) (ht:(stepS x).1=false) (g:Nat→Nat) (fs:List Fr) (Q:Post) (hQ:∀ g',kont rnT fs Q (.exit 0) ⟨runE g' [(10,.bool false)],runH x g',g'⟩) :
  run rnT c14_6 fs ⟨runE g [],runH x g,g⟩ Q:=by
 have hG:=stepG_of hx
 have hso:=(step_ok hx).2.2.1 ht
 rw[ht,hso.1] at hG
 clear hso ht
 obtain⟨m,q,lf,L,G,pf,kind,w,tw,sp⟩:=x
 have hn:=hx.n
 have hk1:=hx.p
 simp only at hn hk1
 have hX:(encL L++G).all AV.plain=true:=by rw[List.all_append,encL_plain];exact hx.g
 have hp:(encL pf).all AV.plain=true:=encL_plain pf
 simp only[SS.hp,SS.cellsV,SS.lv,SS.pv,SS.lh,SS.ph] at hG
 have hQ1:=hQ (bump 20002 g)
 have hQ2:=hQ (bump 20003 (bump 20002 g))
 have hQ0:=hQ g
 simp only[runE,runH,SS.hp,SS.cellsV,SS.lv,SS.pv,SS.lh,SS.ph] at hQ0 hQ1 hQ2
 cases lf
 ·obtain⟨rfl,rfl,rfl,rfl⟩:=hn rfl
  simp[bump] at hG hQ0
  simp -implicitDefEqProofs [runE,runH,SS.hp,SS.cellsV,SS.lv,SS.pv,SS.lh,SS.ph,hG]
  exact hQ0
 ·by_cases hpf:pf=[]
  ·subst hpf
   have h1:¬ kind=1:=fun e=>hk1 e rfl
   simp[h1,bump] at hG hQ1
   simp -implicitDefEqProofs [runE,runH,SS.hp,SS.cellsV,SS.lv,SS.pv,SS.lh,SS.ph,h1,hG,mapM1_nrm hX,mapM1_up hX]
   exact hQ1
  ·by_cases h1:kind=1
   ·subst h1
    simp[hpf,bump] at hG hQ2
    simp -implicitDefEqProofs [runE,runH,SS.hp,SS.cellsV,SS.lv,SS.pv,SS.lh,SS.ph,hG,hpf,mapM1_nrm hX,mapM1_nrm hp,mapM1_up hX,mapM1_up hp]
    exact hQ2
   ·simp[h1,hpf,bump] at hG hQ2
    simp -implicitDefEqProofs [runE,runH,SS.hp,SS.cellsV,SS.lv,SS.pv,SS.lh,SS.ph,h1,hG,hpf,mapM1_nrm hX,mapM1_nrm hp,mapM1_up hX,mapM1_up hp]
    exact hQ2
def SS.srch (x:SS):Srch:=⟨x.m,x.q,x.L,x.pf,⟨x.kind,if x.kind=1 then x.pf else [],x.w,x.tw,0⟩,x.sp⟩
theorem run_end (x:SS) (hx:x.Ok) (g:Nat→Nat):run rnT c14_11 [] ⟨runE g [(10,.bool false)],runH x g,g⟩ (fin [.cell 4 8 true] (Arg.enc (verS x))):=by
 have hV:VerC ⟨x.srch⟩=some (verS x):=by
  unfold VerC
  rw[part_of]
  ·rfl
  ·have h1:=hx.pl
   have h2:=hx.s1
   unfold SS.srch
   simp only
   split
   ·omega
   ·simp
 have hD:=dec_ref_Srch x.srch
 have hk1:=hx.p
 have hn:=hx.n
 obtain⟨m,q,lf,L,G,pf,kind,w,tw,sp⟩:=x
 simp only at hn hk1
 have hX:(encL L++G).all AV.plain=true:=by rw[List.all_append,encL_plain];exact hx.g
 have hp:(encL pf).all AV.plain=true:=encL_plain pf
 have htk:=take_boxG L G
 have hlen:=len_boxG L G
 have hLp:(encL L).all AV.plain=true:=encL_plain L
 have htkp:=take_stepsE pf
 have hlnp:=len_steps pf
 simp only[SS.srch,Srch.cells,row_Model,row_Query,row_Verdict,List.cons_append,List.nil_append] at hV hD
 have hlen2:L.length*10≤(encL L).length+G.length:=by simpa using hlen
 cases lf
 ·obtain⟨rfl,rfl,rfl,rfl⟩:=hn rfl
  simp[verS,encL_nil] at hV hD
  simp -implicitDefEqProofs [runE,runH,SS.hp,SS.cellsV,SS.lv,SS.pv,SS.lh,SS.ph,hV,hD,verS]
 ·by_cases hpf:pf=[]
  ·subst hpf
   have h1:¬ kind=1:=fun e=>hk1 e rfl
   simp[h1,verS,encL_nil] at hV hD
   simp -implicitDefEqProofs [runE,runH,SS.hp,SS.cellsV,SS.lv,SS.pv,SS.lh,SS.ph,hV,hD,h1,htk,hlen2,hLp,verS]
  ·by_cases h1:kind=1
   ·subst h1
    simp[verS,encL_nil] at hV hD
    simp -implicitDefEqProofs [runE,runH,SS.hp,SS.cellsV,SS.lv,SS.pv,SS.lh,SS.ph,hV,hD,hpf,htk,hlen2,hLp,htkp,hlnp,hp,verS]
   ·simp[h1,verS,encL_nil] at hV hD
    simp -implicitDefEqProofs [runE,runH,SS.hp,SS.cellsV,SS.lv,SS.pv,SS.lh,SS.ph,hV,hD,h1,hpf,htk,hlen2,hLp,htkp,hlnp,hp,verS]
theorem keep_runH (x:SS) (g:Nat→Nat):keepH (runH x g) [4,20001,20002,20003]=runH x g:=by
 unfold runH SS.hp SS.lh SS.ph
 cases x.lf<;>by_cases hp:x.pf=[]<;>simp[hp,keepH,hlook]
noncomputable def RunC (m:Model) (q:Query):Option Verdict:=Part (RM m) (searchM m q)
theorem runs_Run (m:Model) (q:Query) (r:Verdict) (h:RunC m q=some r):Runs rnT a14 [Arg.enc m,Arg.enc q] (Arg.enc r):=by
 obtain⟨hm,rfl⟩:=part_some h
 clear h
 refine⟨rfl,fun g=>run_def ?_⟩
 have hN:=newG_of hm q
 obtain⟨hok,hres⟩:=new_ok hm q
 rw[← hres]
 have hkE:∀(g:Nat→Nat) (t:List (Nat×AV)),keepT (runE g t) [4,5]=runE g []:=fun g t=>by simp[runE,keepT,Go.Am.look]
 have hstep:∀(R:Verdict) (n:Nat) (s:St),(∃(x:SS) (g:Nat→Nat),x.Ok∧resS x=R∧fuelS x≤n∧s=⟨runE g [],runH x g,g⟩)→run rnT c14_6 [] s fun e s'=>match e with
   | .normal=>∃ m',m'<n∧∃(x:SS) (g:Nat→Nat),x.Ok∧resS x=R∧fuelS x≤m'∧(⟨keepT s'.t [4,5],keepH s'.h [4,20001,20002,20003],s'.g⟩:St)=⟨runE g [],runH x g,g⟩
   | e=>kont rnT [.blk 0,.c c14_11] (fin [.cell 4 8 true] (Arg.enc R)) e s':=by
  rintro R n s ⟨x,g,hx,hxr,hf,rfl⟩
  have hso:=step_ok hx
  cases ht:(stepS x).1
  ·refine run_off x hx ht g _ _ fun g'=>?_
   have hv:=(hso.2.2.1 ht).2
   rw[hxr] at hv
   rw[kont_nil]
   show kont rnT [.blk 0,.c c14_11] _ (.exit 0) _
   rw[kont_blk_exit,if_pos rfl,kont_c,hv]
   exact run_end x hx g'
  ·refine run_on x hx ht g _ _ fun g'=>?_
   obtain⟨_,h1,h2,h3⟩:=hso.2.2.2 ht
   rw[kont_nil]
   refine⟨fuelS (stepS x).2, ?_,(stepS x).2,g',hso.1,by rw[hso.2.1,hxr],Nat.le_refl _, ?_⟩
   ·unfold fuelS at *
    rw[h2,h3]
    omega
   ·simp only[hkE,keep_runH]
 obtain⟨hN1,hN2⟩:(newS m q).lf=okQuery m q∧(newS m q).pf=[]:=by unfold newS;split<;>simp[*]
 have hk0:(newS m q).kind≠1:=by unfold newS;split<;>simp
 generalize hx0:newS m q=x0 at *
 obtain⟨m0,q0,lf,L,G,pf,kind,w,tw,sp⟩:=x0
 simp only at hN1 hN2 hk0
 subst hN2
 have hX:(encL L++G).all AV.plain=true:=by rw[List.all_append,encL_plain];exact hok.g
 have h99:([]:List Step)=[]:=rfl
 simp only[SS.hp,SS.cellsV,SS.lv,SS.pv,SS.lh,SS.ph,if_true,enc_Model,enc_Query] at hN
 unfold a14
 cases lf
 ·simp[hk0] at hN
  simp -implicitDefEqProofs [hN,hk0]
  refine run_while (c:=c14_6) (fun n s=>∃(x:SS) (g:Nat→Nat),x.Ok∧resS x=resS ⟨m0,q0,false,L,G,[],kind,w,tw,sp⟩∧fuelS x≤n∧s=⟨runE g [],runH x g,g⟩) (fuelS ⟨m0,q0,false,L,G,[],kind,w,tw,sp⟩) ⟨⟨m0,q0,false,L,G,[],kind,w,tw,sp⟩,bump 20001 (bump 4 (bump 3 (bump 2 g))),hok,rfl,Nat.le_refl _, ?_⟩ (hstep _)
  simp[runE,runH,SS.hp,SS.cellsV,SS.lv,SS.pv,SS.lh,SS.ph,hk0]
 ·simp[hk0] at hN
  simp -implicitDefEqProofs [hN,hk0,mapM1_up hX]
  refine run_while (c:=c14_6) (fun n s=>∃(x:SS) (g:Nat→Nat),x.Ok∧resS x=resS ⟨m0,q0,true,L,G,[],kind,w,tw,sp⟩∧fuelS x≤n∧s=⟨runE g [],runH x g,g⟩) (fuelS ⟨m0,q0,true,L,G,[],kind,w,tw,sp⟩) ⟨⟨m0,q0,true,L,G,[],kind,w,tw,sp⟩,bump 20002 (bump 20001 (bump 4 (bump 3 (bump 2 g)))),hok,rfl,Nat.le_refl _, ?_⟩ (hstep _)
  simp[runE,runH,SS.hp,SS.cellsV,SS.lv,SS.pv,SS.lh,SS.ph,hk0]
theorem c_Run:Contract Tryz.prog 14 (sp2 RunC) :=
 contract_of_runs mixed (tbl_cons c_New (tbl_cons c_Step (tbl_cons c_Verdict tbl_nil))) Tryz.func14 m14 (sp2_runs runs_Run)
end Go.Co
