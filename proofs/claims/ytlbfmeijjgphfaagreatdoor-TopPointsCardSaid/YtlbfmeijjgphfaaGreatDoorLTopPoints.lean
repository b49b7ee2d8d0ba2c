/- The law TopPoints: what its text computes. -/
import Derived.Test.YtlbfmeijjgphfaaGreatDoorCz12
import Derived.Test.YtlbfmeijjgphfaaGreatDoorCz13
set_option maxHeartbeats 16000000
set_option maxRecDepth 100000
namespace Go.Co
open Go.Am Go.Proofs
set_option linter.unusedSimpArgs false
set_option linter.unusedVariables false
attribute [-simp] Go.Am.eff_gcall Go.Am.eff_gcal2
def c3_26:ACode:=.seq (.seq (.ops [⟨some 88,.mv (.t 19),none,[]⟩,⟨some 89,.fad (.t 9) 1,none,[9]⟩,⟨some 90,.load 1 false (.t 89),none,[9]⟩,⟨some 91,.bin .lss (.t 88) (.t 90),none,[]⟩,⟨some 92,.mv (.t 91),none,[]⟩,⟨some 93,.fad (.t 10) 0,some (92,true),[10]⟩,⟨some 94,.load 1 false (.t 93),some (92,true),[10]⟩,⟨some 95,.bin .eql (.t 94) (.c (.int .i64 2)),some (92,true),[]⟩,⟨some 96,.pick (.t 92) (.t 95) (.c (.bool false)),none,[]⟩] [2,3,9,10,12,13,14,15,16,17,18,19,96]) (.cond (.t 96) .skip (.exit 2))) (.seq (.block 3 (.ops [⟨some 99,.mv (.t 18),none,[]⟩,⟨some 100,.mv (.t 99),none,[]⟩,⟨some 101,.mv (.t 19),some (100,false),[]⟩,⟨some 102,.fad (.t 10) 1,some (100,false),[10]⟩,⟨some 103,.load 1 false (.t 102),some (100,false),[10]⟩,⟨some 104,.bin .neq (.t 101) (.t 103),some (100,false),[]⟩,⟨some 105,.mv (.t 104),some (100,false),[]⟩,⟨some 106,.load 6 true (.t 9),some (105,true),[9]⟩,⟨some 107,.mv (.t 19),some (105,true),[]⟩,⟨some 108,.load 4 true (.t 15),some (105,true),[15]⟩,⟨some 109,.call 18 [.t 106,.t 107,.t 108],some (105,true),[]⟩,⟨some 110,.mv (.t 17),some (105,true),[]⟩,⟨some 111,.bin .geq (.t 109) (.t 110),some (105,true),[]⟩,⟨some 112,.pick (.t 105) (.t 111) (.c (.bool false)),some (100,false),[]⟩,⟨some 113,.pick (.t 100) (.c (.bool true)) (.t 112),none,[]⟩,⟨some 18,.mv (.t 113),none,[]⟩] [2,3,9,10,12,13,14,15,16,17,18,19])) (.ops [⟨some 97,.mv (.t 19),none,[]⟩,⟨some 98,.bin .add (.t 97) (.c (.int .i64 1)),none,[]⟩,⟨some 19,.mv (.t 98),none,[]⟩] [2,3,9,10,12,13,14,15,16,17,18,19]))
theorem r3_26:type_of% (rr c3_26.eq_1):=rr rfl
def c3_55:ACode:=.seq (.seq (.ops [⟨some 42,.mv (.t 14),none,[]⟩,⟨some 43,.mv (.t 2),none,[]⟩,⟨some 44,.len (.t 43),none,[]⟩,⟨some 45,.bin .lss (.t 42) (.t 44),none,[]⟩,⟨some 46,.mv (.t 45),none,[]⟩,⟨some 47,.mv (.t 14),some (46,true),[]⟩,⟨some 48,.bin .lss (.t 47) (.c (.int .i64 10)),some (46,true),[]⟩,⟨some 49,.pick (.t 46) (.t 48) (.c (.bool false)),none,[]⟩] [2,3,9,10,12,13,14,49]) (.cond (.t 49) .skip (.exit 0))) (.seq (.block 1 (.seq (.ops [⟨some 52,.load 10 true (.t 13),none,[13]⟩,⟨some 53,.mv (.t 2),none,[]⟩,⟨some 54,.mv (.t 14),none,[]⟩,⟨some 55,.ias (.t 53) (.t 54) 1,none,[]⟩,⟨some 56,.load 1 false (.t 55),none,[]⟩,⟨some 57,.call 16 [.t 52,.t 56],none,[]⟩,⟨some 15,.alloc [.int .i64 0,.int .i64 0,.int .i64 0,.int .i64 0],none,[]⟩,⟨none,.store (.t 15) 4 (.t 57),none,[15]⟩] [2,3,9,10,12,13,14,15]) (.seq (.ops [⟨some 58,.mv (.t 3),none,[]⟩,⟨some 59,.mv (.t 14),none,[]⟩,⟨some 60,.bin .add (.t 58) (.t 59),none,[]⟩,⟨some 61,.iad (.t 13) (.c (.int .i64 4)) 2 5,none,[13]⟩,⟨some 62,.fad (.t 61) 0,none,[13]⟩,⟨some 63,.load 1 false (.t 62),none,[13]⟩,⟨some 64,.iad (.t 13) (.c (.int .i64 4)) 2 5,none,[13]⟩,⟨some 65,.fad (.t 64) 1,none,[13]⟩,⟨some 66,.load 1 false (.t 65),none,[13]⟩,⟨some 67,.call 17 [.t 60,.t 63,.t 66],none,[]⟩,⟨some 16,.mv (.t 67),none,[]⟩] [2,3,9,10,12,13,14,15,16]) (.seq (.ops [⟨some 68,.load 6 true (.t 9),none,[9]⟩,⟨some 69,.fad (.t 10) 1,none,[10]⟩,⟨some 70,.load 1 false (.t 69),none,[10]⟩,⟨some 71,.load 4 true (.t 15),none,[15]⟩,⟨some 72,.call 18 [.t 68,.t 70,.t 71],none,[]⟩,⟨some 17,.mv (.t 72),none,[]⟩] [2,3,9,10,12,13,14,15,16,17]) (.seq (.ops [⟨some 73,.fad (.t 10) 0,none,[10]⟩,⟨some 74,.load 1 false (.t 73),none,[10]⟩,⟨some 75,.bin .eql (.t 74) (.c (.int .i64 1)),none,[]⟩,⟨some 76,.mv (.t 75),none,[]⟩,⟨some 77,.mv (.t 17),some (76,true),[]⟩,⟨some 78,.fad (.t 10) 12,some (76,true),[10]⟩,⟨some 79,.load 1 false (.t 78),some (76,true),[10]⟩,⟨some 80,.bin .lss (.t 77) (.t 79),some (76,true),[]⟩,⟨some 81,.mv (.t 80),some (76,true),[]⟩,⟨some 82,.mv (.t 17),some (81,false),[]⟩,⟨some 83,.fad (.t 10) 13,some (81,false),[10]⟩,⟨some 84,.load 1 false (.t 83),some (81,false),[10]⟩,⟨some 85,.bin .gtr (.t 82) (.t 84),some (81,false),[]⟩,⟨some 86,.pick (.t 81) (.c (.bool true)) (.t 85),some (76,true),[]⟩,⟨some 87,.pick (.t 76) (.t 86) (.c (.bool false)),none,[]⟩,⟨some 18,.mv (.t 87),none,[]⟩] [2,3,9,10,12,13,14,15,16,17,18]) (.seq (.seq (.ops [⟨some 19,.mv (.c (.int .i64 0)),none,[]⟩] [2,3,9,10,12,13,14,15,16,17,18,19]) (.block 2 (.loop (.keep [2,3,9,10,12,13,14,15,16,17,18,19] [9,10,12,13,15] c3_26)))) (.seq (.seq (.ops [⟨some 114,.fad (.t 10) 0,none,[10]⟩,⟨some 115,.load 1 false (.t 114),none,[10]⟩,⟨some 116,.bin .eql (.t 115) (.c (.int .i64 3)),none,[]⟩,⟨some 117,.mv (.t 116),none,[]⟩,⟨some 118,.fad (.t 10) 14,some (117,true),[10]⟩,⟨some 119,.load 1 false (.t 118),some (117,true),[10]⟩,⟨some 120,.iad (.t 15) (.t 119) 1 4,some (117,true),[15]⟩,⟨some 121,.load 1 false (.t 120),some (117,true),[15]⟩,⟨some 122,.mv (.t 16),some (117,true),[]⟩,⟨some 123,.bin .lss (.t 121) (.t 122),some (117,true),[]⟩,⟨some 124,.pick (.t 117) (.t 123) (.c (.bool false)),none,[]⟩] [2,3,9,10,12,13,14,15,16,17,18,124]) (.cond (.t 124) (.seq (.ops [⟨some 125,.load 4 true (.t 15),none,[15]⟩,⟨some 20,.alloc [.int .i64 0,.int .i64 0,.int .i64 0,.int .i64 0],none,[]⟩,⟨none,.store (.t 20) 4 (.t 125),none,[20]⟩] [2,3,9,10,12,13,14,16,17,20]) (.seq (.ops [⟨some 126,.fad (.t 10) 14,none,[10]⟩,⟨some 127,.load 1 false (.t 126),none,[10]⟩,⟨some 128,.mv (.t 16),none,[]⟩,⟨some 129,.iad (.t 20) (.t 127) 1 4,none,[20]⟩,⟨none,.store (.t 129) 1 (.t 128),none,[20]⟩] [2,3,9,10,12,13,14,17,20]) (.seq (.ops [⟨some 130,.load 6 true (.t 9),none,[9]⟩,⟨some 131,.fad (.t 10) 1,none,[10]⟩,⟨some 132,.load 1 false (.t 131),none,[10]⟩,⟨some 133,.load 4 true (.t 20),none,[20]⟩,⟨some 134,.call 18 [.t 130,.t 132,.t 133],none,[]⟩,⟨some 21,.mv (.t 134),none,[]⟩] [2,3,9,10,12,13,14,17,21]) (.ops [⟨some 135,.fad (.t 10) 15,none,[10]⟩,⟨some 136,.load 1 false (.t 135),none,[10]⟩,⟨some 137,.mv (.t 136),none,[]⟩,⟨some 138,.mv (.t 21),some (137,true),[]⟩,⟨some 139,.mv (.t 17),some (137,true),[]⟩,⟨some 140,.bin .gtr (.t 138) (.t 139),some (137,true),[]⟩,⟨some 141,.pick (.t 137) (.t 140) (.c (.bool false)),none,[]⟩,⟨some 142,.mv (.t 141),none,[]⟩,⟨some 143,.fad (.t 10) 15,some (142,false),[10]⟩,⟨some 144,.load 1 false (.t 143),some (142,false),[10]⟩,⟨some 145,.un .not (.t 144),some (142,false),[]⟩,⟨some 146,.mv (.t 145),some (142,false),[]⟩,⟨some 147,.mv (.t 21),some (146,true),[]⟩,⟨some 148,.mv (.t 17),some (146,true),[]⟩,⟨some 149,.bin .lss (.t 147) (.t 148),some (146,true),[]⟩,⟨some 150,.pick (.t 146) (.t 149) (.c (.bool false)),some (142,false),[]⟩,⟨some 151,.pick (.t 142) (.c (.bool true)) (.t 150),none,[]⟩,⟨some 18,.mv (.t 151),none,[]⟩] [2,3,9,10,12,13,14,18])))) .skip)) (.seq (.ops [⟨some 152,.mv (.t 18),none,[]⟩,⟨some 153,.mv (.t 152),none,[]⟩,⟨some 154,.fad (.t 12) 0,some (153,true),[12]⟩,⟨some 155,.load 1 false (.t 154),some (153,true),[12]⟩,⟨some 156,.bin .neq (.t 155) (.c (.int .i64 2)),some (153,true),[]⟩,⟨some 157,.pick (.t 153) (.t 156) (.c (.bool false)),none,[]⟩] [2,3,9,10,12,13,14,157]) (.cond (.t 157) (.seq (.ops [⟨some 8,.mv (.c (.bool false)),none,[]⟩] [8]) .ret) .skip))))))))) (.ops [⟨some 50,.mv (.t 14),none,[]⟩,⟨some 51,.bin .add (.t 50) (.c (.int .i64 1)),none,[]⟩,⟨some 14,.mv (.t 51),none,[]⟩] [2,3,9,10,12,13,14]))
theorem r3_55:type_of% (rr c3_55.eq_1):=rr rfl
def c3_94:ACode:=.seq (.ops [⟨some 4,.box (.t 0) 4,none,[]⟩,⟨some 5,.box (.t 1) 8,none,[]⟩,⟨some 8,.mv (.c (.bool false)),none,[]⟩] [2,3,4,5]) (.seq (.ops [⟨some 24,.load 4 true (.t 4),none,[4]⟩,⟨some 25,.call 10 [.t 24],none,[]⟩,⟨some 9,.alloc [.int .i64 0,.int .i64 0,.int .i64 0,.int .i64 0,.int .i64 0,.nils],none,[]⟩,⟨none,.store (.t 9) 6 (.t 25),none,[9]⟩] [2,3,5,9]) (.seq (.ops [⟨some 27,.load 6 true (.t 9),none,[9]⟩,⟨some 28,.load 8 true (.t 5),none,[5]⟩,⟨some 29,.load 6 true (.t 9),none,[9]⟩,⟨some 30,.call 12 [.t 28,.t 29],none,[]⟩,⟨some 31,.call 11 [.t 27,.t 30],none,[]⟩,⟨some 26,.mv (.t 31),none,[]⟩,⟨some 32,.ext (.t 26) 0,none,[]⟩,⟨some 33,.ext (.t 26) 1,none,[]⟩,⟨some 10,.alloc [.int .i64 0,.int .i64 0,.int .i64 0,.int .i64 0,.int .i64 0,.int .i64 0,.int .i64 0,.int .i64 0,.int .i64 0,.int .i64 0,.int .i64 0,.int .i64 0,.int .i64 0,.int .i64 0,.int .i64 0,.bool false,.int .i64 0],none,[]⟩,⟨none,.store (.t 10) 17 (.t 32),none,[10]⟩,⟨some 11,.mv (.t 33),none,[]⟩] [2,3,9,10,11]) (.seq (.seq (.ops [⟨some 34,.mv (.t 11),none,[]⟩,⟨some 35,.un .not (.t 34),none,[]⟩] [2,3,9,10,35]) (.cond (.t 35) (.seq (.ops [⟨some 36,.call 13 [],none,[]⟩,⟨some 8,.mv (.t 36),none,[]⟩] [8]) .ret) .skip)) (.seq (.ops [⟨some 37,.load 6 true (.t 9),none,[9]⟩,⟨some 38,.load 17 true (.t 10),none,[10]⟩,⟨some 39,.call 14 [.t 37,.t 38],none,[]⟩,⟨some 12,.alloc [.int .i64 0,.nils,.int .i64 0,.int .i64 0,.int .i64 0,.int .i64 0,.int .i64 0,.int .i64 0],none,[]⟩,⟨none,.store (.t 12) 8 (.t 39),none,[12]⟩] [2,3,9,10,12]) (.seq (.ops [⟨some 40,.load 17 true (.t 10),none,[10]⟩,⟨some 41,.call 15 [.t 40],none,[]⟩,⟨some 13,.alloc [.int .i64 0,.int .i64 0,.int .i64 0,.int .i64 0,.int .i64 0,.int .i64 0,.int .i64 0,.int .i64 0,.int .i64 0,.int .i64 0],none,[]⟩,⟨none,.store (.t 13) 10 (.t 41),none,[13]⟩] [2,3,9,10,12,13]) (.seq (.seq (.ops [⟨some 14,.mv (.c (.int .i64 0)),none,[]⟩] [2,3,9,10,12,13,14]) (.block 0 (.loop (.keep [2,3,9,10,12,13,14] [9,10,12,13] c3_55)))) (.seq (.seq (.ops [⟨some 158,.fad (.t 12) 0,none,[12]⟩,⟨some 159,.load 1 false (.t 158),none,[12]⟩,⟨some 160,.bin .eql (.t 159) (.c (.int .i64 2)),none,[]⟩] [9,10,12,160]) (.cond (.t 160) (.seq (.seq (.ops [⟨some 161,.fad (.t 10) 2,none,[10]⟩,⟨some 162,.load 10 true (.t 161),none,[10]⟩,⟨some 163,.mv (.c (.int .i64 0)),none,[]⟩] [9,10,12,162,163]) (.block 4 (.loop (.keep [9,10,12,162,163] [9,10,12] (.seq (.ops [⟨some 164,.bin .lss (.t 163) (.c (.int .i64 5)),none,[]⟩] [9,10,12,162,163,164]) (.seq (.cond (.t 164) .skip (.exit 4)) (.seq (.block 5 (.seq (.ops [⟨some 165,.mv (.t 163),none,[]⟩,⟨some 166,.idx (.t 162) (.t 163) 2 5 true,none,[]⟩,⟨some 23,.alloc [.int .i64 0,.int .i64 0],none,[]⟩,⟨some 22,.mv (.t 165),none,[]⟩,⟨none,.store (.t 23) 2 (.t 166),none,[23]⟩] [9,10,12,22,23,162,163]) (.seq (.ops [⟨some 167,.mv (.t 22),none,[]⟩,⟨some 168,.bin .lss (.t 167) (.c (.int .i64 4)),none,[]⟩,⟨some 169,.mv (.t 168),none,[]⟩,⟨some 170,.mv (.t 22),some (169,true),[]⟩,⟨some 171,.fad (.t 12) 2,some (169,true),[12]⟩,⟨some 172,.iad (.t 171) (.t 170) 1 4,some (169,true),[12]⟩,⟨some 173,.load 1 false (.t 172),some (169,true),[12]⟩,⟨some 174,.fad (.t 23) 0,some (169,true),[23]⟩,⟨some 175,.load 1 false (.t 174),some (169,true),[23]⟩,⟨some 176,.bin .lss (.t 173) (.t 175),some (169,true),[]⟩,⟨some 177,.mv (.t 176),some (169,true),[]⟩,⟨some 178,.mv (.t 22),some (177,false),[]⟩,⟨some 179,.fad (.t 12) 2,some (177,false),[12]⟩,⟨some 180,.iad (.t 179) (.t 178) 1 4,some (177,false),[12]⟩,⟨some 181,.load 1 false (.t 180),some (177,false),[12]⟩,⟨some 182,.fad (.t 23) 1,some (177,false),[23]⟩,⟨some 183,.load 1 false (.t 182),some (177,false),[23]⟩,⟨some 184,.bin .gtr (.t 181) (.t 183),some (177,false),[]⟩,⟨some 185,.pick (.t 177) (.c (.bool true)) (.t 184),some (169,true),[]⟩,⟨some 186,.pick (.t 169) (.t 185) (.c (.bool false)),none,[]⟩] [9,10,12,162,163,186]) (.cond (.t 186) (.seq (.ops [⟨some 8,.mv (.c (.bool false)),none,[]⟩] [8]) .ret) .skip)))) (.ops [⟨some 187,.bin .add (.t 163) (.c (.int .i64 1)),none,[]⟩,⟨some 163,.mv (.t 187),none,[]⟩] [9,10,12,162,163])))))))) (.seq (.ops [⟨some 188,.load 6 true (.t 9),none,[9]⟩,⟨some 189,.load 17 true (.t 10),none,[10]⟩,⟨some 190,.fad (.t 12) 2,none,[12]⟩,⟨some 191,.load 4 true (.t 190),none,[12]⟩,⟨some 192,.fad (.t 12) 6,none,[12]⟩,⟨some 193,.load 1 false (.t 192),none,[12]⟩,⟨some 194,.call 19 [.t 188,.t 189,.t 191,.t 193],none,[]⟩,⟨some 195,.mv (.t 194),none,[]⟩,⟨some 196,.call 13 [],some (195,true),[]⟩,⟨some 197,.pick (.t 195) (.t 196) (.c (.bool false)),none,[]⟩,⟨some 8,.mv (.t 197),none,[]⟩] [8]) .ret)) .skip)) (.seq (.ops [⟨some 198,.fad (.t 12) 0,none,[12]⟩,⟨some 199,.load 1 false (.t 198),none,[12]⟩,⟨some 200,.bin .eql (.t 199) (.c (.int .i64 1)),none,[]⟩,⟨some 201,.mv (.t 200),none,[]⟩,⟨some 202,.call 13 [],some (201,true),[]⟩,⟨some 203,.pick (.t 201) (.t 202) (.c (.bool false)),none,[]⟩,⟨some 8,.mv (.t 203),none,[]⟩] [8]) .ret))))))))
theorem r3_94:type_of% (rr c3_94.eq_1):=rr rfl
def a3:AFun:=⟨4,204,c3_94,[.t 8]⟩
attribute [simp] r3_26 r3_55 r3_94
theorem m3:mFun Tryz.prog Tryz.f3 a3=true:=by decide +kernel
theorem rd_ll (l:List (List Int)) (i:Nat) (h:i<l.length):rd (encL l) i 1 false=some (.lst l[i].length (encL l[i])):=by
 have:=rd_cell l i 0 h (by simp)
 simpa using this
theorem wr_point (p:Point) (f:Int) (h0:0≤f) (h4:f<4) (n:Int):wr [.int .i64 p.p0,.int .i64 p.p1,.int .i64 p.p2,.int .i64 p.p3] f.toNat [.int .i64 n]=[.int .i64 (p.set f n).p0,.int .i64 (p.set f n).p1,.int .i64 (p.set f n).p2,.int .i64 (p.set f n).p3]:=by
 have:f=0∨f=1∨f=2∨f=3:=by omega
 rcases this with rfl|rfl|rfl|rfl<;>rfl
noncomputable abbrev tpT:Cs:=tbl [(10,sp1 ModelC),(12,sp2 QueryC),(11,sp2 EnoughC),(14,sp2 RunC),(15,sp1 fun q=>some (startOf q)),(16,sp2 InsideC),(17,sp3 Within),(18,sp3 Eval),(19,sp4 BreaksC),(13,sp0 (some true))]
def vRow (vk:Int) (vp:List Step) (w0 w1 w2 w3 tw sp:Int):List AV:=[.int .i64 vk,.lst vp.length (encL vp),.int .i64 w0,.int .i64 w1,.int .i64 w2,.int .i64 w3,.int .i64 tw,.int .i64 sp]
theorem runs_law (f:Forest) (a:Ask) (ls:List (List Int)) (twin:Int) (c:Bool) (h:some true=some c):Runs tpT a3 [Arg.enc f,Arg.enc a,Arg.enc ls,Arg.enc twin] (Arg.enc c):=by
 cases h
 refine⟨rfl,fun g=>run_def ?_⟩
 have hm:=rm_modelOf f
 have hM:ModelC f=some (modelOf f):=rfl
 generalize modelOf f=m at *
 have hQ:QueryC a m=some (queryOf m a):=part_of ⟨hm.dim.1,hm.dim.2,hm.classes.1,hm.classes.2⟩ _
 have hok0:okQuery m (queryOf m a)=true:=ok_queryOf m a hm
 have hwd0:=wide_start m a
 generalize queryOf m a=q at *
 have hE:EnoughC m q=some (if countM m q (startOf q)≤1500 then (withBudget q (2*countM m q (startOf q)),true) else (withBudget q 0,false)):=part_of hm _
 have hp:=count_pos hm q (startOf q)
 have hcb:∀ u,countM m (withBudget q u) (startOf (withBudget q u))=countM m q (startOf q):=fun _=>rfl
 generalize hcc:countM m q (startOf q)=cc at *
 by_cases h1:cc≤1500
 case neg =>
  rw[if_neg h1] at hE
  unfold withBudget at *
  unfold a3
  simp -implicitDefEqProofs [hM,hQ,hE]
 rw[if_pos h1] at hE
 have hok:=okQuery_budget hok0 (show 0≤2*cc by omega) (show 2*cc≤65536 by omega)
 have hwd:wide (startOf (withBudget q (2*cc)))≤199:=hwd0
 have hk:=search_enough hm hok (by rw[hcb];show 2*cc-1≤2*cc;omega)
 have hR:RunC m (withBudget q (2*cc))=some (searchM m (withBudget q (2*cc))):=part_of hm _
 have hks:=search_kind hok hk
 have hs1:=search_sound hm hok hwd
 have hs2:=fails_proven (m:=m) (q:=withBudget q (2*cc)) hok
 generalize hq':withBudget q (2*cc)=r at *
 have hst:=okQuery_start hok
 obtain⟨hsm,hob,hne⟩:=hst
 have hsp:=okQuery_spec hok
 have hkd:=okKind_spec hsp.2.2.2.2.2
 have hBr:∀ p t,BreaksC m r p t=some (breaks m r p t):=fun p t=>part_of hm _
 have hEv:∀(c:Int),0≤c→c<m.classes→∀ p,Eval m c p=some (evalM m c p):=fun c c0 c1 p=>eval_of hm c0 c1 p
 have hI:∀ l,InsideC (startOf r) l=some (insideOf (startOf r) l):=fun l=>part_of ⟨hsm.1,hsm.2.1,hsm.2.2.1,hsm.2.2.2.1⟩ _
 have hin:=inside_in hne
 have hes:=(empty_spec hne).2.2.2.2
 unfold Span.empty at hes
 rw[decide_eq_false_iff_not] at hes
 have hs4:=hsm.2.2.2.2
 unfold small at hs4
 have hWt:=fun t=>within_of t (startOf r).s4.lo (startOf r).s4.hi (by omega)
 have hwt:=fun t=>within_le t (startOf r).s4.lo (startOf r).s4.hi (by omega)
 have hcl:=hm.classes
 have hdm:=hm.dim
 -- what is known of each point that is picked
 have hno:(searchM m r).kind=1→∀(l:List Int) (t:Int),InS (startOf r).s4 t→breaks m r (insideOf (startOf r) l) t=false:=fun h l t ht=>hs1 h _ _ ⟨(hin l).1,(hin l).2.1,(hin l).2.2.1,(hin l).2.2.2.1,ht⟩
 have hwit:(searchM m r).kind=2→BreaksC m r (searchM m r).witness (searchM m r).twin=some true∧InB (startOf r) (searchM m r).witness (searchM m r).twin:=fun h=>⟨by rw[hBr,(hs2 h).2.2],(hs2 h).2.1⟩
 have hreg:∀ j:Int,0≤j→j<4→(startOf r).get j=r.region.get j:=fun j j0 j4=>start_get4 r j0 j4
 have g0:=hreg 0 (by omega) (by omega)
 have g1:=hreg 1 (by omega) (by omega)
 have g2:=hreg 2 (by omega) (by omega)
 have g3:=hreg 3 (by omega) (by omega)
 clear hs1 hs2 hk hwd hwd0 hok0 hcb hp hob
 have hE2:EnoughC m q=some (r,true):=hE
 clear hE hcc hq'
 have hgt:=hreg
 generalize hsr:startOf r=b at *
 generalize searchM m r=v at *
 obtain⟨vk,vp,⟨w0,w1,w2,w3⟩,tw,sp⟩:=v
 simp only at hks hno hwit
 clear hBr
 unfold a3
 simp -implicitDefEqProofs [hM,hQ,hE2,hR,hsr]
 refine run_while (c:=c3_55) (fun n s=>∃(i:Nat) (g:Nat→Nat),i+n=10∧s=⟨[(2,.lst ls.length (encL ls)),(3,.int .i64 twin),(9,.ptr 9 (g 9) 0),(10,.ptr 10 (g 10) 0),(12,.ptr 12 (g 12) 0),(13,.ptr 13 (g 13) 0),(14,.int .i64 i)],
  [(9,⟨Row.enc m,false,0⟩),(10,⟨Row.enc r,false,0⟩),(12,⟨vRow vk vp w0 w1 w2 w3 tw sp,false,0⟩),(13,⟨Row.enc b,false,0⟩)],g⟩) 10
  ⟨0,bump 13 (bump 12 (bump 10 (bump 9 (bump 5 (bump 4 g))))),by omega,by simp[vRow]⟩ ?_
 rintro n s ⟨i,g,hi,rfl⟩
 have w1':IntKind.i64.wrap ((i:Int)+1)=(i:Int)+1:=wrap64 (by omega) (by omega)
 by_cases c0:i<ls.length∧i<10
 case pos =>
  have c1:i<ls.length:=c0.1
  have c2:(i:Int)<10:=by omega
  have hrow:=rd_ll ls i c1
  have hIl:=hI ls[i]
  have hno:=fun h=>hno h ls[i]
  generalize ls[i]=l at *
  have hWl:=hWt (IntKind.i64.wrap (twin+i))
  have htl:=hwt (IntKind.i64.wrap (twin+i))
  generalize within (IntKind.i64.wrap (twin+i)) b.s4.lo b.s4.hi=t at *
  have hno:=fun h=>hno h t htl
  generalize insideOf b l=p at *
  have hx:=hEv r.cls hsp.1 hsp.2.1 p
  have cl0:0<m.classes:=by omega
  unfold breaks at hno
  rw[hok,if_pos rfl] at hno
  rcases hkd with⟨k1,-⟩|⟨k2,-⟩|⟨k3,f0,f1,-⟩
  ·rw[if_pos k1] at hno
   have hno:vk=1→r.lo≤evalM m r.cls p∧evalM m r.cls p≤r.hi:=fun h=>by
    have:=hno h
    unfold Span.has at this
    simpa using this
   generalize evalM m r.cls p=x at *
   by_cases g1:x<r.lo
   ·have v2:vk=2:=by rcases hks with rfl|rfl;exact absurd (hno rfl).1 (by omega);rfl
    subst v2
    simp -implicitDefEqProofs [c1,c2,w1',hrow,hIl,hWl,hx,k1,g1,vRow,cl0]
    intro hmx
    rw[run_round]
    simp -implicitDefEqProofs [c1,c2,w1',hrow,hIl,hWl,hx,k1,g1,vRow,cl0]
    exact⟨n-1,by omega,i+1,by omega,by omega⟩
   ·by_cases g2:r.hi<x
    ·have v2:vk=2:=by rcases hks with rfl|rfl;exact absurd (hno rfl).2 (by omega);rfl
     subst v2
     simp -implicitDefEqProofs [c1,c2,w1',hrow,hIl,hWl,hx,k1,g1,g2,vRow,cl0]
     intro hmx
     rw[run_round]
     simp -implicitDefEqProofs [c1,c2,w1',hrow,hIl,hWl,hx,k1,g1,g2,vRow,cl0]
     exact⟨n-1,by omega,i+1,by omega,by omega⟩
    ·simp -implicitDefEqProofs [c1,c2,w1',hrow,hIl,hWl,hx,k1,g1,g2,vRow,cl0]
     intro hmx
     rw[run_round]
     simp -implicitDefEqProofs [c1,c2,w1',hrow,hIl,hWl,hx,k1,g1,g2,vRow,cl0]
     exact⟨n-1,by omega,i+1,by omega,by omega⟩
  ·rw[if_neg (by omega),if_pos k2] at hno
   have hno:vk=1→∀ o:Int,0≤o→o<m.classes→o≠r.cls→evalM m o p<evalM m r.cls p:=fun h=>unbeaten_iff.1 (hno h)
   simp -implicitDefEqProofs [c1,c2,w1',hrow,hIl,hWl,hx,k2,vRow,cl0]
   intro hmx
   refine run_while (c:=c3_26) (fun n2 s=>∃(j:Int) (ag:Bool) (g:Nat→Nat),0≤j∧j≤m.classes∧(n2:Int)+j=m.classes∧(vk=1→ag=false)∧s=⟨[(2,.lst ls.length (encL ls)),(3,.int .i64 twin),(9,.ptr 9 (g 9) 0),(10,.ptr 10 (g 10) 0),(12,.ptr 12 (g 12) 0),(13,.ptr 13 (g 13) 0),(14,.int .i64 i),(15,.ptr 15 (g 15) 0),(16,.int .i64 t),(17,.int .i64 (evalM m r.cls p)),(18,.bool ag),(19,.int .i64 j)],
    [(9,⟨Row.enc m,false,0⟩),(10,⟨Row.enc r,false,0⟩),(12,⟨vRow vk vp w0 w1 w2 w3 tw sp,false,0⟩),(13,⟨Row.enc b,false,0⟩),(15,⟨Row.enc p,false,0⟩)],g⟩) m.classes.toNat
    ⟨0,false,bump 15 g,by omega,by omega,by omega,fun _=>rfl,by simp[vRow,k2]⟩ ?_
   rintro n2 s ⟨j,ag,g,j0,j1,hj,hag,rfl⟩
   have wj:IntKind.i64.wrap (j+1)=j+1:=wrap64 (by omega) (by omega)
   by_cases c3:j<m.classes
   ·have hj2:=hEv j j0 c3 p
    cases ag
    ·by_cases e1:j=r.cls
     ·subst e1
      simp -implicitDefEqProofs [hsp.2.1,k2,wj]
      exact⟨n2-1,by omega,r.cls+1,by omega,by omega,by omega,rfl⟩
     ·by_cases e2:evalM m r.cls p≤evalM m j p
      ·have v2:vk=2:=by rcases hks with rfl|rfl;exact absurd (hno rfl j j0 c3 e1) (by omega);rfl
       subst v2
       simp -implicitDefEqProofs [c3,k2,e1,e2,wj,hj2]
       exact⟨n2-1,by omega,j+1,by omega,by omega,by omega,rfl⟩
      ·simp -implicitDefEqProofs [c3,k2,e1,e2,wj,hj2]
       exact⟨n2-1,by omega,j+1,by omega,by omega,by omega,rfl⟩
    ·have v2:vk=2:=by rcases hks with rfl|rfl;cases hag rfl;rfl
     subst v2
     simp -implicitDefEqProofs [c3,k2,wj]
     exact⟨n2-1,by omega,j+1,by omega,by omega,by omega,rfl⟩
   ·cases ag
    ·simp -implicitDefEqProofs [c3,k2,w1',vRow]
     exact⟨n-1,by omega,i+1,by omega,by omega⟩
    ·have v2:vk=2:=by rcases hks with rfl|rfl;cases hag rfl;rfl
     subst v2
     simp -implicitDefEqProofs [c3,k2,w1',vRow]
     exact⟨n-1,by omega,i+1,by omega,by omega⟩
  ·rw[if_neg (by omega),if_neg (by omega)] at hno
   have f2:r.feature<4:=by omega
   have hpr:paired r=true:=by
    unfold paired
    simp
    omega
   have hse:secondOf r p t=p.set r.feature t:=by
    unfold secondOf
    rw[if_pos hpr]
   rw[hse] at hno
   have hy:=hEv r.cls hsp.1 hsp.2.1 (p.set r.feature t)
   generalize evalM m r.cls p=x at *
   generalize evalM m r.cls (p.set r.feature t)=y at *
   have hwr:=wr_point p r.feature f0 f2 t
   generalize p.set r.feature t=o at *
   by_cases g1:p.get r.feature<t
   ·rw[if_pos g1] at hno
    cases hfl:r.falls
    ·rw[hfl,if_neg Bool.false_ne_true] at hno
     by_cases g2:y<x
     ·have v2:vk=2:=by rcases hks with rfl|rfl;exact absurd (hno rfl) (by simp[g2]);rfl
      subst v2
      simp -implicitDefEqProofs [c1,c2,w1',hrow,hIl,hWl,hx,k3,vRow,cl0,f0,f2,g1,g2,hfl,hwr,hy]
      intro hmx
      rw[run_round]
      simp -implicitDefEqProofs [c1,c2,w1',hrow,hIl,hWl,hx,k3,vRow,cl0,f0,f2,g1,g2,hfl,hwr,hy]
      exact⟨fun _=>⟨n-1,by omega,i+1,by omega,by omega⟩,by omega⟩
     ·simp -implicitDefEqProofs [c1,c2,w1',hrow,hIl,hWl,hx,k3,vRow,cl0,f0,f2,g1,g2,hfl,hwr,hy]
      intro hmx
      rw[run_round]
      simp -implicitDefEqProofs [c1,c2,w1',hrow,hIl,hWl,hx,k3,vRow,cl0,f0,f2,g1,g2,hfl,hwr,hy]
      exact⟨fun _=>⟨n-1,by omega,i+1,by omega,by omega⟩,by omega⟩
    ·rw[hfl,if_pos rfl] at hno
     by_cases g2:x<y
     ·have v2:vk=2:=by rcases hks with rfl|rfl;exact absurd (hno rfl) (by simp[g2]);rfl
      subst v2
      simp -implicitDefEqProofs [c1,c2,w1',hrow,hIl,hWl,hx,k3,vRow,cl0,f0,f2,g1,g2,hfl,hwr,hy]
      intro hmx
      rw[run_round]
      simp -implicitDefEqProofs [c1,c2,w1',hrow,hIl,hWl,hx,k3,vRow,cl0,f0,f2,g1,g2,hfl,hwr,hy]
      exact⟨fun _=>⟨n-1,by omega,i+1,by omega,by omega⟩,by omega⟩
     ·simp -implicitDefEqProofs [c1,c2,w1',hrow,hIl,hWl,hx,k3,vRow,cl0,f0,f2,g1,g2,hfl,hwr,hy]
      intro hmx
      rw[run_round]
      simp -implicitDefEqProofs [c1,c2,w1',hrow,hIl,hWl,hx,k3,vRow,cl0,f0,f2,g1,g2,hfl,hwr,hy]
      exact⟨fun _=>⟨n-1,by omega,i+1,by omega,by omega⟩,by omega⟩
   ·simp -implicitDefEqProofs [c1,c2,w1',hrow,hIl,hWl,hx,k3,vRow,cl0,f0,f2,g1,hwr,hy]
    intro hmx
    rw[run_round]
    simp -implicitDefEqProofs [c1,c2,w1',hrow,hIl,hWl,hx,k3,vRow,cl0,f0,f2,g1,hwr,hy]
    exact⟨n-1,by omega,i+1,by omega,by omega⟩
 case neg =>
  rcases hks with rfl|rfl
  ·by_cases c1:i<ls.length
   ·have c2:¬ (i:Int)<10:=by omega
    simp -implicitDefEqProofs [c1,c2,vRow]
   ·simp -implicitDefEqProofs [c1,vRow]
  ·obtain⟨hB,hI0⟩:=hwit rfl
   have e0:b.s0=r.region.s0:=g0
   have e1:b.s1=r.region.s1:=g1
   have e2:b.s2=r.region.s2:=g2
   have e3:b.s3=r.region.s3:=g3
   unfold InB InS at hI0
   rw[e0,e1,e2,e3] at hI0
   simp only at hI0
   obtain⟨⟨a0,b0⟩,⟨a1,b1⟩,⟨a2,b2⟩,⟨a3,b3⟩,-⟩:=hI0
   have a0:=Int.not_lt.2 a0
   have a1:=Int.not_lt.2 a1
   have a2:=Int.not_lt.2 a2
   have a3:=Int.not_lt.2 a3
   have b0:=Int.not_lt.2 b0
   have b1:=Int.not_lt.2 b1
   have b2:=Int.not_lt.2 b2
   have b3:=Int.not_lt.2 b3
   clear e0 e1 e2 e3 g0 g1 g2 g3 hgt hreg
   by_cases c1:i<ls.length
   ·have c2:¬ (i:Int)<10:=by omega
    simp -implicitDefEqProofs [c1,c2,vRow]
    intro hmx
    iterate 6 (rw[run_round];simp -implicitDefEqProofs [a0,a1,a2,a3,b0,b1,b2,b3,hB])
   ·simp -implicitDefEqProofs [c1,vRow]
    intro hmx
    iterate 6 (rw[run_round];simp -implicitDefEqProofs [a0,a1,a2,a3,b0,b1,b2,b3,hB])
noncomputable def law_sp:List AV→Option AV:=sp4 fun (_:Forest) (_:Ask) (_:List (List Int)) (_:Int)=>some true
theorem law_holds:Contract Tryz.prog 3 law_sp :=
 contract_of_runs mixed (tbl_cons c_Model (tbl_cons c_Query (tbl_cons c_enough (tbl_cons c_Run (tbl_cons c_Start (tbl_cons c_Inside (tbl_cons c_Within (tbl_cons c_Eval (tbl_cons c_Breaks (tbl_cons c_awake tbl_nil)))))))))) Tryz.func3 m3 (sp4_runs runs_law)
theorem law_says (f:Forest) (a:Ask) (ls:List (List Int)) (x:Int):law_sp [Arg.enc f,Arg.enc a,Arg.enc ls,Arg.enc x]=some (.bool true):=by
 simp only[law_sp,sp4,Arg.dec_enc,Option.bind_some]
 rfl
end Go.Co
