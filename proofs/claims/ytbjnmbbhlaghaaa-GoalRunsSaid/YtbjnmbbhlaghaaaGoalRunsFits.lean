/- Each text of the table is the program's own. -/
import Derived.Test.YtbjnmbbhlaghaaaProg
import Derived.Test.YtbjnmbbhlaghaaaAmExec
import Derived.Test.YtbjnmbbhlaghaaaGoalRunsCode
namespace Go.Am
open Go.Proofs
theorem m42 : mFun Try.prog Try.f42 a42 = true := by decide +kernel
theorem m43 : mFun Try.prog Try.f43 a43 = true := by decide +kernel
theorem m44 : mFun Try.prog Try.f44 a44 = true := by decide +kernel
theorem m48 : mFun Try.prog Try.f48 a48 = true := by decide +kernel
theorem m51 : mFun Try.prog Try.f51 a51 = true := by decide +kernel
theorem m52 : mFun Try.prog Try.f52 a52 = true := by decide +kernel
theorem m53 : mFun Try.prog Try.f53 a53 = true := by decide +kernel
theorem m54 : mFun Try.prog Try.f54 a54 = true := by decide +kernel
theorem m55 : mFun Try.prog Try.f55 a55 = true := by decide +kernel
theorem m56 : mFun Try.prog Try.f56 a56 = true := by decide +kernel
theorem m57 : mFun Try.prog Try.f57 a57 = true := by decide +kernel
theorem m58 : mFun Try.prog Try.f58 a58 = true := by decide +kernel
theorem m64 : mFun Try.prog Try.f64 a64 = true := by decide +kernel
theorem m67 : mFun Try.prog Try.f67 a67 = true := by decide +kernel
theorem m68 : mFun Try.prog Try.f68 a68 = true := by decide +kernel
theorem m69 : mFun Try.prog Try.f69 a69 = true := by decide +kernel
theorem m71 : mFun Try.prog Try.f71 a71 = true := by decide +kernel
theorem m76 : mFun Try.prog Try.f76 a76 = true := by decide +kernel
theorem m77 : mFun Try.prog Try.f77 a77 = true := by decide +kernel
theorem m79 : mFun Try.prog Try.f79 a79 = true := by decide +kernel
theorem m96 : mFun Try.prog Try.f96 a96 = true := by decide +kernel
theorem m99 : mFun Try.prog Try.f99 a99 = true := by decide +kernel
theorem m102 : mFun Try.prog Try.f102 a102 = true := by decide +kernel
theorem m108 : mFun Try.prog Try.f108 a108 = true := by decide +kernel
theorem m109 : mFun Try.prog Try.f109 a109 = true := by decide +kernel
theorem m110 : mFun Try.prog Try.f110 a110 = true := by decide +kernel
theorem m111 : mFun Try.prog Try.f111 a111 = true := by decide +kernel
theorem m114 : mFun Try.prog Try.f114 a114 = true := by decide +kernel
theorem m115 : mFun Try.prog Try.f115 a115 = true := by decide +kernel
theorem m116 : mFun Try.prog Try.f116 a116 = true := by decide +kernel
theorem m117 : mFun Try.prog Try.f117 a117 = true := by decide +kernel
theorem m118 : mFun Try.prog Try.f118 a118 = true := by decide +kernel
theorem m119 : mFun Try.prog Try.f119 a119 = true := by decide +kernel
theorem m120 : mFun Try.prog Try.f120 a120 = true := by decide +kernel
theorem m121 : mFun Try.prog Try.f121 a121 = true := by decide +kernel
theorem m122 : mFun Try.prog Try.f122 a122 = true := by decide +kernel
theorem m123 : mFun Try.prog Try.f123 a123 = true := by decide +kernel
theorem m124 : mFun Try.prog Try.f124 a124 = true := by decide +kernel
theorem m125 : mFun Try.prog Try.f125 a125 = true := by decide +kernel
theorem m128 : mFun Try.prog Try.f128 a128 = true := by decide +kernel
theorem m129 : mFun Try.prog Try.f129 a129 = true := by decide +kernel
theorem m130 : mFun Try.prog Try.f130 a130 = true := by decide +kernel
theorem m131 : mFun Try.prog Try.f131 a131 = true := by decide +kernel
theorem m148 : mFun Try.prog Try.f148 a148 = true := by decide +kernel
theorem m151 : mFun Try.prog Try.f151 a151 = true := by decide +kernel
theorem m152 : mFun Try.prog Try.f152 a152 = true := by decide +kernel
theorem m153 : mFun Try.prog Try.f153 a153 = true := by decide +kernel
theorem m154 : mFun Try.prog Try.f154 a154 = true := by decide +kernel
theorem m156 : mFun Try.prog Try.f156 a156 = true := by decide +kernel
theorem m158 : mFun Try.prog Try.f158 a158 = true := by decide +kernel
theorem m159 : mFun Try.prog Try.f159 a159 = true := by decide +kernel
theorem m160 : mFun Try.prog Try.f160 a160 = true := by decide +kernel
theorem m161 : mFun Try.prog Try.f161 a161 = true := by decide +kernel
theorem m162 : mFun Try.prog Try.f162 a162 = true := by decide +kernel
theorem m163 : mFun Try.prog Try.f163 a163 = true := by decide +kernel
theorem m164 : mFun Try.prog Try.f164 a164 = true := by decide +kernel
theorem m165 : mFun Try.prog Try.f165 a165 = true := by decide +kernel
theorem m175 : mFun Try.prog Try.f175 a175 = true := by decide +kernel
theorem m176 : mFun Try.prog Try.f176 a176 = true := by decide +kernel
def texts : List (Nat × AFun) := [(42, a42), (43, a43), (44, a44), (48, a48), (51, a51), (52, a52), (53, a53), (54, a54), (55, a55), (56, a56), (57, a57), (58, a58), (64, a64), (67, a67), (68, a68), (69, a69), (71, a71), (76, a76), (77, a77), (79, a79), (96, a96), (99, a99), (102, a102), (108, a108), (109, a109), (110, a110), (111, a111), (114, a114), (115, a115), (116, a116), (117, a117), (118, a118), (119, a119), (120, a120), (121, a121), (122, a122), (123, a123), (124, a124), (125, a125), (128, a128), (129, a129), (130, a130), (131, a131), (148, a148), (151, a151), (152, a152), (153, a153), (154, a154), (156, a156), (158, a158), (159, a159), (160, a160), (161, a161), (162, a162), (163, a163), (164, a164), (165, a165), (175, a175), (176, a176)]
theorem texts_good : Good Try.prog texts :=
  good_cons Try.func42 m42 <| good_cons Try.func43 m43 <| good_cons Try.func44 m44 <| good_cons Try.func48 m48 <| good_cons Try.func51 m51 <| good_cons Try.func52 m52 <| good_cons Try.func53 m53 <| good_cons Try.func54 m54 <| good_cons Try.func55 m55 <| good_cons Try.func56 m56 <| good_cons Try.func57 m57 <| good_cons Try.func58 m58 <| good_cons Try.func64 m64 <| good_cons Try.func67 m67 <| good_cons Try.func68 m68 <| good_cons Try.func69 m69 <| good_cons Try.func71 m71 <| good_cons Try.func76 m76 <| good_cons Try.func77 m77 <| good_cons Try.func79 m79 <| good_cons Try.func96 m96 <| good_cons Try.func99 m99 <| good_cons Try.func102 m102 <| good_cons Try.func108 m108 <| good_cons Try.func109 m109 <| good_cons Try.func110 m110 <| good_cons Try.func111 m111 <| good_cons Try.func114 m114 <| good_cons Try.func115 m115 <| good_cons Try.func116 m116 <| good_cons Try.func117 m117 <| good_cons Try.func118 m118 <| good_cons Try.func119 m119 <| good_cons Try.func120 m120 <| good_cons Try.func121 m121 <| good_cons Try.func122 m122 <| good_cons Try.func123 m123 <| good_cons Try.func124 m124 <| good_cons Try.func125 m125 <| good_cons Try.func128 m128 <| good_cons Try.func129 m129 <| good_cons Try.func130 m130 <| good_cons Try.func131 m131 <| good_cons Try.func148 m148 <| good_cons Try.func151 m151 <| good_cons Try.func152 m152 <| good_cons Try.func153 m153 <| good_cons Try.func154 m154 <| good_cons Try.func156 m156 <| good_cons Try.func158 m158 <| good_cons Try.func159 m159 <| good_cons Try.func160 m160 <| good_cons Try.func161 m161 <| good_cons Try.func162 m162 <| good_cons Try.func163 m163 <| good_cons Try.func164 m164 <| good_cons Try.func165 m165 <| good_cons Try.func175 m175 <| good_cons Try.func176 m176 <| good_nil
end Go.Am
