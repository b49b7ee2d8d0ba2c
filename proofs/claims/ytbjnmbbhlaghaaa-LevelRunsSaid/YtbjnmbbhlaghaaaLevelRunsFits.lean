/- Each text of the table is the program's own. -/
import Derived.Test.YtbjnmbbhlaghaaaProg
import Derived.Test.YtbjnmbbhlaghaaaAmExec
import Derived.Test.YtbjnmbbhlaghaaaLevelRunsCode
namespace Go.Am
open Go.Proofs
theorem m20 : mFun Try.prog Try.f20 a20 = true := by decide +kernel
theorem m43 : mFun Try.prog Try.f43 a43 = true := by decide +kernel
theorem m44 : mFun Try.prog Try.f44 a44 = true := by decide +kernel
theorem m48 : mFun Try.prog Try.f48 a48 = true := by decide +kernel
theorem m51 : mFun Try.prog Try.f51 a51 = true := by decide +kernel
theorem m67 : mFun Try.prog Try.f67 a67 = true := by decide +kernel
theorem m68 : mFun Try.prog Try.f68 a68 = true := by decide +kernel
theorem m71 : mFun Try.prog Try.f71 a71 = true := by decide +kernel
theorem m76 : mFun Try.prog Try.f76 a76 = true := by decide +kernel
theorem m77 : mFun Try.prog Try.f77 a77 = true := by decide +kernel
theorem m81 : mFun Try.prog Try.f81 a81 = true := by decide +kernel
theorem m82 : mFun Try.prog Try.f82 a82 = true := by decide +kernel
theorem m83 : mFun Try.prog Try.f83 a83 = true := by decide +kernel
theorem m84 : mFun Try.prog Try.f84 a84 = true := by decide +kernel
theorem m111 : mFun Try.prog Try.f111 a111 = true := by decide +kernel
theorem m119 : mFun Try.prog Try.f119 a119 = true := by decide +kernel
theorem m120 : mFun Try.prog Try.f120 a120 = true := by decide +kernel
theorem m121 : mFun Try.prog Try.f121 a121 = true := by decide +kernel
theorem m123 : mFun Try.prog Try.f123 a123 = true := by decide +kernel
theorem m124 : mFun Try.prog Try.f124 a124 = true := by decide +kernel
theorem m125 : mFun Try.prog Try.f125 a125 = true := by decide +kernel
theorem m128 : mFun Try.prog Try.f128 a128 = true := by decide +kernel
theorem m129 : mFun Try.prog Try.f129 a129 = true := by decide +kernel
theorem m130 : mFun Try.prog Try.f130 a130 = true := by decide +kernel
theorem m131 : mFun Try.prog Try.f131 a131 = true := by decide +kernel
theorem m132 : mFun Try.prog Try.f132 a132 = true := by decide +kernel
theorem m133 : mFun Try.prog Try.f133 a133 = true := by decide +kernel
theorem m134 : mFun Try.prog Try.f134 a134 = true := by decide +kernel
theorem m156 : mFun Try.prog Try.f156 a156 = true := by decide +kernel
theorem m158 : mFun Try.prog Try.f158 a158 = true := by decide +kernel
theorem m159 : mFun Try.prog Try.f159 a159 = true := by decide +kernel
theorem m160 : mFun Try.prog Try.f160 a160 = true := by decide +kernel
theorem m161 : mFun Try.prog Try.f161 a161 = true := by decide +kernel
theorem m162 : mFun Try.prog Try.f162 a162 = true := by decide +kernel
theorem m163 : mFun Try.prog Try.f163 a163 = true := by decide +kernel
theorem m164 : mFun Try.prog Try.f164 a164 = true := by decide +kernel
theorem m165 : mFun Try.prog Try.f165 a165 = true := by decide +kernel
theorem m166 : mFun Try.prog Try.f166 a166 = true := by decide +kernel
theorem m176 : mFun Try.prog Try.f176 a176 = true := by decide +kernel
theorem m177 : mFun Try.prog Try.f177 a177 = true := by decide +kernel
theorem m190 : mFun Try.prog Try.f190 a190 = true := by decide +kernel
theorem m198 : mFun Try.prog Try.f198 a198 = true := by decide +kernel
def texts : List (Nat × AFun) := [(20, a20), (43, a43), (44, a44), (48, a48), (51, a51), (67, a67), (68, a68), (71, a71), (76, a76), (77, a77), (81, a81), (82, a82), (83, a83), (84, a84), (111, a111), (119, a119), (120, a120), (121, a121), (123, a123), (124, a124), (125, a125), (128, a128), (129, a129), (130, a130), (131, a131), (132, a132), (133, a133), (134, a134), (156, a156), (158, a158), (159, a159), (160, a160), (161, a161), (162, a162), (163, a163), (164, a164), (165, a165), (166, a166), (176, a176), (177, a177), (190, a190), (198, a198)]
theorem texts_good : Good Try.prog texts :=
  good_cons Try.func20 m20 <| good_cons Try.func43 m43 <| good_cons Try.func44 m44 <| good_cons Try.func48 m48 <| good_cons Try.func51 m51 <| good_cons Try.func67 m67 <| good_cons Try.func68 m68 <| good_cons Try.func71 m71 <| good_cons Try.func76 m76 <| good_cons Try.func77 m77 <| good_cons Try.func81 m81 <| good_cons Try.func82 m82 <| good_cons Try.func83 m83 <| good_cons Try.func84 m84 <| good_cons Try.func111 m111 <| good_cons Try.func119 m119 <| good_cons Try.func120 m120 <| good_cons Try.func121 m121 <| good_cons Try.func123 m123 <| good_cons Try.func124 m124 <| good_cons Try.func125 m125 <| good_cons Try.func128 m128 <| good_cons Try.func129 m129 <| good_cons Try.func130 m130 <| good_cons Try.func131 m131 <| good_cons Try.func132 m132 <| good_cons Try.func133 m133 <| good_cons Try.func134 m134 <| good_cons Try.func156 m156 <| good_cons Try.func158 m158 <| good_cons Try.func159 m159 <| good_cons Try.func160 m160 <| good_cons Try.func161 m161 <| good_cons Try.func162 m162 <| good_cons Try.func163 m163 <| good_cons Try.func164 m164 <| good_cons Try.func165 m165 <| good_cons Try.func166 m166 <| good_cons Try.func176 m176 <| good_cons Try.func177 m177 <| good_cons Try.func190 m190 <| good_cons Try.func198 m198 <| good_nil
end Go.Am
