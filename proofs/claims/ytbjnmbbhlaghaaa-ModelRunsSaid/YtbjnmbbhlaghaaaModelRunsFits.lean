/- Each text of the table is the program's own. -/
import Derived.Test.YtbjnmbbhlaghaaaProg
import Derived.Test.YtbjnmbbhlaghaaaAmExec
import Derived.Test.YtbjnmbbhlaghaaaModelRunsCode
namespace Go.Am
open Go.Proofs
theorem m31 : mFun Try.prog Try.f31 a31 = true := by decide +kernel
theorem m69 : mFun Try.prog Try.f69 a69 = true := by decide +kernel
theorem m71 : mFun Try.prog Try.f71 a71 = true := by decide +kernel
theorem m72 : mFun Try.prog Try.f72 a72 = true := by decide +kernel
theorem m76 : mFun Try.prog Try.f76 a76 = true := by decide +kernel
theorem m77 : mFun Try.prog Try.f77 a77 = true := by decide +kernel
theorem m78 : mFun Try.prog Try.f78 a78 = true := by decide +kernel
theorem m83 : mFun Try.prog Try.f83 a83 = true := by decide +kernel
theorem m95 : mFun Try.prog Try.f95 a95 = true := by decide +kernel
theorem m96 : mFun Try.prog Try.f96 a96 = true := by decide +kernel
theorem m99 : mFun Try.prog Try.f99 a99 = true := by decide +kernel
theorem m111 : mFun Try.prog Try.f111 a111 = true := by decide +kernel
theorem m119 : mFun Try.prog Try.f119 a119 = true := by decide +kernel
theorem m122 : mFun Try.prog Try.f122 a122 = true := by decide +kernel
theorem m123 : mFun Try.prog Try.f123 a123 = true := by decide +kernel
theorem m124 : mFun Try.prog Try.f124 a124 = true := by decide +kernel
theorem m125 : mFun Try.prog Try.f125 a125 = true := by decide +kernel
theorem m128 : mFun Try.prog Try.f128 a128 = true := by decide +kernel
theorem m129 : mFun Try.prog Try.f129 a129 = true := by decide +kernel
theorem m130 : mFun Try.prog Try.f130 a130 = true := by decide +kernel
theorem m131 : mFun Try.prog Try.f131 a131 = true := by decide +kernel
theorem m148 : mFun Try.prog Try.f148 a148 = true := by decide +kernel
theorem m156 : mFun Try.prog Try.f156 a156 = true := by decide +kernel
theorem m160 : mFun Try.prog Try.f160 a160 = true := by decide +kernel
theorem m161 : mFun Try.prog Try.f161 a161 = true := by decide +kernel
theorem m162 : mFun Try.prog Try.f162 a162 = true := by decide +kernel
theorem m163 : mFun Try.prog Try.f163 a163 = true := by decide +kernel
theorem m164 : mFun Try.prog Try.f164 a164 = true := by decide +kernel
theorem m165 : mFun Try.prog Try.f165 a165 = true := by decide +kernel
theorem m176 : mFun Try.prog Try.f176 a176 = true := by decide +kernel
def texts : List (Nat × AFun) := [(31, a31), (69, a69), (71, a71), (72, a72), (76, a76), (77, a77), (78, a78), (83, a83), (95, a95), (96, a96), (99, a99), (111, a111), (119, a119), (122, a122), (123, a123), (124, a124), (125, a125), (128, a128), (129, a129), (130, a130), (131, a131), (148, a148), (156, a156), (160, a160), (161, a161), (162, a162), (163, a163), (164, a164), (165, a165), (176, a176)]
theorem texts_good : Good Try.prog texts :=
  good_cons Try.func31 m31 <| good_cons Try.func69 m69 <| good_cons Try.func71 m71 <| good_cons Try.func72 m72 <| good_cons Try.func76 m76 <| good_cons Try.func77 m77 <| good_cons Try.func78 m78 <| good_cons Try.func83 m83 <| good_cons Try.func95 m95 <| good_cons Try.func96 m96 <| good_cons Try.func99 m99 <| good_cons Try.func111 m111 <| good_cons Try.func119 m119 <| good_cons Try.func122 m122 <| good_cons Try.func123 m123 <| good_cons Try.func124 m124 <| good_cons Try.func125 m125 <| good_cons Try.func128 m128 <| good_cons Try.func129 m129 <| good_cons Try.func130 m130 <| good_cons Try.func131 m131 <| good_cons Try.func148 m148 <| good_cons Try.func156 m156 <| good_cons Try.func160 m160 <| good_cons Try.func161 m161 <| good_cons Try.func162 m162 <| good_cons Try.func163 m163 <| good_cons Try.func164 m164 <| good_cons Try.func165 m165 <| good_cons Try.func176 m176 <| good_nil
end Go.Am
