import Derived.Test.YtdfcphfoccgopaaKF0
namespace Go.Proofs.Ytdfcphfoccgopaa
open Go.Sx
set_option maxRecDepth 100000
theorem t12 : (fnT (cfgOf Try.prog sigsA [14, 16, 22, 23, 20, 46, 47, 50, 48, 45, 55, 43, 44, 52, 39] [28, 29, 34, 53, 51, 42, 43, 39] noLoop) 12 Try.f12 (bodyOf Try.f12) ⟨[], [sb], none, none, none⟩ 100).holds ΦA [] (resQ ΦA fun rs => rs = [.bool true]) = ([Sc.bool true] = [Sc.bool true]) := by kernel_rfl
end Go.Proofs.Ytdfcphfoccgopaa
