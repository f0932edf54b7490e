/- The examples of chapter 12 answer as they are told: the closed law of LevinKnown, reckoned by the kernel. No condition. -/
import Derived.Test.YtgbdkefglmjdoaaMAx11
namespace Go.Proofs.Ytgbdkefglmjdoaa.Pure
open Go.RowKit Go.Proofs.Ytgbdkefglmjdoaa.MA Go.Proofs.YtgbdkefglmjdoaaW.PrintWords Go.Proofs.YtgbdkefglmjdoaaW.PrintLast

set_option maxRecDepth 1000000 in
theorem LevinKnown : madrigallaw12_LevinKnown.Pure :=
  ⟨3000, by kernel_rfl⟩

end Go.Proofs.Ytgbdkefglmjdoaa.Pure
