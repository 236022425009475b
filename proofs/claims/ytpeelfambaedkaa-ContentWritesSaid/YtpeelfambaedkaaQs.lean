/- The example that the laws of layer 9 ask first: it says true. -/
import Derived.Test.YtpeelfambaedkaaQa
import Derived.Test.YtpeelfambaedkaaPlaw09shown
namespace Go.Proofs.Ytpeelfambaedkaa.P
open Go.RowKit Go.Proofs.YtpeelfambaedkaaW.PrintWords Go.Proofs.YtpeelfambaedkaaW.PrintLast Go.Proofs.YtpeelfambaedkaaW.PrintMore

theorem shown_ok : flagstonelaw09_shown.f = some true := by kernel_rfl
end Go.Proofs.Ytpeelfambaedkaa.P
