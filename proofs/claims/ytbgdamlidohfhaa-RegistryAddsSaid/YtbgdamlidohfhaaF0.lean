/- The plain facts on whole numbers and rounds stand in the base; nothing here but the name; no condition. -/
import Derived.Test.YtbgdamlidohfhaaB
namespace Go.Proofs.Ytbgdamlidohfhaa.P
open Go.RowKit Go.Proofs.YtbgdamlidohfhaaW.PrintWords Go.Proofs.YtbgdamlidohfhaaW.PrintLast Go.Proofs.YtbgdamlidohfhaaW.PrintMore

end Go.Proofs.Ytbgdamlidohfhaa.P
