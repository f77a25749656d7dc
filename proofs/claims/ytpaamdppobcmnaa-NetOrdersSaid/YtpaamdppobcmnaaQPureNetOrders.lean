/- NetOrders: the law's plain part: what its functions compute answers true, for all arguments of its types. No condition beside the given bounds. -/
import Derived.Test.YtpaamdppobcmnaaQNetOrdersx2
import Derived.Test.YtpaamdppobcmnaaMath
namespace Go.Proofs.Ytpaamdppobcmnaa.Pure
open Go.RowKit Go.Proofs.Ytpaamdppobcmnaa.QNetOrders Go.Proofs.YtpaamdppobcmnaaW.PrintWords Go.Proofs.YtpaamdppobcmnaaW.PrintLast Go.Proofs.YtpaamdppobcmnaaW.PrintMore Go.PelMath
set_option linter.unusedVariables false
set_option linter.unusedSimpArgs false
theorem NetOrders : pelotonlaw17_NetOrders.Pure := fun _ _ _ _ => rfl

end Go.Proofs.Ytpaamdppobcmnaa.Pure
