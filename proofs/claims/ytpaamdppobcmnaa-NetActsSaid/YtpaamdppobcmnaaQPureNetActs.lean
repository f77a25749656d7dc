/- NetActs: the law's plain part: what its functions compute answers true, for all arguments of its types. No condition beside the given bounds. -/
import Derived.Test.YtpaamdppobcmnaaQNetActsx6
import Derived.Test.YtpaamdppobcmnaaMath
namespace Go.Proofs.Ytpaamdppobcmnaa.Pure
open Go.RowKit Go.Proofs.Ytpaamdppobcmnaa.QNetActs Go.Proofs.YtpaamdppobcmnaaW.PrintWords Go.Proofs.YtpaamdppobcmnaaW.PrintLast Go.Proofs.YtpaamdppobcmnaaW.PrintMore Go.PelMath
set_option linter.unusedVariables false
set_option linter.unusedSimpArgs false
theorem NetActs : pelotonlaw17_NetActs.Pure := fun _ _ _ _ => rfl

end Go.Proofs.Ytpaamdppobcmnaa.Pure
