/- The Go package wire, walked: messages got; conditions: those that each theorem names. -/
import Derived.Test.YtgjajalneknagaaJX9
namespace Go.Proofs.Ytgjajalneknagaa.Sx
open Go.RowKit Go.Proofs.Ytgjajalneknagaa.Hm Go.Proofs.YtgjajalneknagaaW.PrintWords Go.Proofs.YtgjajalneknagaaW.PrintLast Go.Proofs.YtgjajalneknagaaW.PrintMore
set_option linter.unusedVariables false
set_option linter.unusedSimpArgs false
attribute [local irreducible] SX SXL SXA St callK Post Evals

section
variable {F R R5 R6 R8 : List Thing} {K : Ending → List Thing → Prop} {A B C D E : Option Addr} {c : Nat}
end
end Go.Proofs.Ytgjajalneknagaa.Sx
