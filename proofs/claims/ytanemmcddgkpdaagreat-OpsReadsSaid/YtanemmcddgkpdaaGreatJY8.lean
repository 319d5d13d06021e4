/- Chapter 08: entries read a few at a time, pure; conditions: those that each theorem names. -/
import Derived.Test.YtanemmcddgkpdaaGreatJU
import Derived.Test.YtanemmcddgkpdaaGreatJD
import Derived.Test.YtanemmcddgkpdaaGreatJE
namespace Go.Proofs.YtanemmcddgkpdaaGreat.Hm
open Go.RowKit Go.Proofs.YtanemmcddgkpdaaGreatW.PrintWords Go.Proofs.YtanemmcddgkpdaaGreatW.PrintLast Go.Proofs.YtanemmcddgkpdaaGreatW.PrintMore
set_option linter.unusedVariables false
set_option linter.unusedSimpArgs false
end Go.Proofs.YtanemmcddgkpdaaGreat.Hm
