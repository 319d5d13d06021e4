/- Part F of the lemmas and walks of the Go functions that these statements reach; conditions: those that each theorem names. -/
import Derived.Test.YtpbhanpblmoepaaJE
section
/- Chapter 1's reference: bytes are read; conditions: those that each theorem names. -/
namespace Go.Proofs.Ytpbhanpblmoepaa.Hm
open Go.RowKit Go.Proofs.YtpbhanpblmoepaaW.PrintWords Go.Proofs.YtpbhanpblmoepaaW.PrintLast Go.Proofs.YtpbhanpblmoepaaW.PrintMore
set_option linter.unusedVariables false
set_option linter.unusedSimpArgs false

end Go.Proofs.Ytpbhanpblmoepaa.Hm
end
section
/- Chapter 1's reference: the number of bytes; conditions: those that each theorem names. -/
namespace Go.Proofs.Ytpbhanpblmoepaa.Hm
open Go.RowKit Go.Proofs.YtpbhanpblmoepaaW.PrintWords Go.Proofs.YtpbhanpblmoepaaW.PrintLast Go.Proofs.YtpbhanpblmoepaaW.PrintMore
set_option linter.unusedVariables false
set_option linter.unusedSimpArgs false

end Go.Proofs.Ytpbhanpblmoepaa.Hm
end
section
/- Chapter 1's reference: numbers are read; conditions: those that each theorem names. -/
namespace Go.Proofs.Ytpbhanpblmoepaa.Hm
open Go.RowKit Go.Proofs.YtpbhanpblmoepaaW.PrintWords Go.Proofs.YtpbhanpblmoepaaW.PrintLast Go.Proofs.YtpbhanpblmoepaaW.PrintMore
set_option linter.unusedVariables false
set_option linter.unusedSimpArgs false

end Go.Proofs.Ytpbhanpblmoepaa.Hm
end
section
/- Chapter 1's reference: numbers are read; conditions: those that each theorem names. -/
namespace Go.Proofs.Ytpbhanpblmoepaa.Hm
open Go.RowKit Go.Proofs.YtpbhanpblmoepaaW.PrintWords Go.Proofs.YtpbhanpblmoepaaW.PrintLast Go.Proofs.YtpbhanpblmoepaaW.PrintMore
set_option linter.unusedVariables false
set_option linter.unusedSimpArgs false

end Go.Proofs.Ytpbhanpblmoepaa.Hm
end
section
/- Chapter 1's reference: bytes behind their number are read; conditions: those that each theorem names. -/
namespace Go.Proofs.Ytpbhanpblmoepaa.Hm
open Go.RowKit Go.Proofs.YtpbhanpblmoepaaW.PrintWords Go.Proofs.YtpbhanpblmoepaaW.PrintLast Go.Proofs.YtpbhanpblmoepaaW.PrintMore
set_option linter.unusedVariables false
set_option linter.unusedSimpArgs false

theorem takeM_rest (xs : List Int) (e : Int) (n : Nat) (hb : bytesB xs = true) : bytesB (takeM xs e n).2.1 = true := by
  unfold takeM
  split
  · exact hb
  · split
    · exact hb
    · exact bytesB_drop _ _ hb
end Go.Proofs.Ytpbhanpblmoepaa.Hm
end
