/- The Go functions awake and frameOf of the package's law 4: awake returns true and leaves what was there. -/
import Derived.Test.YtelhdgnolijpcaaPAwk04x1
namespace Go.Proofs.Ytelhdgnolijpcaa.Hm
open Go.RowKit Go.Proofs.YtelhdgnolijpcaaW.PrintWords Go.Proofs.YtelhdgnolijpcaaW.PrintLast Go.Proofs.YtelhdgnolijpcaaW.PrintMore
def awake04.f : Option Bool := some true
set_option maxRecDepth 100000 in
theorem awake04.calls (r : Bool) (w : World) (h : awake04.f = some r) : Calls Try.prog 22 #[] w fun e w' => e = .returned (.bool r) ∧ Below w.heap.size w w' := by
  obtain rfl := Option.some.inj h
  exact PAwk04.removalistlaw04_awake.calls w (by decide +kernel)
end Go.Proofs.Ytelhdgnolijpcaa.Hm
