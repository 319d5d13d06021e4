/- The Go function awake of the package's law 2 returns true and leaves what was there. -/
import Derived.Test.YtelhdgnolijpcaaPCrcOfx1
namespace Go.Proofs.Ytelhdgnolijpcaa.Hm
open Go.RowKit Go.Proofs.YtelhdgnolijpcaaW.PrintWords Go.Proofs.YtelhdgnolijpcaaW.PrintLast Go.Proofs.YtelhdgnolijpcaaW.PrintMore
def awake02.f : Option Bool := some true
theorem awake02.calls (r : Bool) (w : World) (h : awake02.f = some r) : Calls Try.prog 13 #[] w fun e w' => e = .returned (.bool r) ∧ Below w.heap.size w w' := by
  obtain rfl := Option.some.inj h
  exact PCrcOf.removalistlaw02_awake.calls true w (by decide +kernel)
end Go.Proofs.Ytelhdgnolijpcaa.Hm
