/- Part N8 of the lemmas and walks of the Go functions that these statements reach; conditions: those that each theorem names. -/
import Derived.Test.YtanemmcddgkpdaaGreatJN7
section
/- Chapter 13: a file made by a number, pure; conditions: those that each theorem names. -/
namespace Go.Proofs.YtanemmcddgkpdaaGreat.Hm
open Go.RowKit Go.Proofs.YtanemmcddgkpdaaGreatW.PrintWords Go.Proofs.YtanemmcddgkpdaaGreatW.PrintLast Go.Proofs.YtanemmcddgkpdaaGreatW.PrintMore
set_option linter.unusedVariables false
set_option linter.unusedSimpArgs false
theorem doT_op {t : Th} {c : Ca} (h1 : mayT t.l = true) (h2 : 1 ≤ c.op) (h3 : c.op ≤ 16) : doT t c = match opE t (toldR c) c with | .ok p => p | .error e => (t, { toldR c with st := e }) := by
  unfold doT
  rw [decide_eq_true h2, decide_eq_true h3, h1]
  rfl
end Go.Proofs.YtanemmcddgkpdaaGreat.Hm
end
section
/- Chapter 13: each op for one kind of thing refuses the others, pure; conditions: those that each theorem names. -/
namespace Go.Proofs.YtanemmcddgkpdaaGreat.Hm
open Go.RowKit Go.Proofs.YtanemmcddgkpdaaGreatW.PrintWords Go.Proofs.YtanemmcddgkpdaaGreatW.PrintLast Go.Proofs.YtanemmcddgkpdaaGreatW.PrintMore
set_option linter.unusedVariables false
set_option linter.unusedSimpArgs false
/-! ### what each of them is refused with -/
end Go.Proofs.YtanemmcddgkpdaaGreat.Hm
end
