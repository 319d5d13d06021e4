/- Part O6 of the lemmas and walks of the Go functions that these statements reach; conditions: those that each theorem names. -/
import Derived.Test.YtanemmcddgkpdaaGreatJN7
import Derived.Test.YtanemmcddgkpdaaGreatJN8
section
/- Chapter 13: the laws' own test of things, walked where it is met; conditions: those that each theorem names. -/
namespace Go.Proofs.YtanemmcddgkpdaaGreat.Sx
open Go.RowKit Go.Proofs.YtanemmcddgkpdaaGreat.Hm Go.Proofs.YtanemmcddgkpdaaGreatW.PrintWords Go.Proofs.YtanemmcddgkpdaaGreatW.PrintLast Go.Proofs.YtanemmcddgkpdaaGreatW.PrintMore
set_option linter.unusedVariables false
set_option linter.unusedSimpArgs false
attribute [local irreducible] SX SXL SXA St callK Post Evals
def incL (L : List Int) (j : Nat) : List Int := L.set j ((L.getD j 0 + 1) % 4294967296)
def entsL (L : List Int) (es : List Ent) : List Int := es.foldl (fun L e => incL L e.i.toNat) L
def linksTo (ts : List Sl) (k : Nat) : List Int := (ts.take k).foldl (fun L s => if s.kind = 2 then entsL L (entS s) else L) ((List.replicate 24 0).set 0 1)
/-- What the test asks of things. -/
structure SndT (t : Th) : Prop where
  ok : ∀ (i : Nat) (s : Sl), t.l[i]? = some s → okB s = true ∧ s.ino = (i : Int)
  ents : ∀ (i : Nat) (s : Sl), t.l[i]? = some s → s.kind = 2 → (getM s.d).2 = 0 ∧ ∀ e ∈ entS s, 0 ≤ e.i ∧ e.i ≤ 23 ∧ (atT t e.i.toNat).kind ≠ 0 ∧ (atT t e.i.toNat).gen = e.g
  links : ∀ (i : Nat) (s : Sl), t.l[i]? = some s → (s.kind = 0 → (linksTo t.l 24).getD i 0 = 0) ∧ (s.kind ≠ 0 → (linksTo t.l 24).getD i 0 = s.links) ∧ (s.kind = 2 → (linksTo t.l 24).getD i 0 = 1)
  room : (usedT t.l : Int) ≤ t.room
section
variable {F R : List Thing} {K : Ending → List Thing → Prop} {b cap : Nat} {t : Th} {ps : List Pl}
end
end Go.Proofs.YtanemmcddgkpdaaGreat.Sx
end
section
/- Chapter 13: a file has as many links as names, pure; conditions: those that each theorem names. -/
namespace Go.Proofs.YtanemmcddgkpdaaGreat.Sx
open Go.RowKit Go.Proofs.YtanemmcddgkpdaaGreat.Hm Go.Proofs.YtanemmcddgkpdaaGreatW.PrintWords Go.Proofs.YtanemmcddgkpdaaGreatW.PrintLast Go.Proofs.YtanemmcddgkpdaaGreatW.PrintMore
set_option linter.unusedVariables false
set_option linter.unusedSimpArgs false
noncomputable def lm : Th × Re := doT (formT 30) (ca 6 0 1 ⟨#[102]⟩ 0 0 [])
end Go.Proofs.YtanemmcddgkpdaaGreat.Sx
end
