/- Chapter 13: a thing that is renamed, pure; conditions: those that each theorem names. -/
import Derived.Test.YtanemmcddgkpdaaGreatJN9
import Derived.Test.YtanemmcddgkpdaaGreatJN8
namespace Go.Proofs.YtanemmcddgkpdaaGreat.Sx
open Go.RowKit Go.Proofs.YtanemmcddgkpdaaGreat.Hm Go.Proofs.YtanemmcddgkpdaaGreatW.PrintWords Go.Proofs.YtanemmcddgkpdaaGreatW.PrintLast Go.Proofs.YtanemmcddgkpdaaGreatW.PrintMore
set_option linter.unusedVariables false
set_option linter.unusedSimpArgs false
/-- A call that renames, in the root. -/
abbrev rc (x y : ByteArray) : Ca := ⟨0, 0, 12, 0, 1, x, 0, 1, y, 0, 0, 0, 0, []⟩
noncomputable def r1 (a : Nat) : Th × Re := doT (formT 20) (ca 6 0 1 (nm a) 0 0 [])
noncomputable def r2 (a : Nat) : Th × Re := doT (r1 a).1 (ca 5 1 1 ⟨#[]⟩ 0 0 [111, 110, 101])
noncomputable def r3 (a b : Nat) : Th × Re := doT (r2 a).1 (ca 6 0 1 (nm b) 0 0 [])
noncomputable def r3T (a b : Nat) : Bool → Th
  | true => (r3 a b).1
  | false => (r2 a).1
noncomputable def r4 (a b : Nat) (bt : Bool) : Th × Re := doT (r3T a b bt) (rc (nm a) (nm b))
/-- Is what a call renames no directory? -/
noncomputable def filB (t : Th) (c : Ca) : Bool := match folderE t c.ai c.ag with
  | .ok fr => match childE t fr c.name with
    | .ok k => (atT t k).kind != 2
    | .error _ => true
  | .error _ => true
theorem filB_ok {t : Th} {c : Ca} (h : filB t c = true) : ∀ fr k, folderE t c.ai c.ag = .ok fr → childE t fr c.name = .ok k → (atT t k).kind ≠ 2 := by
  intro fr k h1 h2
  unfold filB at h
  rw [h1] at h
  dsimp only at h
  rw [h2] at h
  simpa using h
end Go.Proofs.YtanemmcddgkpdaaGreat.Sx
