/- Chapter 8's entries by their names: what adding and removing does; conditions: those that each theorem names. -/
import Derived.Test.YtanemmcddgkpdaaGreatJU
namespace Go.Proofs.YtanemmcddgkpdaaGreat.Hm
open Go.RowKit Go.Proofs.YtanemmcddgkpdaaGreatW.PrintWords Go.Proofs.YtanemmcddgkpdaaGreatW.PrintLast Go.Proofs.YtanemmcddgkpdaaGreatW.PrintMore
set_option linter.unusedVariables false
set_option linter.unusedSimpArgs false
theorem mayOk_putM {l : List Ent} (h : mayOk l) : putM l = (l.flatMap encE, 0) := by
  unfold putM
  rw [if_pos ((mayB_iff l).2 h)]
theorem bytesB_encE {e : Ent} (hw : e.wf) (hs : (bytesOf e.s).length ≤ 24) : bytesB (encE e) = true := by
  unfold encE opq
  obtain ⟨h0, h1, h2, h3, h4, h5⟩ := hw
  simp only [bytesB_append, bytesOf_range, bytesB_zeros, bytesB_be64 _ h0 h1, bytesB_be32 _ h2 h3, bytesB_be32 _ h4 h5]
  rw [bytesB_be32 _ (by omega) (by omega)]
  rfl
theorem bytesB_flatE {l : List Ent} (hw : ∀ e ∈ l, e.wf) (hs : ∀ e ∈ l, (bytesOf e.s).length ≤ 24) : bytesB (l.flatMap encE) = true := by
  rw [bytesB_iff]
  intro x hx
  obtain ⟨e, he, hx⟩ := List.mem_flatMap.1 hx
  exact (bytesB_iff _).1 (bytesB_encE (hw e he) (hs e he)) x hx
end Go.Proofs.YtanemmcddgkpdaaGreat.Hm
