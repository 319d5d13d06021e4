/- Chapter 13: every op's walk, where things may be; conditions: those that each theorem names. -/
import Derived.Test.YtanemmcddgkpdaaGreatJPc
import Derived.Test.YtanemmcddgkpdaaGreatJN6
namespace Go.Proofs.YtanemmcddgkpdaaGreat.Sx
open Go.RowKit Go.Proofs.YtanemmcddgkpdaaGreat.Hm Go.Proofs.YtanemmcddgkpdaaGreatW.PrintWords Go.Proofs.YtanemmcddgkpdaaGreatW.PrintLast Go.Proofs.YtanemmcddgkpdaaGreatW.PrintMore
set_option linter.unusedVariables false
set_option linter.unusedSimpArgs false
attribute [local irreducible] SX SXL SXA St callK Post Evals
theorem opT_all {t : Th} {c : Ca} (h1 : 1 ≤ c.op) (h2 : c.op ≤ 16) (hmay : mayT t.l = true) : OpT t c := by
  have h : c.op = 1 ∨ c.op = 2 ∨ c.op = 3 ∨ c.op = 4 ∨ c.op = 5 ∨ c.op = 6 ∨ c.op = 7 ∨ c.op = 8 ∨ c.op = 9 ∨ c.op = 10 ∨ c.op = 11 ∨ c.op = 12 ∨ c.op = 13 ∨ c.op = 14 ∨ c.op = 15 ∨ c.op = 16 := by omega
  rcases h with h | h | h | h | h | h | h | h | h | h | h | h | h | h | h | h
  · refine ⟨lookupE, ?_, by unfold opE; simp only [h]; rfl⟩
    rw [h]
    exact (lookup_S.at_ t (toldC c) c)
  · refine ⟨getattrE, ?_, by unfold opE; simp only [h]; rfl⟩
    rw [h]
    exact (getattr_S.at_ t (toldC c) c)
  · refine ⟨setattrE, ?_, by unfold opE; simp only [h]; rfl⟩
    rw [h]
    exact (setattr_S.at_ t (toldC c) c)
  · refine ⟨readE, ?_, by unfold opE; simp only [h]; rfl⟩
    rw [h]
    exact (read_S.at_ t (toldC c) c)
  · refine ⟨writeE, ?_, by unfold opE; simp only [h]; rfl⟩
    rw [h]
    exact (write_S.at_ t (toldC c) c)
  · refine ⟨createE, ?_, by unfold opE; simp only [h]; rfl⟩
    rw [h]
    exact (create_S.at_ t (toldC c) c)
  · refine ⟨mkdirE, ?_, by unfold opE; simp only [h]; rfl⟩
    rw [h]
    exact (mkdir_S.at_ t (toldC c) c)
  · refine ⟨symlinkE, ?_, by unfold opE; simp only [h]; rfl⟩
    rw [h]
    exact (symlink_S.at_ t (toldC c) c)
  · refine ⟨readlinkE, ?_, by unfold opE; simp only [h]; rfl⟩
    rw [h]
    exact (readlink_S.at_ t (toldC c) c)
  · refine ⟨removeE, ?_, by unfold opE; simp only [h]; rfl⟩
    rw [h]
    exact (remove_S.at_ t (toldC c) c)
  · refine ⟨rmdirE, ?_, by unfold opE; simp only [h]; rfl⟩
    rw [h]
    exact (rmdir_S.at_ t (toldC c) c)
  · refine ⟨renameE, ?_, by unfold opE; simp only [h]; rfl⟩
    rw [h]
    exact (rename_M hmay)
  · refine ⟨linkE, ?_, by unfold opE; simp only [h]; rfl⟩
    rw [h]
    exact (link_S.at_ t (toldC c) c)
  · refine ⟨readdirE, ?_, by unfold opE; simp only [h]; rfl⟩
    rw [h]
    exact (readdir_S.at_ t (toldC c) c)
  · refine ⟨fsstatE, ?_, by unfold opE; simp only [h]; rfl⟩
    rw [h]
    exact (fsstat_S.at_ t (toldC c) c)
  · refine ⟨commitE, ?_, by unfold opE; simp only [h]; rfl⟩
    rw [h]
    exact (commit_S.at_ t (toldC c) c)
end Go.Proofs.YtanemmcddgkpdaaGreat.Sx
