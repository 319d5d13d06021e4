/- The statement SectorKinds of the package's law 4, over numbers: just the four kinds may be, and numbers that go into a byte. -/
import Derived.Test.YtelhdgnolijpcaaPSectorKindsx1
namespace Go.Proofs.Ytelhdgnolijpcaa.Pure
open Go.RowKit Go.Proofs.Ytelhdgnolijpcaa.PSectorKinds Go.Proofs.YtelhdgnolijpcaaW.PrintWords Go.Proofs.YtelhdgnolijpcaaW.PrintLast
set_option linter.unusedVariables false
set_option linter.unusedSimpArgs false

theorem SectorKinds : removalistlaw04_SectorKinds.Pure := by
  intro k i c hk hi hc
  have hP : Hm.sector_Put.f k i c 0 0 ([] : List Int) = some (if Hm.frameOk k i c 0 = true then (Hm.putM k i c 0 0 [], 0) else ([], 1)) := by
    unfold Hm.sector_Put.f
    rw [if_pos ⟨by omega, by omega, by omega, by omega, rfl⟩]
    rfl
  have hA : Hm.awake04.f = some true := rfl
  unfold removalistlaw04_SectorKinds.f
  rw [hA, hP, Option.bind_some, if_pos rfl, Option.bind_some]
  by_cases hf : Hm.frameOk k i c 0 = true
  · rw [if_pos hf]
    obtain ⟨h1, h2, h3, h4, h5, h6, h7⟩ := (Hm.frameOk_iff _ _ _ _).1 hf
    have hg := Hm.get_put k i c 0 0 [] hf (by omega) (by omega)
    have hfb := Hm.frameL_bytes k i c 0 0 [] (by omega) (by omega) h3 h4 h5 h6 (by decide) rfl
    have hcr := Hm.crcM_range 0 _ (by omega) (by omega) ((Hm.bytesB_iff _).1 hfb)
    have hG : Hm.sector_Get.f (Hm.putM k i c 0 0 []) = some (k, i, c, 0, 0, [], 0) := by
      unfold Hm.sector_Get.f
      rw [if_pos ⟨by unfold Hm.putM; rw [Hm.bytesB_append, hfb, Hm.bytesB_be32 _ hcr.1 hcr.2]; rfl, by rw [Hm.putM_length _ _ _ _ _ _ (by decide)]; decide⟩, hg]
      rfl
    rw [if_pos h1, if_pos h2, if_pos h3, if_pos h4, if_pos h5, if_pos h6]
    dsimp only
    rw [hG, Option.bind_some, if_pos rfl]
    dsimp only
    rw [if_pos rfl, if_pos rfl, if_pos rfl, if_pos rfl]
    rfl
  · rw [if_neg hf]
    have hn : ¬ (1 ≤ k ∧ k ≤ 4 ∧ 0 ≤ i ∧ i ≤ 255 ∧ 0 ≤ c ∧ c ≤ 255) := fun h => hf ((Hm.frameOk_iff _ _ _ _).2 ⟨h.1, h.2.1, h.2.2.1, h.2.2.2.1, h.2.2.2.2.1, h.2.2.2.2.2, by omega⟩)
    dsimp only
    by_cases q1 : k ≥ 1
    · rw [if_pos q1]
      by_cases q2 : k ≤ 4
      · rw [if_pos q2]
        by_cases q3 : i ≥ 0
        · rw [if_pos q3]
          by_cases q4 : i ≤ 255
          · rw [if_pos q4]
            by_cases q5 : c ≥ 0
            · rw [if_pos q5]
              by_cases q6 : c ≤ 255
              · exact absurd ⟨q1, q2, q3, q4, q5, q6⟩ hn
              · rw [if_neg q6]; rfl
            · rw [if_neg q5]; rfl
          · rw [if_neg q4]; rfl
        · rw [if_neg q3]; rfl
      · rw [if_neg q2]; rfl
    · rw [if_neg q1]; rfl
end Go.Proofs.Ytelhdgnolijpcaa.Pure
