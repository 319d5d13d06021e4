/- The statement CrcOf of the package's law 2, over numbers and lists: the program's sums, sealed bytes and right bytes are the reference's, whatever bytes and sum come in. -/
import Derived.Test.YtelhdgnolijpcaaPCrcOfx2
import Derived.Test.YtelhdgnolijpcaaHref02
namespace Go.Proofs.Ytelhdgnolijpcaa.Pure
open Go.RowKit Go.Proofs.Ytelhdgnolijpcaa.PCrcOf Go.Proofs.YtelhdgnolijpcaaW.PrintWords Go.Proofs.YtelhdgnolijpcaaW.PrintLast

theorem awakeCrcOf : removalistlaw02_awake.f = some true := by decide +kernel
theorem CrcOf : removalistlaw02_CrcOf.Pure := by
  intro a0 l1 ha hl hl2 hw
  have hb := Hm.bytesB_of_wf l1 hw
  have hu := Hm.u32_of_wf a0 ha
  have hz := Hm.size_strOfNums l1
  have hs := Hm.bytesOf_strOfNums l1 hb
  have hr := Hm.crcM_range 0 l1 (by omega) (by omega) ((Hm.bytesB_iff l1).1 hb)
  refine ⟨10 * l1.length + 1, ?_⟩
  unfold removalistlaw02_CrcOf.f
  rw [awakeCrcOf]
  simp only [Option.bind_some, if_true]
  by_cases h4 : (l1.length : Int) > 400
  · rw [if_pos h4]
  · rw [if_neg h4]
    have e1 : Hm.crc_Of.f l1 = some (Hm.crcM 0 l1) := by unfold Hm.crc_Of.f; rw [if_pos hb]
    have e2 : Hm.crc_More.f a0 l1 = some (Hm.crcM a0 l1) := by unfold Hm.crc_More.f; rw [if_pos ⟨hu.1, hu.2, hb⟩]
    have e3 : Hm.crc_Sealed.f l1 = some (l1 ++ Hm.be32 (Hm.crcM 0 l1)) := by unfold Hm.crc_Sealed.f; rw [if_pos ⟨hb, by omega⟩]
    have e4 : Hm.crc_Right.f l1 = some (Hm.rightB l1) := by unfold Hm.crc_Right.f; rw [if_pos ⟨hb, by omega⟩]
    have hb3 : Hm.bytesB (l1 ++ Hm.be32 (Hm.crcM 0 l1)) = true := by rw [Hm.bytesB_append, hb, Hm.bytesB_be32 _ hr.1 hr.2]; rfl
    rw [e1, Hm.ref_Of _ (by omega) _ (by omega), e2, Hm.ref_More _ (by omega) a0 hu.1 hu.2 _ (by omega), e3, Hm.ref_Sealed _ (by omega) _ (by omega), e4, Hm.ref_Right _ (by omega) _ (by omega), hs]
    simp only [Option.bind_some, if_true]
    rw [if_pos]
    · simp
    · rw [Hm.toList_iff, Hm.bytesOf_strOfNums _ hb3, Hm.bytesOf_append, hs, Hm.bytesOf_strOfNums _ (Hm.bytesB_be32 _ hr.1 hr.2)]

end Go.Proofs.Ytelhdgnolijpcaa.Pure
