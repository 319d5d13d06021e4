/- The statement CrcParts of the package's law 2, over numbers and lists: the sum of bytes is the sum of their parts, one behind the other; a byte that is another one lets it be another one. -/
import Derived.Test.YtelhdgnolijpcaaPCrcPartsx1
import Derived.Test.YtelhdgnolijpcaaHburst
namespace Go.Proofs.Ytelhdgnolijpcaa.Pure
open Go.RowKit Go.Proofs.Ytelhdgnolijpcaa.PCrcParts Go.Proofs.YtelhdgnolijpcaaW.PrintWords Go.Proofs.YtelhdgnolijpcaaW.PrintLast
set_option linter.unusedVariables false
set_option linter.unusedSimpArgs false

theorem awakeCrcParts : removalistlaw02_awake.f = some true := by decide +kernel
theorem CrcParts : removalistlaw02_CrcParts.Pure := by
  intro l a x hl hl2 hw ha hx
  have hb := Hm.bytesB_of_wf l hw
  have hu := Hm.u16_of_wf a ha
  have hx8 := Hm.u8_of_wf x hx
  refine ⟨2, ?_⟩
  unfold removalistlaw02_CrcParts.f
  rw [awakeCrcParts]
  simp only [Option.bind_some, if_true]
  by_cases h0 : (l.length : Int) = 0
  · rw [if_pos h0]; rfl
  · rw [if_neg h0]
    by_cases h4 : (l.length : Int) > 400
    · rw [decide_eq_true h4]; rfl
    · rw [decide_eq_false h4]
      have hwr : wrap64 a = a := by unfold wrap64; omega
      have hmod : Int.tmod a (l.length : Int) = a % (l.length : Int) := Int.tmod_eq_emod_of_nonneg hu.1
      have hm0 : 0 ≤ a % (l.length : Int) := Int.emod_nonneg _ h0
      have hm1 : a % (l.length : Int) < (l.length : Int) := Int.emod_lt_of_pos _ (by omega)
      simp only [removalistlaw02_CrcParts.j0, hwr, hmod]
      rw [if_neg (by simp), if_neg h0, if_pos hm0, if_pos (by omega)]
      obtain ⟨j, hj⟩ := Int.eq_ofNat_of_zero_le hm0
      rw [hj] at hm1 ⊢
      rw [Int.toNat_natCast]
      have hjl : j < l.length := by omega
      have hz := Hm.crcM_range 0 (l.take j) (by omega) (by omega) ((Hm.bytesB_iff _).1 (Hm.bytesB_take l j hb))
      have e1 : ∀ m, Hm.bytesB m = true → Hm.crc_Of.f m = some (Hm.crcM 0 m) := fun m hm => by unfold Hm.crc_Of.f; rw [if_pos hm]
      have e2 : Hm.crc_More.f (Hm.crcM 0 (l.take j)) (l.drop j) = some (Hm.crcM 0 l) := by
        unfold Hm.crc_More.f
        rw [if_pos ⟨hz.1, hz.2, Hm.bytesB_drop l j hb⟩, Hm.crcM_append, List.take_append_drop]
      have e3 : Hm.crc_More.f 7 ([] : List Int) = some 7 := by decide +kernel
      rw [e1 _ (Hm.bytesB_take l j hb)]
      simp only [Option.bind_some]
      rw [e2]
      simp only [Option.bind_some]
      rw [e1 l hb]
      simp only [Option.bind_some, if_true]
      rw [e3]
      simp only [Option.bind_some, removalistlaw02_CrcParts.j1]
      rw [if_neg (by decide), if_pos (by simp; omega)]
      simp only [Option.bind_some, List.nil_append]
      rw [if_pos (by omega), if_pos (by omega), Int.toNat_natCast]
      have hr := Hm.rd_range l hb j hjl
      have hxr := Hm.xor256 _ x hr.1 hr.2 hx8.1 hx8.2
      rw [e1 _ (Hm.bytesB_set l hb j _ hxr.1 hxr.2)]
      simp only [Option.bind_some]
      rw [e1 l hb]
      simp only [Option.bind_some]
      have hf := Hm.crcM_set l hb j hjl x hx8.1 hx8.2
      congr 1
      rw [show (Hm.crcM 0 (l.set j (Go.bits .xor .u8 (rd l (j : Int)) x)) == Hm.crcM 0 l) = decide (Hm.crcM 0 (l.set j (Go.bits .xor .u8 (rd l (j : Int)) x)) = Hm.crcM 0 l) from by rw [Bool.eq_iff_iff]; simp, hf]
      by_cases hx0 : x = 0 <;> simp [hx0]

end Go.Proofs.Ytelhdgnolijpcaa.Pure
