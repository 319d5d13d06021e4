/- The statement CrcRows of the package's law 2, over numbers and lists: the sum of rows, one behind the other, is row by row that of all at once; condition: the rows are of bytes. -/
import Derived.Test.YtelhdgnolijpcaaPCrcRowsx1
import Derived.Test.YtelhdgnolijpcaaHburst
namespace Go.Proofs.Ytelhdgnolijpcaa.Pure
open Go.RowKit Go.Proofs.Ytelhdgnolijpcaa.PCrcRows Go.Proofs.YtelhdgnolijpcaaW.PrintWords Go.Proofs.YtelhdgnolijpcaaW.PrintLast
set_option linter.unusedVariables false
set_option linter.unusedSimpArgs false

theorem awakeCrcRows : removalistlaw02_awake.f = some true := by decide +kernel
theorem crcRows_loop (l : List (List Int)) (hb : ∀ r ∈ l, Hm.bytesB r = true) (h10 : l.length ≤ 10) (d : Nat) : ∀ (k i : Nat) (acc : List Int), i + d = l.length → Hm.bytesB acc = true → acc.length ≤ 100 * i →
    removalistlaw02_CrcRows.l0 (k + d + 1) l acc (Hm.crcM 0 acc) i = some true := by
  induction d with
  | zero =>
    intro k i acc hi ha hl
    simp only [removalistlaw02_CrcRows.l0]
    rw [if_neg (by omega)]
    decide +kernel
  | succ d ih =>
    intro k i acc hi ha hl
    have hlt : i < l.length := by omega
    have hr : rd_L1 l (i : Int) = l[i] := by simp [rd_L1, hlt]
    have hbr : Hm.bytesB l[i] = true := hb _ (List.getElem_mem _)
    rw [show k + (d + 1) + 1 = (k + d + 1) + 1 by omega]
    simp only [removalistlaw02_CrcRows.l0]
    rw [if_pos (by omega), if_pos (by omega), hr]
    by_cases h : ((l[i].length : Nat) : Int) > 100
    · rw [if_pos h]
    · rw [if_neg h, if_pos (by omega)]
      have hba : Hm.bytesB (acc ++ l[i]) = true := by rw [Hm.bytesB_append, ha, hbr]; rfl
      have hc := Hm.crcM_range 0 acc (by omega) (by omega) ((Hm.bytesB_iff _).1 ha)
      have e1 : Hm.crc_More.f (Hm.crcM 0 acc) l[i] = some (Hm.crcM 0 (acc ++ l[i])) := by unfold Hm.crc_More.f; rw [if_pos ⟨hc.1, hc.2, hbr⟩, Hm.crcM_append]
      have e2 : Hm.crc_Of.f (acc ++ l[i]) = some (Hm.crcM 0 (acc ++ l[i])) := by unfold Hm.crc_Of.f; rw [if_pos hba]
      simp only [Option.bind_some]
      rw [e1]
      simp only [Option.bind_some]
      rw [e2]
      simp only [Option.bind_some, if_true]
      have hw : wrap64 ((i : Int) + 1) = ((i + 1 : Nat) : Int) := by unfold wrap64; omega
      rw [hw]
      exact ih k (i + 1) _ (by omega) hba (by rw [List.length_append]; omega)
theorem CrcRows (l : List (List Int)) (hb : ∀ r ∈ l, Hm.bytesB r = true) : ∃ k, removalistlaw02_CrcRows.f k l = some true := by
  refine ⟨l.length + 1, ?_⟩
  unfold removalistlaw02_CrcRows.f
  rw [awakeCrcRows]
  simp only [Option.bind_some, if_true]
  by_cases h : (l.length : Int) > 10
  · rw [if_pos h]
  · rw [if_neg h]
    have e : Hm.crc_Of.f ([] : List Int) = some (Hm.crcM 0 []) := by decide +kernel
    rw [e]
    simp only [Option.bind_some]
    have := crcRows_loop l hb (by omega) l.length 0 0 [] (by omega) rfl (by simp)
    rw [show 0 + l.length + 1 = l.length + 1 by omega] at this
    exact this
end Go.Proofs.Ytelhdgnolijpcaa.Pure
