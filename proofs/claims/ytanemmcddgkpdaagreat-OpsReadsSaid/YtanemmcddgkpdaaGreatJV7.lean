/- Part V7 of the lemmas and walks of the Go functions that these statements reach; conditions: those that each theorem names. -/
import Derived.Test.YtanemmcddgkpdaaGreatJV5
import Derived.Test.YtanemmcddgkpdaaGreatJV6
section
/- Chapter 11: what is put is got, what is got is put; bytes that are cut, or have more behind; conditions: those that each theorem names. -/
namespace Go.Proofs.YtanemmcddgkpdaaGreat.Hm
open Go.RowKit Go.Proofs.YtanemmcddgkpdaaGreatW.PrintWords Go.Proofs.YtanemmcddgkpdaaGreatW.PrintLast Go.Proofs.YtanemmcddgkpdaaGreatW.PrintMore
set_option linter.unusedVariables false
set_option linter.unusedSimpArgs false
/-! ### bytes that end too early -/
theorem pre {p t x r : List Int} (h : p ++ t = x ++ r) : (∃ p', p = x ++ p' ∧ p' ++ t = r) ∨ p.length < x.length := by
  rcases Nat.lt_or_ge p.length x.length with hl | hl
  · exact .inr hl
  · refine .inl ⟨p.drop x.length, ?_, ?_⟩
    · have h1 := congrArg (List.take x.length) h
      rw [List.take_append_of_le_length hl, List.take_left'] at h1
      · rw [← h1]
        conv => lhs; rw [← List.take_append_drop x.length p]
        rw [h1]
      · rfl
    · have h1 := congrArg (List.drop x.length) h
      rw [List.drop_append_of_le_length hl, List.drop_left'] at h1
      · exact h1
      · rfl
end Go.Proofs.YtanemmcddgkpdaaGreat.Hm
end
section
/- The reference for slot, walked; conditions: those that each theorem names. -/
namespace Go.Proofs.YtanemmcddgkpdaaGreat.Sx
open Go.RowKit Go.Proofs.YtanemmcddgkpdaaGreat.Hm Go.Proofs.YtanemmcddgkpdaaGreatW.PrintWords Go.Proofs.YtanemmcddgkpdaaGreatW.PrintLast Go.Proofs.YtanemmcddgkpdaaGreatW.PrintMore
set_option linter.unusedVariables false
set_option linter.unusedSimpArgs false
attribute [local irreducible] SX SXL SXA St callK Post Evals
section
variable {F R : List Thing} {K : Ending → List Thing → Prop} {s : Sl}
def srC (s : Sl) : List Value := [.int .u32 s.ino, .int .u32 s.kind, .int .u32 s.gen, .int .u32 s.links, .int .u32 s.mode, .int .u64 s.change, .int .u64 s.cookie, .int .u64 s.verf, .string (strOfNums s.d)]
end
end Go.Proofs.YtanemmcddgkpdaaGreat.Sx
end
