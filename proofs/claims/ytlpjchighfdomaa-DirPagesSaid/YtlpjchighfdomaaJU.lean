/- Part U of the lemmas and walks of the Go functions that these statements reach; conditions: those that each theorem names. -/
import Derived.Test.YtlpjchighfdomaaJV4
import Derived.Test.YtlpjchighfdomaaJT
import Derived.Test.YtlpjchighfdomaaJF
section
/- Contracts that were shown of a world, as contracts of what is known: chapters 1 and 8; conditions: those that each theorem names. -/
namespace Go.Proofs.Ytlpjchighfdomaa.Sx
open Go.RowKit Go.Proofs.Ytlpjchighfdomaa.Hm Go.Proofs.YtlpjchighfdomaaW.PrintWords Go.Proofs.YtlpjchighfdomaaW.PrintLast Go.Proofs.YtlpjchighfdomaaW.PrintMore
set_option linter.unusedVariables false
set_option linter.unusedSimpArgs false
attribute [local irreducible] SX SXL SXA St callK Post Evals

instance flatE : Flat kE entC := ⟨fun h => kE_K h, kE_of, fun w base ok x => kE_M w base ok x⟩
instance rowB : RowT Try.prog (Kd.int .u8) 22 5 1 := ⟨Try.underlying22, ⟨_, infoB, rfl⟩, by decide, by decide⟩
instance rowE : RowT Try.prog kE 24 41 32 := ⟨Try.underlying24, ⟨_, infoE, rfl⟩, by decide, by decide⟩
instance rowE8 : RowT Try.prog kE 28 50 32 := ⟨Try.underlying28, ⟨_, infoE8, rfl⟩, by decide, by decide⟩
section
variable {F : List Thing} {K : Ending → List Thing → Prop}
theorem awake08_S (h : K (.returned (.bool true)) F) : Fn (Try.prog) 16 [] F K :=
  Fn.ofVal _ Try.call16 (fun w _ => awake_any w) h
section
variable {A : Option Addr} {c : Nat} {l : List Ent}
theorem After_S (s m : Int) (hr : Ro kE A F l) (hc : l.length ≤ c) (hl : l.length ≤ 4398046511000) (hm0 : -9223372036854775808 ≤ m) (hm1 : m ≤ 9223372036854775807) (h : ∀ r b, afterM l s m = (r, b) → ∀ A' c', r.length ≤ c' → K (.returned (.tuple #[.slice A' r.length c', .bool b])) (.own A' (rowR kE 41 (.slice A' r.length c') r) :: F)) :
    Fn (Try.prog) 32 [.slice A l.length c, .int .u64 s, .int .i64 m] F K :=
  Fn.ofRow kE 41 (fun v => .tuple #[v, .bool (afterM l s m).2]) (afterM l s m).1 Try.call32 (fun w hw => After_any A c l s m w (hw.ro hr) hc hl hm0 hm1) (h _ _ rfl)
end
end
end Go.Proofs.Ytlpjchighfdomaa.Sx
end
section
/- Chapter 8's reference: the entries of bytes; conditions: those that each theorem names. -/
namespace Go.Proofs.Ytlpjchighfdomaa.Sx
open Go.RowKit Go.Proofs.Ytlpjchighfdomaa.Hm Go.Proofs.YtlpjchighfdomaaW.PrintWords Go.Proofs.YtlpjchighfdomaaW.PrintLast Go.Proofs.YtlpjchighfdomaaW.PrintMore
set_option linter.unusedVariables false
set_option linter.unusedSimpArgs false
attribute [local irreducible] SX SXL SXA St callK Post Evals

end Go.Proofs.Ytlpjchighfdomaa.Sx
end
section
/- Numbers and bytes as chapter 1 has them: what is put is got, what is got is put; conditions: those that each theorem names. -/
namespace Go.Proofs.Ytlpjchighfdomaa.Hm
open Go.RowKit Go.Proofs.YtlpjchighfdomaaW.PrintWords Go.Proofs.YtlpjchighfdomaaW.PrintLast Go.Proofs.YtlpjchighfdomaaW.PrintMore
set_option linter.unusedVariables false
set_option linter.unusedSimpArgs false

end Go.Proofs.Ytlpjchighfdomaa.Hm
end
section
/- Chapter 8's entries: what is got is put as the same bytes, what is put is got; conditions: those that each theorem names. -/
namespace Go.Proofs.Ytlpjchighfdomaa.Hm
open Go.RowKit Go.Proofs.YtlpjchighfdomaaW.PrintWords Go.Proofs.YtlpjchighfdomaaW.PrintLast Go.Proofs.YtlpjchighfdomaaW.PrintMore
set_option linter.unusedVariables false
set_option linter.unusedSimpArgs false

end Go.Proofs.Ytlpjchighfdomaa.Hm
end
