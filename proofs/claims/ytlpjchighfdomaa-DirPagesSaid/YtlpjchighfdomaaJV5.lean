/- Part V5 of the lemmas and walks of the Go functions that these statements reach; conditions: those that each theorem names. -/
import Derived.Test.YtlpjchighfdomaaJU
import Derived.Test.YtlpjchighfdomaaJV4
section
/- The Go package xdr's writer, as a thing; conditions: those that each theorem names. -/
namespace Go.Proofs.Ytlpjchighfdomaa.Sx
open Go.RowKit Go.Proofs.Ytlpjchighfdomaa.Hm Go.Proofs.YtlpjchighfdomaaW.PrintWords Go.Proofs.YtlpjchighfdomaaW.PrintLast Go.Proofs.YtlpjchighfdomaaW.PrintMore
set_option linter.unusedVariables false
set_option linter.unusedSimpArgs false
attribute [local irreducible] SX SXL SXA St callK Post Evals

section
variable {F R : List Thing} {K : Ending → List Thing → Prop} {p : Nat} {xs : List Int}
end
end Go.Proofs.Ytlpjchighfdomaa.Sx
end
section
/- The Go package xdr's reader, walked by what is known; conditions: those that each theorem names. -/
namespace Go.Proofs.Ytlpjchighfdomaa.Sx
open Go.RowKit Go.Proofs.Ytlpjchighfdomaa.Hm Go.Proofs.YtlpjchighfdomaaW.PrintWords Go.Proofs.YtlpjchighfdomaaW.PrintLast Go.Proofs.YtlpjchighfdomaaW.PrintMore
set_option linter.unusedVariables false
set_option linter.unusedSimpArgs false
attribute [local irreducible] SX SXL SXA St callK Post Evals

theorem Fn.at_ {P : Program} {f : FuncId} {args : List Value} {F R : List Thing} {K : Ending → List Thing → Prop} {key : Option Addr} {r : Res} (hat : At key F r R) (h : Fn P f args (.own key r :: R) K) : Fn P f args F K := h.mem (fun w hw => hw.at_ hat)
instance (priority := 2000) Sub.nilRo {α : Type} {D : Kd α} {M M' : List Thing} [s : Sub M M'] : Sub M (.per (roR D none ([] : List α)) :: M') := ⟨fun w I U h => ⟨Kd.F_nil D w _, s.h w I U h⟩⟩
section
variable {F R : List Thing} {K : Ending → List Thing → Prop} {p : Nat} {xs : List Int} {A : Option Addr} {c : Nat} {e : Int}
theorem BClone_S (hr : Ro (Kd.int .u8) A F xs) (hc : xs.length ≤ c) (hl : xs.length ≤ 140737488355327) (h : ∀ A' c', xs.length ≤ c' → K (.returned (.slice A' xs.length c')) (.own A' (rowR (Kd.int .u8) 5 (.slice A' xs.length c') xs) :: F)) :
    Fn (Try.prog) 80 [.slice A xs.length c] F K :=
  Fn.ofRow (Kd.int .u8) 5 (fun v => v) xs Try.call80 (fun w hw => slices_Clone.calls A c xs xs w (hw.ro hr) hc (by unfold slices_Clone.f; rw [if_pos hl])) h
theorem fill_S (n : Nat) (hn : n ≤ 140737488355328) (h : K (.returned (.int .i64 (((4 - n % 4) % 4 : Nat) : Int))) F) : Fn (Try.prog) 85 [.int .i64 (n : Int)] F K :=
  Fn.ofSame _ Try.call85 (fun w _ => fill_any n w hn) h
/-- A reader, with what is left and its first error. -/
abbrev rdT (p : Nat) (A : Option Addr) (n c : Nat) (e : Int) : Thing := .own (some ⟨p, 0, none⟩) (cellsR p [.slice A n c, .int .i64 e] 127)
end
end Go.Proofs.Ytlpjchighfdomaa.Sx
end
