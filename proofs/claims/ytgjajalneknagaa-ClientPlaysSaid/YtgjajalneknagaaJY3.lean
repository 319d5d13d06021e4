/- Chapter 16's laws WirePuts and WireUnlike, walked, and the chapter's example; conditions: those that each theorem names. -/
import Derived.Test.YtgjajalneknagaaJY2
namespace Go.Proofs.Ytgjajalneknagaa.Sx
open Go.RowKit Go.Proofs.Ytgjajalneknagaa.Hm Go.Proofs.YtgjajalneknagaaW.PrintWords Go.Proofs.YtgjajalneknagaaW.PrintLast Go.Proofs.YtgjajalneknagaaW.PrintMore
set_option linter.unusedVariables false
set_option linter.unusedSimpArgs false
attribute [local irreducible] SX SXL SXA St callK Post Evals

theorem wf_of_ok {e : Ent} (h : (Lit.int .u64 e.c).wf = true ∧ ((Lit.int .u32 e.i).wf = true ∧ (Lit.int .u32 e.g).wf = true) ∧ e.s.size ≤ maxLen) : e.wf :=
  ⟨(u64_of_wf _ h.1).1, (u64_of_wf _ h.1).2, (u32_of_wf _ h.2.1.1).1, (u32_of_wf _ h.2.1.1).2, (u32_of_wf _ h.2.1.2).1, (u32_of_wf _ h.2.1.2).2⟩
theorem heapE : Kd.Heap kE := Kd.heap_iso _ (Kd.heap_pair (Kd.heap_int _) (Kd.heap_pair (Kd.heap_iso _ (Kd.heap_pair (Kd.heap_int _) (Kd.heap_int _))) Kd.heap_string))
theorem Re0_wf : Re0.wf := (getRe_wf (b := []) rfl (show getRe [] = (Re0, 10) from by kernel_rfl)).1
theorem Ctl0_wf : Ctl0.wf := (getCt_wf (b := []) rfl (show getCt [] = (Ctl0, 10) from by kernel_rfl)).1
section
variable {F R : List Thing} {K : Ending → List Thing → Prop} {A B C D A' B' C' D' : Option Addr} {a1 a2 a3 a4 b1 b2 b3 b4 : Nat}
end
end Go.Proofs.Ytgjajalneknagaa.Sx
