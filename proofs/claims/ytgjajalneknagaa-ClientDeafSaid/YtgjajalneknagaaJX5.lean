/- Part X5 of the lemmas and walks of the Go functions that these statements reach; conditions: those that each theorem names. -/
import Derived.Test.YtgjajalneknagaaJX4
section
/- The reference of call, walked: what is put; conditions: those that each theorem names. -/
namespace Go.Proofs.Ytgjajalneknagaa.Sx
open Go.RowKit Go.Proofs.Ytgjajalneknagaa.Hm Go.Proofs.YtgjajalneknagaaW.PrintWords Go.Proofs.YtgjajalneknagaaW.PrintLast Go.Proofs.YtgjajalneknagaaW.PrintMore
set_option linter.unusedVariables false
set_option linter.unusedSimpArgs false
attribute [local irreducible] SX SXL SXA St callK Post Evals

instance eqHt : EqT Try.prog 30 := ⟨by kernel_rfl, by kernel_rfl, by kernel_rfl⟩
instance eqAt : EqT Try.prog 63 := ⟨by kernel_rfl, by kernel_rfl, by kernel_rfl⟩
instance eqEt : EqT Try.prog 102 := ⟨by kernel_rfl, by kernel_rfl, by kernel_rfl⟩
instance eqCt : EqT Try.prog 33 := ⟨by kernel_rfl, by kernel_rfl, by kernel_rfl⟩
instance eqNt : EqN Try.prog [30] := ⟨by kernel_rfl⟩
def raC (s : Ca) : List Value := [.int .u32 s.client, .int .u32 s.xid, .int .u32 s.op, .int .u32 s.ai, .int .u32 s.ag, .string s.name, .int .u32 s.ti, .int .u32 s.tg, .string s.toName, .int .u64 s.off, .int .u64 s.verf, .int .u32 s.cnt, .int .u32 s.mode, .string (strOfNums s.d)]
def rrC (s : Re) (B : Option Addr) (c2 : Nat) : List Value := [.int .u32 s.client, .int .u32 s.xid, .int .i64 s.st, .int .u32 s.ai, .int .u32 s.ag, .int .u32 s.ak, .int .u32 s.am, .int .u32 s.al, .int .u32 s.sz, .int .u64 s.ac, .string (strOfNums s.d), .slice B s.e.length c2, .bool s.eof, .int .u64 s.verf, .int .u32 s.free]
section
variable {F R : List Thing} {K : Ending → List Thing → Prop} {A B : Option Addr} {c c2 : Nat}
end
end Go.Proofs.Ytgjajalneknagaa.Sx
end
section
/- The reference of call, walked: replies put, replies that are the same; conditions: those that each theorem names. -/
namespace Go.Proofs.Ytgjajalneknagaa.Sx
open Go.RowKit Go.Proofs.Ytgjajalneknagaa.Hm Go.Proofs.YtgjajalneknagaaW.PrintWords Go.Proofs.YtgjajalneknagaaW.PrintLast Go.Proofs.YtgjajalneknagaaW.PrintMore
set_option linter.unusedVariables false
set_option linter.unusedSimpArgs false
attribute [local irreducible] SX SXL SXA St callK Post Evals

section
variable {F R : List Thing} {K : Ending → List Thing → Prop} {A B : Option Addr} {c c2 : Nat}
end
end Go.Proofs.Ytgjajalneknagaa.Sx
end
