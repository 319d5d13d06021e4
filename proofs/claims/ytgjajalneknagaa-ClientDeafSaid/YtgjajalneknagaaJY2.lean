/- Chapter 16's laws: what they call; the reference of wire, walked: what is put, what is the same; conditions: those that each theorem names. -/
import Derived.Test.YtgjajalneknagaaJX5
import Derived.Test.YtgjajalneknagaaJY1
namespace Go.Proofs.Ytgjajalneknagaa.Sx
open Go.RowKit Go.Proofs.Ytgjajalneknagaa.Hm Go.Proofs.YtgjajalneknagaaW.PrintWords Go.Proofs.YtgjajalneknagaaW.PrintLast Go.Proofs.YtgjajalneknagaaW.PrintMore
set_option linter.unusedVariables false
set_option linter.unusedSimpArgs false
attribute [local irreducible] SX SXL SXA St callK Post Evals

instance eqWt : EqT Try.prog 68 := ⟨by kernel_rfl, by kernel_rfl, by kernel_rfl⟩
def rtC (s : Ctl) : List Value := [.int .u32 s.k, .int .u64 s.ep, .int .u64 s.sq, .int .u32 s.pl, .string (strOfNums s.d)]
def mrC (m : Msg) (B : Option Addr) (b : Nat) : List Value := [.int .u32 m.k,
  .int .u32 m.c.client, .int .u32 m.c.xid, .int .u32 m.c.op, .int .u32 m.c.ai, .int .u32 m.c.ag, .string m.c.name, .int .u32 m.c.ti, .int .u32 m.c.tg, .string m.c.toName, .int .u64 m.c.off, .int .u64 m.c.verf, .int .u32 m.c.cnt, .int .u32 m.c.mode, .string (strOfNums m.c.d),
  .int .u32 m.r.client, .int .u32 m.r.xid, .int .i64 m.r.st, .int .u32 m.r.ai, .int .u32 m.r.ag, .int .u32 m.r.ak, .int .u32 m.r.am, .int .u32 m.r.al, .int .u32 m.r.sz, .int .u64 m.r.ac, .string (strOfNums m.r.d), .slice B m.r.e.length b, .bool m.r.eof, .int .u64 m.r.verf, .int .u32 m.r.free,
  .int .u32 m.t.k, .int .u64 m.t.ep, .int .u64 m.t.sq, .int .u32 m.t.pl, .string (strOfNums m.t.d)]
section
variable {F R : List Thing} {K : Ending → List Thing → Prop} {A B C D : Option Addr} {c c2 a1 a2 a3 a4 : Nat}
end
end Go.Proofs.Ytgjajalneknagaa.Sx
