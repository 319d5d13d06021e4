/- Part Z1 of the lemmas and walks of the Go functions that these statements reach; conditions: those that each theorem names. -/
import Derived.Test.YtanemmcddgkpdaaGreatJX8
import Derived.Test.YtanemmcddgkpdaaGreatJX2
section
/- Chapter 21: a client, pure: what it asks for, what it is told, how long it waits; conditions: those that each theorem names. -/
namespace Go.Proofs.YtanemmcddgkpdaaGreat.Hm
open Go.RowKit Go.Proofs.YtanemmcddgkpdaaGreatW.PrintWords Go.Proofs.YtanemmcddgkpdaaGreatW.PrintLast Go.Proofs.YtanemmcddgkpdaaGreatW.PrintMore
set_option linter.unusedVariables false
set_option linter.unusedSimpArgs false
structure Cl where
  pa : Int
  le : Int
  id : Int
  pl : Int
  last : Int
  op : Bool
  c : Ca
abbrev clC (s : Cl) (D : Option Addr) (d : Nat) : List Value := [.int .i64 s.pa, .int .i64 s.le, .int .u32 s.id, .int .i64 s.pl, .int .u32 s.last, .bool s.op,
  .int .u32 s.c.client, .int .u32 s.c.xid, .int .u32 s.c.op, .int .u32 s.c.ai, .int .u32 s.c.ag, .string s.c.name, .int .u32 s.c.ti, .int .u32 s.c.tg, .string s.c.toName, .int .u64 s.c.off, .int .u64 s.c.verf, .int .u32 s.c.cnt, .int .u32 s.c.mode, .slice D s.c.d.length d]
abbrev ouC (pl : Int) (c : Ca) (A : Option Addr) (a : Nat) : List Value := [.int .i64 pl, .int .u32 1,
  .int .u32 c.client, .int .u32 c.xid, .int .u32 c.op, .int .u32 c.ai, .int .u32 c.ag, .string c.name, .int .u32 c.ti, .int .u32 c.tg, .string c.toName, .int .u64 c.off, .int .u64 c.verf, .int .u32 c.cnt, .int .u32 c.mode, .slice A c.d.length a,
  .int .u32 0, .int .u32 0, .int .i64 0, .int .u32 0, .int .u32 0, .int .u32 0, .int .u32 0, .int .u32 0, .int .u32 0, .int .u64 0, .slice none 0 0, .slice none 0 0, .bool false, .int .u64 0, .int .u32 0,
  .int .u32 0, .int .u64 0, .int .u64 0, .int .u32 0, .slice none 0 0]
structure Cl.wf (s : Cl) : Prop where
  pa : 1 ≤ s.pa ∧ s.pa ≤ 8
  le : 1 ≤ s.le ∧ s.le ≤ 8
  id : u32ok s.id
  pl : 0 ≤ s.pl ∧ s.pl ≤ 15
  last : u32ok s.last
  c : s.c.wf
abbrev clN (id pl : Int) : Cl := ⟨0, 0, id, pl, 0, false, ⟨0, 0, 0, 0, 0, ⟨#[]⟩, 0, 0, ⟨#[]⟩, 0, 0, 0, 0, []⟩⟩
/-- What is asked for. -/
abbrev asked (s : Cl) (x : Ca) : Ca := ⟨s.id, (s.last + 1) % 4294967296, x.op, x.ai, x.ag, x.name, x.ti, x.tg, x.toName, x.off, x.verf, x.cnt, x.mode, x.d⟩
abbrev begunC (s : Cl) (x : Ca) : Cl := ⟨1, 1, s.id, s.pl, (s.last + 1) % 4294967296, true, asked s x⟩
abbrev moved (s : Cl) (k : Int) : Cl := ⟨1, 1, s.id, k, s.last, s.op, s.c⟩
abbrev shut (s : Cl) : Cl := ⟨s.pa, s.le, s.id, s.pl, s.last, false, s.c⟩
/-- A tick that isn't the last one, and one that is. -/
abbrev waits (s : Cl) : Cl := ⟨s.pa, s.le - 1, s.id, s.pl, s.last, s.op, s.c⟩
def more8 (p : Int) : Int := if 2 * p ≤ 8 then 2 * p else 8
abbrev againN (s : Cl) (n : Int) : Cl := ⟨n, n, s.id, s.pl, s.last, s.op, s.c⟩
abbrev again (s : Cl) : Cl := ⟨more8 s.pa, more8 s.pa, s.id, s.pl, s.last, s.op, s.c⟩
end Go.Proofs.YtanemmcddgkpdaaGreat.Hm
end
section
/- Go code walked by what is known of slots and memory: the lesser, and the greater, of two numbers; conditions: those that each theorem names. -/
namespace Go.Proofs.YtanemmcddgkpdaaGreat.Sx
open Go.RowKit Go.Proofs.YtanemmcddgkpdaaGreat.Hm Go.Proofs.YtanemmcddgkpdaaGreatW.PrintWords Go.Proofs.YtanemmcddgkpdaaGreatW.PrintLast Go.Proofs.YtanemmcddgkpdaaGreatW.PrintMore
set_option linter.unusedVariables false
set_option linter.unusedSimpArgs false
section
variable {P : Program} {fn : Func} {K : Ending → List Thing → Prop} {N : Nat} {k k' : List It} {a : Fr} {M M0 R : List Thing} {ops : Array Oper} {rest : List Oper} {T : List (Nat × TI)}
variable {d id : Nat} {op : Op} {ty : TypeId} {pos : String} {af : Array Edge} {ds : List Nat} {fuel : Nat} {l : Array Bool}
theorem SXL.min {x y : Operand} {ts : Array TypeId} {ik : IntKind} {u v : Int} (hx : evalO a x = some (.int ik u)) (hy : evalO a y = some (.int ik v)) (hd : Nat.blt d N = true)
    (hK : SXL P fn K N k ops rest ((d, .int ik (if v < u then v else u)) :: a) M) : SXL P fn K N k ops (⟨some d, .call ⟨.builtin .min, #[x, y], ts⟩, ty, pos, af, none⟩ :: rest) a M :=
  SXL.val hd (fun act w st => by
    simp [execOp, resolve, invoke, builtin, evalO_ok st.fits hx, evalO_ok st.fits hy, Builtin.min_, Builtin.min2, Sem.run_bind, Sem.run_pure]) hK
theorem SXL.max {x y : Operand} {ts : Array TypeId} {ik : IntKind} {u v : Int} (hx : evalO a x = some (.int ik u)) (hy : evalO a y = some (.int ik v)) (hd : Nat.blt d N = true)
    (hK : SXL P fn K N k ops rest ((d, .int ik (if u < v then v else u)) :: a) M) : SXL P fn K N k ops (⟨some d, .call ⟨.builtin .max, #[x, y], ts⟩, ty, pos, af, none⟩ :: rest) a M :=
  SXL.val hd (fun act w st => by
    simp [execOp, resolve, invoke, builtin, evalO_ok st.fits hx, evalO_ok st.fits hy, Builtin.max_, Builtin.max2, Sem.run_bind, Sem.run_pure]) hK
end
end Go.Proofs.YtanemmcddgkpdaaGreat.Sx
end
