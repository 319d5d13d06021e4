/- Part Z1 of the lemmas and walks of the Go functions that these statements reach; conditions: those that each theorem names. -/
import Derived.Test.YtanemmcddgkpdaaGreatJX8
import Derived.Test.YtanemmcddgkpdaaGreatJX2
section
/- Chapter 21: a client, pure: what it asks for, what it is told, how long it waits; conditions: those that each theorem names. -/
namespace Go.Proofs.YtanemmcddgkpdaaGreat.Hm
open Go.RowKit Go.Proofs.YtanemmcddgkpdaaGreatW.PrintWords Go.Proofs.YtanemmcddgkpdaaGreatW.PrintLast Go.Proofs.YtanemmcddgkpdaaGreatW.PrintMore
set_option linter.unusedVariables false
set_option linter.unusedSimpArgs false
structure Cl where
  pa : Int
  le : Int
  id : Int
  pl : Int
  last : Int
  op : Bool
  c : Ca
structure Cl.wf (s : Cl) : Prop where
  pa : 1 ≤ s.pa ∧ s.pa ≤ 8
  le : 1 ≤ s.le ∧ s.le ≤ 8
  id : u32ok s.id
  pl : 0 ≤ s.pl ∧ s.pl ≤ 15
  last : u32ok s.last
  c : s.c.wf
def more8 (p : Int) : Int := if 2 * p ≤ 8 then 2 * p else 8
abbrev again (s : Cl) : Cl := ⟨more8 s.pa, more8 s.pa, s.id, s.pl, s.last, s.op, s.c⟩
end Go.Proofs.YtanemmcddgkpdaaGreat.Hm
end
section
/- Go code walked by what is known of slots and memory: the lesser, and the greater, of two numbers; conditions: those that each theorem names. -/
namespace Go.Proofs.YtanemmcddgkpdaaGreat.Sx
open Go.RowKit Go.Proofs.YtanemmcddgkpdaaGreat.Hm Go.Proofs.YtanemmcddgkpdaaGreatW.PrintWords Go.Proofs.YtanemmcddgkpdaaGreatW.PrintLast Go.Proofs.YtanemmcddgkpdaaGreatW.PrintMore
set_option linter.unusedVariables false
set_option linter.unusedSimpArgs false
section
variable {P : Program} {fn : Func} {K : Ending → List Thing → Prop} {N : Nat} {k k' : List It} {a : Fr} {M M0 R : List Thing} {ops : Array Oper} {rest : List Oper} {T : List (Nat × TI)}
variable {d id : Nat} {op : Op} {ty : TypeId} {pos : String} {af : Array Edge} {ds : List Nat} {fuel : Nat} {l : Array Bool}
theorem SXL.min {x y : Operand} {ts : Array TypeId} {ik : IntKind} {u v : Int} (hx : evalO a x = some (.int ik u)) (hy : evalO a y = some (.int ik v)) (hd : Nat.blt d N = true)
    (hK : SXL P fn K N k ops rest ((d, .int ik (if v < u then v else u)) :: a) M) : SXL P fn K N k ops (⟨some d, .call ⟨.builtin .min, #[x, y], ts⟩, ty, pos, af, none⟩ :: rest) a M :=
  SXL.val hd (fun act w st => by
    simp [execOp, resolve, invoke, builtin, evalO_ok st.fits hx, evalO_ok st.fits hy, Builtin.min_, Builtin.min2, Sem.run_bind, Sem.run_pure]) hK
theorem SXL.max {x y : Operand} {ts : Array TypeId} {ik : IntKind} {u v : Int} (hx : evalO a x = some (.int ik u)) (hy : evalO a y = some (.int ik v)) (hd : Nat.blt d N = true)
    (hK : SXL P fn K N k ops rest ((d, .int ik (if u < v then v else u)) :: a) M) : SXL P fn K N k ops (⟨some d, .call ⟨.builtin .max, #[x, y], ts⟩, ty, pos, af, none⟩ :: rest) a M :=
  SXL.val hd (fun act w st => by
    simp [execOp, resolve, invoke, builtin, evalO_ok st.fits hx, evalO_ok st.fits hy, Builtin.max_, Builtin.max2, Sem.run_bind, Sem.run_pure]) hK
end
end Go.Proofs.YtanemmcddgkpdaaGreat.Sx
end
