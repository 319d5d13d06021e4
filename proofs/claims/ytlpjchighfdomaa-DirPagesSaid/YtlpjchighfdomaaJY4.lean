/- Go code walked by what is known of slots and memory: shifts by a number that isn't known; conditions: those that each theorem names. -/
import Derived.Test.YtlpjchighfdomaaJX2
namespace Go.Proofs.Ytlpjchighfdomaa.Sx
open Go.RowKit Go.Proofs.Ytlpjchighfdomaa.Hm Go.Proofs.YtlpjchighfdomaaW.PrintWords Go.Proofs.YtlpjchighfdomaaW.PrintLast Go.Proofs.YtlpjchighfdomaaW.PrintMore
set_option linter.unusedVariables false
set_option linter.unusedSimpArgs false

section
variable {P : Program} {fn : Func} {K : Ending → List Thing → Prop} {N : Nat} {k k' : List It} {a : Fr} {M M0 R : List Thing} {ops : Array Oper} {rest : List Oper} {T : List (Nat × TI)}
variable {d id : Nat} {op : Op} {ty : TypeId} {pos : String} {af : Array Edge} {ds : List Nat} {fuel : Nat} {l : Array Bool}
theorem SXL.shr {t t' : Nat} {x y : Operand} {ik jk : IntKind} {u v : Int} (hx : evalO a x = some (.int ik u)) (hy : evalO a y = some (.int jk v)) (hv : 0 ≤ v) (hd : Nat.blt d N = true)
    (hK : SXL P fn K N k ops rest ((d, .int ik (shrI ik u v)) :: a) M) : SXL P fn K N k ops (⟨some d, .binOp .shr t x y t', ty, pos, af, none⟩ :: rest) a M :=
  SXL.val hd (fun act w st => by
    have hn : ¬ v < 0 := by omega
    simp [execOp, evalO_ok st.fits hx, evalO_ok st.fits hy, eqGuard, binOp, Op.shift, Sem.run_bind, hn, shrI]) hK
theorem SXL.shl {t t' : Nat} {x y : Operand} {ik jk : IntKind} {u v : Int} (hx : evalO a x = some (.int ik u)) (hy : evalO a y = some (.int jk v)) (hv : 0 ≤ v) (hd : Nat.blt d N = true)
    (hK : SXL P fn K N k ops rest ((d, .int ik (shlI ik u v)) :: a) M) : SXL P fn K N k ops (⟨some d, .binOp .shl t x y t', ty, pos, af, none⟩ :: rest) a M :=
  SXL.val hd (fun act w st => by
    have hn : ¬ v < 0 := by omega
    simp [execOp, evalO_ok st.fits hx, evalO_ok st.fits hy, eqGuard, binOp, Op.shift, Sem.run_bind, hn, shlI]) hK
end
end Go.Proofs.Ytlpjchighfdomaa.Sx
