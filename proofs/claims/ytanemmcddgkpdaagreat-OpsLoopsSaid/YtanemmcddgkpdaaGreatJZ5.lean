/- Go code walked by what is known of slots and memory: rows whose elements hold rows: each element's cells, and what they lead to; conditions: those that each theorem names. -/
import Derived.Test.YtanemmcddgkpdaaGreatJX2
namespace Go.Proofs.YtanemmcddgkpdaaGreat.Sx
open Go.RowKit Go.Proofs.YtanemmcddgkpdaaGreat.Hm Go.Proofs.YtanemmcddgkpdaaGreatW.PrintWords Go.Proofs.YtanemmcddgkpdaaGreatW.PrintLast Go.Proofs.YtanemmcddgkpdaaGreatW.PrintMore
set_option linter.unusedVariables false
set_option linter.unusedSimpArgs false
abbrev CellsN (n : Nat) := {l : List Value // l.length = n ∧ ∀ u ∈ l, u.oneCell' = true}
/-- Elements told by their cells. -/
def cellsK (n : Nat) : Kd (CellsN n) where
  sz := n
  E := []
  K := fun _ x cs => cs = x.1
  M := fun _ _ _ x cs => cs = x.1
  K_len := by rintro w x cs rfl; exact x.2.1
  K_one := by rintro w x cs rfl; exact x.2.2
  K_below := fun _ h => h
  K_of_M := fun h => h
  M_mono := fun _ h => h
  M_bound := fun h => h
  M_move := fun _ h => h
  M_lower := fun _ h => h
instance flatCells (n : Nat) : Flat (cellsK n) (fun x => x.1) := ⟨fun h => h, fun _ _ => rfl, fun _ _ _ _ => rfl⟩
section
variable {P : Program} {fn : Func} {K : Ending → List Thing → Prop} {N : Nat} {k : List It} {a : Fr} {M : List Thing} {α : Type} {D : Kd α} {xs : List α}
end
/-- What is so of no memory. -/
def pureR (p : Prop) : Res where
  P := fun _ _ => p
  mono := fun h _ => h
  loc := fun h _ _ => h
theorem SX.pure {P : Program} {fn : Func} {K : Ending → List Thing → Prop} {N : Nat} {k : List It} {a : Fr} {M : List Thing} (p : Prop) [hr : Has (pureR p) M] (h : p → SX P fn K N k a M) : SX P fn K N k a M := fun act w s => by
  obtain ⟨I, hI, hL⟩ := s.holds
  exact h (hr.h _ _ _ hL) act w s
/-! ### what an element's cells lead to, part by part -/
section
variable {α β : Type} {w : World} {S : Nat → Prop} {cs : List Value}
end
end Go.Proofs.YtanemmcddgkpdaaGreat.Sx
