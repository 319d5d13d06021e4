/- Part N0 of the lemmas and walks of the Go functions that these statements reach; conditions: those that each theorem names. -/
import Derived.Test.YtanemmcddgkpdaaGreatJN6
import Derived.Test.YtanemmcddgkpdaaGreatJX8
import Derived.Test.YtanemmcddgkpdaaGreatJY6
import Derived.Test.YtanemmcddgkpdaaGreatJX2
import Derived.Test.YtanemmcddgkpdaaGreatJN7
section
/- Chapter 13: a change that touches four things out of a row that grew, walked; conditions: those that each theorem names. -/
namespace Go.Proofs.YtanemmcddgkpdaaGreat.Sx
open Go.RowKit Go.Proofs.YtanemmcddgkpdaaGreat.Hm Go.Proofs.YtanemmcddgkpdaaGreatW.PrintWords Go.Proofs.YtanemmcddgkpdaaGreatW.PrintLast Go.Proofs.YtanemmcddgkpdaaGreatW.PrintMore
set_option linter.unusedVariables false
set_option linter.unusedSimpArgs false
attribute [local irreducible] SX SXL SXA St callK Post Evals
section
variable {P : Program} {fn : Func} {K : Ending → List Thing → Prop} {N : Nat} {k : List It} {a : Fr} {M R : List Thing} {ops : Array Oper} {α : Type} {enc : α → List Value}
/-- A literal's cells as a row of the call's own. -/
theorem SXL.ownLit {l : List Oper} (D : Kd α) (b : Nat) (ys : List α) {cs : List Value} {ty' : TypeId} (hat : At (some ⟨b, 0, none⟩) M (cellsR b cs ty') R) (hrep : ∀ w ok, Reps (D.M w 0 ok) D.sz ys cs) (hl : ys.length ≤ 9223372036854775807)
    (h : SXL P fn K N k ops l a (.own (some ⟨b, 0, none⟩) (rowR D ty' (.slice (some ⟨b, 0, none⟩) ys.length ys.length) ys) :: R)) : SXL P fn K N k ops l a M := by
  refine SXL.mem h (fun w hw => ?_)
  obtain ⟨I, hI, S, hS, hr, hL⟩ := hw.at_ hat
  have hlen := (hrep w (fun k => S k ∧ some k ≠ (Value.slice (some ⟨b, 0, none⟩) ys.length ys.length).ownBlock)).1
  refine ⟨I, hI, S, hS, ⟨fun k hk => ?_, cs, ⟨hlen, .inr ⟨b, ys.length, cs.toArray, rfl, Nat.zero_le _, hr.2, Nat.le_refl _, by simpa [maxLen] using hl, by simpa using hlen, by rw [← hlen]; simp⟩⟩, hrep _ _⟩, hL⟩
  have h1 : b = k := by simpa [Value.ownBlock] using hk
  exact h1 ▸ hr.1
end
theorem infoPt : ((Tryz.prog).info? 116).map (fun i => (i.zero, i.size, i.bytes)) = some (some (.pointer none), 1, 8) := by kernel_rfl
instance rowPt : RowT Tryz.prog (cellsK 1) 133 116 8 := ⟨Tryz.underlying133, ⟨_, infoPt, rfl⟩, by decide, by decide⟩
section
variable {F R R1 R2 : List Thing} {K : Ending → List Thing → Prop} {b pw gg cp cap cc cd ce k1 k2 k3 k4 : Nat} {Ac Ad Ae : Option Addr} {c : Ca} {r : Re}
end
end Go.Proofs.YtanemmcddgkpdaaGreat.Sx
end
section
/- Chapter 13: what is no directory renamed, walked; conditions: those that each theorem names. -/
namespace Go.Proofs.YtanemmcddgkpdaaGreat.Sx
open Go.RowKit Go.Proofs.YtanemmcddgkpdaaGreat.Hm Go.Proofs.YtanemmcddgkpdaaGreatW.PrintWords Go.Proofs.YtanemmcddgkpdaaGreatW.PrintLast Go.Proofs.YtanemmcddgkpdaaGreatW.PrintMore
set_option linter.unusedVariables false
set_option linter.unusedSimpArgs false
attribute [local irreducible] SX SXL SXA St callK Post Evals
section
variable {P : Program} {fn : Func} {K : Ending → List Thing → Prop} {N : Nat} {k : List It} {a : Fr} {M R : List Thing} {ops : Array Oper} {rest : List Oper} {T : List (Nat × TI)} {d : Nat} {ty : TypeId} {pos : String} {af : Array Edge}
end
end Go.Proofs.YtanemmcddgkpdaaGreat.Sx
end
