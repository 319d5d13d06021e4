/- Rows of handles, and of yes and no, by their cells; conditions: those that each theorem names. -/
import Derived.Test.YtanemmcddgkpdaaGreatJN0
namespace Go.Proofs.YtanemmcddgkpdaaGreat.Sx
open Go.RowKit Go.Proofs.YtanemmcddgkpdaaGreat.Hm Go.Proofs.YtanemmcddgkpdaaGreatW.PrintWords Go.Proofs.YtanemmcddgkpdaaGreatW.PrintLast Go.Proofs.YtanemmcddgkpdaaGreatW.PrintMore
set_option linter.unusedVariables false
set_option linter.unusedSimpArgs false
attribute [local irreducible] SX SXL SXA St callK Post Evals
/-- A handle's cells. -/
def hX (p : Int × Int) : CellsN 2 := ⟨[.int .u32 p.1, .int .u32 p.2], rfl, fun u hu => by
  rcases List.mem_cons.1 hu with rfl | hu
  · rfl
  · obtain rfl := List.mem_singleton.1 hu; rfl⟩
def bX (v : Bool) : CellsN 1 := ⟨[.bool v], rfl, fun u hu => by obtain rfl := List.mem_singleton.1 hu; rfl⟩
theorem infoH : ((Tryz.prog).info? 35).map (fun i => (i.zero, i.size, i.bytes)) = some (some (.agg #[.int .u32 0, .int .u32 0]), 2, 8) := by kernel_rfl
instance rowHd : RowT Tryz.prog (cellsK 2) 36 35 8 := ⟨Tryz.underlying36, ⟨_, infoH, rfl⟩, by decide, by decide⟩
theorem infoBo : ((Tryz.prog).info? 4).map (fun i => (i.zero, i.size, i.bytes)) = some (some (.bool false), 1, 1) := by kernel_rfl
instance rowBo : RowT Tryz.prog (cellsK 1) 68 4 1 := ⟨Tryz.underlying68, ⟨_, infoBo, rfl⟩, by decide, by decide⟩
instance eqH13 : EqT Tryz.prog 35 := ⟨by kernel_rfl, by kernel_rfl, by kernel_rfl⟩
end Go.Proofs.YtanemmcddgkpdaaGreat.Sx
