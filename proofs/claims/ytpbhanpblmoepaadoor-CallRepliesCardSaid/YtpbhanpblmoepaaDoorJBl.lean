/- What a row that lists call.changes says of the heap, and a world that meets it; conditions: those that each theorem names. -/
import Derived.Test.YtpbhanpblmoepaaDoorRows
import Derived.Test.YtpbhanpblmoepaaDoorJX6
import Derived.OpenShut
import Derived.LaidLaws
import Derived.LaidMore
import Derived.LaidHandle
import Derived.MakeChecks
namespace Go.Proofs.YtpbhanpblmoepaaDoor.Sx
open Go.RowKit
set_option linter.unusedVariables false
set_option linter.unusedSimpArgs false
theorem door_met (os : Os) (args : Array Value) : laidMetH Tryd.prog [("removalist/call.changes", Rows.laid_removalist_call_changes)] ((World.doorLaid Tryd.prog 200 os).forCall (fun _ _ => 0) ⟨#[], args, []⟩).memory :=
  laidMetH_of_parts3 (fuel := 8) (laidMet_of_run' 8 (by kernel_rfl) (by kernel_rfl)) (by kernel_rfl) (by kernel_rfl)
theorem bools_of_trod {P : Program} {w : World} {fuel : Nat} {t e n : Nat} {cs : List Value} {bs : List Bool} {p : List MemPlace} (ht : P.underlying t = some (.array n e)) (he : P.underlying e = some .bool) (hc : P.cellsOf e = 1) (hct : P.cellsOf t = bs.length)
    (h : DataW.trod (fun _ => ()) P w 0 (fun _ => true) false fuel t cs = some (.agg (bs.map fun b => .lit (.bool b)), p)) : cs = bs.map Value.bool := by
  obtain ⟨xs, m, rfl, hx, hl, hn, hel⟩ := DataW.trod_array ht h
  simp only [Prod.mk.injEq, DataW.agg.injEq] at hx
  obtain ⟨hx, -⟩ := hx
  have hlen : xs.length = bs.length := by
    have := congrArg List.length hx
    simpa using this.symm
  rw [hct] at hl
  apply List.ext_getElem?
  intro i
  rcases Nat.lt_or_ge i bs.length with hi | hi
  · have h1 := hel i (by omega)
    rw [hc, Nat.mul_one] at h1
    obtain ⟨x, hxi⟩ : ∃ x, xs[i]? = some x := ⟨_, List.getElem?_eq_getElem (by omega)⟩
    rw [hxi] at h1
    obtain ⟨b, h2, h3⟩ := DataW.trod_bool he h1
    have h4 := congrArg (fun l => l[i]?) hx
    simp only [List.getElem?_map, hxi, List.getElem?_eq_getElem hi, Option.map_some, h3, Option.some.injEq, DataW.lit.injEq, Lit.bool.injEq] at h4
    have h5 : cs[i]? = some (.bool b) := by
      have h6 := congrArg (fun l => l[0]?) h2
      simpa using h6
    rw [h5, List.getElem?_map, List.getElem?_eq_getElem hi, ← h4]
    rfl
  · rw [List.getElem?_eq_none (by omega), List.getElem?_eq_none (by simpa using hi)]
theorem of_laid {W : World} (h : laidMetH Tryd.prog [("removalist/call.changes", Rows.laid_removalist_call_changes)] W) : ∃ tg, W.heap[0]? = some (.cells chT.toArray tg (0, 0)) := by
  rw [MakeChecks.laidMetH_plain _ _ _ (by kernel_rfl)] at h
  obtain ⟨ps, ⟨g, t, cs, fuel, p, q, hg, ht, hv, hd, _, hps⟩, _, hrow⟩ := h
  obtain rfl := Option.some.inj ((show Tryd.prog.globalNamed "removalist/call.changes" = some 0 by kernel_rfl).symm.trans hg)
  obtain rfl := Option.some.inj ((show (Tryd.prog.globals[0]?).map (·.type) = some 92 by kernel_rfl).symm.trans ht)
  have hcs : cs.toList = chT := bools_of_trod (bs := [false, false, false, true, false, true, true, true, true, false, true, true, true, true, false, false, false]) Tryd.underlying92 Tryd.underlying4 (by kernel_rfl) (by kernel_rfl) hd
  have hca : cs = chT.toArray := by rw [← hcs]
  obtain ⟨⟨c', t', hb⟩, -⟩ := hrow 0 0 (by
    rw [hps, hca]
    simp [MemPlace.row, chT])
  refine ⟨t', ?_⟩
  rw [hb]
  have h9 : c' = cs := by
    unfold World.var? at hv
    rw [hg, Option.bind_some, hb] at hv
    exact Option.some.inj hv
  rw [h9, hca]
end Go.Proofs.YtpbhanpblmoepaaDoor.Sx
