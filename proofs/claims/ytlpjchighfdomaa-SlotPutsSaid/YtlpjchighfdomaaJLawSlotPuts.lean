/- The row of the statement SlotPuts: it holds as given, out of the walk of its Go function; no condition. -/
import Derived.Test.YtlpjchighfdomaaRows
import Derived.Test.YtlpjchighfdomaaJLawG
import Derived.Test.YtlpjchighfdomaaJA
import Derived.WalkKit
import Derived.ProofKit
import Derived.OpenShut
import Derived.ShutString
import Derived.ChangeOld
import Derived.Below
import Derived.Carry
import Derived.SizedLaws
namespace Go.Proofs.Ytlpjchighfdomaa.slotPuts
open Go.ChangeShapes Go.WideShapes Go.ChangeAt Go.RowKit
open Go.ChangeMaps (open_string shut_string)
open Go.Proofs.YtlpjchighfdomaaW.PrintWords
set_option linter.unusedVariables false
theorem own : ownKnob Try.prog.godebug = none := by kernel_rfl
theorem laidOut : laidOutB Try.prog = true := by kernel_rfl
set_option maxRecDepth 100000 in
theorem lifted (os : Os) (started : os.Started) (H : Type) (enc : TypeId × Value → H) :
    ReturnsInHanded {} Try.checked os 10 .any (Rows.slotPutsSpec.pre6 enc Try.prog Try.f10 Rows.slotPutsRow.domain false) (Rows.slotPutsSpec.post enc Try.prog Try.f10 false true false false) := by
  refine returnsInHanded_of_change_sized (C := Try.checked) own started (by kernel_rfl) Try.func10
    (ChangeSpec.witness6 (enc := enc) (C := Try.checked) false ⟨#[], #[.agg #[.int .u32 0, .int .u32 0, .int .u32 0, .int .u32 0, .int .u32 0, .int .u64 0, .int .u64 0, .int .u64 0, .slice none 0 0], .agg #[.int .u32 0, .int .u32 0, .int .u32 0, .int .u32 0, .int .u32 0, .int .u64 0, .int .u64 0, .int .u64 0, .slice none 0 0]], []⟩ 8 (by kernel_rfl) (by kernel_rfl) (by kernel_rfl) (by kernel_rfl)) ?_
  intro W base args ds gs before hval0 hW hcnd hsz0 _
  have hsz : (DataW.weightsEach Try.prog (Try.f10.params.toList ++ Rows.slotPutsSpec.plain.varTypes Try.prog) (ds ++ gs)).all (· ≤ reachBytes) = true := hsz0
  have hval : ∀ (j : Nat) t v, Try.f10.params[j]? = some t → args[j]? = some v → Value.okWide Try.prog W .any base t v := hval0
  have hW' := hW
  obtain ⟨p, q, hA0, hV, rfl, hfz, hnd⟩ := hW
  have hA : DataW.TrodAll enc Try.prog W 0 (fun _ => true) true Try.f10.params.toList args.toList ds p := hA0
  rw [Try.params10] at hA hval hsz
  obtain ⟨v0, vs0, d0, ds0, p0, q0, hargs, rfl, rfl, h0, r0⟩ := trodAll_cons hA
  obtain ⟨v1, vs1, d1, ds1, p1, q1, rfl, rfl, rfl, h1, r1⟩ := trodAll_cons r0
  obtain ⟨rfl, rfl, rfl⟩ := trodAll_nil r1
  obtain rfl : args = #[v0, v1] := by cases args; simp_all
  obtain ⟨rfl, rfl⟩ := trodVars_none hV
  have k0 := h0
  have lt0 : ∀ x ∈ p0, x.block < W.heap.size := by obtain ⟨m, hm⟩ := k0; exact DataW.trod_lt m _ _ _ hm
  obtain ⟨q0, rfl, hq0⟩ := okWide_struct Try.underlying66 (hval 0 66 v0 rfl rfl)
  obtain ⟨fuel0, hf0⟩ := h0
  obtain ⟨⟨a0_0, ⟨a0_1, ⟨a0_2, ⟨a0_3, ⟨a0_4, ⟨a0_5, ⟨a0_6, ⟨a0_7, l0_8⟩⟩⟩⟩⟩⟩⟩⟩, hK0, ⟨w0_0, ⟨w0_1, ⟨w0_2, ⟨w0_3, ⟨w0_4, ⟨w0_5, ⟨w0_6, ⟨w0_7, w0_8⟩⟩⟩⟩⟩⟩⟩⟩⟩ := (Hm.opens_struct id id (fun _ => rfl) Try.underlying66 (by kernel_rfl) (Hm.opensF_cons (Hm.opens_int Try.underlying37) (Hm.opensF_cons (Hm.opens_int Try.underlying37) (Hm.opensF_cons (Hm.opens_int Try.underlying37) (Hm.opensF_cons (Hm.opens_int Try.underlying37) (Hm.opensF_cons (Hm.opens_int Try.underlying37) (Hm.opensF_cons (Hm.opens_int Try.underlying36) (Hm.opensF_cons (Hm.opens_int Try.underlying36) (Hm.opensF_cons (Hm.opens_int Try.underlying36) (Hm.opensF_one (Hm.opens_slice 5 Try.underlying22 (by kernel_rfl) (Hm.opens_int Try.underlying5)))))))))))) H enc W 0 _ true fuel0 _ _ hf0
  obtain ⟨e0, e1, he0, rfl, ⟨_, _, rfl, rfl, ⟨_, _, rfl, rfl, ⟨_, _, rfl, rfl, ⟨_, _, rfl, rfl, ⟨_, _, rfl, rfl, ⟨_, _, rfl, rfl, ⟨_, _, rfl, rfl, ⟨A0_8, c0_8, rfl, hc0_8, hr0_8⟩⟩⟩⟩⟩⟩⟩⟩⟩ := hK0
  obtain rfl : q0 = #[.int .u32 a0_0, .int .u32 a0_1, .int .u32 a0_2, .int .u32 a0_3, .int .u32 a0_4, .int .u64 a0_5, .int .u64 a0_6, .int .u64 a0_7, .slice A0_8 l0_8.length c0_8] := by apply Array.ext'; simpa [Value.cells] using he0
  have k1 := h1
  have lt1 : ∀ x ∈ p1, x.block < W.heap.size := by obtain ⟨m, hm⟩ := k1; exact DataW.trod_lt m _ _ _ hm
  obtain ⟨q1, rfl, hq1⟩ := okWide_struct Try.underlying66 (hval 1 66 v1 rfl rfl)
  obtain ⟨fuel1, hf1⟩ := h1
  obtain ⟨⟨a1_0, ⟨a1_1, ⟨a1_2, ⟨a1_3, ⟨a1_4, ⟨a1_5, ⟨a1_6, ⟨a1_7, l1_8⟩⟩⟩⟩⟩⟩⟩⟩, hK1, ⟨w1_0, ⟨w1_1, ⟨w1_2, ⟨w1_3, ⟨w1_4, ⟨w1_5, ⟨w1_6, ⟨w1_7, w1_8⟩⟩⟩⟩⟩⟩⟩⟩⟩ := (Hm.opens_struct id id (fun _ => rfl) Try.underlying66 (by kernel_rfl) (Hm.opensF_cons (Hm.opens_int Try.underlying37) (Hm.opensF_cons (Hm.opens_int Try.underlying37) (Hm.opensF_cons (Hm.opens_int Try.underlying37) (Hm.opensF_cons (Hm.opens_int Try.underlying37) (Hm.opensF_cons (Hm.opens_int Try.underlying37) (Hm.opensF_cons (Hm.opens_int Try.underlying36) (Hm.opensF_cons (Hm.opens_int Try.underlying36) (Hm.opensF_cons (Hm.opens_int Try.underlying36) (Hm.opensF_one (Hm.opens_slice 5 Try.underlying22 (by kernel_rfl) (Hm.opens_int Try.underlying5)))))))))))) H enc W 0 _ true fuel1 _ _ hf1
  obtain ⟨e0, e1, he1, rfl, ⟨_, _, rfl, rfl, ⟨_, _, rfl, rfl, ⟨_, _, rfl, rfl, ⟨_, _, rfl, rfl, ⟨_, _, rfl, rfl, ⟨_, _, rfl, rfl, ⟨_, _, rfl, rfl, ⟨A1_8, c1_8, rfl, hc1_8, hr1_8⟩⟩⟩⟩⟩⟩⟩⟩⟩ := hK1
  obtain rfl : q1 = #[.int .u32 a1_0, .int .u32 a1_1, .int .u32 a1_2, .int .u32 a1_3, .int .u32 a1_4, .int .u64 a1_5, .int .u64 a1_6, .int .u64 a1_7, .slice A1_8 l1_8.length c1_8] := by apply Array.ext'; simpa [Value.cells] using he1
  clear hA0 hval0 hsz0 hsz
  refine (Sx.SlotPuts_any a0_0 a0_1 a0_2 a0_3 a0_4 a0_5 a0_6 a0_7 A0_8 c0_8 l0_8 a1_0 a1_1 a1_2 a1_3 a1_4 a1_5 a1_6 a1_7 A1_8 c1_8 l1_8 W w0_0 w0_1 w0_2 w0_3 w0_4 w0_5 w0_6 w0_7 hr0_8 hc0_8 w0_8 w1_0 w1_1 w1_2 w1_3 w1_4 w1_5 w1_6 w1_7 hr1_8 hc1_8 w1_8).mono fun e W' ⟨he, bel⟩ => ?_
  subst he
  exact ⟨_, rfl, _, _, _, [], _, [], hW', trodAll_mk1 (shut_bool Try.underlying4 _), (trodAll_cons_mk (Below.trod laidOut (by kernel_rfl) (of_decide_eq_true (by kernel_rfl)) k0 bel lt0) (trodAll_cons_mk (Below.trod laidOut (by kernel_rfl) (of_decide_eq_true (by kernel_rfl)) k1 bel lt1) trodAll_mk0)), rfl, bel.frame _, fun h => by cases h⟩
theorem over : Rows.slotPutsRow.holds Try.pinned (OpenSpec.ofChange Rows.slotPutsSpec) :=
  OpenClaim.holds_of_wide 10 Try.f10 rfl rfl rfl rfl rfl rfl rfl ⟨rfl, rfl, rfl, rfl, rfl⟩ rfl rfl rfl rfl rfl (by kernel_rfl) Try.func10 (by kernel_rfl)
    (of_decide_eq_true (by kernel_rfl)) (by unfold Func.isWrapper; first | (rw [if_pos (by decide +kernel)]; kernel_rfl) | (rw [if_neg (by decide +kernel)]; exact ⟨rfl, rfl⟩))
    (fun os started H enc _ => lifted os started H enc)
theorem proved : Rows.SlotPutsSaid := over
#print axioms proved
end Go.Proofs.Ytlpjchighfdomaa.slotPuts
namespace Go.Proofs.Ytlpjchighfdomaa
/-- The row, under a short name, for the claim. -/
theorem slotPuts_holds : Rows.SlotPutsSaid := slotPuts.proved
end Go.Proofs.Ytlpjchighfdomaa
