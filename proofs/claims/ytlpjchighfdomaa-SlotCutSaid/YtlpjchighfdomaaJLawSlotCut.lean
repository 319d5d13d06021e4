/- The row of the statement SlotCut: it holds as given, out of the walk of its Go function; no condition. -/
import Derived.Test.YtlpjchighfdomaaRows
import Derived.Test.YtlpjchighfdomaaJLawG
import Derived.Test.YtlpjchighfdomaaJA
import Derived.WalkKit
import Derived.ProofKit
import Derived.OpenShut
import Derived.ShutString
import Derived.ChangeOld
import Derived.Below
import Derived.Carry
import Derived.SizedLaws
namespace Go.Proofs.Ytlpjchighfdomaa.slotCut
open Go.ChangeShapes Go.WideShapes Go.ChangeAt Go.RowKit
open Go.ChangeMaps (open_string shut_string)
open Go.Proofs.YtlpjchighfdomaaW.PrintWords
set_option linter.unusedVariables false
theorem own : ownKnob Try.prog.godebug = none := by kernel_rfl
theorem laidOut : laidOutB Try.prog = true := by kernel_rfl
set_option maxRecDepth 100000 in
theorem lifted (os : Os) (started : os.Started) (H : Type) (enc : TypeId × Value → H) :
    ReturnsInHanded {} Try.checked os 12 .any (Rows.slotCutSpec.pre6 enc Try.prog Try.f12 Rows.slotCutRow.domain false) (Rows.slotCutSpec.post enc Try.prog Try.f12 false true false false) := by
  refine returnsInHanded_of_change_sized (C := Try.checked) own started (by kernel_rfl) Try.func12
    (ChangeSpec.witness6 (enc := enc) (C := Try.checked) false ⟨#[], #[.agg #[.int .u32 0, .int .u32 0, .int .u32 0, .int .u32 0, .int .u32 0, .int .u64 0, .int .u64 0, .int .u64 0, .slice none 0 0], .int .u16 0, .slice none 0 0], []⟩ 8 (by kernel_rfl) (by kernel_rfl) (by kernel_rfl) (by kernel_rfl)) ?_
  intro W base args ds gs before hval0 hW hcnd hsz0 _
  have hsz : (DataW.weightsEach Try.prog (Try.f12.params.toList ++ Rows.slotCutSpec.plain.varTypes Try.prog) (ds ++ gs)).all (· ≤ reachBytes) = true := hsz0
  have hval : ∀ (j : Nat) t v, Try.f12.params[j]? = some t → args[j]? = some v → Value.okWide Try.prog W .any base t v := hval0
  have hW' := hW
  obtain ⟨p, q, hA0, hV, rfl, hfz, hnd⟩ := hW
  have hA : DataW.TrodAll enc Try.prog W 0 (fun _ => true) true Try.f12.params.toList args.toList ds p := hA0
  rw [Try.params12] at hA hval hsz
  obtain ⟨v0, vs0, d0, ds0, p0, q0, hargs, rfl, rfl, h0, r0⟩ := trodAll_cons hA
  obtain ⟨v1, vs1, d1, ds1, p1, q1, rfl, rfl, rfl, h1, r1⟩ := trodAll_cons r0
  obtain ⟨v2, vs2, d2, ds2, p2, q2, rfl, rfl, rfl, h2, r2⟩ := trodAll_cons r1
  obtain ⟨rfl, rfl, rfl⟩ := trodAll_nil r2
  obtain rfl : args = #[v0, v1, v2] := by cases args; simp_all
  obtain ⟨rfl, rfl⟩ := trodVars_none hV
  have k0 := h0
  have lt0 : ∀ x ∈ p0, x.block < W.heap.size := by obtain ⟨m, hm⟩ := k0; exact DataW.trod_lt m _ _ _ hm
  obtain ⟨q0, rfl, hq0⟩ := okWide_struct Try.underlying66 (hval 0 66 v0 rfl rfl)
  obtain ⟨fuel0, hf0⟩ := h0
  obtain ⟨⟨a0_0, ⟨a0_1, ⟨a0_2, ⟨a0_3, ⟨a0_4, ⟨a0_5, ⟨a0_6, ⟨a0_7, l0_8⟩⟩⟩⟩⟩⟩⟩⟩, hK0, ⟨w0_0, ⟨w0_1, ⟨w0_2, ⟨w0_3, ⟨w0_4, ⟨w0_5, ⟨w0_6, ⟨w0_7, w0_8⟩⟩⟩⟩⟩⟩⟩⟩⟩ := (Hm.opens_struct id id (fun _ => rfl) Try.underlying66 (by kernel_rfl) (Hm.opensF_cons (Hm.opens_int Try.underlying37) (Hm.opensF_cons (Hm.opens_int Try.underlying37) (Hm.opensF_cons (Hm.opens_int Try.underlying37) (Hm.opensF_cons (Hm.opens_int Try.underlying37) (Hm.opensF_cons (Hm.opens_int Try.underlying37) (Hm.opensF_cons (Hm.opens_int Try.underlying36) (Hm.opensF_cons (Hm.opens_int Try.underlying36) (Hm.opensF_cons (Hm.opens_int Try.underlying36) (Hm.opensF_one (Hm.opens_slice 5 Try.underlying22 (by kernel_rfl) (Hm.opens_int Try.underlying5)))))))))))) H enc W 0 _ true fuel0 _ _ hf0
  obtain ⟨e0, e1, he0, rfl, ⟨_, _, rfl, rfl, ⟨_, _, rfl, rfl, ⟨_, _, rfl, rfl, ⟨_, _, rfl, rfl, ⟨_, _, rfl, rfl, ⟨_, _, rfl, rfl, ⟨_, _, rfl, rfl, ⟨A0_8, c0_8, rfl, hc0_8, hr0_8⟩⟩⟩⟩⟩⟩⟩⟩⟩ := hK0
  obtain rfl : q0 = #[.int .u32 a0_0, .int .u32 a0_1, .int .u32 a0_2, .int .u32 a0_3, .int .u32 a0_4, .int .u64 a0_5, .int .u64 a0_6, .int .u64 a0_7, .slice A0_8 l0_8.length c0_8] := by apply Array.ext'; simpa [Value.cells] using he0
  obtain ⟨a1, rfl, rfl, rfl, w1⟩ := open_int Try.underlying80 (hval 1 80 v1 rfl rfl) h1
  have k2 := h2
  have lt2 : ∀ x ∈ p2, x.block < W.heap.size := by obtain ⟨m, hm⟩ := k2; exact DataW.trod_lt m _ _ _ hm
  obtain ⟨A2, len2, c2, rfl⟩ := okWide_slice Try.underlying22 (hval 2 22 v2 rfl rfl)
  obtain ⟨fuel2, hf2⟩ := h2
  obtain ⟨l2, ⟨B2, b2, he2, hc2, hr2⟩, w2⟩ := (Hm.opens_slice 5 Try.underlying22 (by kernel_rfl) (Hm.opens_int Try.underlying5)) H enc W 0 _ true fuel2 _ _ hf2
  obtain ⟨rfl, rfl, rfl⟩ : A2 = B2 ∧ len2 = l2.length ∧ c2 = b2 := by simpa [Value.cells] using he2
  clear hA0 hval0 hsz0 hsz
  refine (Sx.SlotCut_any a0_0 a0_1 a0_2 a0_3 a0_4 a0_5 a0_6 a0_7 A0_8 c0_8 l0_8 a1 A2 c2 l2 W w0_0 w0_1 w0_2 w0_3 w0_4 w0_5 w0_6 w0_7 hr0_8 hc0_8 w0_8 w1 hr2 hc2 w2).mono fun e W' ⟨he, bel⟩ => ?_
  subst he
  exact ⟨_, rfl, _, _, _, [], _, [], hW', trodAll_mk1 (shut_bool Try.underlying4 _), (trodAll_cons_mk (Below.trod laidOut (by kernel_rfl) (of_decide_eq_true (by kernel_rfl)) k0 bel lt0) (trodAll_cons_mk (shut_int Try.underlying80 w1) (trodAll_cons_mk (Below.trod laidOut (by kernel_rfl) (of_decide_eq_true (by kernel_rfl)) k2 bel lt2) trodAll_mk0))), rfl, bel.frame _, fun h => by cases h⟩
theorem over : Rows.slotCutRow.holds Try.pinned (OpenSpec.ofChange Rows.slotCutSpec) :=
  OpenClaim.holds_of_wide 12 Try.f12 rfl rfl rfl rfl rfl rfl rfl ⟨rfl, rfl, rfl, rfl, rfl⟩ rfl rfl rfl rfl rfl (by kernel_rfl) Try.func12 (by kernel_rfl)
    (of_decide_eq_true (by kernel_rfl)) (by unfold Func.isWrapper; first | (rw [if_pos (by decide +kernel)]; kernel_rfl) | (rw [if_neg (by decide +kernel)]; exact ⟨rfl, rfl⟩))
    (fun os started H enc _ => lifted os started H enc)
theorem proved : Rows.SlotCutSaid := over
#print axioms proved
end Go.Proofs.Ytlpjchighfdomaa.slotCut
namespace Go.Proofs.Ytlpjchighfdomaa
/-- The row, under a short name, for the claim. -/
theorem slotCut_holds : Rows.SlotCutSaid := slotCut.proved
end Go.Proofs.Ytlpjchighfdomaa
