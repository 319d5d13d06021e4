/- The row of the statement ClientDeaf: it holds as given, out of the walk of its Go function; no condition. -/
import Derived.Test.YtgjajalneknagaaRows
import Derived.Test.YtgjajalneknagaaJZ3
import Derived.Test.YtgjajalneknagaaJA
import Derived.Test.YtgjajalneknagaaJA2
import Derived.WalkKit
import Derived.ProofKit
import Derived.OpenShut
import Derived.ShutString
import Derived.ChangeOld
import Derived.Below
import Derived.Carry
import Derived.SizedLaws
namespace Go.Proofs.Ytgjajalneknagaa.clientDeaf
open Go.ChangeShapes Go.WideShapes Go.ChangeAt Go.RowKit
open Go.ChangeMaps (open_string shut_string)
open Go.Proofs.YtgjajalneknagaaW.PrintWords
set_option linter.unusedVariables false
theorem own : ownKnob Try.prog.godebug = none := by kernel_rfl
theorem laidOut : laidOutB Try.prog = true := by kernel_rfl
set_option maxRecDepth 100000 in
theorem lifted (os : Os) (started : os.Started) (H : Type) (enc : TypeId × Value → H) :
    ReturnsInHanded {} Try.checked os 7 .any (Rows.clientDeafSpec.pre6 enc Try.prog Try.f7 Rows.clientDeafRow.domain false) (Rows.clientDeafSpec.post enc Try.prog Try.f7 false true false false) := by
  refine returnsInHanded_of_change_sized (C := Try.checked) own started (by kernel_rfl) Try.func7
    (ChangeSpec.witness6 (enc := enc) (C := Try.checked) false ⟨#[], #[.agg #[.int .u32 0, .int .u32 0, .int .u32 0, .int .u32 0, .int .u32 0, .int .u32 0, .string ⟨#[]⟩, .int .u32 0, .int .u32 0, .string ⟨#[]⟩, .int .u64 0, .int .u64 0, .int .u32 0, .int .u32 0, .slice none 0 0, .int .u32 0, .int .u32 0, .int .i64 0, .int .u32 0, .int .u32 0, .int .u32 0, .int .u32 0, .int .u32 0, .int .u32 0, .int .u64 0, .slice none 0 0, .slice none 0 0, .bool false, .int .u64 0, .int .u32 0, .int .u32 0, .int .u64 0, .int .u64 0, .int .u32 0, .slice none 0 0], .int .i64 0], []⟩ 8 (by kernel_rfl) (by kernel_rfl) (by kernel_rfl) (by kernel_rfl)) ?_
  intro W base args ds gs before hval0 hW hcnd hsz0 _
  have hsz : (DataW.weightsEach Try.prog (Try.f7.params.toList ++ Rows.clientDeafSpec.plain.varTypes Try.prog) (ds ++ gs)).all (· ≤ reachBytes) = true := hsz0
  have hval : ∀ (j : Nat) t v, Try.f7.params[j]? = some t → args[j]? = some v → Value.okWide Try.prog W .any base t v := hval0
  have hW' := hW
  obtain ⟨p, q, hA0, hV, rfl, hfz, hnd⟩ := hW
  have hA : DataW.TrodAll enc Try.prog W 0 (fun _ => true) true Try.f7.params.toList args.toList ds p := hA0
  rw [Try.params7] at hA hval hsz
  obtain ⟨v0, vs0, d0, ds0, p0, q0, hargs, rfl, rfl, h0, r0⟩ := trodAll_cons hA
  obtain ⟨v1, vs1, d1, ds1, p1, q1, rfl, rfl, rfl, h1, r1⟩ := trodAll_cons r0
  obtain ⟨rfl, rfl, rfl⟩ := trodAll_nil r1
  obtain rfl : args = #[v0, v1] := by cases args; simp_all
  obtain ⟨rfl, rfl⟩ := trodVars_none hV
  have k0 := h0
  have lt0 : ∀ x ∈ p0, x.block < W.heap.size := by obtain ⟨m, hm⟩ := k0; exact DataW.trod_lt m _ _ _ hm
  obtain ⟨q0, rfl, hq0⟩ := okWide_struct Try.underlying49 (hval 0 49 v0 rfl rfl)
  obtain ⟨fuel0, hf0⟩ := h0
  obtain ⟨⟨a0_0, ⟨⟨a0_1, ⟨a0_2, ⟨a0_3, ⟨⟨a0_4, a0_5⟩, ⟨a0_6, ⟨⟨a0_7, a0_8⟩, ⟨a0_9, ⟨a0_10, ⟨a0_11, ⟨a0_12, ⟨a0_13, l0_14⟩⟩⟩⟩⟩⟩⟩⟩⟩⟩⟩, ⟨⟨a0_15, ⟨a0_16, ⟨a0_17, ⟨⟨a0_18, a0_19⟩, ⟨⟨a0_20, ⟨a0_21, ⟨a0_22, ⟨a0_23, a0_24⟩⟩⟩⟩, ⟨l0_25, ⟨l0_26, ⟨a0_27, ⟨a0_28, a0_29⟩⟩⟩⟩⟩⟩⟩⟩⟩, ⟨a0_30, ⟨a0_31, ⟨a0_32, ⟨a0_33, l0_34⟩⟩⟩⟩⟩⟩⟩, hK0, ⟨w0_0, ⟨⟨w0_1, ⟨w0_2, ⟨w0_3, ⟨⟨w0_4, w0_5⟩, ⟨w0_6, ⟨⟨w0_7, w0_8⟩, ⟨w0_9, ⟨w0_10, ⟨w0_11, ⟨w0_12, ⟨w0_13, w0_14⟩⟩⟩⟩⟩⟩⟩⟩⟩⟩⟩, ⟨⟨w0_15, ⟨w0_16, ⟨w0_17, ⟨⟨w0_18, w0_19⟩, ⟨⟨w0_20, ⟨w0_21, ⟨w0_22, ⟨w0_23, w0_24⟩⟩⟩⟩, ⟨w0_25, ⟨w0_26, ⟨_, ⟨w0_28, w0_29⟩⟩⟩⟩⟩⟩⟩⟩⟩, ⟨w0_30, ⟨w0_31, ⟨w0_32, ⟨w0_33, w0_34⟩⟩⟩⟩⟩⟩⟩⟩ := (Hm.opensS_struct id id (fun _ => rfl) Try.underlying49 (by kernel_rfl) (Hm.opensFS_cons (Hm.OpensS.of (Hm.opens_int Try.underlying22)) (Hm.opensFS_cons (Hm.OpensS.of (Hm.opens_struct id id (fun _ => rfl) Try.underlying40 (by kernel_rfl) (Hm.opensF_cons (Hm.opens_int Try.underlying22) (Hm.opensF_cons (Hm.opens_int Try.underlying22) (Hm.opensF_cons (Hm.opens_int Try.underlying22) (Hm.opensF_cons (Hm.opens_struct id id (fun _ => rfl) Try.underlying30 (by kernel_rfl) (Hm.opensF_cons (Hm.opens_int Try.underlying22) (Hm.opensF_one (Hm.opens_int Try.underlying22)))) (Hm.opensF_cons (Hm.opens_string Try.underlying9) (Hm.opensF_cons (Hm.opens_struct id id (fun _ => rfl) Try.underlying30 (by kernel_rfl) (Hm.opensF_cons (Hm.opens_int Try.underlying22) (Hm.opensF_one (Hm.opens_int Try.underlying22)))) (Hm.opensF_cons (Hm.opens_string Try.underlying9) (Hm.opensF_cons (Hm.opens_int Try.underlying31) (Hm.opensF_cons (Hm.opens_int Try.underlying31) (Hm.opensF_cons (Hm.opens_int Try.underlying22) (Hm.opensF_cons (Hm.opens_int Try.underlying22) (Hm.opensF_one (Hm.opens_slice 5 Try.underlying38 (by kernel_rfl) (Hm.opens_int Try.underlying5)))))))))))))))) (Hm.opensFS_cons (Hm.opensS_struct id id (fun _ => rfl) Try.underlying45 (by kernel_rfl) (Hm.opensFS_cons (Hm.OpensS.of (Hm.opens_int Try.underlying22)) (Hm.opensFS_cons (Hm.OpensS.of (Hm.opens_int Try.underlying22)) (Hm.opensFS_cons (Hm.OpensS.of (Hm.opens_int Try.underlying26)) (Hm.opensFS_cons (Hm.OpensS.of (Hm.opens_struct id id (fun _ => rfl) Try.underlying30 (by kernel_rfl) (Hm.opensF_cons (Hm.opens_int Try.underlying22) (Hm.opensF_one (Hm.opens_int Try.underlying22))))) (Hm.opensFS_cons (Hm.OpensS.of (Hm.opens_struct id id (fun _ => rfl) Try.underlying42 (by kernel_rfl) (Hm.opensF_cons (Hm.opens_int Try.underlying22) (Hm.opensF_cons (Hm.opens_int Try.underlying22) (Hm.opensF_cons (Hm.opens_int Try.underlying22) (Hm.opensF_cons (Hm.opens_int Try.underlying22) (Hm.opensF_one (Hm.opens_int Try.underlying31)))))))) (Hm.opensFS_cons (Hm.OpensS.of (Hm.opens_slice 5 Try.underlying38 (by kernel_rfl) (Hm.opens_int Try.underlying5))) (Hm.opensFS_cons (Hm.opensS_slice 101 Try.underlying43 (by kernel_rfl) (Hm.OpensS.of (Hm.opens_struct (fun (e : Hm.Ent) => (e.c, (e.i, e.g), e.s)) (fun p => (⟨p.1, p.2.1.1, p.2.1.2, p.2.2⟩ : Hm.Ent)) (fun _ => rfl) Try.underlying101 (by kernel_rfl) (Hm.opensF_cons (Hm.opens_int Try.underlying31) (Hm.opensF_cons (Hm.opens_struct id id (fun _ => rfl) Try.underlying30 (by kernel_rfl) (Hm.opensF_cons (Hm.opens_int Try.underlying22) (Hm.opensF_one (Hm.opens_int Try.underlying22)))) (Hm.opensF_one (Hm.opens_string Try.underlying9))))))) (Hm.opensFS_cons (Hm.OpensS.of (Hm.opens_bool Try.underlying4)) (Hm.opensFS_cons (Hm.OpensS.of (Hm.opens_int Try.underlying31)) (Hm.opensFS_one (Hm.OpensS.of (Hm.opens_int Try.underlying22))))))))))))) (Hm.opensFS_one (Hm.OpensS.of (Hm.opens_struct id id (fun _ => rfl) Try.underlying47 (by kernel_rfl) (Hm.opensF_cons (Hm.opens_int Try.underlying22) (Hm.opensF_cons (Hm.opens_int Try.underlying31) (Hm.opensF_cons (Hm.opens_int Try.underlying31) (Hm.opensF_cons (Hm.opens_int Try.underlying22) (Hm.opensF_one (Hm.opens_slice 5 Try.underlying38 (by kernel_rfl) (Hm.opens_int Try.underlying5)))))))))))))) H enc W 0 _ true fuel0 _ _ hf0 (fun n hn => by have h9 := List.all_eq_true.1 hsz n (DataW.weights_mem_each (j := 0) rfl rfl n hn); simpa using h9)
  obtain ⟨e0, e1, he0, rfl, ⟨_, _, rfl, ⟨_, _, rfl, rfl, ⟨_, _, rfl, rfl, ⟨_, _, rfl, rfl, ⟨_, _, rfl, ⟨_, _, rfl, rfl, rfl⟩, ⟨_, _, rfl, rfl, ⟨_, _, rfl, ⟨_, _, rfl, rfl, rfl⟩, ⟨_, _, rfl, rfl, ⟨_, _, rfl, rfl, ⟨_, _, rfl, rfl, ⟨_, _, rfl, rfl, ⟨_, _, rfl, rfl, ⟨A0_14, c0_14, rfl, hc0_14, hr0_14⟩⟩⟩⟩⟩⟩⟩⟩⟩⟩⟩⟩, ⟨_, _, rfl, ⟨_, _, rfl, rfl, ⟨_, _, rfl, rfl, ⟨_, _, rfl, rfl, ⟨_, _, rfl, ⟨_, _, rfl, rfl, rfl⟩, ⟨_, _, rfl, ⟨_, _, rfl, rfl, ⟨_, _, rfl, rfl, ⟨_, _, rfl, rfl, ⟨_, _, rfl, rfl, rfl⟩⟩⟩⟩, ⟨_, _, rfl, ⟨A0_25, c0_25, rfl, hc0_25, hr0_25⟩, ⟨_, _, rfl, ⟨A0_26, c0_26, rfl, hc0_26, hr0_26⟩, ⟨_, _, rfl, rfl, ⟨_, _, rfl, rfl, rfl⟩⟩⟩⟩⟩⟩⟩⟩⟩, ⟨_, _, rfl, rfl, ⟨_, _, rfl, rfl, ⟨_, _, rfl, rfl, ⟨_, _, rfl, rfl, ⟨A0_34, c0_34, rfl, hc0_34, hr0_34⟩⟩⟩⟩⟩⟩⟩⟩ := hK0
  obtain rfl : q0 = #[.int .u32 a0_0, .int .u32 a0_1, .int .u32 a0_2, .int .u32 a0_3, .int .u32 a0_4, .int .u32 a0_5, .string a0_6, .int .u32 a0_7, .int .u32 a0_8, .string a0_9, .int .u64 a0_10, .int .u64 a0_11, .int .u32 a0_12, .int .u32 a0_13, .slice A0_14 l0_14.length c0_14, .int .u32 a0_15, .int .u32 a0_16, .int .i64 a0_17, .int .u32 a0_18, .int .u32 a0_19, .int .u32 a0_20, .int .u32 a0_21, .int .u32 a0_22, .int .u32 a0_23, .int .u64 a0_24, .slice A0_25 l0_25.length c0_25, .slice A0_26 l0_26.length c0_26, .bool a0_27, .int .u64 a0_28, .int .u32 a0_29, .int .u32 a0_30, .int .u64 a0_31, .int .u64 a0_32, .int .u32 a0_33, .slice A0_34 l0_34.length c0_34] := by apply Array.ext'; simpa [Value.cells] using he0
  obtain ⟨a1, rfl, rfl, rfl, w1⟩ := open_int Try.underlying3 (hval 1 3 v1 rfl rfl) h1
  clear hA0 hval0 hsz0 hsz
  refine (Sx.ClientDeaf_any a0_0 a0_1 a0_2 a0_3 a0_4 a0_5 a0_6 a0_7 a0_8 a0_9 a0_10 a0_11 a0_12 a0_13 A0_14 c0_14 l0_14 a0_15 a0_16 a0_17 a0_18 a0_19 a0_20 a0_21 a0_22 a0_23 a0_24 A0_25 c0_25 l0_25 A0_26 c0_26 l0_26 a0_27 a0_28 a0_29 a0_30 a0_31 a0_32 a0_33 A0_34 c0_34 l0_34 a1 W w0_0 w0_1 w0_2 w0_3 w0_4 w0_5 w0_6 w0_7 w0_8 w0_9 w0_10 w0_11 w0_12 w0_13 hr0_14 hc0_14 w0_14 w0_15 w0_16 w0_17 w0_18 w0_19 w0_20 w0_21 w0_22 w0_23 w0_24 hr0_25 hc0_25 w0_25 hr0_26 hc0_26 w0_26 w0_28 w0_29 w0_30 w0_31 w0_32 w0_33 hr0_34 hc0_34 w0_34 w1).mono fun e W' ⟨he, bel⟩ => ?_
  subst he
  exact ⟨_, rfl, _, _, _, [], _, [], hW', trodAll_mk1 (shut_bool Try.underlying4 _), (trodAll_cons_mk (Below.trod laidOut (by kernel_rfl) (of_decide_eq_true (by kernel_rfl)) k0 bel lt0) (trodAll_cons_mk (shut_int Try.underlying3 w1) trodAll_mk0)), rfl, bel.frame _, fun h => by cases h⟩
theorem over : Rows.clientDeafRow.holds Try.pinned (OpenSpec.ofChange Rows.clientDeafSpec) :=
  OpenClaim.holds_of_wide 7 Try.f7 rfl rfl rfl rfl rfl rfl rfl ⟨rfl, rfl, rfl, rfl, rfl⟩ rfl rfl rfl rfl rfl (by kernel_rfl) Try.func7 (by kernel_rfl)
    (of_decide_eq_true (by kernel_rfl)) (by unfold Func.isWrapper; first | (rw [if_pos (by decide +kernel)]; kernel_rfl) | (rw [if_neg (by decide +kernel)]; exact ⟨rfl, rfl⟩))
    (fun os started H enc _ => lifted os started H enc)
theorem proved : Rows.ClientDeafSaid := over
#print axioms proved
end Go.Proofs.Ytgjajalneknagaa.clientDeaf
namespace Go.Proofs.Ytgjajalneknagaa
/-- The row, under a short name, for the claim. -/
theorem clientDeaf_holds : Rows.ClientDeafSaid := clientDeaf.proved
end Go.Proofs.Ytgjajalneknagaa
