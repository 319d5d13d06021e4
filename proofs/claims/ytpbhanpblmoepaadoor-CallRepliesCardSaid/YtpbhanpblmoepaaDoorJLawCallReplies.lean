/- The row of the statement CallReplies: it holds as given, out of the walk of its Go function; no condition. -/
import Derived.Test.YtpbhanpblmoepaaDoorRows
import Derived.Test.YtpbhanpblmoepaaDoorJLawL
import Derived.Test.YtpbhanpblmoepaaDoorJA
import Derived.WalkKit
import Derived.ProofKit
import Derived.OpenShut
import Derived.ShutString
import Derived.ChangeOld
import Derived.Below
import Derived.Carry
import Derived.SizedLaws
import Derived.Test.YtpbhanpblmoepaaDoorJBl
import Derived.Test.YtpbhanpblmoepaaDoorTie
import Derived.Test.YtpbhanpblmoepaaDoorCards
import Derived.SevenTiedAt
namespace Go.Proofs.YtpbhanpblmoepaaDoor.callReplies
open Go.ChangeShapes Go.WideShapes Go.ChangeAt Go.RowKit
open Go.ChangeMaps (open_string shut_string)
open Go.Proofs.YtpbhanpblmoepaaDoorW.PrintWords
set_option linter.unusedVariables false
theorem own : ownKnob Tryd.prog.godebug = none := by kernel_rfl
theorem laidOut : laidOutB Tryd.prog = true := by kernel_rfl
set_option maxRecDepth 100000 in
theorem lifted (os : Os) (started : os.Started) (H : Type) (enc : TypeId × Value → H) :
    ReturnsInHanded {} Tryd.checked os 4 .any (fun w args => (Rows.callRepliesSpec.pre enc Tryd.prog Tryd.f4 [] false w args ∧ laidMetH Tryd.prog [("removalist/call.changes", Rows.laid_removalist_call_changes)] w) ∧ sizedMet enc Tryd.prog Tryd.f4 (OpenSpec.ofChange Rows.callRepliesSpec) false w args)
      (Rows.callRepliesSpec.post enc Tryd.prog Tryd.f4 false true false false) := by
  refine returnsInHanded_of_change_and (C := Tryd.checked) (X := fun w _ => laidMetH Tryd.prog [("removalist/call.changes", Rows.laid_removalist_call_changes)] w) (fun _ _ _ hh h => h.of_heap hh) own started (by kernel_rfl) Tryd.func4
    (ChangeSpec.witness_shaped (enc := enc) (C := Tryd.checked) (os := os) (X := fun w _ => laidMetH Tryd.prog [("removalist/call.changes", Rows.laid_removalist_call_changes)] w) false (World.doorLaid Tryd.prog 200 os) #[.agg #[.int .u32 0, .int .u32 0, .int .i64 0, .int .u32 0, .int .u32 0, .int .u32 0, .int .u32 0, .int .u32 0, .int .u32 0, .int .u64 0, .slice none 0 0, .slice none 0 0, .bool false, .int .u64 0, .int .u32 0], .slice none 0 0] 8 rfl (World.shaped_of_RefB (by kernel_rfl) (by kernel_rfl)) (by kernel_rfl) (by kernel_rfl) (by kernel_rfl) (Sx.door_met os _)) ?_
  intro W base args ds gs before hval0 hW hcnd hx1 hL hx2
  obtain ⟨tg, hg⟩ := Sx.of_laid hL
  have hval : ∀ (j : Nat) t v, Tryd.f4.params[j]? = some t → args[j]? = some v → Value.okWide Tryd.prog W .any base t v := hval0
  have hW' := hW
  obtain ⟨p, q, hA0, hV, rfl, hfz, hnd⟩ := hW
  have hA : DataW.TrodAll enc Tryd.prog W 0 (fun _ => true) true Tryd.f4.params.toList args.toList ds p := hA0
  rw [Tryd.params4] at hA hval
  obtain ⟨v0, vs0, d0, ds0, p0, q0, hargs, rfl, rfl, h0, r0⟩ := trodAll_cons hA
  obtain ⟨v1, vs1, d1, ds1, p1, q1, rfl, rfl, rfl, h1, r1⟩ := trodAll_cons r0
  obtain ⟨rfl, rfl, rfl⟩ := trodAll_nil r1
  obtain rfl : args = #[v0, v1] := by cases args; simp_all
  obtain ⟨rfl, rfl⟩ := trodVars_none hV
  have k0 := h0
  have lt0 : ∀ x ∈ p0, x.block < W.heap.size := by obtain ⟨m, hm⟩ := k0; exact DataW.trod_lt m _ _ _ hm
  obtain ⟨q0, rfl, hq0⟩ := okWide_struct Tryd.underlying48 (hval 0 48 v0 rfl rfl)
  obtain ⟨fuel0, hf0⟩ := h0
  obtain ⟨⟨a0_0, ⟨a0_1, ⟨a0_2, ⟨⟨a0_3, a0_4⟩, ⟨⟨a0_5, ⟨a0_6, ⟨a0_7, ⟨a0_8, a0_9⟩⟩⟩⟩, ⟨l0_10, ⟨l0_11, ⟨a0_12, ⟨a0_13, a0_14⟩⟩⟩⟩⟩⟩⟩⟩⟩, hK0, ⟨w0_0, ⟨w0_1, ⟨w0_2, ⟨⟨w0_3, w0_4⟩, ⟨⟨w0_5, ⟨w0_6, ⟨w0_7, ⟨w0_8, w0_9⟩⟩⟩⟩, ⟨w0_10, ⟨w0_11, ⟨_, ⟨w0_13, w0_14⟩⟩⟩⟩⟩⟩⟩⟩⟩⟩ := (Hm.opens_struct id id (fun _ => rfl) Tryd.underlying48 (by kernel_rfl) (Hm.opensF_cons (Hm.opens_int Tryd.underlying22) (Hm.opensF_cons (Hm.opens_int Tryd.underlying22) (Hm.opensF_cons (Hm.opens_int Tryd.underlying30) (Hm.opensF_cons (Hm.opens_struct id id (fun _ => rfl) Tryd.underlying24 (by kernel_rfl) (Hm.opensF_cons (Hm.opens_int Tryd.underlying22) (Hm.opensF_one (Hm.opens_int Tryd.underlying22)))) (Hm.opensF_cons (Hm.opens_struct id id (fun _ => rfl) Tryd.underlying45 (by kernel_rfl) (Hm.opensF_cons (Hm.opens_int Tryd.underlying22) (Hm.opensF_cons (Hm.opens_int Tryd.underlying22) (Hm.opensF_cons (Hm.opens_int Tryd.underlying22) (Hm.opensF_cons (Hm.opens_int Tryd.underlying22) (Hm.opensF_one (Hm.opens_int Tryd.underlying25))))))) (Hm.opensF_cons (Hm.opens_slice 5 Tryd.underlying26 (by kernel_rfl) (Hm.opens_int Tryd.underlying5)) (Hm.opensF_cons (Hm.opens_slice 99 Tryd.underlying46 (by kernel_rfl) (Hm.opens_struct (fun (e : Hm.Ent) => (e.c, (e.i, e.g), e.s)) (fun p => (⟨p.1, p.2.1.1, p.2.1.2, p.2.2⟩ : Hm.Ent)) (fun _ => rfl) Tryd.underlying99 (by kernel_rfl) (Hm.opensF_cons (Hm.opens_int Tryd.underlying25) (Hm.opensF_cons (Hm.opens_struct id id (fun _ => rfl) Tryd.underlying24 (by kernel_rfl) (Hm.opensF_cons (Hm.opens_int Tryd.underlying22) (Hm.opensF_one (Hm.opens_int Tryd.underlying22)))) (Hm.opensF_one (Hm.opens_string Tryd.underlying9)))))) (Hm.opensF_cons (Hm.opens_bool Tryd.underlying4) (Hm.opensF_cons (Hm.opens_int Tryd.underlying25) (Hm.opensF_one (Hm.opens_int Tryd.underlying22)))))))))))) H enc W 0 _ true fuel0 _ _ hf0
  obtain ⟨e0, e1, he0, rfl, ⟨_, _, rfl, rfl, ⟨_, _, rfl, rfl, ⟨_, _, rfl, ⟨_, _, rfl, rfl, rfl⟩, ⟨_, _, rfl, ⟨_, _, rfl, rfl, ⟨_, _, rfl, rfl, ⟨_, _, rfl, rfl, ⟨_, _, rfl, rfl, rfl⟩⟩⟩⟩, ⟨_, _, rfl, ⟨A0_10, c0_10, rfl, hc0_10, hr0_10⟩, ⟨_, _, rfl, ⟨A0_11, c0_11, rfl, hc0_11, hr0_11⟩, ⟨_, _, rfl, rfl, ⟨_, _, rfl, rfl, rfl⟩⟩⟩⟩⟩⟩⟩⟩⟩ := hK0
  obtain rfl : q0 = #[.int .u32 a0_0, .int .u32 a0_1, .int .i64 a0_2, .int .u32 a0_3, .int .u32 a0_4, .int .u32 a0_5, .int .u32 a0_6, .int .u32 a0_7, .int .u32 a0_8, .int .u64 a0_9, .slice A0_10 l0_10.length c0_10, .slice A0_11 l0_11.length c0_11, .bool a0_12, .int .u64 a0_13, .int .u32 a0_14] := by apply Array.ext'; simpa [Value.cells] using he0
  have k1 := h1
  have lt1 : ∀ x ∈ p1, x.block < W.heap.size := by obtain ⟨m, hm⟩ := k1; exact DataW.trod_lt m _ _ _ hm
  obtain ⟨A1, len1, c1, rfl⟩ := okWide_slice Tryd.underlying26 (hval 1 26 v1 rfl rfl)
  obtain ⟨fuel1, hf1⟩ := h1
  obtain ⟨l1, ⟨B1, b1, he1, hc1, hr1⟩, w1⟩ := (Hm.opens_slice 5 Tryd.underlying26 (by kernel_rfl) (Hm.opens_int Tryd.underlying5)) H enc W 0 _ true fuel1 _ _ hf1
  obtain ⟨rfl, rfl, rfl⟩ : A1 = B1 ∧ len1 = l1.length ∧ c1 = b1 := by simpa [Value.cells] using he1
  clear hA0 hval0
  refine (Sx.CallReplies_any a0_0 a0_1 a0_2 a0_3 a0_4 a0_5 a0_6 a0_7 a0_8 a0_9 A0_10 c0_10 l0_10 A0_11 c0_11 l0_11 a0_12 a0_13 a0_14 A1 c1 l1 W tg hg w0_0 w0_1 w0_2 w0_3 w0_4 w0_5 w0_6 w0_7 w0_8 w0_9 hr0_10 hc0_10 w0_10 hr0_11 hc0_11 w0_11 w0_13 w0_14 hr1 hc1 w1).mono fun e W' ⟨he, bel⟩ => ?_
  subst he
  exact ⟨_, rfl, _, _, _, [], _, [], hW', trodAll_mk1 (shut_bool Tryd.underlying4 _), (trodAll_cons_mk (Below.trod laidOut (by kernel_rfl) (of_decide_eq_true (by kernel_rfl)) k0 bel lt0) (trodAll_cons_mk (Below.trod laidOut (by kernel_rfl) (of_decide_eq_true (by kernel_rfl)) k1 bel lt1) trodAll_mk0)), rfl, bel.frame _, fun h => by cases h⟩
theorem over : Rows.callRepliesRow.holds Tryd.pinned (OpenSpec.ofChange Rows.callRepliesSpec) :=
  OpenClaim.holds_of_wide 4 Tryd.f4 rfl rfl rfl rfl rfl rfl rfl ⟨rfl, rfl, rfl, rfl, rfl⟩ rfl rfl rfl rfl rfl (by kernel_rfl) Tryd.func4 (by kernel_rfl)
    (of_decide_eq_true (by kernel_rfl)) (by unfold Func.isWrapper; first | (rw [if_pos (by decide +kernel)]; kernel_rfl) | (rw [if_neg (by decide +kernel)]; exact ⟨rfl, rfl⟩))
    (fun os started H enc _ => lifted os started H enc)
theorem proved : Rows.CallRepliesSaid := over
theorem card : Rows.CallRepliesCardSaid :=
  Claim7.holds_tied_plain_at .later [] [.data] true (true, "bc14fce2c1c733e465b82531c20131bd6119aee4a9b06a726af32b1b54a13f94") false over (fun _ h => by cases h) (by kernel_rfl) (fun _ h => by cases h) callReplies_row_tie rfl ⟨rfl, rfl⟩ (by kernel_rfl) rfl
    (fun f fn hf hfn => by
      obtain rfl : f = 4 := Option.some.inj ((show Tryd.prog.funcNamed "removalist/removalistlaw09.CallReplies" = some 4 by kernel_rfl).symm.trans hf) |>.symm
      obtain rfl : fn = Tryd.f4 := (Option.some.inj (Tryd.func4.symm.trans hfn)).symm
      exact ⟨by kernel_rfl, fun j t ht => by
        rw [Tryd.params4] at ht
        have hm : t ∈ [48, 26] := by simpa using Array.mem_of_getElem? ht
        have hall : ([48, 26].all fun u => !Tryd.prog.wantsStandIn u) = true := by kernel_rfl
        exact (show Tryd.prog.wantsStandIn t = false by simpa using List.all_eq_true.1 hall t hm)⟩)
    (by kernel_rfl)
#print axioms card
end Go.Proofs.YtpbhanpblmoepaaDoor.callReplies
namespace Go.Proofs.YtpbhanpblmoepaaDoor
/-- The row, under a short name, for the claim. -/
theorem callReplies_holds : Rows.CallRepliesCardSaid := callReplies.card
end Go.Proofs.YtpbhanpblmoepaaDoor
