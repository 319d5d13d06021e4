/- The row of the statement OpsReads: it holds as given, out of the walk of its Go function; no condition. -/
import Derived.Test.YtanemmcddgkpdaaGreatRows
import Derived.Test.YtanemmcddgkpdaaGreatJLoM
import Derived.Test.YtanemmcddgkpdaaGreatJA
import Derived.WalkKit
import Derived.ProofKit
import Derived.OpenShut
import Derived.ShutString
import Derived.ChangeOld
import Derived.Below
import Derived.Carry
import Derived.SizedLaws
namespace Go.Proofs.YtanemmcddgkpdaaGreat.opsReads
open Go.ChangeShapes Go.WideShapes Go.ChangeAt Go.RowKit
open Go.ChangeMaps (open_string shut_string)
open Go.Proofs.YtanemmcddgkpdaaGreatW.PrintWords
set_option linter.unusedVariables false
theorem own : ownKnob Tryz.prog.godebug = none := by kernel_rfl
theorem laidOut : laidOutB Tryz.prog = true := by kernel_rfl
set_option maxRecDepth 100000 in
theorem lifted (os : Os) (started : os.Started) (H : Type) (enc : TypeId × Value → H) :
    ReturnsInHanded {} Tryz.checked os 15 .any (Rows.opsReadsSpec.pre6 enc Tryz.prog Tryz.f15 Rows.opsReadsRow.domain false) (Rows.opsReadsSpec.post enc Tryz.prog Tryz.f15 false true false false) := by
  refine returnsInHanded_of_change_sized (C := Tryz.checked) own started (by kernel_rfl) Tryz.func15
    (ChangeSpec.witness6 (enc := enc) (C := Tryz.checked) false ⟨#[], #[.slice none 0 0, .int .u8 0, .int .u8 0], []⟩ 8 (by kernel_rfl) (by kernel_rfl) (by kernel_rfl) (by kernel_rfl)) ?_
  intro W base args ds gs before hval0 hW hcnd hsz0 _
  have hsz : (DataW.weightsEach Tryz.prog (Tryz.f15.params.toList ++ Rows.opsReadsSpec.plain.varTypes Tryz.prog) (ds ++ gs)).all (· ≤ reachBytes) = true := hsz0
  have hval : ∀ (j : Nat) t v, Tryz.f15.params[j]? = some t → args[j]? = some v → Value.okWide Tryz.prog W .any base t v := hval0
  have hW' := hW
  obtain ⟨p, q, hA0, hV, rfl, hfz, hnd⟩ := hW
  have hA : DataW.TrodAll enc Tryz.prog W 0 (fun _ => true) true Tryz.f15.params.toList args.toList ds p := hA0
  rw [Tryz.params15] at hA hval hsz
  obtain ⟨v0, vs0, d0, ds0, p0, q0, hargs, rfl, rfl, h0, r0⟩ := trodAll_cons hA
  obtain ⟨v1, vs1, d1, ds1, p1, q1, rfl, rfl, rfl, h1, r1⟩ := trodAll_cons r0
  obtain ⟨v2, vs2, d2, ds2, p2, q2, rfl, rfl, rfl, h2, r2⟩ := trodAll_cons r1
  obtain ⟨rfl, rfl, rfl⟩ := trodAll_nil r2
  obtain rfl : args = #[v0, v1, v2] := by cases args; simp_all
  obtain ⟨rfl, rfl⟩ := trodVars_none hV
  have k0 := h0
  have lt0 : ∀ x ∈ p0, x.block < W.heap.size := by obtain ⟨m, hm⟩ := k0; exact DataW.trod_lt m _ _ _ hm
  obtain ⟨A0, len0, c0, rfl⟩ := okWide_slice Tryz.underlying22 (hval 0 22 v0 rfl rfl)
  obtain ⟨fuel0, hf0⟩ := h0
  obtain ⟨l0, ⟨B0, b0, he0, hc0, hr0⟩, w0⟩ := (Hm.opens_slice 40 Tryz.underlying22 (by kernel_rfl) (Hm.opens_struct (fun (e : Sx.Stp) => (e.op, e.which, e.tt, e.n1, e.n2, e.off, e.cnt, e.mode, e.verf, e.d, e.raw, (e.ai, e.ag))) (fun p => (⟨p.1, p.2.1, p.2.2.1, p.2.2.2.1, p.2.2.2.2.1, p.2.2.2.2.2.1, p.2.2.2.2.2.2.1, p.2.2.2.2.2.2.2.1, p.2.2.2.2.2.2.2.2.1, p.2.2.2.2.2.2.2.2.2.1, p.2.2.2.2.2.2.2.2.2.2.1, p.2.2.2.2.2.2.2.2.2.2.2.1, p.2.2.2.2.2.2.2.2.2.2.2.2⟩ : Sx.Stp)) (fun _ => rfl) Tryz.underlying40 (by kernel_rfl) (Hm.opensF_cons (Hm.opens_int Tryz.underlying5) (Hm.opensF_cons (Hm.opens_int Tryz.underlying5) (Hm.opensF_cons (Hm.opens_int Tryz.underlying5) (Hm.opensF_cons (Hm.opens_int Tryz.underlying5) (Hm.opensF_cons (Hm.opens_int Tryz.underlying5) (Hm.opensF_cons (Hm.opens_int Tryz.underlying37) (Hm.opensF_cons (Hm.opens_int Tryz.underlying5) (Hm.opensF_cons (Hm.opens_int Tryz.underlying37) (Hm.opensF_cons (Hm.opens_int Tryz.underlying5) (Hm.opensF_cons (Hm.opens_slice 5 Tryz.underlying38 (by kernel_rfl) (Hm.opens_int Tryz.underlying5)) (Hm.opensF_cons (Hm.opens_bool Tryz.underlying4) (Hm.opensF_one (Hm.opens_struct id id (fun _ => rfl) Tryz.underlying35 (by kernel_rfl) (Hm.opensF_cons (Hm.opens_int Tryz.underlying33) (Hm.opensF_one (Hm.opens_int Tryz.underlying33)))))))))))))))))) H enc W 0 _ true fuel0 _ _ hf0
  obtain ⟨rfl, rfl, rfl⟩ : A0 = B0 ∧ len0 = l0.length ∧ c0 = b0 := by simpa [Value.cells] using he0
  obtain ⟨a1, rfl, rfl, rfl, w1⟩ := open_int Tryz.underlying5 (hval 1 5 v1 rfl rfl) h1
  obtain ⟨a2, rfl, rfl, rfl, w2⟩ := open_int Tryz.underlying5 (hval 2 5 v2 rfl rfl) h2
  clear hA0 hval0 hsz0 hsz
  refine (Sx.OpsReads_any A0 c0 l0 a1 a2 W hr0 hc0 w0 w1 w2).mono fun e W' ⟨he, bel⟩ => ?_
  subst he
  exact ⟨_, rfl, _, _, _, [], _, [], hW', trodAll_mk1 (shut_bool Tryz.underlying4 _), (trodAll_cons_mk (Below.trod laidOut (by kernel_rfl) (of_decide_eq_true (by kernel_rfl)) k0 bel lt0) (trodAll_cons_mk (shut_int Tryz.underlying5 w1) (trodAll_cons_mk (shut_int Tryz.underlying5 w2) trodAll_mk0))), rfl, bel.frame _, fun h => by cases h⟩
theorem over : Rows.opsReadsRow.holds Tryz.pinned (OpenSpec.ofChange Rows.opsReadsSpec) :=
  OpenClaim.holds_of_wide 15 Tryz.f15 rfl rfl rfl rfl rfl rfl rfl ⟨rfl, rfl, rfl, rfl, rfl⟩ rfl rfl rfl rfl rfl (by kernel_rfl) Tryz.func15 (by kernel_rfl)
    (of_decide_eq_true (by kernel_rfl)) (by unfold Func.isWrapper; first | (rw [if_pos (by decide +kernel)]; kernel_rfl) | (rw [if_neg (by decide +kernel)]; exact ⟨rfl, rfl⟩))
    (fun os started H enc _ => lifted os started H enc)
theorem proved : Rows.OpsReadsSaid := over
#print axioms proved
end Go.Proofs.YtanemmcddgkpdaaGreat.opsReads
namespace Go.Proofs.YtanemmcddgkpdaaGreat
/-- The row, under a short name, for the claim. -/
theorem opsReads_holds : Rows.OpsReadsSaid := opsReads.proved
end Go.Proofs.YtanemmcddgkpdaaGreat
