/- The row of the statement DirPages: it holds as given, out of the walk of its Go function; no condition. -/
import Derived.Test.YtlpjchighfdomaaRows
import Derived.Test.YtlpjchighfdomaaJY8
import Derived.Test.YtlpjchighfdomaaJA
import Derived.Test.YtlpjchighfdomaaJA2
import Derived.WalkKit
import Derived.ProofKit
import Derived.OpenShut
import Derived.ShutString
import Derived.ChangeOld
import Derived.Below
import Derived.Carry
import Derived.SizedLaws
namespace Go.Proofs.Ytlpjchighfdomaa.dirPages
open Go.ChangeShapes Go.WideShapes Go.ChangeAt Go.RowKit
open Go.ChangeMaps (open_string shut_string)
open Go.Proofs.YtlpjchighfdomaaW.PrintWords
set_option linter.unusedVariables false
theorem own : ownKnob Try.prog.godebug = none := by kernel_rfl
theorem laidOut : laidOutB Try.prog = true := by kernel_rfl
set_option maxRecDepth 100000 in
theorem lifted (os : Os) (started : os.Started) (H : Type) (enc : TypeId × Value → H) :
    ReturnsInHanded {} Try.checked os 9 .any (Rows.dirPagesSpec.pre6 enc Try.prog Try.f9 Rows.dirPagesRow.domain false) (Rows.dirPagesSpec.post enc Try.prog Try.f9 false true false false) := by
  refine returnsInHanded_of_change_sized (C := Try.checked) own started (by kernel_rfl) Try.func9
    (ChangeSpec.witness6 (enc := enc) (C := Try.checked) false ⟨#[], #[.slice none 0 0, .int .u8 0], []⟩ 8 (by kernel_rfl) (by kernel_rfl) (by kernel_rfl) (by kernel_rfl)) ?_
  intro W base args ds gs before hval0 hW hcnd hsz0 _
  have hsz : (DataW.weightsEach Try.prog (Try.f9.params.toList ++ Rows.dirPagesSpec.plain.varTypes Try.prog) (ds ++ gs)).all (· ≤ reachBytes) = true := hsz0
  have hval : ∀ (j : Nat) t v, Try.f9.params[j]? = some t → args[j]? = some v → Value.okWide Try.prog W .any base t v := hval0
  have hW' := hW
  obtain ⟨p, q, hA0, hV, rfl, hfz, hnd⟩ := hW
  have hA : DataW.TrodAll enc Try.prog W 0 (fun _ => true) true Try.f9.params.toList args.toList ds p := hA0
  rw [Try.params9] at hA hval hsz
  obtain ⟨v0, vs0, d0, ds0, p0, q0, hargs, rfl, rfl, h0, r0⟩ := trodAll_cons hA
  obtain ⟨v1, vs1, d1, ds1, p1, q1, rfl, rfl, rfl, h1, r1⟩ := trodAll_cons r0
  obtain ⟨rfl, rfl, rfl⟩ := trodAll_nil r1
  obtain rfl : args = #[v0, v1] := by cases args; simp_all
  obtain ⟨rfl, rfl⟩ := trodVars_none hV
  have k0 := h0
  have lt0 : ∀ x ∈ p0, x.block < W.heap.size := by obtain ⟨m, hm⟩ := k0; exact DataW.trod_lt m _ _ _ hm
  obtain ⟨A0, len0, c0, rfl⟩ := okWide_slice Try.underlying24 (hval 0 24 v0 rfl rfl)
  obtain ⟨fuel0, hf0⟩ := h0
  obtain ⟨l0, ⟨B0, b0, he0, hc0, hr0⟩, w0⟩ := (Hm.opensS_slice 41 Try.underlying24 (by kernel_rfl) (Hm.OpensS.of (Hm.opens_struct (fun (e : Hm.Ent) => (e.c, (e.i, e.g), e.s)) (fun p => (⟨p.1, p.2.1.1, p.2.1.2, p.2.2⟩ : Hm.Ent)) (fun _ => rfl) Try.underlying41 (by kernel_rfl) (Hm.opensF_cons (Hm.opens_int Try.underlying36) (Hm.opensF_cons (Hm.opens_struct id id (fun _ => rfl) Try.underlying39 (by kernel_rfl) (Hm.opensF_cons (Hm.opens_int Try.underlying37) (Hm.opensF_one (Hm.opens_int Try.underlying37)))) (Hm.opensF_one (Hm.opens_string Try.underlying9))))))) H enc W 0 _ true fuel0 _ _ hf0 (fun n hn => by have h9 := List.all_eq_true.1 hsz n (DataW.weights_mem_each (j := 0) rfl rfl n hn); simpa using h9)
  obtain ⟨rfl, rfl, rfl⟩ : A0 = B0 ∧ len0 = l0.length ∧ c0 = b0 := by simpa [Value.cells] using he0
  obtain ⟨a1, rfl, rfl, rfl, w1⟩ := open_int Try.underlying5 (hval 1 5 v1 rfl rfl) h1
  clear hA0 hval0 hsz0 hsz
  refine (Sx.DirPages_any A0 c0 l0 a1 W hr0 hc0 w0 w1).mono fun e W' ⟨he, bel⟩ => ?_
  subst he
  exact ⟨_, rfl, _, _, _, [], _, [], hW', trodAll_mk1 (shut_bool Try.underlying4 _), (trodAll_cons_mk (Below.trod laidOut (by kernel_rfl) (of_decide_eq_true (by kernel_rfl)) k0 bel lt0) (trodAll_cons_mk (shut_int Try.underlying5 w1) trodAll_mk0)), rfl, bel.frame _, fun h => by cases h⟩
theorem over : Rows.dirPagesRow.holds Try.pinned (OpenSpec.ofChange Rows.dirPagesSpec) :=
  OpenClaim.holds_of_wide 9 Try.f9 rfl rfl rfl rfl rfl rfl rfl ⟨rfl, rfl, rfl, rfl, rfl⟩ rfl rfl rfl rfl rfl (by kernel_rfl) Try.func9 (by kernel_rfl)
    (of_decide_eq_true (by kernel_rfl)) (by unfold Func.isWrapper; first | (rw [if_pos (by decide +kernel)]; kernel_rfl) | (rw [if_neg (by decide +kernel)]; exact ⟨rfl, rfl⟩))
    (fun os started H enc _ => lifted os started H enc)
theorem proved : Rows.DirPagesSaid := over
#print axioms proved
end Go.Proofs.Ytlpjchighfdomaa.dirPages
namespace Go.Proofs.Ytlpjchighfdomaa
/-- The row, under a short name, for the claim. -/
theorem dirPages_holds : Rows.DirPagesSaid := dirPages.proved
end Go.Proofs.Ytlpjchighfdomaa
