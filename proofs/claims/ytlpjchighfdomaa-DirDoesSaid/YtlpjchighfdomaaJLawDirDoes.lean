/- The row of the statement DirDoes: it holds as given, out of the walk of its Go function; no condition. -/
import Derived.Test.YtlpjchighfdomaaRows
import Derived.Test.YtlpjchighfdomaaJLawB
import Derived.Test.YtlpjchighfdomaaJA
import Derived.WalkKit
import Derived.ProofKit
import Derived.OpenShut
import Derived.ShutString
import Derived.ChangeOld
import Derived.Below
import Derived.Carry
import Derived.SizedLaws
namespace Go.Proofs.Ytlpjchighfdomaa.dirDoes
open Go.ChangeShapes Go.WideShapes Go.ChangeAt Go.RowKit
open Go.ChangeMaps (open_string shut_string)
open Go.Proofs.YtlpjchighfdomaaW.PrintWords
set_option linter.unusedVariables false
theorem own : ownKnob Try.prog.godebug = none := by kernel_rfl
theorem laidOut : laidOutB Try.prog = true := by kernel_rfl
set_option maxRecDepth 100000 in
theorem lifted (os : Os) (started : os.Started) (H : Type) (enc : TypeId × Value → H) :
    ReturnsInHanded {} Try.checked os 4 .any (Rows.dirDoesSpec.pre6 enc Try.prog Try.f4 Rows.dirDoesRow.domain false) (Rows.dirDoesSpec.post enc Try.prog Try.f4 false true false false) := by
  refine returnsInHanded_of_change_sized (C := Try.checked) own started (by kernel_rfl) Try.func4
    (ChangeSpec.witness6 (enc := enc) (C := Try.checked) false ⟨#[], #[.slice none 0 0, .agg #[.int .u64 0, .int .u32 0, .int .u32 0, .string ⟨#[]⟩], .int .u64 0, .int .i64 0], []⟩ 8 (by kernel_rfl) (by kernel_rfl) (by kernel_rfl) (by kernel_rfl)) ?_
  intro W base args ds gs before hval0 hW hcnd hsz0 _
  have hsz : (DataW.weightsEach Try.prog (Try.f4.params.toList ++ Rows.dirDoesSpec.plain.varTypes Try.prog) (ds ++ gs)).all (· ≤ reachBytes) = true := hsz0
  have hval : ∀ (j : Nat) t v, Try.f4.params[j]? = some t → args[j]? = some v → Value.okWide Try.prog W .any base t v := hval0
  have hW' := hW
  obtain ⟨p, q, hA0, hV, rfl, hfz, hnd⟩ := hW
  have hA : DataW.TrodAll enc Try.prog W 0 (fun _ => true) true Try.f4.params.toList args.toList ds p := hA0
  rw [Try.params4] at hA hval hsz
  obtain ⟨v0, vs0, d0, ds0, p0, q0, hargs, rfl, rfl, h0, r0⟩ := trodAll_cons hA
  obtain ⟨v1, vs1, d1, ds1, p1, q1, rfl, rfl, rfl, h1, r1⟩ := trodAll_cons r0
  obtain ⟨v2, vs2, d2, ds2, p2, q2, rfl, rfl, rfl, h2, r2⟩ := trodAll_cons r1
  obtain ⟨v3, vs3, d3, ds3, p3, q3, rfl, rfl, rfl, h3, r3⟩ := trodAll_cons r2
  obtain ⟨rfl, rfl, rfl⟩ := trodAll_nil r3
  obtain rfl : args = #[v0, v1, v2, v3] := by cases args; simp_all
  obtain ⟨rfl, rfl⟩ := trodVars_none hV
  have k0 := h0
  have lt0 : ∀ x ∈ p0, x.block < W.heap.size := by obtain ⟨m, hm⟩ := k0; exact DataW.trod_lt m _ _ _ hm
  obtain ⟨A0, len0, c0, rfl⟩ := okWide_slice Try.underlying24 (hval 0 24 v0 rfl rfl)
  obtain ⟨fuel0, hf0⟩ := h0
  obtain ⟨l0, ⟨B0, b0, he0, hc0, hr0⟩, w0⟩ := (Hm.opens_slice 41 Try.underlying24 (by kernel_rfl) (Hm.opens_struct (fun (e : Hm.Ent) => (e.c, (e.i, e.g), e.s)) (fun p => (⟨p.1, p.2.1.1, p.2.1.2, p.2.2⟩ : Hm.Ent)) (fun _ => rfl) Try.underlying41 (by kernel_rfl) (Hm.opensF_cons (Hm.opens_int Try.underlying36) (Hm.opensF_cons (Hm.opens_struct id id (fun _ => rfl) Try.underlying39 (by kernel_rfl) (Hm.opensF_cons (Hm.opens_int Try.underlying37) (Hm.opensF_one (Hm.opens_int Try.underlying37)))) (Hm.opensF_one (Hm.opens_string Try.underlying9)))))) H enc W 0 _ true fuel0 _ _ hf0
  obtain ⟨rfl, rfl, rfl⟩ : A0 = B0 ∧ len0 = l0.length ∧ c0 = b0 := by simpa [Value.cells] using he0
  have k1 := h1
  have lt1 : ∀ x ∈ p1, x.block < W.heap.size := by obtain ⟨m, hm⟩ := k1; exact DataW.trod_lt m _ _ _ hm
  obtain ⟨q1, rfl, hq1⟩ := okWide_struct Try.underlying41 (hval 1 41 v1 rfl rfl)
  obtain ⟨fuel1, hf1⟩ := h1
  obtain ⟨⟨a1_0, ⟨⟨a1_1, a1_2⟩, a1_3⟩⟩, hK1, ⟨w1_0, ⟨⟨w1_1, w1_2⟩, w1_3⟩⟩⟩ := (Hm.opens_struct id id (fun _ => rfl) Try.underlying41 (by kernel_rfl) (Hm.opensF_cons (Hm.opens_int Try.underlying36) (Hm.opensF_cons (Hm.opens_struct id id (fun _ => rfl) Try.underlying39 (by kernel_rfl) (Hm.opensF_cons (Hm.opens_int Try.underlying37) (Hm.opensF_one (Hm.opens_int Try.underlying37)))) (Hm.opensF_one (Hm.opens_string Try.underlying9))))) H enc W 0 _ true fuel1 _ _ hf1
  obtain ⟨e0, e1, he1, rfl, ⟨_, _, rfl, ⟨_, _, rfl, rfl, rfl⟩, rfl⟩⟩ := hK1
  obtain rfl : q1 = #[.int .u64 a1_0, .int .u32 a1_1, .int .u32 a1_2, .string a1_3] := by apply Array.ext'; simpa [Value.cells] using he1
  obtain ⟨a2, rfl, rfl, rfl, w2⟩ := open_int Try.underlying36 (hval 2 36 v2 rfl rfl) h2
  obtain ⟨a3, rfl, rfl, rfl, w3⟩ := open_int Try.underlying3 (hval 3 3 v3 rfl rfl) h3
  clear hA0 hval0 hsz0 hsz
  refine (Sx.DirDoes_any A0 c0 l0 a1_0 a1_1 a1_2 a1_3 a2 a3 W hr0 hc0 w0 w1_0 w1_1 w1_2 w1_3 w2 w3).mono fun e W' ⟨he, bel⟩ => ?_
  subst he
  exact ⟨_, rfl, _, _, _, [], _, [], hW', trodAll_mk1 (shut_bool Try.underlying4 _), (trodAll_cons_mk (Below.trod laidOut (by kernel_rfl) (of_decide_eq_true (by kernel_rfl)) k0 bel lt0) (trodAll_cons_mk (Below.trod laidOut (by kernel_rfl) (of_decide_eq_true (by kernel_rfl)) k1 bel lt1) (trodAll_cons_mk (shut_int Try.underlying36 w2) (trodAll_cons_mk (shut_int Try.underlying3 w3) trodAll_mk0)))), rfl, bel.frame _, fun h => by cases h⟩
theorem over : Rows.dirDoesRow.holds Try.pinned (OpenSpec.ofChange Rows.dirDoesSpec) :=
  OpenClaim.holds_of_wide 4 Try.f4 rfl rfl rfl rfl rfl rfl rfl ⟨rfl, rfl, rfl, rfl, rfl⟩ rfl rfl rfl rfl rfl (by kernel_rfl) Try.func4 (by kernel_rfl)
    (of_decide_eq_true (by kernel_rfl)) (by unfold Func.isWrapper; first | (rw [if_pos (by decide +kernel)]; kernel_rfl) | (rw [if_neg (by decide +kernel)]; exact ⟨rfl, rfl⟩))
    (fun os started H enc _ => lifted os started H enc)
theorem proved : Rows.DirDoesSaid := over
#print axioms proved
end Go.Proofs.Ytlpjchighfdomaa.dirDoes
namespace Go.Proofs.Ytlpjchighfdomaa
/-- The row, under a short name, for the claim. -/
theorem dirDoes_holds : Rows.DirDoesSaid := dirDoes.proved
end Go.Proofs.Ytlpjchighfdomaa
