/- The row of the statement ClientPlays: it holds as given, out of the walk of its Go function; no condition. -/
import Derived.Test.YtgjajalneknagaaRows
import Derived.Test.YtgjajalneknagaaJZ6
import Derived.Test.YtgjajalneknagaaJA
import Derived.Test.YtgjajalneknagaaJA2
import Derived.WalkKit
import Derived.ProofKit
import Derived.OpenShut
import Derived.ShutString
import Derived.ChangeOld
import Derived.Below
import Derived.Carry
import Derived.SizedLaws
namespace Go.Proofs.Ytgjajalneknagaa.clientPlays
open Go.ChangeShapes Go.WideShapes Go.ChangeAt Go.RowKit
open Go.ChangeMaps (open_string shut_string)
open Go.Proofs.YtgjajalneknagaaW.PrintWords
set_option linter.unusedVariables false
theorem own : ownKnob Try.prog.godebug = none := by kernel_rfl
theorem laidOut : laidOutB Try.prog = true := by kernel_rfl
set_option maxRecDepth 100000 in
theorem lifted (os : Os) (started : os.Started) (H : Type) (enc : TypeId × Value → H) :
    ReturnsInHanded {} Try.checked os 3 .any (Rows.clientPlaysSpec.pre6 enc Try.prog Try.f3 Rows.clientPlaysRow.domain false) (Rows.clientPlaysSpec.post enc Try.prog Try.f3 false true false false) := by
  refine returnsInHanded_of_change_sized (C := Try.checked) own started (by kernel_rfl) Try.func3
    (ChangeSpec.witness6 (enc := enc) (C := Try.checked) false ⟨#[], #[.int .u32 0, .int .i64 0, .slice none 0 0], []⟩ 8 (by kernel_rfl) (by kernel_rfl) (by kernel_rfl) (by kernel_rfl)) ?_
  intro W base args ds gs before hval0 hW hcnd hsz0 _
  have hsz : (DataW.weightsEach Try.prog (Try.f3.params.toList ++ Rows.clientPlaysSpec.plain.varTypes Try.prog) (ds ++ gs)).all (· ≤ reachBytes) = true := hsz0
  have hval : ∀ (j : Nat) t v, Try.f3.params[j]? = some t → args[j]? = some v → Value.okWide Try.prog W .any base t v := hval0
  have hW' := hW
  obtain ⟨p, q, hA0, hV, rfl, hfz, hnd⟩ := hW
  have hA : DataW.TrodAll enc Try.prog W 0 (fun _ => true) true Try.f3.params.toList args.toList ds p := hA0
  rw [Try.params3] at hA hval hsz
  obtain ⟨v0, vs0, d0, ds0, p0, q0, hargs, rfl, rfl, h0, r0⟩ := trodAll_cons hA
  obtain ⟨v1, vs1, d1, ds1, p1, q1, rfl, rfl, rfl, h1, r1⟩ := trodAll_cons r0
  obtain ⟨v2, vs2, d2, ds2, p2, q2, rfl, rfl, rfl, h2, r2⟩ := trodAll_cons r1
  obtain ⟨rfl, rfl, rfl⟩ := trodAll_nil r2
  obtain rfl : args = #[v0, v1, v2] := by cases args; simp_all
  obtain ⟨rfl, rfl⟩ := trodVars_none hV
  obtain ⟨a0, rfl, rfl, rfl, w0⟩ := open_int Try.underlying22 (hval 0 22 v0 rfl rfl) h0
  obtain ⟨a1, rfl, rfl, rfl, w1⟩ := open_int Try.underlying3 (hval 1 3 v1 rfl rfl) h1
  have k2 := h2
  have lt2 : ∀ x ∈ p2, x.block < W.heap.size := by obtain ⟨m, hm⟩ := k2; exact DataW.trod_lt m _ _ _ hm
  obtain ⟨A2, len2, c2, rfl⟩ := okWide_slice Try.underlying23 (hval 2 23 v2 rfl rfl)
  obtain ⟨fuel2, hf2⟩ := h2
  obtain ⟨l2, ⟨B2, b2, he2, hc2, hr2⟩, w2⟩ := (Hm.opensS_slice 51 Try.underlying23 (by kernel_rfl) (Hm.opensS_struct (fun (a : Sx.Act) => (a.k, (a.c.client, a.c.xid, a.c.op, (a.c.ai, a.c.ag), a.c.name, (a.c.ti, a.c.tg), a.c.toName, a.c.off, a.c.verf, a.c.cnt, a.c.mode, a.c.d), (a.m.k, (a.m.c.client, a.m.c.xid, a.m.c.op, (a.m.c.ai, a.m.c.ag), a.m.c.name, (a.m.c.ti, a.m.c.tg), a.m.c.toName, a.m.c.off, a.m.c.verf, a.m.c.cnt, a.m.c.mode, a.m.c.d), (a.m.r.client, a.m.r.xid, a.m.r.st, (a.m.r.ai, a.m.r.ag), (a.m.r.ak, a.m.r.am, a.m.r.al, a.m.r.sz, a.m.r.ac), a.m.r.d, a.m.r.e, a.m.r.eof, a.m.r.verf, a.m.r.free), (a.m.t.k, a.m.t.ep, a.m.t.sq, a.m.t.pl, a.m.t.d)), a.st, a.fr)) (fun p => (⟨p.1, ⟨p.2.1.1, p.2.1.2.1, p.2.1.2.2.1, p.2.1.2.2.2.1.1, p.2.1.2.2.2.1.2, p.2.1.2.2.2.2.1, p.2.1.2.2.2.2.2.1.1, p.2.1.2.2.2.2.2.1.2, p.2.1.2.2.2.2.2.2.1, p.2.1.2.2.2.2.2.2.2.1, p.2.1.2.2.2.2.2.2.2.2.1, p.2.1.2.2.2.2.2.2.2.2.2.1, p.2.1.2.2.2.2.2.2.2.2.2.2.1, p.2.1.2.2.2.2.2.2.2.2.2.2.2⟩, ⟨p.2.2.1.1, ⟨p.2.2.1.2.1.1, p.2.2.1.2.1.2.1, p.2.2.1.2.1.2.2.1, p.2.2.1.2.1.2.2.2.1.1, p.2.2.1.2.1.2.2.2.1.2, p.2.2.1.2.1.2.2.2.2.1, p.2.2.1.2.1.2.2.2.2.2.1.1, p.2.2.1.2.1.2.2.2.2.2.1.2, p.2.2.1.2.1.2.2.2.2.2.2.1, p.2.2.1.2.1.2.2.2.2.2.2.2.1, p.2.2.1.2.1.2.2.2.2.2.2.2.2.1, p.2.2.1.2.1.2.2.2.2.2.2.2.2.2.1, p.2.2.1.2.1.2.2.2.2.2.2.2.2.2.2.1, p.2.2.1.2.1.2.2.2.2.2.2.2.2.2.2.2⟩, ⟨p.2.2.1.2.2.1.1, p.2.2.1.2.2.1.2.1, p.2.2.1.2.2.1.2.2.1, p.2.2.1.2.2.1.2.2.2.1.1, p.2.2.1.2.2.1.2.2.2.1.2, p.2.2.1.2.2.1.2.2.2.2.1.1, p.2.2.1.2.2.1.2.2.2.2.1.2.1, p.2.2.1.2.2.1.2.2.2.2.1.2.2.1, p.2.2.1.2.2.1.2.2.2.2.1.2.2.2.1, p.2.2.1.2.2.1.2.2.2.2.1.2.2.2.2, p.2.2.1.2.2.1.2.2.2.2.2.1, p.2.2.1.2.2.1.2.2.2.2.2.2.1, p.2.2.1.2.2.1.2.2.2.2.2.2.2.1, p.2.2.1.2.2.1.2.2.2.2.2.2.2.2.1, p.2.2.1.2.2.1.2.2.2.2.2.2.2.2.2⟩, ⟨p.2.2.1.2.2.2.1, p.2.2.1.2.2.2.2.1, p.2.2.1.2.2.2.2.2.1, p.2.2.1.2.2.2.2.2.2.1, p.2.2.1.2.2.2.2.2.2.2⟩⟩, p.2.2.2.1, p.2.2.2.2⟩ : Sx.Act)) (fun _ => rfl) Try.underlying51 (by kernel_rfl) (Hm.opensFS_cons (Hm.OpensS.of (Hm.opens_int Try.underlying3)) (Hm.opensFS_cons (Hm.OpensS.of (Hm.opens_struct id id (fun _ => rfl) Try.underlying40 (by kernel_rfl) (Hm.opensF_cons (Hm.opens_int Try.underlying22) (Hm.opensF_cons (Hm.opens_int Try.underlying22) (Hm.opensF_cons (Hm.opens_int Try.underlying22) (Hm.opensF_cons (Hm.opens_struct id id (fun _ => rfl) Try.underlying30 (by kernel_rfl) (Hm.opensF_cons (Hm.opens_int Try.underlying22) (Hm.opensF_one (Hm.opens_int Try.underlying22)))) (Hm.opensF_cons (Hm.opens_string Try.underlying9) (Hm.opensF_cons (Hm.opens_struct id id (fun _ => rfl) Try.underlying30 (by kernel_rfl) (Hm.opensF_cons (Hm.opens_int Try.underlying22) (Hm.opensF_one (Hm.opens_int Try.underlying22)))) (Hm.opensF_cons (Hm.opens_string Try.underlying9) (Hm.opensF_cons (Hm.opens_int Try.underlying31) (Hm.opensF_cons (Hm.opens_int Try.underlying31) (Hm.opensF_cons (Hm.opens_int Try.underlying22) (Hm.opensF_cons (Hm.opens_int Try.underlying22) (Hm.opensF_one (Hm.opens_slice 5 Try.underlying38 (by kernel_rfl) (Hm.opens_int Try.underlying5)))))))))))))))) (Hm.opensFS_cons (Hm.opensS_struct id id (fun _ => rfl) Try.underlying49 (by kernel_rfl) (Hm.opensFS_cons (Hm.OpensS.of (Hm.opens_int Try.underlying22)) (Hm.opensFS_cons (Hm.OpensS.of (Hm.opens_struct id id (fun _ => rfl) Try.underlying40 (by kernel_rfl) (Hm.opensF_cons (Hm.opens_int Try.underlying22) (Hm.opensF_cons (Hm.opens_int Try.underlying22) (Hm.opensF_cons (Hm.opens_int Try.underlying22) (Hm.opensF_cons (Hm.opens_struct id id (fun _ => rfl) Try.underlying30 (by kernel_rfl) (Hm.opensF_cons (Hm.opens_int Try.underlying22) (Hm.opensF_one (Hm.opens_int Try.underlying22)))) (Hm.opensF_cons (Hm.opens_string Try.underlying9) (Hm.opensF_cons (Hm.opens_struct id id (fun _ => rfl) Try.underlying30 (by kernel_rfl) (Hm.opensF_cons (Hm.opens_int Try.underlying22) (Hm.opensF_one (Hm.opens_int Try.underlying22)))) (Hm.opensF_cons (Hm.opens_string Try.underlying9) (Hm.opensF_cons (Hm.opens_int Try.underlying31) (Hm.opensF_cons (Hm.opens_int Try.underlying31) (Hm.opensF_cons (Hm.opens_int Try.underlying22) (Hm.opensF_cons (Hm.opens_int Try.underlying22) (Hm.opensF_one (Hm.opens_slice 5 Try.underlying38 (by kernel_rfl) (Hm.opens_int Try.underlying5)))))))))))))))) (Hm.opensFS_cons (Hm.opensS_struct id id (fun _ => rfl) Try.underlying45 (by kernel_rfl) (Hm.opensFS_cons (Hm.OpensS.of (Hm.opens_int Try.underlying22)) (Hm.opensFS_cons (Hm.OpensS.of (Hm.opens_int Try.underlying22)) (Hm.opensFS_cons (Hm.OpensS.of (Hm.opens_int Try.underlying26)) (Hm.opensFS_cons (Hm.OpensS.of (Hm.opens_struct id id (fun _ => rfl) Try.underlying30 (by kernel_rfl) (Hm.opensF_cons (Hm.opens_int Try.underlying22) (Hm.opensF_one (Hm.opens_int Try.underlying22))))) (Hm.opensFS_cons (Hm.OpensS.of (Hm.opens_struct id id (fun _ => rfl) Try.underlying42 (by kernel_rfl) (Hm.opensF_cons (Hm.opens_int Try.underlying22) (Hm.opensF_cons (Hm.opens_int Try.underlying22) (Hm.opensF_cons (Hm.opens_int Try.underlying22) (Hm.opensF_cons (Hm.opens_int Try.underlying22) (Hm.opensF_one (Hm.opens_int Try.underlying31)))))))) (Hm.opensFS_cons (Hm.OpensS.of (Hm.opens_slice 5 Try.underlying38 (by kernel_rfl) (Hm.opens_int Try.underlying5))) (Hm.opensFS_cons (Hm.opensS_slice 101 Try.underlying43 (by kernel_rfl) (Hm.OpensS.of (Hm.opens_struct (fun (e : Hm.Ent) => (e.c, (e.i, e.g), e.s)) (fun p => (⟨p.1, p.2.1.1, p.2.1.2, p.2.2⟩ : Hm.Ent)) (fun _ => rfl) Try.underlying101 (by kernel_rfl) (Hm.opensF_cons (Hm.opens_int Try.underlying31) (Hm.opensF_cons (Hm.opens_struct id id (fun _ => rfl) Try.underlying30 (by kernel_rfl) (Hm.opensF_cons (Hm.opens_int Try.underlying22) (Hm.opensF_one (Hm.opens_int Try.underlying22)))) (Hm.opensF_one (Hm.opens_string Try.underlying9))))))) (Hm.opensFS_cons (Hm.OpensS.of (Hm.opens_bool Try.underlying4)) (Hm.opensFS_cons (Hm.OpensS.of (Hm.opens_int Try.underlying31)) (Hm.opensFS_one (Hm.OpensS.of (Hm.opens_int Try.underlying22))))))))))))) (Hm.opensFS_one (Hm.OpensS.of (Hm.opens_struct id id (fun _ => rfl) Try.underlying47 (by kernel_rfl) (Hm.opensF_cons (Hm.opens_int Try.underlying22) (Hm.opensF_cons (Hm.opens_int Try.underlying31) (Hm.opensF_cons (Hm.opens_int Try.underlying31) (Hm.opensF_cons (Hm.opens_int Try.underlying22) (Hm.opensF_one (Hm.opens_slice 5 Try.underlying38 (by kernel_rfl) (Hm.opens_int Try.underlying5)))))))))))))) (Hm.opensFS_cons (Hm.OpensS.of (Hm.opens_int Try.underlying26)) (Hm.opensFS_one (Hm.OpensS.of (Hm.opens_int Try.underlying22))))))))) H enc W 0 _ true fuel2 _ _ hf2 (fun n hn => by have h9 := List.all_eq_true.1 hsz n (DataW.weights_mem_each (j := 2) rfl rfl n hn); simpa using h9)
  obtain ⟨rfl, rfl, rfl⟩ : A2 = B2 ∧ len2 = l2.length ∧ c2 = b2 := by simpa [Value.cells] using he2
  clear hA0 hval0 hsz0 hsz
  refine (Sx.ClientPlays_any a0 a1 A2 c2 l2 W w0 w1 hr2 hc2 w2).mono fun e W' ⟨he, bel⟩ => ?_
  subst he
  exact ⟨_, rfl, _, _, _, [], _, [], hW', trodAll_mk1 (shut_bool Try.underlying4 _), (trodAll_cons_mk (shut_int Try.underlying22 w0) (trodAll_cons_mk (shut_int Try.underlying3 w1) (trodAll_cons_mk (Below.trod laidOut (by kernel_rfl) (of_decide_eq_true (by kernel_rfl)) k2 bel lt2) trodAll_mk0))), rfl, bel.frame _, fun h => by cases h⟩
theorem over : Rows.clientPlaysRow.holds Try.pinned (OpenSpec.ofChange Rows.clientPlaysSpec) :=
  OpenClaim.holds_of_wide 3 Try.f3 rfl rfl rfl rfl rfl rfl rfl ⟨rfl, rfl, rfl, rfl, rfl⟩ rfl rfl rfl rfl rfl (by kernel_rfl) Try.func3 (by kernel_rfl)
    (of_decide_eq_true (by kernel_rfl)) (by unfold Func.isWrapper; first | (rw [if_pos (by decide +kernel)]; kernel_rfl) | (rw [if_neg (by decide +kernel)]; exact ⟨rfl, rfl⟩))
    (fun os started H enc _ => lifted os started H enc)
theorem proved : Rows.ClientPlaysSaid := over
#print axioms proved
end Go.Proofs.Ytgjajalneknagaa.clientPlays
namespace Go.Proofs.Ytgjajalneknagaa
/-- The row, under a short name, for the claim. -/
theorem clientPlays_holds : Rows.ClientPlaysSaid := clientPlays.proved
end Go.Proofs.Ytgjajalneknagaa
