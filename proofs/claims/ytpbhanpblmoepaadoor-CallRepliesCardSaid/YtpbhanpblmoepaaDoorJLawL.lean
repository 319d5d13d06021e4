/- Chapter 9's law CallReplies, walked; conditions: those that each theorem names. -/
import Derived.Test.YtpbhanpblmoepaaDoorJLawJ
namespace Go.Proofs.YtpbhanpblmoepaaDoor.Sx
open Go.RowKit Go.Proofs.YtpbhanpblmoepaaDoor.Hm Go.Proofs.YtpbhanpblmoepaaDoorW.PrintWords Go.Proofs.YtpbhanpblmoepaaDoorW.PrintLast Go.Proofs.YtpbhanpblmoepaaDoorW.PrintMore
set_option linter.unusedVariables false
set_option linter.unusedSimpArgs false
attribute [local irreducible] SX SXL SXA St callK Post Evals

section
variable {F R : List Thing} {K : Ending → List Thing → Prop} {A B C : Option Addr} {c c2 c3 : Nat} {tg : TypeId} {s : Re}
set_option maxHeartbeats 1000000 in
set_option maxRecDepth 20000 in
theorem replyOf_S (hr : Ro (Kd.int .u8) A F s.d) (hre : Ro kE B F s.e) (hl : s.e.length ≤ 1000) (hc2 : s.e.length ≤ c2) (h : ∀ B' c', s.e.length ≤ c' → K (.returned (.agg (rrC s B' c').toArray)) (.own B' (rowR kE 100 (.slice B' s.e.length c') s.e) :: F)) : Fn (Tryd.prog) 19 [.agg (reC s A c B c2).toArray] F K := by
  unfold reC
  refine Fn.enter Tryd.call19 Tryd.func19 rfl rfl rfl ?_
  repeat (first | refine Qa ?_ | refine Qb ?_ | refine Qc ?_ | refine Qd ?_ | refine Qe ?_ | refine Qf ?_ | refine Qg ?_ | refine Qh ?_ | refine Qi ?_ | refine Qj ?_ | refine Qk ?_ | refine Ql ?_ | refine Qm ?_ | refine Qn ?_ | refine Qo ?_ | refine Qp ?_ | refine Qq ?_ | fail)
  refine SXL.box rfl rfl rfl (fun b => ?_)
  repeat (first | refine Qa ?_ | refine Qb ?_ | refine Qc ?_ | refine Qd ?_ | refine Qe ?_ | refine Qf ?_ | refine Qg ?_ | refine Qh ?_ | refine Qi ?_ | refine Qj ?_ | refine Qk ?_ | refine Ql ?_ | refine Qm ?_ | refine Qn ?_ | refine Qo ?_ | refine Qp ?_ | refine Qq ?_ | fail)
  refine SXL.alloc rfl rfl (fun q => ?_)
  repeat (first | refine Qa ?_ | refine Qb ?_ | refine Qc ?_ | refine Qd ?_ | refine Qe ?_ | refine Qf ?_ | refine Qg ?_ | refine Qh ?_ | refine Qi ?_ | refine Qj ?_ | refine Qk ?_ | refine Ql ?_ | refine Qm ?_ | refine Qn ?_ | refine Qo ?_ | refine Qp ?_ | refine Qq ?_ | fail)
  refine SXL.bytesStr rfl inferInstance rfl Tryd.underlying26 Tryd.underlying5 Tryd.underlying9 rfl ?_
  repeat (first | refine Qa ?_ | refine Qb ?_ | refine Qc ?_ | refine Qd ?_ | refine Qe ?_ | refine Qf ?_ | refine Qg ?_ | refine Qh ?_ | refine Qi ?_ | refine Qj ?_ | refine Qk ?_ | refine Ql ?_ | refine Qm ?_ | refine Qn ?_ | refine Qo ?_ | refine Qp ?_ | refine Qq ?_ | fail)
  refine SXL.alloc rfl rfl (fun b3 => ?_)
  repeat (first | refine Qa ?_ | refine Qb ?_ | refine Qc ?_ | refine Qd ?_ | refine Qe ?_ | refine Qf ?_ | refine Qg ?_ | refine Qh ?_ | refine Qi ?_ | refine Qj ?_ | refine Qk ?_ | refine Ql ?_ | refine Qm ?_ | refine Qn ?_ | refine Qo ?_ | refine Qp ?_ | refine Qq ?_ | fail)
  refine SX.loop (fun z a M => ∃ (i : Nat) (B' : Option Addr) (c' : Nat), i + z = s.e.length ∧ (s.e.take i).length ≤ c' ∧ a = [(1, .pointer (some ⟨b, 0, none⟩)), (2, .pointer (some ⟨q, 0, none⟩)), (3, .pointer (some ⟨b3, 0, none⟩)), (4, .int .i64 i)] ∧
      .own B' (rowR kE 100 (.slice B' (s.e.take i).length c') (s.e.take i)) :: .own (some ⟨b3, 0, none⟩) (cellsR b3 (rrC { s with e := s.e.take i } B' c') 54) :: .own (some ⟨q, 0, none⟩) (cellsR q (rrC Re0 none 0) 54) :: .own (some ⟨b, 0, none⟩) (cellsR b (reC s A c B c2) 48) :: F = M)
    s.e.length ⟨0, none, 0, by omega, Nat.le_refl _, rfl, rfl⟩ (by repeat (first | exact trivial | refine ⟨rfl, ?_⟩)) (show Sub _ (.own none (rowR kE 100 (.slice none ([] : List Ent).length 0) []) :: .own (some ⟨b3, 0, none⟩) (cellsR b3 [.int .u32 s.client, .int .u32 s.xid, .int .i64 s.st, .int .u32 s.ai, .int .u32 s.ag, .int .u32 s.ak, .int .u32 s.am, .int .u32 s.al, .int .u32 s.sz, .int .u64 s.ac, .string (strOfNums s.d), .slice none 0 0, .bool s.eof, .int .u64 s.verf, .int .u32 s.free] 54) :: .own (some ⟨q, 0, none⟩) (cellsR q [.int .u32 0, .int .u32 0, .int .i64 0, .int .u32 0, .int .u32 0, .int .u32 0, .int .u32 0, .int .u32 0, .int .u32 0, .int .u64 0, .string ⟨#[]⟩, .slice none 0 0, .bool false, .int .u64 0, .int .u32 0] 54) :: .own (some ⟨b, 0, none⟩) (cellsR b (reC s A c B c2) 48) :: F) from by unfold reC; infer_instance) ?_
  rintro z _ _ ⟨i, B', c', hz, hc', rfl, rfl⟩
  have hti : (s.e.take i).length = i := by rw [List.length_take]; omega
  unfold rrC reC
  repeat (first | refine Qa ?_ | refine Qb ?_ | refine Qc ?_ | refine Qd ?_ | refine Qe ?_ | refine Qf ?_ | refine Qg ?_ | refine Qh ?_ | refine Qi ?_ | refine Qj ?_ | refine Qk ?_ | refine Ql ?_ | refine Qm ?_ | refine Qn ?_ | refine Qo ?_ | refine Qp ?_ | refine Qq ?_ | fail)
  refine SX.condp rfl (fun hi => ?_) (fun hi => ?_)
  · obtain ⟨e, he⟩ : ∃ e, s.e[i]? = some e := ⟨_, List.getElem?_eq_getElem (by omega)⟩
    refine SX.addr (A := B) kE (by decide) (xs := s.e) (by omega) (fun b4 o4 e4 => ?_)
    subst e4
    repeat (first | refine Qa ?_ | refine Qb ?_ | refine Qc ?_ | refine Qd ?_ | refine Qe ?_ | refine Qf ?_ | refine Qg ?_ | refine Qh ?_ | refine Qi ?_ | refine Qj ?_ | refine Qk ?_ | refine Ql ?_ | refine Qm ?_ | refine Qn ?_ | refine Qo ?_ | refine Qp ?_ | refine Qq ?_ | fail)
    refine SXA.begin (.own (some ⟨b3, 0, none⟩) (cellsR b3 (rrC { s with e := s.e.take i } B' c') 54) :: .own (some ⟨b, 0, none⟩) (cellsR b (reC s A c (some ⟨b4, o4, none⟩) c2) 48) :: F) [24] ?_
    unfold rrC reC
    (first | refine Qr 0 ?_ | refine Qs 0 ?_ | refine Qt 0 ?_ | refine Qu 0 ?_ | fail)
    (first | refine Qr 1 ?_ | refine Qs 1 ?_ | refine Qt 1 ?_ | refine Qu 1 ?_ | fail)
    (first | refine Qr 2 ?_ | refine Qs 2 ?_ | refine Qt 2 ?_ | refine Qu 2 ?_ | fail)
    (first | refine Qr 3 ?_ | refine Qs 3 ?_ | refine Qt 3 ?_ | refine Qu 3 ?_ | fail)
    (first | refine Qr 4 ?_ | refine Qs 4 ?_ | refine Qt 4 ?_ | refine Qu 4 ?_ | fail)
    (first | refine Qr 8 ?_ | refine Qs 8 ?_ | refine Qt 8 ?_ | refine Qu 8 ?_ | fail)
    (first | refine Qr 9 ?_ | refine Qs 9 ?_ | refine Qt 9 ?_ | refine Qu 9 ?_ | fail)
    (first | refine Qr 10 ?_ | refine Qs 10 ?_ | refine Qt 10 ?_ | refine Qu 10 ?_ | fail)
    (first | refine Qr 14 ?_ | refine Qs 14 ?_ | refine Qt 14 ?_ | refine Qu 14 ?_ | fail)
    (first | refine Qr 15 ?_ | refine Qs 15 ?_ | refine Qt 15 ?_ | refine Qu 15 ?_ | fail)
    (first | refine Qr 16 ?_ | refine Qs 16 ?_ | refine Qt 16 ?_ | refine Qu 16 ?_ | fail)
    refine SXA.idx 5 rfl (by decide +kernel) rfl rfl rfl rfl rfl rfl (by omega) (by omega) rfl inferInstance ?_
    refine SXA.idx 11 rfl (by decide +kernel) rfl rfl rfl rfl rfl rfl (by omega) (by omega) rfl inferInstance ?_
    refine SXA.idx 17 rfl (by decide +kernel) rfl rfl rfl rfl rfl rfl (by omega) (by omega) rfl inferInstance ?_
    (first | refine Qr 6 ?_ | refine Qs 6 ?_ | refine Qt 6 ?_ | refine Qu 6 ?_ | fail)
    (first | refine Qr 12 ?_ | refine Qs 12 ?_ | refine Qt 12 ?_ | refine Qu 12 ?_ | fail)
    (first | refine Qr 18 ?_ | refine Qs 18 ?_ | refine Qt 18 ?_ | refine Qu 18 ?_ | fail)
    refine SXA.loadRow1 7 kE rfl (by decide +kernel) rfl rfl rfl inferInstance (by rw [Int.toNat_natCast]; exact he) rfl rfl inferInstance ?_
    refine SXA.loadRow1 13 kE rfl (by decide +kernel) rfl rfl rfl inferInstance (by rw [Int.toNat_natCast]; exact he) rfl rfl inferInstance ?_
    refine SXA.loadRow1 19 kE rfl (by decide +kernel) rfl rfl rfl inferInstance (by rw [Int.toNat_natCast]; exact he) rfl rfl inferInstance ?_
    (first | refine Qr 20 ?_ | refine Qs 20 ?_ | refine Qt 20 ?_ | refine Qu 20 ?_ | fail)
    refine Qw 21 ?_
    refine SXL.lit rfl rfl (fun g => ?_)
    refine SXL.litRow kE g [e] inferInstance rfl (fun _ => rfl) (by simp) ?_
    refine SXL.nil (SXA.next inferInstance ?_)
    refine Qw 22 ?_
    refine SXL.append kE rfl rfl inferInstance inferInstance rfl inferInstance (by simp; omega) rfl (fun A' d' hd' => ?_)
    refine SXL.nil (SXA.next inferInstance ?_)
    (first | refine Qr 23 ?_ | refine Qs 23 ?_ | refine Qt 23 ?_ | refine Qu 23 ?_ | fail)
    have htk : s.e.take i ++ [e] = s.e.take (i + 1) := by
      obtain ⟨hil, hv⟩ := List.getElem?_eq_some_iff.1 he
      rw [List.take_succ_eq_append_getElem hil, hv]
    rw [htk] at hd' ⊢
    refine SXA.storeLast 24 rfl (by decide +kernel) rfl rfl inferInstance rfl rfl ?_
    refine Qv ?_
    repeat (first | refine Qa ?_ | refine Qb ?_ | refine Qc ?_ | refine Qd ?_ | refine Qe ?_ | refine Qf ?_ | refine Qg ?_ | refine Qh ?_ | refine Qi ?_ | refine Qj ?_ | refine Qk ?_ | refine Ql ?_ | refine Qm ?_ | refine Qn ?_ | refine Qo ?_ | refine Qp ?_ | refine Qq ?_ | fail)
    refine SX.same 4 (.int .i64 ((i + 1 : Nat) : Int)) rfl (by simp (disch := omega) only [IntWalk.i64_in, IntWalk.u8_in, IntWalk.u32_in, IntWalk.u64_in, IntWalk.rem_in, Int.natCast_add, Int.natCast_one]) ?_
    refine SX.again (z - 1) (by omega) ⟨i + 1, A', d', by omega, hd', rfl, rfl⟩ (by repeat (first | exact trivial | refine ⟨rfl, ?_⟩)) inferInstance
  · have hi' : i = s.e.length := by omega
    rw [hi', List.take_length] at hc' ⊢
    repeat (first | refine Qa ?_ | refine Qb ?_ | refine Qc ?_ | refine Qd ?_ | refine Qe ?_ | refine Qf ?_ | refine Qg ?_ | refine Qh ?_ | refine Qi ?_ | refine Qj ?_ | refine Qk ?_ | refine Ql ?_ | refine Qm ?_ | refine Qn ?_ | refine Qo ?_ | refine Qp ?_ | refine Qq ?_ | fail)
    refine SX.ret (M' := (.own B' (rowR kE 100 (.slice B' s.e.length c') s.e) :: F)) rfl (Evals.cell rfl inferInstance rfl Evals.nil) ?_ inferInstance
    exact h B' c' hc'
theorem sameRe_self (s : Re) : sameRe s s = true := by simp [sameRe, (sameE_iff s.e s.e).2 rfl]
set_option maxHeartbeats 1000000 in
set_option maxRecDepth 20000 in
theorem CallReplies_S {b : List Int} (hg : Has (cellsR 0 chT tg) F) (hr : Ro (Kd.int .u8) A F s.d) (hre : Ro kE B F s.e) (hrb : Ro (Kd.int .u8) C F b) (hc : s.d.length ≤ c) (hc2 : s.e.length ≤ c2) (hcb : b.length ≤ c3) (hs : s.wf) (hb : bytesB b = true) (h : K (.returned (.bool true)) F) :
    Fn (Tryd.prog) 4 [.agg (reC s A c B c2).toArray, .slice C b.length c3] F K := by
  unfold reC
  refine Fn.enter Tryd.call4 Tryd.func4 rfl rfl rfl ?_
  repeat (first | refine Qa ?_ | refine Qb ?_ | refine Qc ?_ | refine Qd ?_ | refine Qe ?_ | refine Qf ?_ | refine Qg ?_ | refine Qh ?_ | refine Qi ?_ | refine Qj ?_ | refine Qk ?_ | refine Ql ?_ | refine Qm ?_ | refine Qn ?_ | refine Qo ?_ | refine Qp ?_ | refine Qq ?_ | fail)
  refine SXL.box rfl rfl rfl (fun b1 => ?_)
  repeat (first | refine Qa ?_ | refine Qb ?_ | refine Qc ?_ | refine Qd ?_ | refine Qe ?_ | refine Qf ?_ | refine Qg ?_ | refine Qh ?_ | refine Qi ?_ | refine Qj ?_ | refine Qk ?_ | refine Ql ?_ | refine Qm ?_ | refine Qn ?_ | refine Qo ?_ | refine Qp ?_ | refine Qq ?_ | fail)
  refine SXL.call rfl rfl rfl ?_
  refine (awake09_S (tg := tg) inferInstance (callK.ret ?_))
  repeat (first | refine Qa ?_ | refine Qb ?_ | refine Qc ?_ | refine Qd ?_ | refine Qe ?_ | refine Qf ?_ | refine Qg ?_ | refine Qh ?_ | refine Qi ?_ | refine Qj ?_ | refine Qk ?_ | refine Ql ?_ | refine Qm ?_ | refine Qn ?_ | refine Qo ?_ | refine Qp ?_ | refine Qq ?_ | fail)
  refine SXL.split (s := 24) rfl (fun k1 => ?_) (fun k1 => ?_)
  · repeat (first | refine Qa ?_ | refine Qb ?_ | refine Qc ?_ | refine Qd ?_ | refine Qe ?_ | refine Qf ?_ | refine Qg ?_ | refine Qh ?_ | refine Qi ?_ | refine Qj ?_ | refine Qk ?_ | refine Ql ?_ | refine Qm ?_ | refine Qn ?_ | refine Qo ?_ | refine Qp ?_ | refine Qq ?_ | fail)
    refine SX.ret (M' := F) rfl (Evals.tmp rfl Evals.nil) ?_ inferInstance
    exact h
  have k1' := of_decide_eq_false k1
  repeat (first | refine Qa ?_ | refine Qb ?_ | refine Qc ?_ | refine Qd ?_ | refine Qe ?_ | refine Qf ?_ | refine Qg ?_ | refine Qh ?_ | refine Qi ?_ | refine Qj ?_ | refine Qk ?_ | refine Ql ?_ | refine Qm ?_ | refine Qn ?_ | refine Qo ?_ | refine Qp ?_ | refine Qq ?_ | fail)
  refine SXL.split (s := 30) rfl (fun k2 => ?_) (fun k2 => ?_)
  · repeat (first | refine Qa ?_ | refine Qb ?_ | refine Qc ?_ | refine Qd ?_ | refine Qe ?_ | refine Qf ?_ | refine Qg ?_ | refine Qh ?_ | refine Qi ?_ | refine Qj ?_ | refine Qk ?_ | refine Ql ?_ | refine Qm ?_ | refine Qn ?_ | refine Qo ?_ | refine Qp ?_ | refine Qq ?_ | fail)
    refine SX.ret (M' := F) rfl (Evals.tmp rfl Evals.nil) ?_ inferInstance
    exact h
  repeat (first | refine Qa ?_ | refine Qb ?_ | refine Qc ?_ | refine Qd ?_ | refine Qe ?_ | refine Qf ?_ | refine Qg ?_ | refine Qh ?_ | refine Qi ?_ | refine Qj ?_ | refine Qk ?_ | refine Ql ?_ | refine Qm ?_ | refine Qn ?_ | refine Qo ?_ | refine Qp ?_ | refine Qq ?_ | fail)
  refine SX.condp rfl (fun k4 => ?_) (fun k4 => ?_)
  · repeat (first | refine Qa ?_ | refine Qb ?_ | refine Qc ?_ | refine Qd ?_ | refine Qe ?_ | refine Qf ?_ | refine Qg ?_ | refine Qh ?_ | refine Qi ?_ | refine Qj ?_ | refine Qk ?_ | refine Ql ?_ | refine Qm ?_ | refine Qn ?_ | refine Qo ?_ | refine Qp ?_ | refine Qq ?_ | fail)
    refine SX.ret (M' := F) rfl (Evals.tmp rfl Evals.nil) ?_ inferInstance
    exact h
  repeat (first | refine Qa ?_ | refine Qb ?_ | refine Qc ?_ | refine Qd ?_ | refine Qe ?_ | refine Qf ?_ | refine Qg ?_ | refine Qh ?_ | refine Qi ?_ | refine Qj ?_ | refine Qk ?_ | refine Ql ?_ | refine Qm ?_ | refine Qn ?_ | refine Qo ?_ | refine Qp ?_ | refine Qq ?_ | fail)
  refine SXL.call rfl rfl rfl ?_
  refine (PutReply_S (s := s) inferInstance inferInstance hc hc2 hs (fun r n hm A1 c1 hc1 => callK.ret ?_))
  repeat (first | refine Qa ?_ | refine Qb ?_ | refine Qc ?_ | refine Qd ?_ | refine Qe ?_ | refine Qf ?_ | refine Qg ?_ | refine Qh ?_ | refine Qi ?_ | refine Qj ?_ | refine Qk ?_ | refine Ql ?_ | refine Qm ?_ | refine Qn ?_ | refine Qo ?_ | refine Qp ?_ | refine Qq ?_ | fail)
  refine SXL.call rfl rfl rfl ?_
  refine (replyOf_S (s := s) inferInstance inferInstance (by omega) hc2 (fun B1 d1 hd1 => callK.ret ?_))
  repeat (first | refine Qa ?_ | refine Qb ?_ | refine Qc ?_ | refine Qd ?_ | refine Qe ?_ | refine Qf ?_ | refine Qg ?_ | refine Qh ?_ | refine Qi ?_ | refine Qj ?_ | refine Qk ?_ | refine Ql ?_ | refine Qm ?_ | refine Qn ?_ | refine Qo ?_ | refine Qp ?_ | refine Qq ?_ | fail)
  refine SXL.call rfl rfl rfl ?_
  refine (RPutReply_S (s := s) (B := B1) inferInstance hd1 hs (fun r' n' hm' => callK.ret ?_))
  rw [hm] at hm'
  simp only [Prod.mk.injEq] at hm'
  obtain ⟨rfl, rfl⟩ := hm'
  repeat (first | refine Qa ?_ | refine Qb ?_ | refine Qc ?_ | refine Qd ?_ | refine Qe ?_ | refine Qf ?_ | refine Qg ?_ | refine Qh ?_ | refine Qi ?_ | refine Qj ?_ | refine Qk ?_ | refine Ql ?_ | refine Qm ?_ | refine Qn ?_ | refine Qo ?_ | refine Qp ?_ | refine Qq ?_ | fail)
  refine SXL.call rfl rfl rfl ?_
  refine (GetReply_S (xs := b) inferInstance hcb hb (by omega) (fun x m hg2 A2 c5 B2 d2 hc5 hd2 => callK.ret ?_))
  obtain ⟨hxw, hx1, hx2, -⟩ := getRe_wf hb hg2
  repeat (first | refine Qa ?_ | refine Qb ?_ | refine Qc ?_ | refine Qd ?_ | refine Qe ?_ | refine Qf ?_ | refine Qg ?_ | refine Qh ?_ | refine Qi ?_ | refine Qj ?_ | refine Qk ?_ | refine Ql ?_ | refine Qm ?_ | refine Qn ?_ | refine Qo ?_ | refine Qp ?_ | refine Qq ?_ | fail)
  refine SXL.alloc rfl rfl (fun b3 => ?_)
  repeat (first | refine Qa ?_ | refine Qb ?_ | refine Qc ?_ | refine Qd ?_ | refine Qe ?_ | refine Qf ?_ | refine Qg ?_ | refine Qh ?_ | refine Qi ?_ | refine Qj ?_ | refine Qk ?_ | refine Ql ?_ | refine Qm ?_ | refine Qn ?_ | refine Qo ?_ | refine Qp ?_ | refine Qq ?_ | fail)
  refine SXL.bytesStr rfl inferInstance rfl Tryd.underlying26 Tryd.underlying5 Tryd.underlying9 rfl ?_
  repeat (first | refine Qa ?_ | refine Qb ?_ | refine Qc ?_ | refine Qd ?_ | refine Qe ?_ | refine Qf ?_ | refine Qg ?_ | refine Qh ?_ | refine Qi ?_ | refine Qj ?_ | refine Qk ?_ | refine Ql ?_ | refine Qm ?_ | refine Qn ?_ | refine Qo ?_ | refine Qp ?_ | refine Qq ?_ | fail)
  refine SXL.call rfl rfl rfl ?_
  refine (RGetReply_S (strOfNums b) (by rw [size_strOfNums]; omega) (fun x' m' hg3 B4 d4 hd4 => callK.ret ?_))
  rw [bytesOf_strOfNums _ hb, hg2] at hg3
  simp only [Prod.mk.injEq] at hg3
  obtain ⟨rfl, rfl⟩ := hg3
  repeat (first | refine Qa ?_ | refine Qb ?_ | refine Qc ?_ | refine Qd ?_ | refine Qe ?_ | refine Qf ?_ | refine Qg ?_ | refine Qh ?_ | refine Qi ?_ | refine Qj ?_ | refine Qk ?_ | refine Ql ?_ | refine Qm ?_ | refine Qn ?_ | refine Qo ?_ | refine Qp ?_ | refine Qq ?_ | fail)
  refine SXL.alloc rfl rfl (fun b4 => ?_)
  repeat (first | refine Qa ?_ | refine Qb ?_ | refine Qc ?_ | refine Qd ?_ | refine Qe ?_ | refine Qf ?_ | refine Qg ?_ | refine Qh ?_ | refine Qi ?_ | refine Qj ?_ | refine Qk ?_ | refine Ql ?_ | refine Qm ?_ | refine Qn ?_ | refine Qo ?_ | refine Qp ?_ | refine Qq ?_ | fail)
  refine SXA.begin [.own (some ⟨b4, 0, none⟩) (cellsR b4 (rrC x B4 d4) 54), .own B4 (rowR kE 100 (.slice B4 x.e.length d4) x.e), .own (some ⟨b3, 0, none⟩) (cellsR b3 (reC x A2 c5 B2 d2) 48), .own A2 (rowR (Kd.int .u8) 5 (.slice A2 x.d.length c5) x.d), .own B2 (rowR kE 99 (.slice B2 x.e.length d2) x.e), .own A1 (rowR (Kd.int .u8) 5 (.slice A1 r.length c1) r), .own (some ⟨b1, 0, none⟩) (cellsR b1 (reC s A c B c2) 48)] [] ?_
  unfold reC rrC
  (first | refine Qr 0 ?_ | refine Qs 0 ?_ | refine Qt 0 ?_ | refine Qu 0 ?_ | fail)
  (first | refine Qr 2 ?_ | refine Qs 2 ?_ | refine Qt 2 ?_ | refine Qu 2 ?_ | fail)
  refine SXA.bytesStr 1 rfl (by decide +kernel) rfl rfl inferInstance rfl Tryd.underlying26 Tryd.underlying5 Tryd.underlying9 rfl inferInstance ?_
  (first | refine Qr 3 ?_ | refine Qs 3 ?_ | refine Qt 3 ?_ | refine Qu 3 ?_ | fail)
  (first | refine Qr 4 ?_ | refine Qs 4 ?_ | refine Qt 4 ?_ | refine Qu 4 ?_ | fail)
  refine SXA.know 62 false rfl (by simp) ?_
  (first | refine Qr 5 ?_ | refine Qs 5 ?_ | refine Qt 5 ?_ | refine Qu 5 ?_ | fail)
  (first | refine Qr 6 ?_ | refine Qs 6 ?_ | refine Qt 6 ?_ | refine Qu 6 ?_ | fail)
  (first | refine Qr 7 ?_ | refine Qs 7 ?_ | refine Qt 7 ?_ | refine Qu 7 ?_ | fail)
  (first | refine Qr 8 ?_ | refine Qs 8 ?_ | refine Qt 8 ?_ | refine Qu 8 ?_ | fail)
  (first | refine Qr 9 ?_ | refine Qs 9 ?_ | refine Qt 9 ?_ | refine Qu 9 ?_ | fail)
  refine SXA.know 67 false rfl (by simp) ?_
  (first | refine Qr 10 ?_ | refine Qs 10 ?_ | refine Qt 10 ?_ | refine Qu 10 ?_ | fail)
  (first | refine Qr 11 ?_ | refine Qs 11 ?_ | refine Qt 11 ?_ | refine Qu 11 ?_ | fail)
  (first | refine Qr 12 ?_ | refine Qs 12 ?_ | refine Qt 12 ?_ | refine Qu 12 ?_ | fail)
  (first | refine Qr 13 ?_ | refine Qs 13 ?_ | refine Qt 13 ?_ | refine Qu 13 ?_ | fail)
  (first | refine Qr 14 ?_ | refine Qs 14 ?_ | refine Qt 14 ?_ | refine Qu 14 ?_ | fail)
  refine SXA.know 72 false rfl (by simp) ?_
  (first | refine Qr 15 ?_ | refine Qs 15 ?_ | refine Qt 15 ?_ | refine Qu 15 ?_ | fail)
  (first | refine Qr 17 ?_ | refine Qs 17 ?_ | refine Qt 17 ?_ | refine Qu 17 ?_ | fail)
  refine Qw 16 ?_
  refine Qm ?_
  refine SXL.call rfl rfl rfl ?_
  refine (replyOf_S (s := x) (A := A2) (B := B2) inferInstance inferInstance (by omega) hd2 (fun B5 d5 hd5 => callK.ret ?_))
  refine SXL.nil (SXA.next inferInstance ?_)
  refine Qw 18 ?_
  refine Qm ?_
  refine SXL.call rfl rfl rfl ?_
  refine (SameRe_S (s := x) (u := x) (B := B5) (B' := B4) inferInstance inferInstance hd5 hd4 (by omega) (callK.ret ?_))
  rw [sameRe_self]
  refine SXL.nil (SXA.next inferInstance ?_)
  (first | refine Qr 19 ?_ | refine Qs 19 ?_ | refine Qt 19 ?_ | refine Qu 19 ?_ | fail)
  (first | refine Qr 20 ?_ | refine Qs 20 ?_ | refine Qt 20 ?_ | refine Qu 20 ?_ | fail)
  refine Qv ?_
  refine SX.know 78 false rfl (by simp) ?_
  repeat (first | refine Qa ?_ | refine Qb ?_ | refine Qc ?_ | refine Qd ?_ | refine Qe ?_ | refine Qf ?_ | refine Qg ?_ | refine Qh ?_ | refine Qi ?_ | refine Qj ?_ | refine Qk ?_ | refine Ql ?_ | refine Qm ?_ | refine Qn ?_ | refine Qo ?_ | refine Qp ?_ | refine Qq ?_ | fail)
  refine SX.cut (fun a M => a = [(1, .slice C b.length c3), (10, .pointer (some ⟨b3, 0, none⟩)), (11, .int .i64 m)] ∧ .own (some ⟨b3, 0, none⟩) (cellsR b3 (reC x A2 c5 B2 d2) 48) :: .own A2 (rowR (Kd.int .u8) 5 (.slice A2 x.d.length c5) x.d) :: .own B2 (rowR kE 99 (.slice B2 x.e.length d2) x.e) :: F = M) ?_ ?_
  · refine SX.cond rfl (fun hn => ?_) (fun hn => ?_)
    rotate_left
    · repeat (first | refine Qa ?_ | refine Qb ?_ | refine Qc ?_ | refine Qd ?_ | refine Qe ?_ | refine Qf ?_ | refine Qg ?_ | refine Qh ?_ | refine Qi ?_ | refine Qj ?_ | refine Qk ?_ | refine Ql ?_ | refine Qm ?_ | refine Qn ?_ | refine Qo ?_ | refine Qp ?_ | refine Qq ?_ | fail)
      refine SX.meet ⟨rfl, rfl⟩ (by repeat (first | exact trivial | refine ⟨rfl, ?_⟩)) (by unfold reC; infer_instance)
    obtain rfl : n = 0 := by simpa using hn
    obtain ⟨k, hp, rfl⟩ := putRe_ok hm
    have e1 := encRe_len k hp
    have e4 : bytesB (encRe s) = true := encFs_bytes (okRe_fs hs k hp)
    repeat (first | refine Qa ?_ | refine Qb ?_ | refine Qc ?_ | refine Qd ?_ | refine Qe ?_ | refine Qf ?_ | refine Qg ?_ | refine Qh ?_ | refine Qi ?_ | refine Qj ?_ | refine Qk ?_ | refine Ql ?_ | refine Qm ?_ | refine Qn ?_ | refine Qo ?_ | refine Qp ?_ | refine Qq ?_ | fail)
    refine SXL.call rfl rfl rfl ?_
    refine (GetReply_S (xs := encRe s) inferInstance hc1 e4 (by omega) (fun z i hg4 A6 c6 B6 d6 hc6 hd6 => callK.ret ?_))
    rw [getRe_put hs k hp] at hg4
    simp only [Prod.mk.injEq] at hg4
    obtain ⟨rfl, rfl⟩ := hg4
    repeat (first | refine Qa ?_ | refine Qb ?_ | refine Qc ?_ | refine Qd ?_ | refine Qe ?_ | refine Qf ?_ | refine Qg ?_ | refine Qh ?_ | refine Qi ?_ | refine Qj ?_ | refine Qk ?_ | refine Ql ?_ | refine Qm ?_ | refine Qn ?_ | refine Qo ?_ | refine Qp ?_ | refine Qq ?_ | fail)
    refine SXL.alloc rfl rfl (fun b5 => ?_)
    repeat (first | refine Qa ?_ | refine Qb ?_ | refine Qc ?_ | refine Qd ?_ | refine Qe ?_ | refine Qf ?_ | refine Qg ?_ | refine Qh ?_ | refine Qi ?_ | refine Qj ?_ | refine Qk ?_ | refine Ql ?_ | refine Qm ?_ | refine Qn ?_ | refine Qo ?_ | refine Qp ?_ | refine Qq ?_ | fail)
    refine SXA.begin [.own (some ⟨b5, 0, none⟩) (cellsR b5 (reC s A6 c6 B6 d6) 48), .own A6 (rowR (Kd.int .u8) 5 (.slice A6 s.d.length c6) s.d), .own B6 (rowR kE 99 (.slice B6 s.e.length d6) s.e), .own (some ⟨b3, 0, none⟩) (cellsR b3 (reC x A2 c5 B2 d2) 48), .own A2 (rowR (Kd.int .u8) 5 (.slice A2 x.d.length c5) x.d), .own B2 (rowR kE 99 (.slice B2 x.e.length d2) x.e), .own (some ⟨b1, 0, none⟩) (cellsR b1 (reC s A c B c2) 48)] [] ?_
    unfold reC
    (first | refine Qr 0 ?_ | refine Qs 0 ?_ | refine Qt 0 ?_ | refine Qu 0 ?_ | fail)
    (first | refine Qr 1 ?_ | refine Qs 1 ?_ | refine Qt 1 ?_ | refine Qu 1 ?_ | fail)
    (first | refine Qr 2 ?_ | refine Qs 2 ?_ | refine Qt 2 ?_ | refine Qu 2 ?_ | fail)
    refine SXA.know 88 false rfl (by simp) ?_
    (first | refine Qr 3 ?_ | refine Qs 3 ?_ | refine Qt 3 ?_ | refine Qu 3 ?_ | fail)
    (first | refine Qr 5 ?_ | refine Qs 5 ?_ | refine Qt 5 ?_ | refine Qu 5 ?_ | fail)
    refine Qw 4 ?_
    refine Qm ?_
    refine SXL.call rfl rfl rfl ?_
    refine (replyOf_S (s := s) (A := A6) (B := B6) inferInstance inferInstance (by omega) hd6 (fun B7 d7 hd7 => callK.ret ?_))
    refine SXL.nil (SXA.next inferInstance ?_)
    refine Qw 6 ?_
    refine Qm ?_
    refine SXL.call rfl rfl rfl ?_
    refine (replyOf_S (s := s) (A := A) (B := B) inferInstance inferInstance (by omega) hc2 (fun B8 d8 hd8 => callK.ret ?_))
    refine SXL.nil (SXA.next inferInstance ?_)
    refine Qw 7 ?_
    refine Qm ?_
    refine SXL.call rfl rfl rfl ?_
    refine (SameRe_S (s := s) (u := s) (B := B7) (B' := B8) inferInstance inferInstance hd7 hd8 (by omega) (callK.ret ?_))
    rw [sameRe_self]
    refine SXL.nil (SXA.next inferInstance ?_)
    (first | refine Qr 8 ?_ | refine Qs 8 ?_ | refine Qt 8 ?_ | refine Qu 8 ?_ | fail)
    (first | refine Qr 9 ?_ | refine Qs 9 ?_ | refine Qt 9 ?_ | refine Qu 9 ?_ | fail)
    refine Qv ?_
    refine SX.know 95 false rfl (by simp) ?_
    repeat (first | refine Qa ?_ | refine Qb ?_ | refine Qc ?_ | refine Qd ?_ | refine Qe ?_ | refine Qf ?_ | refine Qg ?_ | refine Qh ?_ | refine Qi ?_ | refine Qj ?_ | refine Qk ?_ | refine Ql ?_ | refine Qm ?_ | refine Qn ?_ | refine Qo ?_ | refine Qp ?_ | refine Qq ?_ | fail)
    refine SX.meet ⟨rfl, rfl⟩ (by repeat (first | exact trivial | refine ⟨rfl, ?_⟩)) (by first | infer_instance | (unfold reC; infer_instance))
  rintro _ _ ⟨rfl, rfl⟩
  unfold reC
  repeat (first | refine Qa ?_ | refine Qb ?_ | refine Qc ?_ | refine Qd ?_ | refine Qe ?_ | refine Qf ?_ | refine Qg ?_ | refine Qh ?_ | refine Qi ?_ | refine Qj ?_ | refine Qk ?_ | refine Ql ?_ | refine Qm ?_ | refine Qn ?_ | refine Qo ?_ | refine Qp ?_ | refine Qq ?_ | fail)
  refine SX.cond rfl (fun hm0 => ?_) (fun hm0 => ?_)
  · repeat (first | refine Qa ?_ | refine Qb ?_ | refine Qc ?_ | refine Qd ?_ | refine Qe ?_ | refine Qf ?_ | refine Qg ?_ | refine Qh ?_ | refine Qi ?_ | refine Qj ?_ | refine Qk ?_ | refine Ql ?_ | refine Qm ?_ | refine Qn ?_ | refine Qo ?_ | refine Qp ?_ | refine Qq ?_ | fail)
    refine SX.ret (M' := F) rfl (Evals.tmp rfl Evals.nil) ?_ inferInstance
    exact h
  obtain rfl : m = 0 := by simpa using hm0
  obtain ⟨hp, -⟩ := getRe_ok hb hg2
  repeat (first | refine Qa ?_ | refine Qb ?_ | refine Qc ?_ | refine Qd ?_ | refine Qe ?_ | refine Qf ?_ | refine Qg ?_ | refine Qh ?_ | refine Qi ?_ | refine Qj ?_ | refine Qk ?_ | refine Ql ?_ | refine Qm ?_ | refine Qn ?_ | refine Qo ?_ | refine Qp ?_ | refine Qq ?_ | fail)
  refine SXL.call rfl rfl rfl ?_
  refine (PutReply_S (s := x) (A := A2) (B := B2) inferInstance inferInstance hc5 hd2 hxw (fun r2 n2 hm2 A9 c9 hc9 => callK.ret ?_))
  rw [hp] at hm2
  simp only [Prod.mk.injEq] at hm2
  obtain ⟨rfl, rfl⟩ := hm2
  repeat (first | refine Qa ?_ | refine Qb ?_ | refine Qc ?_ | refine Qd ?_ | refine Qe ?_ | refine Qf ?_ | refine Qg ?_ | refine Qh ?_ | refine Qi ?_ | refine Qj ?_ | refine Qk ?_ | refine Ql ?_ | refine Qm ?_ | refine Qn ?_ | refine Qo ?_ | refine Qp ?_ | refine Qq ?_ | fail)
  refine SXL.bytesStr rfl inferInstance rfl Tryd.underlying26 Tryd.underlying5 Tryd.underlying9 rfl ?_
  repeat (first | refine Qa ?_ | refine Qb ?_ | refine Qc ?_ | refine Qd ?_ | refine Qe ?_ | refine Qf ?_ | refine Qg ?_ | refine Qh ?_ | refine Qi ?_ | refine Qj ?_ | refine Qk ?_ | refine Ql ?_ | refine Qm ?_ | refine Qn ?_ | refine Qo ?_ | refine Qp ?_ | refine Qq ?_ | fail)
  refine SXL.bytesStr rfl inferInstance rfl Tryd.underlying26 Tryd.underlying5 Tryd.underlying9 rfl ?_
  repeat (first | refine Qa ?_ | refine Qb ?_ | refine Qc ?_ | refine Qd ?_ | refine Qe ?_ | refine Qf ?_ | refine Qg ?_ | refine Qh ?_ | refine Qi ?_ | refine Qj ?_ | refine Qk ?_ | refine Ql ?_ | refine Qm ?_ | refine Qn ?_ | refine Qo ?_ | refine Qp ?_ | refine Qq ?_ | fail)
  refine SX.same 4 (.bool true) rfl (by simp) ?_
  refine SX.ret (M' := F) rfl (Evals.tmp rfl Evals.nil) ?_ inferInstance
  exact h
end
theorem CallReplies_any (s0 : Int) (s1 : Int) (s2 : Int) (s3 : Int) (s4 : Int) (s5 : Int) (s6 : Int) (s7 : Int) (s8 : Int) (s9 : Int) (Asa : Option Addr) (csa : Nat) (lsa : List Int) (Asb : Option Addr) (csb : Nat) (lsb : List Ent) (sd : Bool) (se : Int) (sf : Int) (Ab : Option Addr) (cb : Nat) (lb : List Int) (W : World) (tg : TypeId) (hg : W.heap[0]? = some (.cells chT.toArray tg (0, 0))) (ws0 : (Lit.int .u32 s0).wf = true) (ws1 : (Lit.int .u32 s1).wf = true) (ws2 : (Lit.int .i64 s2).wf = true) (ws3 : (Lit.int .u32 s3).wf = true) (ws4 : (Lit.int .u32 s4).wf = true) (ws5 : (Lit.int .u32 s5).wf = true) (ws6 : (Lit.int .u32 s6).wf = true) (ws7 : (Lit.int .u32 s7).wf = true) (ws8 : (Lit.int .u32 s8).wf = true) (ws9 : (Lit.int .u64 s9).wf = true) (rsa : Kd.C (Kd.int .u8) W Asa lsa.length lsa) (hsa : lsa.length ≤ csa) (wsa : lsa.length ≤ maxLen ∧ ∀ x ∈ lsa, (Lit.int .u8 x).wf = true) (rsb : kE.C W Asb lsb.length lsb) (hsb : lsb.length ≤ csb) (wsb : lsb.length ≤ maxLen ∧ ∀ e ∈ lsb, (Lit.int .u64 e.c).wf = true ∧ ((Lit.int .u32 e.i).wf = true ∧ (Lit.int .u32 e.g).wf = true) ∧ e.s.size ≤ maxLen) (wse : (Lit.int .u64 se).wf = true) (wsf : (Lit.int .u32 sf).wf = true) (rb : Kd.C (Kd.int .u8) W Ab lb.length lb) (hb : lb.length ≤ cb) (wb : lb.length ≤ maxLen ∧ ∀ x ∈ lb, (Lit.int .u8 x).wf = true) :
    Calls Tryd.prog 4 #[.agg #[.int .u32 s0, .int .u32 s1, .int .i64 s2, .int .u32 s3, .int .u32 s4, .int .u32 s5, .int .u32 s6, .int .u32 s7, .int .u32 s8, .int .u64 s9, .slice Asa lsa.length csa, .slice Asb lsb.length csb, .bool sd, .int .u64 se, .int .u32 sf], .slice Ab lb.length cb] W fun e w' => e = .returned (.bool true) ∧ Below W.heap.size W w' :=
  Fn.out W [.per (cellsR 0 chT tg), .per (roR (Kd.int .u8) Asa lsa), .per (roR kE Asb lsb), .per (roR (Kd.int .u8) Ab lb), .per (oldR W)] (Holds.ofStart (Holds.startRow (Holds.startRow (Holds.startRow (Holds.startRow (Holds.start0 W) (Kd.C_F (Kd.heap_int _) rb)) (Kd.C_F heapE rsb)) (Kd.C_F (Kd.heap_int _) rsa)) ⟨blk_lt hg, hg⟩)) inferInstance
    (CallReplies_S (s := (⟨s0, s1, s2, s3, s4, s5, s6, s7, s8, s9, lsa, lsb, sd, se, sf⟩ : Re)) (tg := tg) Has.here (Ro.there (a := Ro.here)) (Ro.there (a := (Ro.there (a := Ro.here)))) (Ro.there (a := (Ro.there (a := (Ro.there (a := Ro.here)))))) hsa hsb hb ⟨u32_of_wf _ ws0, u32_of_wf _ ws1, u32_of_wf _ ws3, u32_of_wf _ ws4, u32_of_wf _ ws5, u32_of_wf _ ws6, u32_of_wf _ ws7, u32_of_wf _ ws8, u64_of_wf _ ws9, u64_of_wf _ wse, u32_of_wf _ wsf, bytesB_of_wf lsa wsa.2, fun e he => wf_of_ok (wsb.2 e he)⟩ (bytesB_of_wf lb wb.2) ⟨rfl, inferInstance⟩)
end Go.Proofs.YtpbhanpblmoepaaDoor.Sx
