/- The Go package call, walked: replies put and got; conditions: those that each theorem names. -/
import Derived.Test.YtpbhanpblmoepaaGreatJX3
namespace Go.Proofs.YtpbhanpblmoepaaGreat.Sx
open Go.RowKit Go.Proofs.YtpbhanpblmoepaaGreat.Hm Go.Proofs.YtpbhanpblmoepaaGreatW.PrintWords Go.Proofs.YtpbhanpblmoepaaGreatW.PrintLast Go.Proofs.YtpbhanpblmoepaaGreatW.PrintMore
set_option linter.unusedVariables false
set_option linter.unusedSimpArgs false
attribute [local irreducible] SX SXL SXA St callK Post Evals

theorem rest2_eq {vs : List Fv} {l : List Ent} {n : Int} (hm : getM (rowOf vs) = (l, n)) : rest2 vs = if n ≠ 0 then (Re0, n) else if (statB (reOf l vs).st && decide (l.length ≤ 24)) = true then (reOf l vs, 0) else (Re0, 11) := by
  unfold rest2
  simp only [hm]
section
variable {F R : List Thing} {K : Ending → List Thing → Prop} {A B : Option Addr} {c c2 : Nat} {s : Re}
set_option maxRecDepth 20000 in
theorem PutReply_S (hr : Ro (Kd.int .u8) A F s.d) (hr2 : Ro kE B F s.e) (hc : s.d.length ≤ c) (hc2 : s.e.length ≤ c2) (hw : s.wf) (h : ∀ r n, putRe s = (r, n) → ∀ A' c', r.length ≤ c' → K (.returned (.tuple #[.slice A' r.length c', .int .i64 n])) (.own A' (rowR (Kd.int .u8) 5 (.slice A' r.length c') r) :: F)) :
    Fn (Tryz.prog) 38 [.agg (reC s A c B c2).toArray] F K := by
  unfold putRe at h
  unfold reC
  refine Fn.enter Tryz.call38 Tryz.func38 rfl rfl rfl ?_
  repeat (first | refine Qa ?_ | refine Qb ?_ | refine Qc ?_ | refine Qd ?_ | refine Qe ?_ | refine Qf ?_ | refine Qg ?_ | refine Qh ?_ | refine Qi ?_ | refine Qj ?_ | refine Qk ?_ | refine Ql ?_ | refine Qm ?_ | refine Qn ?_ | refine Qo ?_ | refine Qp ?_ | refine Qq ?_ | fail)
  refine SXL.box rfl rfl rfl (fun b => ?_)
  repeat (first | refine Qa ?_ | refine Qb ?_ | refine Qc ?_ | refine Qd ?_ | refine Qe ?_ | refine Qf ?_ | refine Qg ?_ | refine Qh ?_ | refine Qi ?_ | refine Qj ?_ | refine Qk ?_ | refine Ql ?_ | refine Qm ?_ | refine Qn ?_ | refine Qo ?_ | refine Qp ?_ | refine Qq ?_ | fail)
  refine SXL.call rfl rfl rfl ?_
  refine (status_S (callK.ret ?_))
  repeat (first | refine Qa ?_ | refine Qb ?_ | refine Qc ?_ | refine Qd ?_ | refine Qe ?_ | refine Qf ?_ | refine Qg ?_ | refine Qh ?_ | refine Qi ?_ | refine Qj ?_ | refine Qk ?_ | refine Ql ?_ | refine Qm ?_ | refine Qn ?_ | refine Qo ?_ | refine Qp ?_ | refine Qq ?_ | fail)
  refine SXL.split (s := 11) rfl (fun k9 => ?_) (fun k9 => ?_)
  · rw [if_neg (by unfold okRe; simp [show statB s.st = false by simpa using k9])] at h
    repeat (first | refine Qa ?_ | refine Qb ?_ | refine Qc ?_ | refine Qd ?_ | refine Qe ?_ | refine Qf ?_ | refine Qg ?_ | refine Qh ?_ | refine Qi ?_ | refine Qj ?_ | refine Qk ?_ | refine Ql ?_ | refine Qm ?_ | refine Qn ?_ | refine Qo ?_ | refine Qp ?_ | refine Qq ?_ | fail)
    refine SX.ret (M' := (.own none (rowR (Kd.int .u8) 5 (.slice none ([] : List Int).length 0) []) :: F)) rfl (Evals.tmp rfl (Evals.tmp rfl Evals.nil)) ?_ inferInstance
    exact h _ _ rfl none 0 (Nat.le_refl _)
  have k9' : statB s.st = true := by simpa using k9
  repeat (first | refine Qa ?_ | refine Qb ?_ | refine Qc ?_ | refine Qd ?_ | refine Qe ?_ | refine Qf ?_ | refine Qg ?_ | refine Qh ?_ | refine Qi ?_ | refine Qj ?_ | refine Qk ?_ | refine Ql ?_ | refine Qm ?_ | refine Qn ?_ | refine Qo ?_ | refine Qp ?_ | refine Qq ?_ | fail)
  refine SXL.split (s := 17) rfl (fun k15 => ?_) (fun k15 => ?_)
  · rw [if_neg (by unfold okRe; simp [show ¬ s.d.length ≤ 1024 by have := of_decide_eq_true k15; omega])] at h
    repeat (first | refine Qa ?_ | refine Qb ?_ | refine Qc ?_ | refine Qd ?_ | refine Qe ?_ | refine Qf ?_ | refine Qg ?_ | refine Qh ?_ | refine Qi ?_ | refine Qj ?_ | refine Qk ?_ | refine Ql ?_ | refine Qm ?_ | refine Qn ?_ | refine Qo ?_ | refine Qp ?_ | refine Qq ?_ | fail)
    refine SX.ret (M' := (.own none (rowR (Kd.int .u8) 5 (.slice none ([] : List Int).length 0) []) :: F)) rfl (Evals.tmp rfl (Evals.tmp rfl Evals.nil)) ?_ inferInstance
    exact h _ _ rfl none 0 (Nat.le_refl _)
  have k15' := of_decide_eq_false k15
  repeat (first | refine Qa ?_ | refine Qb ?_ | refine Qc ?_ | refine Qd ?_ | refine Qe ?_ | refine Qf ?_ | refine Qg ?_ | refine Qh ?_ | refine Qi ?_ | refine Qj ?_ | refine Qk ?_ | refine Ql ?_ | refine Qm ?_ | refine Qn ?_ | refine Qo ?_ | refine Qp ?_ | refine Qq ?_ | fail)
  refine SX.condp rfl (fun k26 => ?_) (fun k26 => ?_)
  · rw [if_neg (by unfold okRe; simp [show ¬ s.e.length ≤ 24 by omega])] at h
    repeat (first | refine Qa ?_ | refine Qb ?_ | refine Qc ?_ | refine Qd ?_ | refine Qe ?_ | refine Qf ?_ | refine Qg ?_ | refine Qh ?_ | refine Qi ?_ | refine Qj ?_ | refine Qk ?_ | refine Ql ?_ | refine Qm ?_ | refine Qn ?_ | refine Qo ?_ | refine Qp ?_ | refine Qq ?_ | fail)
    refine SX.ret (M' := (.own none (rowR (Kd.int .u8) 5 (.slice none ([] : List Int).length 0) []) :: F)) rfl (Evals.tmp rfl (Evals.tmp rfl Evals.nil)) ?_ inferInstance
    exact h _ _ rfl none 0 (Nat.le_refl _)
  rw [if_pos (by unfold okRe; simp only [Bool.and_eq_true, decide_eq_true_eq]; exact ⟨k9', by omega, by omega⟩)] at h
  have hst := statB_range k9'
  repeat (first | refine Qa ?_ | refine Qb ?_ | refine Qc ?_ | refine Qd ?_ | refine Qe ?_ | refine Qf ?_ | refine Qg ?_ | refine Qh ?_ | refine Qi ?_ | refine Qj ?_ | refine Qk ?_ | refine Ql ?_ | refine Qm ?_ | refine Qn ?_ | refine Qo ?_ | refine Qp ?_ | refine Qq ?_ | fail)
  refine SXL.call rfl rfl rfl ?_
  refine (Put_S (l := s.e) inferInstance hc2 (by omega) hw.e (fun row n hm A3 c3 hc3 => callK.ret ?_))
  rw [hm] at h
  repeat (first | refine Qa ?_ | refine Qb ?_ | refine Qc ?_ | refine Qd ?_ | refine Qe ?_ | refine Qf ?_ | refine Qg ?_ | refine Qh ?_ | refine Qi ?_ | refine Qj ?_ | refine Qk ?_ | refine Ql ?_ | refine Qm ?_ | refine Qn ?_ | refine Qo ?_ | refine Qp ?_ | refine Qq ?_ | fail)
  refine SX.cond rfl (fun hn => ?_) (fun hn => ?_)
  · have hn' : n ≠ 0 := by simpa using hn
    rw [if_pos hn'] at h
    repeat (first | refine Qa ?_ | refine Qb ?_ | refine Qc ?_ | refine Qd ?_ | refine Qe ?_ | refine Qf ?_ | refine Qg ?_ | refine Qh ?_ | refine Qi ?_ | refine Qj ?_ | refine Qk ?_ | refine Ql ?_ | refine Qm ?_ | refine Qn ?_ | refine Qo ?_ | refine Qp ?_ | refine Qq ?_ | fail)
    refine SX.ret (M' := (.own none (rowR (Kd.int .u8) 5 (.slice none ([] : List Int).length 0) []) :: F)) rfl (Evals.tmp rfl (Evals.tmp rfl Evals.nil)) ?_ inferInstance
    exact h _ _ rfl none 0 (Nat.le_refl _)
  obtain rfl : n = 0 := by simpa using hn
  rw [if_neg (by simp)] at h
  obtain ⟨hmay, hq, hle⟩ := putM_0 (l := s.e) (by rw [hm])
  have hfl := flat_len48 hle
  obtain rfl : row = s.e.flatMap encE := by rw [hm] at hq; simpa using hq
  have hrb := bytesB_flatE hw.e hle
  have hop : (opq s.d).length ≤ 1032 := by have := opq_len' s.d; omega
  have hor : (opq (s.e.flatMap encE)).length ≤ 1168 := by have := opq_len' (s.e.flatMap encE); omega
  repeat (first | refine Qa ?_ | refine Qb ?_ | refine Qc ?_ | refine Qd ?_ | refine Qe ?_ | refine Qf ?_ | refine Qg ?_ | refine Qh ?_ | refine Qi ?_ | refine Qj ?_ | refine Qk ?_ | refine Ql ?_ | refine Qm ?_ | refine Qn ?_ | refine Qo ?_ | refine Qp ?_ | refine Qq ?_ | fail)
  refine SXL.call rfl rfl rfl ?_
  refine (NewWriter_S (fun p => callK.ret ?_))
  repeat (first | refine Qa ?_ | refine Qb ?_ | refine Qc ?_ | refine Qd ?_ | refine Qe ?_ | refine Qf ?_ | refine Qg ?_ | refine Qh ?_ | refine Qi ?_ | refine Qj ?_ | refine Qk ?_ | refine Ql ?_ | refine Qm ?_ | refine Qn ?_ | refine Qo ?_ | refine Qp ?_ | refine Qq ?_ | fail)
  refine SXL.call rfl rfl rfl ?_
  refine (WU32_S inferInstance hw.client.1 hw.client.2 (by simp only [List.length_append, List.length_nil, be32_len', be64_len']; omega) (callK.ret ?_))
  repeat (first | refine Qa ?_ | refine Qb ?_ | refine Qc ?_ | refine Qd ?_ | refine Qe ?_ | refine Qf ?_ | refine Qg ?_ | refine Qh ?_ | refine Qi ?_ | refine Qj ?_ | refine Qk ?_ | refine Ql ?_ | refine Qm ?_ | refine Qn ?_ | refine Qo ?_ | refine Qp ?_ | refine Qq ?_ | fail)
  refine SXL.call rfl rfl rfl ?_
  refine (WU32_S inferInstance hw.xid.1 hw.xid.2 (by simp only [List.length_append, List.length_nil, be32_len', be64_len']; omega) (callK.ret ?_))
  repeat (first | refine Qa ?_ | refine Qb ?_ | refine Qc ?_ | refine Qd ?_ | refine Qe ?_ | refine Qf ?_ | refine Qg ?_ | refine Qh ?_ | refine Qi ?_ | refine Qj ?_ | refine Qk ?_ | refine Ql ?_ | refine Qm ?_ | refine Qn ?_ | refine Qo ?_ | refine Qp ?_ | refine Qq ?_ | fail)
  refine SXL.same 44 (.int .u32 s.st) rfl (by rw [IntWalk.u32_in _ (by omega)]) ?_
  refine SXL.call rfl rfl rfl ?_
  refine (WU32_S inferInstance hst.1 (by omega) (by simp only [List.length_append, List.length_nil, be32_len', be64_len']; omega) (callK.ret ?_))
  repeat (first | refine Qa ?_ | refine Qb ?_ | refine Qc ?_ | refine Qd ?_ | refine Qe ?_ | refine Qf ?_ | refine Qg ?_ | refine Qh ?_ | refine Qi ?_ | refine Qj ?_ | refine Qk ?_ | refine Ql ?_ | refine Qm ?_ | refine Qn ?_ | refine Qo ?_ | refine Qp ?_ | refine Qq ?_ | fail)
  refine SXL.call rfl rfl rfl ?_
  refine (handle_S inferInstance hw.ai hw.ag (by simp only [List.length_append, List.length_nil, be32_len', be64_len']; omega) (callK.ret ?_))
  repeat (first | refine Qa ?_ | refine Qb ?_ | refine Qc ?_ | refine Qd ?_ | refine Qe ?_ | refine Qf ?_ | refine Qg ?_ | refine Qh ?_ | refine Qi ?_ | refine Qj ?_ | refine Qk ?_ | refine Ql ?_ | refine Qm ?_ | refine Qn ?_ | refine Qo ?_ | refine Qp ?_ | refine Qq ?_ | fail)
  refine SXL.call rfl rfl rfl ?_
  refine (WU32_S inferInstance hw.ak.1 hw.ak.2 (by simp only [List.length_append, List.length_nil, be32_len', be64_len']; omega) (callK.ret ?_))
  repeat (first | refine Qa ?_ | refine Qb ?_ | refine Qc ?_ | refine Qd ?_ | refine Qe ?_ | refine Qf ?_ | refine Qg ?_ | refine Qh ?_ | refine Qi ?_ | refine Qj ?_ | refine Qk ?_ | refine Ql ?_ | refine Qm ?_ | refine Qn ?_ | refine Qo ?_ | refine Qp ?_ | refine Qq ?_ | fail)
  refine SXL.call rfl rfl rfl ?_
  refine (WU32_S inferInstance hw.am.1 hw.am.2 (by simp only [List.length_append, List.length_nil, be32_len', be64_len']; omega) (callK.ret ?_))
  repeat (first | refine Qa ?_ | refine Qb ?_ | refine Qc ?_ | refine Qd ?_ | refine Qe ?_ | refine Qf ?_ | refine Qg ?_ | refine Qh ?_ | refine Qi ?_ | refine Qj ?_ | refine Qk ?_ | refine Ql ?_ | refine Qm ?_ | refine Qn ?_ | refine Qo ?_ | refine Qp ?_ | refine Qq ?_ | fail)
  refine SXL.call rfl rfl rfl ?_
  refine (WU32_S inferInstance hw.al.1 hw.al.2 (by simp only [List.length_append, List.length_nil, be32_len', be64_len']; omega) (callK.ret ?_))
  repeat (first | refine Qa ?_ | refine Qb ?_ | refine Qc ?_ | refine Qd ?_ | refine Qe ?_ | refine Qf ?_ | refine Qg ?_ | refine Qh ?_ | refine Qi ?_ | refine Qj ?_ | refine Qk ?_ | refine Ql ?_ | refine Qm ?_ | refine Qn ?_ | refine Qo ?_ | refine Qp ?_ | refine Qq ?_ | fail)
  refine SXL.call rfl rfl rfl ?_
  refine (WU32_S inferInstance hw.sz.1 hw.sz.2 (by simp only [List.length_append, List.length_nil, be32_len', be64_len']; omega) (callK.ret ?_))
  repeat (first | refine Qa ?_ | refine Qb ?_ | refine Qc ?_ | refine Qd ?_ | refine Qe ?_ | refine Qf ?_ | refine Qg ?_ | refine Qh ?_ | refine Qi ?_ | refine Qj ?_ | refine Qk ?_ | refine Ql ?_ | refine Qm ?_ | refine Qn ?_ | refine Qo ?_ | refine Qp ?_ | refine Qq ?_ | fail)
  refine SXL.call rfl rfl rfl ?_
  refine (WU64_S inferInstance hw.ac.1 hw.ac.2 (by simp only [List.length_append, List.length_nil, be32_len', be64_len']; omega) (callK.ret ?_))
  repeat (first | refine Qa ?_ | refine Qb ?_ | refine Qc ?_ | refine Qd ?_ | refine Qe ?_ | refine Qf ?_ | refine Qg ?_ | refine Qh ?_ | refine Qi ?_ | refine Qj ?_ | refine Qk ?_ | refine Ql ?_ | refine Qm ?_ | refine Qn ?_ | refine Qo ?_ | refine Qp ?_ | refine Qq ?_ | fail)
  refine SXL.call rfl rfl rfl ?_
  refine (WOpaque_S (l := s.d) inferInstance inferInstance hc hw.d (by simp only [List.length_append, List.length_nil, be32_len', be64_len']; omega) (by omega) (callK.ret ?_))
  repeat (first | refine Qa ?_ | refine Qb ?_ | refine Qc ?_ | refine Qd ?_ | refine Qe ?_ | refine Qf ?_ | refine Qg ?_ | refine Qh ?_ | refine Qi ?_ | refine Qj ?_ | refine Qk ?_ | refine Ql ?_ | refine Qm ?_ | refine Qn ?_ | refine Qo ?_ | refine Qp ?_ | refine Qq ?_ | fail)
  refine SXL.call rfl rfl rfl ?_
  refine (WOpaque_S (l := s.e.flatMap encE) inferInstance inferInstance hc3 hrb (by simp only [List.length_append, List.length_nil, be32_len', be64_len']; omega) (by omega) (callK.ret ?_))
  repeat (first | refine Qa ?_ | refine Qb ?_ | refine Qc ?_ | refine Qd ?_ | refine Qe ?_ | refine Qf ?_ | refine Qg ?_ | refine Qh ?_ | refine Qi ?_ | refine Qj ?_ | refine Qk ?_ | refine Ql ?_ | refine Qm ?_ | refine Qn ?_ | refine Qo ?_ | refine Qp ?_ | refine Qq ?_ | fail)
  refine SXL.call rfl rfl rfl ?_
  refine (WBool_S inferInstance (by simp only [List.length_append, List.length_nil, be32_len', be64_len']; omega) (callK.ret ?_))
  repeat (first | refine Qa ?_ | refine Qb ?_ | refine Qc ?_ | refine Qd ?_ | refine Qe ?_ | refine Qf ?_ | refine Qg ?_ | refine Qh ?_ | refine Qi ?_ | refine Qj ?_ | refine Qk ?_ | refine Ql ?_ | refine Qm ?_ | refine Qn ?_ | refine Qo ?_ | refine Qp ?_ | refine Qq ?_ | fail)
  refine SXL.call rfl rfl rfl ?_
  refine (WU64_S inferInstance hw.verf.1 hw.verf.2 (by simp only [List.length_append, List.length_nil, be32_len', be64_len']; omega) (callK.ret ?_))
  repeat (first | refine Qa ?_ | refine Qb ?_ | refine Qc ?_ | refine Qd ?_ | refine Qe ?_ | refine Qf ?_ | refine Qg ?_ | refine Qh ?_ | refine Qi ?_ | refine Qj ?_ | refine Qk ?_ | refine Ql ?_ | refine Qm ?_ | refine Qn ?_ | refine Qo ?_ | refine Qp ?_ | refine Qq ?_ | fail)
  refine SXL.call rfl rfl rfl ?_
  refine (WU32_S inferInstance hw.free.1 hw.free.2 (by simp only [List.length_append, List.length_nil, be32_len', be64_len']; omega) (callK.ret ?_))
  repeat (first | refine Qa ?_ | refine Qb ?_ | refine Qc ?_ | refine Qd ?_ | refine Qe ?_ | refine Qf ?_ | refine Qg ?_ | refine Qh ?_ | refine Qi ?_ | refine Qj ?_ | refine Qk ?_ | refine Ql ?_ | refine Qm ?_ | refine Qn ?_ | refine Qo ?_ | refine Qp ?_ | refine Qq ?_ | fail)
  rw [show [] ++ be32 s.client ++ be32 s.xid ++ be32 s.st ++ be32 s.ai ++ be32 s.ag ++ be32 s.ak ++ be32 s.am ++ be32 s.al ++ be32 s.sz ++ be64 s.ac ++ opq s.d ++ opq (s.e.flatMap encE) ++ be32 (if s.eof = true then 1 else 0) ++ be64 s.verf ++ be32 s.free = encRe s by simp [encRe, hm, reF, reV, encFs, encF]]
  refine SXL.call rfl rfl rfl ?_
  refine (WOut_S inferInstance (by unfold encRe reF reV; rw [hm]; simp only [encFs, encF, List.length_append, List.length_nil, be32_len', be64_len']; omega) (fun A1 c1 hc1 => callK.ret ?_))
  repeat (first | refine Qa ?_ | refine Qb ?_ | refine Qc ?_ | refine Qd ?_ | refine Qe ?_ | refine Qf ?_ | refine Qg ?_ | refine Qh ?_ | refine Qi ?_ | refine Qj ?_ | refine Qk ?_ | refine Ql ?_ | refine Qm ?_ | refine Qn ?_ | refine Qo ?_ | refine Qp ?_ | refine Qq ?_ | fail)
  refine SX.ret (M' := (.own A1 (rowR (Kd.int .u8) 5 (.slice A1 (encRe s).length c1) (encRe s)) :: F)) rfl (Evals.tmp rfl (Evals.tmp rfl Evals.nil)) ?_ inferInstance
  exact h _ _ rfl A1 c1 hc1
set_option maxRecDepth 20000 in
theorem GetReply_S {xs : List Int} (hr : Ro (Kd.int .u8) A F xs) (hc : xs.length ≤ c) (hb : bytesB xs = true) (hl : xs.length ≤ 140737488355327) (h : ∀ r n, getRe xs = (r, n) → ∀ A' c' B' c2, r.d.length ≤ c' → r.e.length ≤ c2 → K (.returned (.tuple #[.agg (reC r A' c' B' c2).toArray, .int .i64 n])) (.own A' (rowR (Kd.int .u8) 5 (.slice A' r.d.length c') r.d) :: .own B' (rowR kE 130 (.slice B' r.e.length c2) r.e) :: F)) :
    Fn (Tryz.prog) 21 [.slice A xs.length c] F K := by
  unfold getRe getFs at h
  refine Fn.enter Tryz.call21 Tryz.func21 rfl rfl rfl ?_
  repeat (first | refine Qa ?_ | refine Qb ?_ | refine Qc ?_ | refine Qd ?_ | refine Qe ?_ | refine Qf ?_ | refine Qg ?_ | refine Qh ?_ | refine Qi ?_ | refine Qj ?_ | refine Qk ?_ | refine Ql ?_ | refine Qm ?_ | refine Qn ?_ | refine Qo ?_ | refine Qp ?_ | refine Qq ?_ | fail)
  refine SXL.alloc rfl rfl (fun q => ?_)
  repeat (first | refine Qa ?_ | refine Qb ?_ | refine Qc ?_ | refine Qd ?_ | refine Qe ?_ | refine Qf ?_ | refine Qg ?_ | refine Qh ?_ | refine Qi ?_ | refine Qj ?_ | refine Qk ?_ | refine Ql ?_ | refine Qm ?_ | refine Qn ?_ | refine Qo ?_ | refine Qp ?_ | refine Qq ?_ | fail)
  refine SXL.call rfl rfl rfl ?_
  refine (NewReader_S inferInstance hc hl (fun p A0 c0 hc0 => callK.ret ?_))
  repeat (first | refine Qa ?_ | refine Qb ?_ | refine Qc ?_ | refine Qd ?_ | refine Qe ?_ | refine Qf ?_ | refine Qg ?_ | refine Qh ?_ | refine Qi ?_ | refine Qj ?_ | refine Qk ?_ | refine Ql ?_ | refine Qm ?_ | refine Qn ?_ | refine Qo ?_ | refine Qp ?_ | refine Qq ?_ | fail)
  refine SXL.alloc rfl rfl (fun b => ?_)
  repeat (first | refine Qa ?_ | refine Qb ?_ | refine Qc ?_ | refine Qd ?_ | refine Qe ?_ | refine Qf ?_ | refine Qg ?_ | refine Qh ?_ | refine Qi ?_ | refine Qj ?_ | refine Qk ?_ | refine Ql ?_ | refine Qm ?_ | refine Qn ?_ | refine Qo ?_ | refine Qp ?_ | refine Qq ?_ | fail)
  refine SXL.call rfl rfl rfl ?_
  refine (Fn.at_ inferInstance (RU32_S hc0 hb (by omega) (fun x1 y1 e1 h1 A1 c1 hc1 => callK.ret ?_)))
  have b1 := rdM_rest xs 0 4 hb
  have l1 := rdM_le xs 0 4
  rw [h1] at b1 l1
  dsimp only at b1 l1
  repeat (first | refine Qa ?_ | refine Qb ?_ | refine Qc ?_ | refine Qd ?_ | refine Qe ?_ | refine Qf ?_ | refine Qg ?_ | refine Qh ?_ | refine Qi ?_ | refine Qj ?_ | refine Qk ?_ | refine Ql ?_ | refine Qm ?_ | refine Qn ?_ | refine Qo ?_ | refine Qp ?_ | refine Qq ?_ | fail)
  refine SXL.call rfl rfl rfl ?_
  refine (Fn.at_ inferInstance (RU32_S hc1 b1 (by omega) (fun x2 y2 e2 h2 A2 c2 hc2 => callK.ret ?_)))
  have b2 := rdM_rest y1 e1 4 b1
  have l2 := rdM_le y1 e1 4
  rw [h2] at b2 l2
  dsimp only at b2 l2
  repeat (first | refine Qa ?_ | refine Qb ?_ | refine Qc ?_ | refine Qd ?_ | refine Qe ?_ | refine Qf ?_ | refine Qg ?_ | refine Qh ?_ | refine Qi ?_ | refine Qj ?_ | refine Qk ?_ | refine Ql ?_ | refine Qm ?_ | refine Qn ?_ | refine Qo ?_ | refine Qp ?_ | refine Qq ?_ | fail)
  refine SXL.call rfl rfl rfl ?_
  refine (Fn.at_ inferInstance (RU32_S hc2 b2 (by omega) (fun x3 y3 e3 h3 A3 c3 hc3 => callK.ret ?_)))
  have b3 := rdM_rest y2 e2 4 b2
  have l3 := rdM_le y2 e2 4
  rw [h3] at b3 l3
  dsimp only at b3 l3
  repeat (first | refine Qa ?_ | refine Qb ?_ | refine Qc ?_ | refine Qd ?_ | refine Qe ?_ | refine Qf ?_ | refine Qg ?_ | refine Qh ?_ | refine Qi ?_ | refine Qj ?_ | refine Qk ?_ | refine Ql ?_ | refine Qm ?_ | refine Qn ?_ | refine Qo ?_ | refine Qp ?_ | refine Qq ?_ | fail)
  refine SXL.call rfl rfl rfl ?_
  refine (Fn.at_ inferInstance (got_S hc3 b3 (by omega) (fun x4 y4 e4 h4 x5 y5 e5 h5 A5 c5 hc5 => callK.ret ?_)))
  have b4 := rdM_rest y3 e3 4 b3
  have l4 := rdM_le y3 e3 4
  rw [h4] at b4 l4
  dsimp only at b4 l4
  have b5 := rdM_rest y4 e4 4 b4
  have l5 := rdM_le y4 e4 4
  rw [h5] at b5 l5
  dsimp only at b5 l5
  repeat (first | refine Qa ?_ | refine Qb ?_ | refine Qc ?_ | refine Qd ?_ | refine Qe ?_ | refine Qf ?_ | refine Qg ?_ | refine Qh ?_ | refine Qi ?_ | refine Qj ?_ | refine Qk ?_ | refine Ql ?_ | refine Qm ?_ | refine Qn ?_ | refine Qo ?_ | refine Qp ?_ | refine Qq ?_ | fail)
  refine SXL.call rfl rfl rfl ?_
  refine (Fn.at_ inferInstance (RU32_S hc5 b5 (by omega) (fun x6 y6 e6 h6 A6 c6 hc6 => callK.ret ?_)))
  have b6 := rdM_rest y5 e5 4 b5
  have l6 := rdM_le y5 e5 4
  rw [h6] at b6 l6
  dsimp only at b6 l6
  repeat (first | refine Qa ?_ | refine Qb ?_ | refine Qc ?_ | refine Qd ?_ | refine Qe ?_ | refine Qf ?_ | refine Qg ?_ | refine Qh ?_ | refine Qi ?_ | refine Qj ?_ | refine Qk ?_ | refine Ql ?_ | refine Qm ?_ | refine Qn ?_ | refine Qo ?_ | refine Qp ?_ | refine Qq ?_ | fail)
  refine SXL.call rfl rfl rfl ?_
  refine (Fn.at_ inferInstance (RU32_S hc6 b6 (by omega) (fun x7 y7 e7 h7 A7 c7 hc7 => callK.ret ?_)))
  have b7 := rdM_rest y6 e6 4 b6
  have l7 := rdM_le y6 e6 4
  rw [h7] at b7 l7
  dsimp only at b7 l7
  repeat (first | refine Qa ?_ | refine Qb ?_ | refine Qc ?_ | refine Qd ?_ | refine Qe ?_ | refine Qf ?_ | refine Qg ?_ | refine Qh ?_ | refine Qi ?_ | refine Qj ?_ | refine Qk ?_ | refine Ql ?_ | refine Qm ?_ | refine Qn ?_ | refine Qo ?_ | refine Qp ?_ | refine Qq ?_ | fail)
  refine SXL.call rfl rfl rfl ?_
  refine (Fn.at_ inferInstance (RU32_S hc7 b7 (by omega) (fun x8 y8 e8 h8 A8 c8 hc8 => callK.ret ?_)))
  have b8 := rdM_rest y7 e7 4 b7
  have l8 := rdM_le y7 e7 4
  rw [h8] at b8 l8
  dsimp only at b8 l8
  repeat (first | refine Qa ?_ | refine Qb ?_ | refine Qc ?_ | refine Qd ?_ | refine Qe ?_ | refine Qf ?_ | refine Qg ?_ | refine Qh ?_ | refine Qi ?_ | refine Qj ?_ | refine Qk ?_ | refine Ql ?_ | refine Qm ?_ | refine Qn ?_ | refine Qo ?_ | refine Qp ?_ | refine Qq ?_ | fail)
  refine SXL.call rfl rfl rfl ?_
  refine (Fn.at_ inferInstance (RU32_S hc8 b8 (by omega) (fun x9 y9 e9 h9 A9 c9 hc9 => callK.ret ?_)))
  have b9 := rdM_rest y8 e8 4 b8
  have l9 := rdM_le y8 e8 4
  rw [h9] at b9 l9
  dsimp only at b9 l9
  repeat (first | refine Qa ?_ | refine Qb ?_ | refine Qc ?_ | refine Qd ?_ | refine Qe ?_ | refine Qf ?_ | refine Qg ?_ | refine Qh ?_ | refine Qi ?_ | refine Qj ?_ | refine Qk ?_ | refine Ql ?_ | refine Qm ?_ | refine Qn ?_ | refine Qo ?_ | refine Qp ?_ | refine Qq ?_ | fail)
  refine SXL.call rfl rfl rfl ?_
  refine (Fn.at_ inferInstance (RU64_S hc9 b9 (by omega) (fun x10 y10 e10 h10 A10 c10 hc10 => callK.ret ?_)))
  have b10 := rdM_rest y9 e9 8 b9
  have l10 := rdM_le y9 e9 8
  rw [h10] at b10 l10
  dsimp only at b10 l10
  repeat (first | refine Qa ?_ | refine Qb ?_ | refine Qc ?_ | refine Qd ?_ | refine Qe ?_ | refine Qf ?_ | refine Qg ?_ | refine Qh ?_ | refine Qi ?_ | refine Qj ?_ | refine Qk ?_ | refine Ql ?_ | refine Qm ?_ | refine Qn ?_ | refine Qo ?_ | refine Qp ?_ | refine Qq ?_ | fail)
  refine SXL.call rfl rfl rfl ?_
  refine (Fn.at_ inferInstance (ROpaque_S hc10 b10 (by omega) (by decide) (by decide) (fun x11 y11 e11 h11 D11 C11 A11 c11 hC11 hc11 => callK.ret ?_)))
  have b11 := opM_rest y10 e10 1024 b10
  have l11 := opM_le y10 e10 1024
  obtain ⟨d11, z11⟩ := opM_bytes b10 (by decide) h11
  rw [h11] at b11 l11
  dsimp only at b11 l11
  repeat (first | refine Qa ?_ | refine Qb ?_ | refine Qc ?_ | refine Qd ?_ | refine Qe ?_ | refine Qf ?_ | refine Qg ?_ | refine Qh ?_ | refine Qi ?_ | refine Qj ?_ | refine Qk ?_ | refine Ql ?_ | refine Qm ?_ | refine Qn ?_ | refine Qo ?_ | refine Qp ?_ | refine Qq ?_ | fail)
  refine SXL.call rfl rfl rfl ?_
  refine (Fn.at_ inferInstance (ROpaque_S hc11 b11 (by omega) (by decide) (by decide) (fun x12 y12 e12 h12 D12 C12 A12 c12 hC12 hc12 => callK.ret ?_)))
  have b12 := opM_rest y11 e11 2048 b11
  have l12 := opM_le y11 e11 2048
  obtain ⟨d12, z12⟩ := opM_bytes b11 (by decide) h12
  rw [h12] at b12 l12
  dsimp only at b12 l12
  repeat (first | refine Qa ?_ | refine Qb ?_ | refine Qc ?_ | refine Qd ?_ | refine Qe ?_ | refine Qf ?_ | refine Qg ?_ | refine Qh ?_ | refine Qi ?_ | refine Qj ?_ | refine Qk ?_ | refine Ql ?_ | refine Qm ?_ | refine Qn ?_ | refine Qo ?_ | refine Qp ?_ | refine Qq ?_ | fail)
  refine SXL.call rfl rfl rfl ?_
  refine (Fn.at_ inferInstance (RBool_S hc12 b12 (by omega) (fun x13 y13 e13 h13 A13 c13 hc13 => callK.ret ?_)))
  have b13 := boM_rest y12 e12 b12
  have l13 := boM_le y12 e12
  rw [h13] at b13 l13
  dsimp only at b13 l13
  repeat (first | refine Qa ?_ | refine Qb ?_ | refine Qc ?_ | refine Qd ?_ | refine Qe ?_ | refine Qf ?_ | refine Qg ?_ | refine Qh ?_ | refine Qi ?_ | refine Qj ?_ | refine Qk ?_ | refine Ql ?_ | refine Qm ?_ | refine Qn ?_ | refine Qo ?_ | refine Qp ?_ | refine Qq ?_ | fail)
  refine SXL.call rfl rfl rfl ?_
  refine (Fn.at_ inferInstance (RU64_S hc13 b13 (by omega) (fun x14 y14 e14 h14 A14 c14 hc14 => callK.ret ?_)))
  have b14 := rdM_rest y13 e13 8 b13
  have l14 := rdM_le y13 e13 8
  rw [h14] at b14 l14
  dsimp only at b14 l14
  repeat (first | refine Qa ?_ | refine Qb ?_ | refine Qc ?_ | refine Qd ?_ | refine Qe ?_ | refine Qf ?_ | refine Qg ?_ | refine Qh ?_ | refine Qi ?_ | refine Qj ?_ | refine Qk ?_ | refine Ql ?_ | refine Qm ?_ | refine Qn ?_ | refine Qo ?_ | refine Qp ?_ | refine Qq ?_ | fail)
  refine SXL.call rfl rfl rfl ?_
  refine (Fn.at_ inferInstance (RU32_S hc14 b14 (by omega) (fun x15 y15 e15 h15 A15 c15 hc15 => callK.ret ?_)))
  have b15 := rdM_rest y14 e14 4 b14
  have l15 := rdM_le y14 e14 4
  rw [h15] at b15 l15
  dsimp only at b15 l15
  repeat (first | refine Qa ?_ | refine Qb ?_ | refine Qc ?_ | refine Qd ?_ | refine Qe ?_ | refine Qf ?_ | refine Qg ?_ | refine Qh ?_ | refine Qi ?_ | refine Qj ?_ | refine Qk ?_ | refine Ql ?_ | refine Qm ?_ | refine Qn ?_ | refine Qo ?_ | refine Qp ?_ | refine Qq ?_ | fail)
  have hF : rdFs reF xs 0 = ([.i x1, .i x2, .i x3, .i x4, .i x5, .i x6, .i x7, .i x8, .i x9, .i x10, .b x11, .b x12, .i x13, .i x14, .i x15], y15, e15) := by
    simp only [rdFs, reF, rdF, show rdM xs 0 4 = _ from h1, show rdM y1 e1 4 = _ from h2, show rdM y2 e2 4 = _ from h3, show rdM y3 e3 4 = _ from h4, show rdM y4 e4 4 = _ from h5, show rdM y5 e5 4 = _ from h6, show rdM y6 e6 4 = _ from h7, show rdM y7 e7 4 = _ from h8, show rdM y8 e8 4 = _ from h9, show rdM y9 e9 8 = _ from h10, show opM y10 e10 ((1024 : Nat) : Int) = _ from h11, show opM y11 e11 ((2048 : Nat) : Int) = _ from h12, show boM y12 e12 = _ from h13, show rdM y13 e13 8 = _ from h14, show rdM y14 e14 4 = _ from h15]
  rw [hF] at h
  dsimp only at h
  refine SXL.call rfl rfl rfl ?_
  refine (Fn.at_ inferInstance (REnd_S (xs := y15) (callK.ret ?_)))
  repeat (first | refine Qa ?_ | refine Qb ?_ | refine Qc ?_ | refine Qd ?_ | refine Qe ?_ | refine Qf ?_ | refine Qg ?_ | refine Qh ?_ | refine Qi ?_ | refine Qj ?_ | refine Qk ?_ | refine Ql ?_ | refine Qm ?_ | refine Qn ?_ | refine Qo ?_ | refine Qp ?_ | refine Qq ?_ | fail)
  refine SX.cond rfl (fun he => ?_) (fun he => ?_)
  · have he' : endM y15 e15 ≠ 0 := by simpa using he
    rw [if_pos he'] at h
    repeat (first | refine Qa ?_ | refine Qb ?_ | refine Qc ?_ | refine Qd ?_ | refine Qe ?_ | refine Qf ?_ | refine Qg ?_ | refine Qh ?_ | refine Qi ?_ | refine Qj ?_ | refine Qk ?_ | refine Ql ?_ | refine Qm ?_ | refine Qn ?_ | refine Qo ?_ | refine Qp ?_ | refine Qq ?_ | fail)
    refine SX.ret (M' := (.own none (rowR (Kd.int .u8) 5 (.slice none ([] : List Int).length 0) []) :: .own none (rowR kE 130 (.slice none ([] : List Ent).length 0) []) :: F)) rfl (Evals.cell rfl inferInstance rfl (Evals.tmp rfl Evals.nil)) ?_ inferInstance
    exact h _ _ rfl none 0 none 0 (Nat.le_refl _) (Nat.le_refl _)
  have he' : endM y15 e15 = 0 := by simpa using he
  rw [if_neg (by rw [he']; decide)] at h
  repeat (first | refine Qa ?_ | refine Qb ?_ | refine Qc ?_ | refine Qd ?_ | refine Qe ?_ | refine Qf ?_ | refine Qg ?_ | refine Qh ?_ | refine Qi ?_ | refine Qj ?_ | refine Qk ?_ | refine Ql ?_ | refine Qm ?_ | refine Qn ?_ | refine Qo ?_ | refine Qp ?_ | refine Qq ?_ | fail)
  refine SXL.call rfl rfl rfl ?_
  refine (Get_S (b := x12) inferInstance hC12 d12 (by omega) (fun l n hm A20 c20 hc20 => callK.ret ?_))
  rw [rest2_eq (vs := [.i x1, .i x2, .i x3, .i x4, .i x5, .i x6, .i x7, .i x8, .i x9, .i x10, .b x11, .b x12, .i x13, .i x14, .i x15]) (show getM (rowOf [.i x1, .i x2, .i x3, .i x4, .i x5, .i x6, .i x7, .i x8, .i x9, .i x10, .b x11, .b x12, .i x13, .i x14, .i x15]) = (l, n) from hm)] at h
  repeat (first | refine Qa ?_ | refine Qb ?_ | refine Qc ?_ | refine Qd ?_ | refine Qe ?_ | refine Qf ?_ | refine Qg ?_ | refine Qh ?_ | refine Qi ?_ | refine Qj ?_ | refine Qk ?_ | refine Ql ?_ | refine Qm ?_ | refine Qn ?_ | refine Qo ?_ | refine Qp ?_ | refine Qq ?_ | fail)
  refine SX.cond rfl (fun hn => ?_) (fun hn => ?_)
  · have hn' : n ≠ 0 := by simpa using hn
    rw [if_pos hn'] at h
    repeat (first | refine Qa ?_ | refine Qb ?_ | refine Qc ?_ | refine Qd ?_ | refine Qe ?_ | refine Qf ?_ | refine Qg ?_ | refine Qh ?_ | refine Qi ?_ | refine Qj ?_ | refine Qk ?_ | refine Ql ?_ | refine Qm ?_ | refine Qn ?_ | refine Qo ?_ | refine Qp ?_ | refine Qq ?_ | fail)
    refine SX.ret (M' := (.own none (rowR (Kd.int .u8) 5 (.slice none ([] : List Int).length 0) []) :: .own none (rowR kE 130 (.slice none ([] : List Ent).length 0) []) :: F)) rfl (Evals.cell rfl inferInstance rfl (Evals.tmp rfl Evals.nil)) ?_ inferInstance
    exact h _ _ rfl none 0 none 0 (Nat.le_refl _) (Nat.le_refl _)
  obtain rfl : n = 0 := by simpa using hn
  rw [if_neg (by simp)] at h
  have r3 := rdM_range y2 e2 4 b2
  rw [h3] at r3
  repeat (first | refine Qa ?_ | refine Qb ?_ | refine Qc ?_ | refine Qd ?_ | refine Qe ?_ | refine Qf ?_ | refine Qg ?_ | refine Qh ?_ | refine Qi ?_ | refine Qj ?_ | refine Qk ?_ | refine Ql ?_ | refine Qm ?_ | refine Qn ?_ | refine Qo ?_ | refine Qp ?_ | refine Qq ?_ | fail)
  refine SXL.same 74 (.int .i64 x3) rfl (by rw [IntWalk.i64_in _ (by have := r3; dsimp only at this; omega)]) ?_
  refine SXL.call rfl rfl rfl ?_
  refine (status_S (callK.ret ?_))
  repeat (first | refine Qa ?_ | refine Qb ?_ | refine Qc ?_ | refine Qd ?_ | refine Qe ?_ | refine Qf ?_ | refine Qg ?_ | refine Qh ?_ | refine Qi ?_ | refine Qj ?_ | refine Qk ?_ | refine Ql ?_ | refine Qm ?_ | refine Qn ?_ | refine Qo ?_ | refine Qp ?_ | refine Qq ?_ | fail)
  refine SXL.split (s := 77) rfl (fun k9 => ?_) (fun k9 => ?_)
  · repeat (first | refine Qa ?_ | refine Qb ?_ | refine Qc ?_ | refine Qd ?_ | refine Qe ?_ | refine Qf ?_ | refine Qg ?_ | refine Qh ?_ | refine Qi ?_ | refine Qj ?_ | refine Qk ?_ | refine Ql ?_ | refine Qm ?_ | refine Qn ?_ | refine Qo ?_ | refine Qp ?_ | refine Qq ?_ | fail)
    refine SX.ret (M' := (.own none (rowR (Kd.int .u8) 5 (.slice none ([] : List Int).length 0) []) :: .own none (rowR kE 130 (.slice none ([] : List Ent).length 0) []) :: F)) rfl (Evals.cell rfl inferInstance rfl (Evals.tmp rfl Evals.nil)) ?_ inferInstance
    exact h Re0 11 (if_neg (by show ¬ (statB x3 && decide (l.length ≤ 24)) = true; rw [show statB x3 = false by simpa using k9]; simp)) none 0 none 0 (Nat.le_refl _) (Nat.le_refl _)
  have k9' : statB x3 = true := by simpa using k9
  repeat (first | refine Qa ?_ | refine Qb ?_ | refine Qc ?_ | refine Qd ?_ | refine Qe ?_ | refine Qf ?_ | refine Qg ?_ | refine Qh ?_ | refine Qi ?_ | refine Qj ?_ | refine Qk ?_ | refine Ql ?_ | refine Qm ?_ | refine Qn ?_ | refine Qo ?_ | refine Qp ?_ | refine Qq ?_ | fail)
  refine SX.condp rfl (fun k10 => ?_) (fun k10 => ?_)
  · repeat (first | refine Qa ?_ | refine Qb ?_ | refine Qc ?_ | refine Qd ?_ | refine Qe ?_ | refine Qf ?_ | refine Qg ?_ | refine Qh ?_ | refine Qi ?_ | refine Qj ?_ | refine Qk ?_ | refine Ql ?_ | refine Qm ?_ | refine Qn ?_ | refine Qo ?_ | refine Qp ?_ | refine Qq ?_ | fail)
    refine SX.ret (M' := (.own none (rowR (Kd.int .u8) 5 (.slice none ([] : List Int).length 0) []) :: .own none (rowR kE 130 (.slice none ([] : List Ent).length 0) []) :: F)) rfl (Evals.cell rfl inferInstance rfl (Evals.tmp rfl Evals.nil)) ?_ inferInstance
    exact h Re0 11 (if_neg (by show ¬ (statB x3 && decide (l.length ≤ 24)) = true; rw [k9']; simp; omega)) none 0 none 0 (Nat.le_refl _) (Nat.le_refl _)
  repeat (first | refine Qa ?_ | refine Qb ?_ | refine Qc ?_ | refine Qd ?_ | refine Qe ?_ | refine Qf ?_ | refine Qg ?_ | refine Qh ?_ | refine Qi ?_ | refine Qj ?_ | refine Qk ?_ | refine Ql ?_ | refine Qm ?_ | refine Qn ?_ | refine Qo ?_ | refine Qp ?_ | refine Qq ?_ | fail)
  repeat (first | refine Qa ?_ | refine Qb ?_ | refine Qc ?_ | refine Qd ?_ | refine Qe ?_ | refine Qf ?_ | refine Qg ?_ | refine Qh ?_ | refine Qi ?_ | refine Qj ?_ | refine Qk ?_ | refine Ql ?_ | refine Qm ?_ | refine Qn ?_ | refine Qo ?_ | refine Qp ?_ | refine Qq ?_ | fail)
  refine SX.ret (M' := (.own D11 (rowR (Kd.int .u8) 5 (.slice D11 x11.length C11) x11) :: .own A20 (rowR kE 130 (.slice A20 l.length c20) l) :: F)) rfl (Evals.cell rfl inferInstance rfl (Evals.tmp rfl Evals.nil)) ?_ inferInstance
  rw [IntWalk.i64_in x3 (by have := r3; dsimp only at this; omega)]
  exact h ⟨x1, x2, x3, x4, x5, x6, x7, x8, x9, x10, x11, l, x13 == 1, x14, x15⟩ 0 (if_pos (by show (statB x3 && decide (l.length ≤ 24)) = true; rw [k9']; simp; omega)) D11 C11 A20 c20 hC11 hc20
end
end Go.Proofs.YtpbhanpblmoepaaGreat.Sx
