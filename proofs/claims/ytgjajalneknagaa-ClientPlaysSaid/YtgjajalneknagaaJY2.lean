/- Chapter 16's laws: what they call; the reference of wire, walked: what is put, what is the same; conditions: those that each theorem names. -/
import Derived.Test.YtgjajalneknagaaJX5
import Derived.Test.YtgjajalneknagaaJY1
namespace Go.Proofs.Ytgjajalneknagaa.Sx
open Go.RowKit Go.Proofs.Ytgjajalneknagaa.Hm Go.Proofs.YtgjajalneknagaaW.PrintWords Go.Proofs.YtgjajalneknagaaW.PrintLast Go.Proofs.YtgjajalneknagaaW.PrintMore
set_option linter.unusedVariables false
set_option linter.unusedSimpArgs false
attribute [local irreducible] SX SXL SXA St callK Post Evals

instance eqWt : EqT Try.prog 68 := ⟨by kernel_rfl, by kernel_rfl, by kernel_rfl⟩
def rtC (s : Ctl) : List Value := [.int .u32 s.k, .int .u64 s.ep, .int .u64 s.sq, .int .u32 s.pl, .string (strOfNums s.d)]
def mrC (m : Msg) (B : Option Addr) (b : Nat) : List Value := [.int .u32 m.k,
  .int .u32 m.c.client, .int .u32 m.c.xid, .int .u32 m.c.op, .int .u32 m.c.ai, .int .u32 m.c.ag, .string m.c.name, .int .u32 m.c.ti, .int .u32 m.c.tg, .string m.c.toName, .int .u64 m.c.off, .int .u64 m.c.verf, .int .u32 m.c.cnt, .int .u32 m.c.mode, .string (strOfNums m.c.d),
  .int .u32 m.r.client, .int .u32 m.r.xid, .int .i64 m.r.st, .int .u32 m.r.ai, .int .u32 m.r.ag, .int .u32 m.r.ak, .int .u32 m.r.am, .int .u32 m.r.al, .int .u32 m.r.sz, .int .u64 m.r.ac, .string (strOfNums m.r.d), .slice B m.r.e.length b, .bool m.r.eof, .int .u64 m.r.verf, .int .u32 m.r.free,
  .int .u32 m.t.k, .int .u64 m.t.ep, .int .u64 m.t.sq, .int .u32 m.t.pl, .string (strOfNums m.t.d)]
section
variable {F R : List Thing} {K : Ending → List Thing → Prop} {A B C D : Option Addr} {c c2 a1 a2 a3 a4 : Nat}
set_option maxHeartbeats 1000000 in
set_option maxRecDepth 20000 in
theorem Rinner_S {m : Msg} (hre : Ro kE B F m.r.e) (hc2 : m.r.e.length ≤ c2) (hw : m.wf) (h : ∀ r n, innM m = (r, n) → K (.returned (.tuple #[.string (strOfNums r), .int .i64 n])) F) : Fn (Try.prog) 44 [.agg (mrC m B c2).toArray] F K := by
  unfold mrC
  unfold innM at h
  refine Fn.enter Try.call44 Try.func44 rfl rfl rfl ?_
  repeat (first | refine Qa ?_ | refine Qb ?_ | refine Qc ?_ | refine Qd ?_ | refine Qe ?_ | refine Qf ?_ | refine Qg ?_ | refine Qh ?_ | refine Qi ?_ | refine Qj ?_ | refine Qk ?_ | refine Ql ?_ | refine Qm ?_ | refine Qn ?_ | refine Qo ?_ | refine Qp ?_ | refine Qq ?_ | fail)
  refine SXL.box rfl rfl rfl (fun b => ?_)
  repeat (first | refine Qa ?_ | refine Qb ?_ | refine Qc ?_ | refine Qd ?_ | refine Qe ?_ | refine Qf ?_ | refine Qg ?_ | refine Qh ?_ | refine Qi ?_ | refine Qj ?_ | refine Qk ?_ | refine Ql ?_ | refine Qm ?_ | refine Qn ?_ | refine Qo ?_ | refine Qp ?_ | refine Qq ?_ | fail)
  refine SX.cond rfl (fun k1 => ?_) (fun k1 => ?_)
  · have k1' : m.k = 1 := by simpa using k1
    rw [if_pos k1'] at h
    repeat (first | refine Qa ?_ | refine Qb ?_ | refine Qc ?_ | refine Qd ?_ | refine Qe ?_ | refine Qf ?_ | refine Qg ?_ | refine Qh ?_ | refine Qi ?_ | refine Qj ?_ | refine Qk ?_ | refine Ql ?_ | refine Qm ?_ | refine Qn ?_ | refine Qo ?_ | refine Qp ?_ | refine Qq ?_ | fail)
    refine SXL.call rfl rfl rfl ?_
    refine (RPutCall_S (s := m.c) hw.c (fun r n hm => callK.ret ?_))
    repeat (first | refine Qa ?_ | refine Qb ?_ | refine Qc ?_ | refine Qd ?_ | refine Qe ?_ | refine Qf ?_ | refine Qg ?_ | refine Qh ?_ | refine Qi ?_ | refine Qj ?_ | refine Qk ?_ | refine Ql ?_ | refine Qm ?_ | refine Qn ?_ | refine Qo ?_ | refine Qp ?_ | refine Qq ?_ | fail)
    refine SX.ret (M' := F) rfl (Evals.tmp rfl (Evals.tmp rfl Evals.nil)) ?_ inferInstance
    exact h r n hm
  have k1' : m.k ≠ 1 := by simpa using k1
  rw [if_neg k1'] at h
  repeat (first | refine Qa ?_ | refine Qb ?_ | refine Qc ?_ | refine Qd ?_ | refine Qe ?_ | refine Qf ?_ | refine Qg ?_ | refine Qh ?_ | refine Qi ?_ | refine Qj ?_ | refine Qk ?_ | refine Ql ?_ | refine Qm ?_ | refine Qn ?_ | refine Qo ?_ | refine Qp ?_ | refine Qq ?_ | fail)
  refine SX.cond rfl (fun k2 => ?_) (fun k2 => ?_)
  · have k2' : m.k = 2 := by simpa using k2
    rw [if_pos k2'] at h
    repeat (first | refine Qa ?_ | refine Qb ?_ | refine Qc ?_ | refine Qd ?_ | refine Qe ?_ | refine Qf ?_ | refine Qg ?_ | refine Qh ?_ | refine Qi ?_ | refine Qj ?_ | refine Qk ?_ | refine Ql ?_ | refine Qm ?_ | refine Qn ?_ | refine Qo ?_ | refine Qp ?_ | refine Qq ?_ | fail)
    refine SXL.call rfl rfl rfl ?_
    refine (RPutReply_S (s := m.r) (B := B) inferInstance hc2 hw.r (fun r n hm => callK.ret ?_))
    repeat (first | refine Qa ?_ | refine Qb ?_ | refine Qc ?_ | refine Qd ?_ | refine Qe ?_ | refine Qf ?_ | refine Qg ?_ | refine Qh ?_ | refine Qi ?_ | refine Qj ?_ | refine Qk ?_ | refine Ql ?_ | refine Qm ?_ | refine Qn ?_ | refine Qo ?_ | refine Qp ?_ | refine Qq ?_ | fail)
    refine SX.ret (M' := F) rfl (Evals.tmp rfl (Evals.tmp rfl Evals.nil)) ?_ inferInstance
    exact h r n hm
  have k2' : m.k ≠ 2 := by simpa using k2
  rw [if_neg k2'] at h
  repeat (first | refine Qa ?_ | refine Qb ?_ | refine Qc ?_ | refine Qd ?_ | refine Qe ?_ | refine Qf ?_ | refine Qg ?_ | refine Qh ?_ | refine Qi ?_ | refine Qj ?_ | refine Qk ?_ | refine Ql ?_ | refine Qm ?_ | refine Qn ?_ | refine Qo ?_ | refine Qp ?_ | refine Qq ?_ | fail)
  refine SX.cond rfl (fun k3 => ?_) (fun k3 => ?_)
  rotate_left
  · have k3' : m.k ≠ 3 := by simpa using k3
    rw [if_neg k3'] at h
    repeat (first | refine Qa ?_ | refine Qb ?_ | refine Qc ?_ | refine Qd ?_ | refine Qe ?_ | refine Qf ?_ | refine Qg ?_ | refine Qh ?_ | refine Qi ?_ | refine Qj ?_ | refine Qk ?_ | refine Ql ?_ | refine Qm ?_ | refine Qn ?_ | refine Qo ?_ | refine Qp ?_ | refine Qq ?_ | fail)
    refine SX.ret (M' := F) rfl (Evals.tmp rfl (Evals.tmp rfl Evals.nil)) ?_ inferInstance
    exact h [] 1 rfl
  have k3' : m.k = 3 := by simpa using k3
  rw [if_pos k3'] at h
  unfold putCt at h
  have hbd := bytesOf_strOfNums _ hw.t.d
  have hsz := size_strOfNums m.t.d
  repeat (first | refine Qa ?_ | refine Qb ?_ | refine Qc ?_ | refine Qd ?_ | refine Qe ?_ | refine Qf ?_ | refine Qg ?_ | refine Qh ?_ | refine Qi ?_ | refine Qj ?_ | refine Qk ?_ | refine Ql ?_ | refine Qm ?_ | refine Qn ?_ | refine Qo ?_ | refine Qp ?_ | refine Qq ?_ | fail)
  refine SXL.alloc rfl rfl (fun b4 => ?_)
  repeat (first | refine Qa ?_ | refine Qb ?_ | refine Qc ?_ | refine Qd ?_ | refine Qe ?_ | refine Qf ?_ | refine Qg ?_ | refine Qh ?_ | refine Qi ?_ | refine Qj ?_ | refine Qk ?_ | refine Ql ?_ | refine Qm ?_ | refine Qn ?_ | refine Qo ?_ | refine Qp ?_ | refine Qq ?_ | fail)
  refine SXL.split (s := 28) rfl (fun j1 => ?_) (fun j1 => ?_)
  · have := of_decide_eq_true j1
    rw [if_neg (by unfold okCt wordB; simp; omega)] at h
    repeat (first | refine Qa ?_ | refine Qb ?_ | refine Qc ?_ | refine Qd ?_ | refine Qe ?_ | refine Qf ?_ | refine Qg ?_ | refine Qh ?_ | refine Qi ?_ | refine Qj ?_ | refine Qk ?_ | refine Ql ?_ | refine Qm ?_ | refine Qn ?_ | refine Qo ?_ | refine Qp ?_ | refine Qq ?_ | fail)
    refine SX.ret (M' := F) rfl (Evals.tmp rfl (Evals.tmp rfl Evals.nil)) ?_ inferInstance
    exact h _ _ rfl
  have j1' := of_decide_eq_false j1
  repeat (first | refine Qa ?_ | refine Qb ?_ | refine Qc ?_ | refine Qd ?_ | refine Qe ?_ | refine Qf ?_ | refine Qg ?_ | refine Qh ?_ | refine Qi ?_ | refine Qj ?_ | refine Qk ?_ | refine Ql ?_ | refine Qm ?_ | refine Qn ?_ | refine Qo ?_ | refine Qp ?_ | refine Qq ?_ | fail)
  refine SXL.split (s := 33) rfl (fun j2 => ?_) (fun j2 => ?_)
  · have := of_decide_eq_true j2
    rw [if_neg (by unfold okCt wordB; simp; omega)] at h
    repeat (first | refine Qa ?_ | refine Qb ?_ | refine Qc ?_ | refine Qd ?_ | refine Qe ?_ | refine Qf ?_ | refine Qg ?_ | refine Qh ?_ | refine Qi ?_ | refine Qj ?_ | refine Qk ?_ | refine Ql ?_ | refine Qm ?_ | refine Qn ?_ | refine Qo ?_ | refine Qp ?_ | refine Qq ?_ | fail)
    refine SX.ret (M' := F) rfl (Evals.tmp rfl (Evals.tmp rfl Evals.nil)) ?_ inferInstance
    exact h _ _ rfl
  have j2' := of_decide_eq_false j2
  repeat (first | refine Qa ?_ | refine Qb ?_ | refine Qc ?_ | refine Qd ?_ | refine Qe ?_ | refine Qf ?_ | refine Qg ?_ | refine Qh ?_ | refine Qi ?_ | refine Qj ?_ | refine Qk ?_ | refine Ql ?_ | refine Qm ?_ | refine Qn ?_ | refine Qo ?_ | refine Qp ?_ | refine Qq ?_ | fail)
  refine SX.condp rfl (fun j3 => ?_) (fun j3 => ?_)
  · rw [if_neg (by unfold okCt wordB; simp; omega)] at h
    repeat (first | refine Qa ?_ | refine Qb ?_ | refine Qc ?_ | refine Qd ?_ | refine Qe ?_ | refine Qf ?_ | refine Qg ?_ | refine Qh ?_ | refine Qi ?_ | refine Qj ?_ | refine Qk ?_ | refine Ql ?_ | refine Qm ?_ | refine Qn ?_ | refine Qo ?_ | refine Qp ?_ | refine Qq ?_ | fail)
    refine SX.ret (M' := F) rfl (Evals.tmp rfl (Evals.tmp rfl Evals.nil)) ?_ inferInstance
    exact h _ _ rfl
  rw [if_pos (by unfold okCt wordB; simp only [Bool.and_eq_true, decide_eq_true_eq]; omega)] at h
  have hop : (opq m.t.d).length ≤ 1032 := by have := opq_len' m.t.d; omega
  repeat (first | refine Qa ?_ | refine Qb ?_ | refine Qc ?_ | refine Qd ?_ | refine Qe ?_ | refine Qf ?_ | refine Qg ?_ | refine Qh ?_ | refine Qi ?_ | refine Qj ?_ | refine Qk ?_ | refine Ql ?_ | refine Qm ?_ | refine Qn ?_ | refine Qo ?_ | refine Qp ?_ | refine Qq ?_ | fail)
  refine SXA.begin [.own (some ⟨b4, 0, none⟩) (cellsR b4 (rtC m.t) 68)] [] ?_
  unfold rtC
  (first | refine Qr 0 ?_ | refine Qs 0 ?_ | refine Qt 0 ?_ | refine Qu 0 ?_ | fail)
  (first | refine Qr 3 ?_ | refine Qs 3 ?_ | refine Qt 3 ?_ | refine Qu 3 ?_ | fail)
  (first | refine Qr 7 ?_ | refine Qs 7 ?_ | refine Qt 7 ?_ | refine Qu 7 ?_ | fail)
  (first | refine Qr 11 ?_ | refine Qs 11 ?_ | refine Qt 11 ?_ | refine Qu 11 ?_ | fail)
  (first | refine Qr 15 ?_ | refine Qs 15 ?_ | refine Qt 15 ?_ | refine Qu 15 ?_ | fail)
  (first | refine Qr 1 ?_ | refine Qs 1 ?_ | refine Qt 1 ?_ | refine Qu 1 ?_ | fail)
  (first | refine Qr 4 ?_ | refine Qs 4 ?_ | refine Qt 4 ?_ | refine Qu 4 ?_ | fail)
  (first | refine Qr 8 ?_ | refine Qs 8 ?_ | refine Qt 8 ?_ | refine Qu 8 ?_ | fail)
  (first | refine Qr 12 ?_ | refine Qs 12 ?_ | refine Qt 12 ?_ | refine Qu 12 ?_ | fail)
  (first | refine Qr 16 ?_ | refine Qs 16 ?_ | refine Qt 16 ?_ | refine Qu 16 ?_ | fail)
  refine Qw 2 ?_
  refine SXL.call rfl rfl rfl ?_
  refine (SU32_S m.t.k hw.t.k.1 hw.t.k.2 (callK.ret ?_))
  refine SXL.nil (SXA.next inferInstance ?_)
  refine Qw 5 ?_
  refine SXL.call rfl rfl rfl ?_
  refine (SU64_S m.t.ep hw.t.ep.1 hw.t.ep.2 (callK.ret ?_))
  refine SXL.nil (SXA.next inferInstance ?_)
  refine SXA.cat 6 rfl (by decide +kernel) rfl rfl rfl (by simp only [ByteArray.size_append, size_strOfNums, be32_len', be64_len', hbd]; omega) rfl inferInstance ?_
  refine Qw 9 ?_
  refine SXL.call rfl rfl rfl ?_
  refine (SU64_S m.t.sq hw.t.sq.1 hw.t.sq.2 (callK.ret ?_))
  refine SXL.nil (SXA.next inferInstance ?_)
  refine SXA.cat 10 rfl (by decide +kernel) rfl rfl rfl (by simp only [ByteArray.size_append, size_strOfNums, be32_len', be64_len', hbd]; omega) rfl inferInstance ?_
  refine Qw 13 ?_
  refine SXL.call rfl rfl rfl ?_
  refine (SU32_S m.t.pl hw.t.pl.1 hw.t.pl.2 (callK.ret ?_))
  refine SXL.nil (SXA.next inferInstance ?_)
  refine SXA.cat 14 rfl (by decide +kernel) rfl rfl rfl (by simp only [ByteArray.size_append, size_strOfNums, be32_len', be64_len', hbd]; omega) rfl inferInstance ?_
  refine Qw 17 ?_
  refine SXL.call rfl rfl rfl ?_
  refine (SOpaque_S (strOfNums m.t.d) (by omega) (callK.ret ?_))
  refine SXL.nil (SXA.next inferInstance ?_)
  refine SXA.cat 18 rfl (by decide +kernel) rfl rfl rfl (by simp only [ByteArray.size_append, size_strOfNums, be32_len', be64_len', hbd]; omega) rfl inferInstance ?_
  (first | refine Qr 19 ?_ | refine Qs 19 ?_ | refine Qt 19 ?_ | refine Qu 19 ?_ | fail)
  (first | refine Qr 20 ?_ | refine Qs 20 ?_ | refine Qt 20 ?_ | refine Qu 20 ?_ | fail)
  refine Qv ?_
  repeat (first | refine Qa ?_ | refine Qb ?_ | refine Qc ?_ | refine Qd ?_ | refine Qe ?_ | refine Qf ?_ | refine Qg ?_ | refine Qh ?_ | refine Qi ?_ | refine Qj ?_ | refine Qk ?_ | refine Ql ?_ | refine Qm ?_ | refine Qn ?_ | refine Qo ?_ | refine Qp ?_ | refine Qq ?_ | fail)
  refine SX.same 2 (.string (strOfNums (encCt m.t))) rfl ?_ ?_
  · rw [hbd]
    simp only [encCt, ctF, ctV, encFs, encF, strOfNums_app', List.append_nil]
    simp only [ByteArray.append_assoc, strOfNums_nil', ByteArray.append_empty]
  refine SX.ret (M' := F) rfl (Evals.tmp rfl (Evals.tmp rfl Evals.nil)) ?_ inferInstance
  exact h _ _ rfl
set_option maxRecDepth 20000 in
theorem RPut16_S {m : Msg} (hre : Ro kE B F m.r.e) (hc2 : m.r.e.length ≤ c2) (hw : m.wf) (h : ∀ r n, putMs m = (r, n) → K (.returned (.tuple #[.string (strOfNums r), .int .i64 n])) F) : Fn (Try.prog) 29 [.agg (mrC m B c2).toArray] F K := by
  unfold mrC
  refine Fn.enter Try.call29 Try.func29 rfl rfl rfl ?_
  repeat (first | refine Qa ?_ | refine Qb ?_ | refine Qc ?_ | refine Qd ?_ | refine Qe ?_ | refine Qf ?_ | refine Qg ?_ | refine Qh ?_ | refine Qi ?_ | refine Qj ?_ | refine Qk ?_ | refine Ql ?_ | refine Qm ?_ | refine Qn ?_ | refine Qo ?_ | refine Qp ?_ | refine Qq ?_ | fail)
  refine SXL.box rfl rfl rfl (fun b => ?_)
  repeat (first | refine Qa ?_ | refine Qb ?_ | refine Qc ?_ | refine Qd ?_ | refine Qe ?_ | refine Qf ?_ | refine Qg ?_ | refine Qh ?_ | refine Qi ?_ | refine Qj ?_ | refine Qk ?_ | refine Ql ?_ | refine Qm ?_ | refine Qn ?_ | refine Qo ?_ | refine Qp ?_ | refine Qq ?_ | fail)
  refine SXL.call rfl rfl rfl ?_
  refine (Rinner_S (m := m) (B := B) inferInstance hc2 hw (fun r n hi => callK.ret ?_))
  have hin := innM_ok hw hi
  unfold putMs at h
  rw [hi] at h
  repeat (first | refine Qa ?_ | refine Qb ?_ | refine Qc ?_ | refine Qd ?_ | refine Qe ?_ | refine Qf ?_ | refine Qg ?_ | refine Qh ?_ | refine Qi ?_ | refine Qj ?_ | refine Qk ?_ | refine Ql ?_ | refine Qm ?_ | refine Qn ?_ | refine Qo ?_ | refine Qp ?_ | refine Qq ?_ | fail)
  refine SX.cond rfl (fun hn => ?_) (fun hn => ?_)
  · have hn' : n ≠ 0 := by simpa using hn
    rw [if_pos hn'] at h
    repeat (first | refine Qa ?_ | refine Qb ?_ | refine Qc ?_ | refine Qd ?_ | refine Qe ?_ | refine Qf ?_ | refine Qg ?_ | refine Qh ?_ | refine Qi ?_ | refine Qj ?_ | refine Qk ?_ | refine Ql ?_ | refine Qm ?_ | refine Qn ?_ | refine Qo ?_ | refine Qp ?_ | refine Qq ?_ | fail)
    refine SX.ret (M' := F) rfl (Evals.tmp rfl (Evals.tmp rfl Evals.nil)) ?_ inferInstance
    exact h _ _ rfl
  obtain rfl : n = 0 := by simpa using hn
  rw [if_neg (by simp)] at h
  obtain ⟨hrb, hrl⟩ := hin rfl
  have hop : (opq r).length ≤ 10008 := by have := opq_len' r; omega
  have hbr := bytesOf_strOfNums _ hrb
  have hsz := size_strOfNums r
  have hbb : bytesB (be32 m.k ++ opq r) = true := by rw [bytesB_append, bytesB_be32 _ hw.k.1 hw.k.2, bytesB_opq (by omega) hrb]; rfl
  repeat (first | refine Qa ?_ | refine Qb ?_ | refine Qc ?_ | refine Qd ?_ | refine Qe ?_ | refine Qf ?_ | refine Qg ?_ | refine Qh ?_ | refine Qi ?_ | refine Qj ?_ | refine Qk ?_ | refine Ql ?_ | refine Qm ?_ | refine Qn ?_ | refine Qo ?_ | refine Qp ?_ | refine Qq ?_ | fail)
  refine SXL.call rfl rfl rfl ?_
  refine (SU32_S m.k hw.k.1 hw.k.2 (callK.ret ?_))
  repeat (first | refine Qa ?_ | refine Qb ?_ | refine Qc ?_ | refine Qd ?_ | refine Qe ?_ | refine Qf ?_ | refine Qg ?_ | refine Qh ?_ | refine Qi ?_ | refine Qj ?_ | refine Qk ?_ | refine Ql ?_ | refine Qm ?_ | refine Qn ?_ | refine Qo ?_ | refine Qp ?_ | refine Qq ?_ | fail)
  refine SXL.call rfl rfl rfl ?_
  refine (SOpaque_S (strOfNums r) (by omega) (callK.ret ?_))
  rw [hbr]
  repeat (first | refine Qa ?_ | refine Qb ?_ | refine Qc ?_ | refine Qd ?_ | refine Qe ?_ | refine Qf ?_ | refine Qg ?_ | refine Qh ?_ | refine Qi ?_ | refine Qj ?_ | refine Qk ?_ | refine Ql ?_ | refine Qm ?_ | refine Qn ?_ | refine Qo ?_ | refine Qp ?_ | refine Qq ?_ | fail)
  refine SXL.cat rfl rfl (by simp only [size_strOfNums, be32_len']; omega) rfl ?_
  rw [← strOfNums_app']
  refine SXL.call rfl rfl rfl ?_
  refine (RSealed_S (strOfNums (be32 m.k ++ opq r)) (by rw [size_strOfNums, List.length_append, be32_len']; omega) (callK.ret ?_))
  rw [bytesOf_strOfNums _ hbb]
  repeat (first | refine Qa ?_ | refine Qb ?_ | refine Qc ?_ | refine Qd ?_ | refine Qe ?_ | refine Qf ?_ | refine Qg ?_ | refine Qh ?_ | refine Qi ?_ | refine Qj ?_ | refine Qk ?_ | refine Ql ?_ | refine Qm ?_ | refine Qn ?_ | refine Qo ?_ | refine Qp ?_ | refine Qq ?_ | fail)
  refine SX.ret (M' := F) rfl (Evals.tmp rfl (Evals.tmp rfl Evals.nil)) ?_ inferInstance
  exact h _ _ rfl
end
end Go.Proofs.Ytgjajalneknagaa.Sx
