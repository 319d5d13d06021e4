/- Part X5 of the lemmas and walks of the Go functions that these statements reach; conditions: those that each theorem names. -/
import Derived.Test.YtgjajalneknagaaJX4
section
/- The reference of call, walked: what is put; conditions: those that each theorem names. -/
namespace Go.Proofs.Ytgjajalneknagaa.Sx
open Go.RowKit Go.Proofs.Ytgjajalneknagaa.Hm Go.Proofs.YtgjajalneknagaaW.PrintWords Go.Proofs.YtgjajalneknagaaW.PrintLast Go.Proofs.YtgjajalneknagaaW.PrintMore
set_option linter.unusedVariables false
set_option linter.unusedSimpArgs false
attribute [local irreducible] SX SXL SXA St callK Post Evals

instance eqHt : EqT Try.prog 30 := ⟨by kernel_rfl, by kernel_rfl, by kernel_rfl⟩
instance eqAt : EqT Try.prog 63 := ⟨by kernel_rfl, by kernel_rfl, by kernel_rfl⟩
instance eqEt : EqT Try.prog 102 := ⟨by kernel_rfl, by kernel_rfl, by kernel_rfl⟩
instance eqCt : EqT Try.prog 33 := ⟨by kernel_rfl, by kernel_rfl, by kernel_rfl⟩
instance eqNt : EqN Try.prog [30] := ⟨by kernel_rfl⟩
def raC (s : Ca) : List Value := [.int .u32 s.client, .int .u32 s.xid, .int .u32 s.op, .int .u32 s.ai, .int .u32 s.ag, .string s.name, .int .u32 s.ti, .int .u32 s.tg, .string s.toName, .int .u64 s.off, .int .u64 s.verf, .int .u32 s.cnt, .int .u32 s.mode, .string (strOfNums s.d)]
def rrC (s : Re) (B : Option Addr) (c2 : Nat) : List Value := [.int .u32 s.client, .int .u32 s.xid, .int .i64 s.st, .int .u32 s.ai, .int .u32 s.ag, .int .u32 s.ak, .int .u32 s.am, .int .u32 s.al, .int .u32 s.sz, .int .u64 s.ac, .string (strOfNums s.d), .slice B s.e.length c2, .bool s.eof, .int .u64 s.verf, .int .u32 s.free]
theorem strOfNums_app' (a b : List Int) : strOfNums (a ++ b) = strOfNums a ++ strOfNums b := by
  apply ByteArray.ext
  rw [ByteArray.data_append]
  unfold strOfNums
  simp
theorem strOfNums_nil' : strOfNums [] = ByteArray.empty := rfl
section
variable {F R : List Thing} {K : Ending → List Thing → Prop} {A B : Option Addr} {c c2 : Nat}
theorem Ru09_S (x : Int) (h0 : 0 ≤ x) (h1 : x < 4294967296) (h : K (.returned (.string (strOfNums (be32 x)))) F) : Fn (Try.prog) 64 [.int .u32 x] F K := by
  refine Fn.enter Try.call64 Try.func64 rfl rfl rfl ?_
  repeat (first | refine Qa ?_ | refine Qb ?_ | refine Qc ?_ | refine Qd ?_ | refine Qe ?_ | refine Qf ?_ | refine Qg ?_ | refine Qh ?_ | refine Qi ?_ | refine Qj ?_ | refine Qk ?_ | refine Ql ?_ | refine Qm ?_ | refine Qn ?_ | refine Qo ?_ | refine Qp ?_ | refine Qq ?_ | fail)
  refine SXL.call rfl rfl rfl ?_
  refine (SU32_S x h0 h1 (callK.ret ?_))
  repeat (first | refine Qa ?_ | refine Qb ?_ | refine Qc ?_ | refine Qd ?_ | refine Qe ?_ | refine Qf ?_ | refine Qg ?_ | refine Qh ?_ | refine Qi ?_ | refine Qj ?_ | refine Qk ?_ | refine Ql ?_ | refine Qm ?_ | refine Qn ?_ | refine Qo ?_ | refine Qp ?_ | refine Qq ?_ | fail)
  refine SX.ret (M' := F) rfl (Evals.tmp rfl Evals.nil) ?_ inferInstance
  exact h
theorem RBo_S (b : Bool) (h : K (.returned (.string (strOfNums (be32 (if b = true then 1 else 0))))) F) : Fn (Try.prog) 67 [.bool b] F K := by
  refine Fn.enter Try.call67 Try.func67 rfl rfl rfl ?_
  repeat (first | refine Qa ?_ | refine Qb ?_ | refine Qc ?_ | refine Qd ?_ | refine Qe ?_ | refine Qf ?_ | refine Qg ?_ | refine Qh ?_ | refine Qi ?_ | refine Qj ?_ | refine Qk ?_ | refine Ql ?_ | refine Qm ?_ | refine Qn ?_ | refine Qo ?_ | refine Qp ?_ | refine Qq ?_ | fail)
  refine SX.cond rfl (fun hb => ?_) (fun hb => ?_)
  · subst hb
    repeat (first | refine Qa ?_ | refine Qb ?_ | refine Qc ?_ | refine Qd ?_ | refine Qe ?_ | refine Qf ?_ | refine Qg ?_ | refine Qh ?_ | refine Qi ?_ | refine Qj ?_ | refine Qk ?_ | refine Ql ?_ | refine Qm ?_ | refine Qn ?_ | refine Qo ?_ | refine Qp ?_ | refine Qq ?_ | fail)
    refine SXL.call rfl rfl rfl ?_
    refine (SU32_S 1 (by decide) (by decide) (callK.ret ?_))
    repeat (first | refine Qa ?_ | refine Qb ?_ | refine Qc ?_ | refine Qd ?_ | refine Qe ?_ | refine Qf ?_ | refine Qg ?_ | refine Qh ?_ | refine Qi ?_ | refine Qj ?_ | refine Qk ?_ | refine Ql ?_ | refine Qm ?_ | refine Qn ?_ | refine Qo ?_ | refine Qp ?_ | refine Qq ?_ | fail)
    refine SX.ret (M' := F) rfl (Evals.tmp rfl Evals.nil) ?_ inferInstance
    exact h
  · subst hb
    repeat (first | refine Qa ?_ | refine Qb ?_ | refine Qc ?_ | refine Qd ?_ | refine Qe ?_ | refine Qf ?_ | refine Qg ?_ | refine Qh ?_ | refine Qi ?_ | refine Qj ?_ | refine Qk ?_ | refine Ql ?_ | refine Qm ?_ | refine Qn ?_ | refine Qo ?_ | refine Qp ?_ | refine Qq ?_ | fail)
    refine SXL.call rfl rfl rfl ?_
    refine (SU32_S 0 (by decide) (by decide) (callK.ret ?_))
    repeat (first | refine Qa ?_ | refine Qb ?_ | refine Qc ?_ | refine Qd ?_ | refine Qe ?_ | refine Qf ?_ | refine Qg ?_ | refine Qh ?_ | refine Qi ?_ | refine Qj ?_ | refine Qk ?_ | refine Ql ?_ | refine Qm ?_ | refine Qn ?_ | refine Qo ?_ | refine Qp ?_ | refine Qq ?_ | fail)
    refine SX.ret (M' := F) rfl (Evals.tmp rfl Evals.nil) ?_ inferInstance
    exact h
theorem Rstatus_S {n : Int} (h : K (.returned (.bool (statB n))) F) : Fn (Try.prog) 65 [.int .i64 n] F K := by
  refine Fn.enter Try.call65 Try.func65 rfl rfl rfl ?_
  repeat (first | refine Qa ?_ | refine Qb ?_ | refine Qc ?_ | refine Qd ?_ | refine Qe ?_ | refine Qf ?_ | refine Qg ?_ | refine Qh ?_ | refine Qi ?_ | refine Qj ?_ | refine Qk ?_ | refine Ql ?_ | refine Qm ?_ | refine Qn ?_ | refine Qo ?_ | refine Qp ?_ | refine Qq ?_ | fail)
  refine SXL.split (s := 5) rfl (fun h5 => ?_) (fun h5 => ?_)
  · repeat (first | refine Qa ?_ | refine Qb ?_ | refine Qc ?_ | refine Qd ?_ | refine Qe ?_ | refine Qf ?_ | refine Qg ?_ | refine Qh ?_ | refine Qi ?_ | refine Qj ?_ | refine Qk ?_ | refine Ql ?_ | refine Qm ?_ | refine Qn ?_ | refine Qo ?_ | refine Qp ?_ | refine Qq ?_ | fail)
    refine SX.same 2 (.bool (statB n)) rfl (by simp [statB, h5]) ?_
    refine SX.ret (M' := F) rfl (Evals.tmp rfl Evals.nil) ?_ inferInstance
    exact h
  repeat (first | refine Qa ?_ | refine Qb ?_ | refine Qc ?_ | refine Qd ?_ | refine Qe ?_ | refine Qf ?_ | refine Qg ?_ | refine Qh ?_ | refine Qi ?_ | refine Qj ?_ | refine Qk ?_ | refine Ql ?_ | refine Qm ?_ | refine Qn ?_ | refine Qo ?_ | refine Qp ?_ | refine Qq ?_ | fail)
  refine SXL.split (s := 8) rfl (fun h8 => ?_) (fun h8 => ?_)
  · have h8' := of_decide_eq_true h8
    repeat (first | refine Qa ?_ | refine Qb ?_ | refine Qc ?_ | refine Qd ?_ | refine Qe ?_ | refine Qf ?_ | refine Qg ?_ | refine Qh ?_ | refine Qi ?_ | refine Qj ?_ | refine Qk ?_ | refine Ql ?_ | refine Qm ?_ | refine Qn ?_ | refine Qo ?_ | refine Qp ?_ | refine Qq ?_ | fail)
    refine SX.same 2 (.bool (statB n)) rfl (by simp [statB, h5, h8']) ?_
    refine SX.ret (M' := F) rfl (Evals.tmp rfl Evals.nil) ?_ inferInstance
    exact h
  · have h8' := of_decide_eq_false h8
    repeat (first | refine Qa ?_ | refine Qb ?_ | refine Qc ?_ | refine Qd ?_ | refine Qe ?_ | refine Qf ?_ | refine Qg ?_ | refine Qh ?_ | refine Qi ?_ | refine Qj ?_ | refine Qk ?_ | refine Ql ?_ | refine Qm ?_ | refine Qn ?_ | refine Qo ?_ | refine Qp ?_ | refine Qq ?_ | fail)
    refine SX.same 2 (.bool (statB n)) rfl (by simp [statB, h5, h8']) ?_
    refine SX.ret (M' := F) rfl (Evals.tmp rfl Evals.nil) ?_ inferInstance
    exact h
set_option maxHeartbeats 1000000 in
set_option maxRecDepth 20000 in
theorem RPutCall_S {s : Ca} (hw : s.wf) (h : ∀ r n, putCa s = (r, n) → K (.returned (.tuple #[.string (strOfNums r), .int .i64 n])) F) : Fn (Try.prog) 57 [.agg (raC s).toArray] F K := by
  have hsz := size_strOfNums s.d
  unfold putCa at h
  unfold raC
  refine Fn.enter Try.call57 Try.func57 rfl rfl rfl ?_
  repeat (first | refine Qa ?_ | refine Qb ?_ | refine Qc ?_ | refine Qd ?_ | refine Qe ?_ | refine Qf ?_ | refine Qg ?_ | refine Qh ?_ | refine Qi ?_ | refine Qj ?_ | refine Qk ?_ | refine Ql ?_ | refine Qm ?_ | refine Qn ?_ | refine Qo ?_ | refine Qp ?_ | refine Qq ?_ | fail)
  refine SXL.box rfl rfl rfl (fun b => ?_)
  repeat (first | refine Qa ?_ | refine Qb ?_ | refine Qc ?_ | refine Qd ?_ | refine Qe ?_ | refine Qf ?_ | refine Qg ?_ | refine Qh ?_ | refine Qi ?_ | refine Qj ?_ | refine Qk ?_ | refine Ql ?_ | refine Qm ?_ | refine Qn ?_ | refine Qo ?_ | refine Qp ?_ | refine Qq ?_ | fail)
  refine SXL.split (s := 8) rfl (fun k8 => ?_) (fun k8 => ?_)
  · have := of_decide_eq_true k8
    rw [if_neg (by unfold okCa knownB; simp; omega)] at h
    repeat (first | refine Qa ?_ | refine Qb ?_ | refine Qc ?_ | refine Qd ?_ | refine Qe ?_ | refine Qf ?_ | refine Qg ?_ | refine Qh ?_ | refine Qi ?_ | refine Qj ?_ | refine Qk ?_ | refine Ql ?_ | refine Qm ?_ | refine Qn ?_ | refine Qo ?_ | refine Qp ?_ | refine Qq ?_ | fail)
    refine SX.ret (M' := F) rfl (Evals.tmp rfl (Evals.tmp rfl Evals.nil)) ?_ inferInstance
    exact h _ _ rfl
  have j8 := of_decide_eq_false k8
  repeat (first | refine Qa ?_ | refine Qb ?_ | refine Qc ?_ | refine Qd ?_ | refine Qe ?_ | refine Qf ?_ | refine Qg ?_ | refine Qh ?_ | refine Qi ?_ | refine Qj ?_ | refine Qk ?_ | refine Ql ?_ | refine Qm ?_ | refine Qn ?_ | refine Qo ?_ | refine Qp ?_ | refine Qq ?_ | fail)
  refine SXL.split (s := 13) rfl (fun k13 => ?_) (fun k13 => ?_)
  · have := of_decide_eq_true k13
    rw [if_neg (by unfold okCa knownB; simp; omega)] at h
    repeat (first | refine Qa ?_ | refine Qb ?_ | refine Qc ?_ | refine Qd ?_ | refine Qe ?_ | refine Qf ?_ | refine Qg ?_ | refine Qh ?_ | refine Qi ?_ | refine Qj ?_ | refine Qk ?_ | refine Ql ?_ | refine Qm ?_ | refine Qn ?_ | refine Qo ?_ | refine Qp ?_ | refine Qq ?_ | fail)
    refine SX.ret (M' := F) rfl (Evals.tmp rfl (Evals.tmp rfl Evals.nil)) ?_ inferInstance
    exact h _ _ rfl
  have j13 := of_decide_eq_false k13
  repeat (first | refine Qa ?_ | refine Qb ?_ | refine Qc ?_ | refine Qd ?_ | refine Qe ?_ | refine Qf ?_ | refine Qg ?_ | refine Qh ?_ | refine Qi ?_ | refine Qj ?_ | refine Qk ?_ | refine Ql ?_ | refine Qm ?_ | refine Qn ?_ | refine Qo ?_ | refine Qp ?_ | refine Qq ?_ | fail)
  refine SXL.split (s := 19) rfl (fun k19 => ?_) (fun k19 => ?_)
  · have := of_decide_eq_true k19
    rw [if_neg (by unfold okCa knownB; simp; omega)] at h
    repeat (first | refine Qa ?_ | refine Qb ?_ | refine Qc ?_ | refine Qd ?_ | refine Qe ?_ | refine Qf ?_ | refine Qg ?_ | refine Qh ?_ | refine Qi ?_ | refine Qj ?_ | refine Qk ?_ | refine Ql ?_ | refine Qm ?_ | refine Qn ?_ | refine Qo ?_ | refine Qp ?_ | refine Qq ?_ | fail)
    refine SX.ret (M' := F) rfl (Evals.tmp rfl (Evals.tmp rfl Evals.nil)) ?_ inferInstance
    exact h _ _ rfl
  have j19 := of_decide_eq_false k19
  repeat (first | refine Qa ?_ | refine Qb ?_ | refine Qc ?_ | refine Qd ?_ | refine Qe ?_ | refine Qf ?_ | refine Qg ?_ | refine Qh ?_ | refine Qi ?_ | refine Qj ?_ | refine Qk ?_ | refine Ql ?_ | refine Qm ?_ | refine Qn ?_ | refine Qo ?_ | refine Qp ?_ | refine Qq ?_ | fail)
  refine SXL.split (s := 25) rfl (fun k25 => ?_) (fun k25 => ?_)
  · have := of_decide_eq_true k25
    rw [if_neg (by unfold okCa knownB; simp; omega)] at h
    repeat (first | refine Qa ?_ | refine Qb ?_ | refine Qc ?_ | refine Qd ?_ | refine Qe ?_ | refine Qf ?_ | refine Qg ?_ | refine Qh ?_ | refine Qi ?_ | refine Qj ?_ | refine Qk ?_ | refine Ql ?_ | refine Qm ?_ | refine Qn ?_ | refine Qo ?_ | refine Qp ?_ | refine Qq ?_ | fail)
    refine SX.ret (M' := F) rfl (Evals.tmp rfl (Evals.tmp rfl Evals.nil)) ?_ inferInstance
    exact h _ _ rfl
  have j25 := of_decide_eq_false k25
  repeat (first | refine Qa ?_ | refine Qb ?_ | refine Qc ?_ | refine Qd ?_ | refine Qe ?_ | refine Qf ?_ | refine Qg ?_ | refine Qh ?_ | refine Qi ?_ | refine Qj ?_ | refine Qk ?_ | refine Ql ?_ | refine Qm ?_ | refine Qn ?_ | refine Qo ?_ | refine Qp ?_ | refine Qq ?_ | fail)
  refine SX.condp rfl (fun k30 => ?_) (fun k30 => ?_)
  · rw [if_neg (by unfold okCa knownB; simp; omega)] at h
    repeat (first | refine Qa ?_ | refine Qb ?_ | refine Qc ?_ | refine Qd ?_ | refine Qe ?_ | refine Qf ?_ | refine Qg ?_ | refine Qh ?_ | refine Qi ?_ | refine Qj ?_ | refine Qk ?_ | refine Ql ?_ | refine Qm ?_ | refine Qn ?_ | refine Qo ?_ | refine Qp ?_ | refine Qq ?_ | fail)
    refine SX.ret (M' := F) rfl (Evals.tmp rfl (Evals.tmp rfl Evals.nil)) ?_ inferInstance
    exact h _ _ rfl
  rw [if_pos (by unfold okCa knownB; simp only [Bool.and_eq_true, decide_eq_true_eq]; omega)] at h
  have hbd := bytesOf_strOfNums _ hw.d
  have hop : (opq s.d).length ≤ 1032 := by have := opq_len' s.d; omega
  have hon : (opq (bytesOf s.name)).length ≤ 72 := by have := opq_len' (bytesOf s.name); rw [bytesOf_length] at this; omega
  have hot : (opq (bytesOf s.toName)).length ≤ 72 := by have := opq_len' (bytesOf s.toName); rw [bytesOf_length] at this; omega
  repeat (first | refine Qa ?_ | refine Qb ?_ | refine Qc ?_ | refine Qd ?_ | refine Qe ?_ | refine Qf ?_ | refine Qg ?_ | refine Qh ?_ | refine Qi ?_ | refine Qj ?_ | refine Qk ?_ | refine Ql ?_ | refine Qm ?_ | refine Qn ?_ | refine Qo ?_ | refine Qp ?_ | refine Qq ?_ | fail)
  refine SXA.begin [.own (some ⟨b, 0, none⟩) (cellsR b (raC s) 33)] [] ?_
  unfold raC
  (first | refine Qr 0 ?_ | refine Qs 0 ?_ | refine Qt 0 ?_ | refine Qu 0 ?_ | fail)
  (first | refine Qr 3 ?_ | refine Qs 3 ?_ | refine Qt 3 ?_ | refine Qu 3 ?_ | fail)
  (first | refine Qr 7 ?_ | refine Qs 7 ?_ | refine Qt 7 ?_ | refine Qu 7 ?_ | fail)
  (first | refine Qr 11 ?_ | refine Qs 11 ?_ | refine Qt 11 ?_ | refine Qu 11 ?_ | fail)
  (first | refine Qr 16 ?_ | refine Qs 16 ?_ | refine Qt 16 ?_ | refine Qu 16 ?_ | fail)
  (first | refine Qr 21 ?_ | refine Qs 21 ?_ | refine Qt 21 ?_ | refine Qu 21 ?_ | fail)
  (first | refine Qr 25 ?_ | refine Qs 25 ?_ | refine Qt 25 ?_ | refine Qu 25 ?_ | fail)
  (first | refine Qr 30 ?_ | refine Qs 30 ?_ | refine Qt 30 ?_ | refine Qu 30 ?_ | fail)
  (first | refine Qr 35 ?_ | refine Qs 35 ?_ | refine Qt 35 ?_ | refine Qu 35 ?_ | fail)
  (first | refine Qr 1 ?_ | refine Qs 1 ?_ | refine Qt 1 ?_ | refine Qu 1 ?_ | fail)
  (first | refine Qr 4 ?_ | refine Qs 4 ?_ | refine Qt 4 ?_ | refine Qu 4 ?_ | fail)
  (first | refine Qr 8 ?_ | refine Qs 8 ?_ | refine Qt 8 ?_ | refine Qu 8 ?_ | fail)
  (first | refine Qr 12 ?_ | refine Qs 12 ?_ | refine Qt 12 ?_ | refine Qu 12 ?_ | fail)
  (first | refine Qr 17 ?_ | refine Qs 17 ?_ | refine Qt 17 ?_ | refine Qu 17 ?_ | fail)
  (first | refine Qr 22 ?_ | refine Qs 22 ?_ | refine Qt 22 ?_ | refine Qu 22 ?_ | fail)
  (first | refine Qr 26 ?_ | refine Qs 26 ?_ | refine Qt 26 ?_ | refine Qu 26 ?_ | fail)
  (first | refine Qr 31 ?_ | refine Qs 31 ?_ | refine Qt 31 ?_ | refine Qu 31 ?_ | fail)
  (first | refine Qr 36 ?_ | refine Qs 36 ?_ | refine Qt 36 ?_ | refine Qu 36 ?_ | fail)
  (first | refine Qr 13 ?_ | refine Qs 13 ?_ | refine Qt 13 ?_ | refine Qu 13 ?_ | fail)
  (first | refine Qr 18 ?_ | refine Qs 18 ?_ | refine Qt 18 ?_ | refine Qu 18 ?_ | fail)
  (first | refine Qr 27 ?_ | refine Qs 27 ?_ | refine Qt 27 ?_ | refine Qu 27 ?_ | fail)
  (first | refine Qr 32 ?_ | refine Qs 32 ?_ | refine Qt 32 ?_ | refine Qu 32 ?_ | fail)
  refine Qw 2 ?_
  refine SXL.call rfl rfl rfl ?_
  refine (Ru09_S s.client hw.client.1 hw.client.2 (callK.ret ?_))
  refine SXL.nil (SXA.next inferInstance ?_)
  refine Qw 5 ?_
  refine SXL.call rfl rfl rfl ?_
  refine (Ru09_S s.xid hw.xid.1 hw.xid.2 (callK.ret ?_))
  refine SXL.nil (SXA.next inferInstance ?_)
  refine SXA.cat 6 rfl (by decide +kernel) rfl rfl rfl (by simp only [ByteArray.size_append, size_strOfNums, be32_len', be64_len', hbd]; omega) rfl inferInstance ?_
  refine Qw 9 ?_
  refine SXL.call rfl rfl rfl ?_
  refine (Ru09_S s.op hw.op.1 hw.op.2 (callK.ret ?_))
  refine SXL.nil (SXA.next inferInstance ?_)
  refine SXA.cat 10 rfl (by decide +kernel) rfl rfl rfl (by simp only [ByteArray.size_append, size_strOfNums, be32_len', be64_len', hbd]; omega) rfl inferInstance ?_
  refine Qw 14 ?_
  refine SXL.call rfl rfl rfl ?_
  refine (Ru09_S s.ai hw.ai.1 hw.ai.2 (callK.ret ?_))
  refine SXL.nil (SXA.next inferInstance ?_)
  refine SXA.cat 15 rfl (by decide +kernel) rfl rfl rfl (by simp only [ByteArray.size_append, size_strOfNums, be32_len', be64_len', hbd]; omega) rfl inferInstance ?_
  refine Qw 19 ?_
  refine SXL.call rfl rfl rfl ?_
  refine (Ru09_S s.ag hw.ag.1 hw.ag.2 (callK.ret ?_))
  refine SXL.nil (SXA.next inferInstance ?_)
  refine SXA.cat 20 rfl (by decide +kernel) rfl rfl rfl (by simp only [ByteArray.size_append, size_strOfNums, be32_len', be64_len', hbd]; omega) rfl inferInstance ?_
  refine Qw 23 ?_
  refine SXL.call rfl rfl rfl ?_
  refine (SOpaque_S s.name (by omega) (callK.ret ?_))
  refine SXL.nil (SXA.next inferInstance ?_)
  refine SXA.cat 24 rfl (by decide +kernel) rfl rfl rfl (by simp only [ByteArray.size_append, size_strOfNums, be32_len', be64_len', hbd]; omega) rfl inferInstance ?_
  refine Qw 28 ?_
  refine SXL.call rfl rfl rfl ?_
  refine (Ru09_S s.ti hw.ti.1 hw.ti.2 (callK.ret ?_))
  refine SXL.nil (SXA.next inferInstance ?_)
  refine SXA.cat 29 rfl (by decide +kernel) rfl rfl rfl (by simp only [ByteArray.size_append, size_strOfNums, be32_len', be64_len', hbd]; omega) rfl inferInstance ?_
  refine Qw 33 ?_
  refine SXL.call rfl rfl rfl ?_
  refine (Ru09_S s.tg hw.tg.1 hw.tg.2 (callK.ret ?_))
  refine SXL.nil (SXA.next inferInstance ?_)
  refine SXA.cat 34 rfl (by decide +kernel) rfl rfl rfl (by simp only [ByteArray.size_append, size_strOfNums, be32_len', be64_len', hbd]; omega) rfl inferInstance ?_
  refine Qw 37 ?_
  refine SXL.call rfl rfl rfl ?_
  refine (SOpaque_S s.toName (by omega) (callK.ret ?_))
  refine SXL.nil (SXA.next inferInstance ?_)
  refine SXA.cat 38 rfl (by decide +kernel) rfl rfl rfl (by simp only [ByteArray.size_append, size_strOfNums, be32_len', be64_len', hbd]; omega) rfl inferInstance ?_
  (first | refine Qr 39 ?_ | refine Qs 39 ?_ | refine Qt 39 ?_ | refine Qu 39 ?_ | fail)
  refine Qv ?_
  repeat (first | refine Qa ?_ | refine Qb ?_ | refine Qc ?_ | refine Qd ?_ | refine Qe ?_ | refine Qf ?_ | refine Qg ?_ | refine Qh ?_ | refine Qi ?_ | refine Qj ?_ | refine Qk ?_ | refine Ql ?_ | refine Qm ?_ | refine Qn ?_ | refine Qo ?_ | refine Qp ?_ | refine Qq ?_ | fail)
  refine SXA.begin [.own (some ⟨b, 0, none⟩) (cellsR b (raC s) 33)] [] ?_
  unfold raC
  (first | refine Qr 0 ?_ | refine Qs 0 ?_ | refine Qt 0 ?_ | refine Qu 0 ?_ | fail)
  (first | refine Qr 1 ?_ | refine Qs 1 ?_ | refine Qt 1 ?_ | refine Qu 1 ?_ | fail)
  (first | refine Qr 5 ?_ | refine Qs 5 ?_ | refine Qt 5 ?_ | refine Qu 5 ?_ | fail)
  (first | refine Qr 9 ?_ | refine Qs 9 ?_ | refine Qt 9 ?_ | refine Qu 9 ?_ | fail)
  (first | refine Qr 13 ?_ | refine Qs 13 ?_ | refine Qt 13 ?_ | refine Qu 13 ?_ | fail)
  (first | refine Qr 17 ?_ | refine Qs 17 ?_ | refine Qt 17 ?_ | refine Qu 17 ?_ | fail)
  (first | refine Qr 2 ?_ | refine Qs 2 ?_ | refine Qt 2 ?_ | refine Qu 2 ?_ | fail)
  (first | refine Qr 6 ?_ | refine Qs 6 ?_ | refine Qt 6 ?_ | refine Qu 6 ?_ | fail)
  (first | refine Qr 10 ?_ | refine Qs 10 ?_ | refine Qt 10 ?_ | refine Qu 10 ?_ | fail)
  (first | refine Qr 14 ?_ | refine Qs 14 ?_ | refine Qt 14 ?_ | refine Qu 14 ?_ | fail)
  (first | refine Qr 18 ?_ | refine Qs 18 ?_ | refine Qt 18 ?_ | refine Qu 18 ?_ | fail)
  refine Qw 3 ?_
  refine SXL.call rfl rfl rfl ?_
  refine (SU64_S s.off hw.off.1 hw.off.2 (callK.ret ?_))
  refine SXL.nil (SXA.next inferInstance ?_)
  refine SXA.cat 4 rfl (by decide +kernel) rfl rfl rfl (by simp only [ByteArray.size_append, size_strOfNums, be32_len', be64_len', hbd]; omega) rfl inferInstance ?_
  refine Qw 7 ?_
  refine SXL.call rfl rfl rfl ?_
  refine (SU64_S s.verf hw.verf.1 hw.verf.2 (callK.ret ?_))
  refine SXL.nil (SXA.next inferInstance ?_)
  refine SXA.cat 8 rfl (by decide +kernel) rfl rfl rfl (by simp only [ByteArray.size_append, size_strOfNums, be32_len', be64_len', hbd]; omega) rfl inferInstance ?_
  refine Qw 11 ?_
  refine SXL.call rfl rfl rfl ?_
  refine (Ru09_S s.cnt hw.cnt.1 hw.cnt.2 (callK.ret ?_))
  refine SXL.nil (SXA.next inferInstance ?_)
  refine SXA.cat 12 rfl (by decide +kernel) rfl rfl rfl (by simp only [ByteArray.size_append, size_strOfNums, be32_len', be64_len', hbd]; omega) rfl inferInstance ?_
  refine Qw 15 ?_
  refine SXL.call rfl rfl rfl ?_
  refine (Ru09_S s.mode hw.mode.1 hw.mode.2 (callK.ret ?_))
  refine SXL.nil (SXA.next inferInstance ?_)
  refine SXA.cat 16 rfl (by decide +kernel) rfl rfl rfl (by simp only [ByteArray.size_append, size_strOfNums, be32_len', be64_len', hbd]; omega) rfl inferInstance ?_
  refine Qw 19 ?_
  refine SXL.call rfl rfl rfl ?_
  refine (SOpaque_S (strOfNums s.d) (by omega) (callK.ret ?_))
  refine SXL.nil (SXA.next inferInstance ?_)
  refine SXA.cat 20 rfl (by decide +kernel) rfl rfl rfl (by simp only [ByteArray.size_append, size_strOfNums, be32_len', be64_len', hbd]; omega) rfl inferInstance ?_
  (first | refine Qr 21 ?_ | refine Qs 21 ?_ | refine Qt 21 ?_ | refine Qu 21 ?_ | fail)
  (first | refine Qr 22 ?_ | refine Qs 22 ?_ | refine Qt 22 ?_ | refine Qu 22 ?_ | fail)
  refine Qv ?_
  repeat (first | refine Qa ?_ | refine Qb ?_ | refine Qc ?_ | refine Qd ?_ | refine Qe ?_ | refine Qf ?_ | refine Qg ?_ | refine Qh ?_ | refine Qi ?_ | refine Qj ?_ | refine Qk ?_ | refine Ql ?_ | refine Qm ?_ | refine Qn ?_ | refine Qo ?_ | refine Qp ?_ | refine Qq ?_ | fail)
  refine SX.same 2 (.string (strOfNums (encCa s))) rfl ?_ ?_
  · rw [hbd]
    simp only [encCa, caF, caV, encFs, encF, strOfNums_app', List.append_nil]
    simp only [ByteArray.append_assoc, strOfNums_nil', ByteArray.append_empty]
  refine SX.ret (M' := F) rfl (Evals.tmp rfl (Evals.tmp rfl Evals.nil)) ?_ inferInstance
  exact h _ _ rfl
end
end Go.Proofs.Ytgjajalneknagaa.Sx
end
section
/- The reference of call, walked: replies put, replies that are the same; conditions: those that each theorem names. -/
namespace Go.Proofs.Ytgjajalneknagaa.Sx
open Go.RowKit Go.Proofs.Ytgjajalneknagaa.Hm Go.Proofs.YtgjajalneknagaaW.PrintWords Go.Proofs.YtgjajalneknagaaW.PrintLast Go.Proofs.YtgjajalneknagaaW.PrintMore
set_option linter.unusedVariables false
set_option linter.unusedSimpArgs false
attribute [local irreducible] SX SXL SXA St callK Post Evals

section
variable {F R : List Thing} {K : Ending → List Thing → Prop} {A B : Option Addr} {c c2 : Nat}
set_option maxHeartbeats 1000000 in
set_option maxRecDepth 20000 in
theorem RPutReply_S {s : Re} (hr2 : Ro kE B F s.e) (hc2 : s.e.length ≤ c2) (hw : s.wf) (h : ∀ r n, putRe s = (r, n) → K (.returned (.tuple #[.string (strOfNums r), .int .i64 n])) F) : Fn (Try.prog) 58 [.agg (rrC s B c2).toArray] F K := by
  have hsz := size_strOfNums s.d
  unfold putRe at h
  unfold rrC
  refine Fn.enter Try.call58 Try.func58 rfl rfl rfl ?_
  repeat (first | refine Qa ?_ | refine Qb ?_ | refine Qc ?_ | refine Qd ?_ | refine Qe ?_ | refine Qf ?_ | refine Qg ?_ | refine Qh ?_ | refine Qi ?_ | refine Qj ?_ | refine Qk ?_ | refine Ql ?_ | refine Qm ?_ | refine Qn ?_ | refine Qo ?_ | refine Qp ?_ | refine Qq ?_ | fail)
  refine SXL.box rfl rfl rfl (fun b => ?_)
  repeat (first | refine Qa ?_ | refine Qb ?_ | refine Qc ?_ | refine Qd ?_ | refine Qe ?_ | refine Qf ?_ | refine Qg ?_ | refine Qh ?_ | refine Qi ?_ | refine Qj ?_ | refine Qk ?_ | refine Ql ?_ | refine Qm ?_ | refine Qn ?_ | refine Qo ?_ | refine Qp ?_ | refine Qq ?_ | fail)
  refine SXL.call rfl rfl rfl ?_
  refine (Rstatus_S (callK.ret ?_))
  repeat (first | refine Qa ?_ | refine Qb ?_ | refine Qc ?_ | refine Qd ?_ | refine Qe ?_ | refine Qf ?_ | refine Qg ?_ | refine Qh ?_ | refine Qi ?_ | refine Qj ?_ | refine Qk ?_ | refine Ql ?_ | refine Qm ?_ | refine Qn ?_ | refine Qo ?_ | refine Qp ?_ | refine Qq ?_ | fail)
  refine SXL.split (s := 13) rfl (fun k9 => ?_) (fun k9 => ?_)
  · rw [if_neg (by unfold okRe; simp [show statB s.st = false by simpa using k9])] at h
    repeat (first | refine Qa ?_ | refine Qb ?_ | refine Qc ?_ | refine Qd ?_ | refine Qe ?_ | refine Qf ?_ | refine Qg ?_ | refine Qh ?_ | refine Qi ?_ | refine Qj ?_ | refine Qk ?_ | refine Ql ?_ | refine Qm ?_ | refine Qn ?_ | refine Qo ?_ | refine Qp ?_ | refine Qq ?_ | fail)
    refine SX.ret (M' := F) rfl (Evals.tmp rfl (Evals.tmp rfl Evals.nil)) ?_ inferInstance
    exact h _ _ rfl
  have k9' : statB s.st = true := by simpa using k9
  have hst := statB_range k9'
  repeat (first | refine Qa ?_ | refine Qb ?_ | refine Qc ?_ | refine Qd ?_ | refine Qe ?_ | refine Qf ?_ | refine Qg ?_ | refine Qh ?_ | refine Qi ?_ | refine Qj ?_ | refine Qk ?_ | refine Ql ?_ | refine Qm ?_ | refine Qn ?_ | refine Qo ?_ | refine Qp ?_ | refine Qq ?_ | fail)
  refine SXL.split (s := 19) rfl (fun k19 => ?_) (fun k19 => ?_)
  · have := of_decide_eq_true k19
    rw [if_neg (by unfold okRe; simp; omega)] at h
    repeat (first | refine Qa ?_ | refine Qb ?_ | refine Qc ?_ | refine Qd ?_ | refine Qe ?_ | refine Qf ?_ | refine Qg ?_ | refine Qh ?_ | refine Qi ?_ | refine Qj ?_ | refine Qk ?_ | refine Ql ?_ | refine Qm ?_ | refine Qn ?_ | refine Qo ?_ | refine Qp ?_ | refine Qq ?_ | fail)
    refine SX.ret (M' := F) rfl (Evals.tmp rfl (Evals.tmp rfl Evals.nil)) ?_ inferInstance
    exact h _ _ rfl
  have j19 := of_decide_eq_false k19
  repeat (first | refine Qa ?_ | refine Qb ?_ | refine Qc ?_ | refine Qd ?_ | refine Qe ?_ | refine Qf ?_ | refine Qg ?_ | refine Qh ?_ | refine Qi ?_ | refine Qj ?_ | refine Qk ?_ | refine Ql ?_ | refine Qm ?_ | refine Qn ?_ | refine Qo ?_ | refine Qp ?_ | refine Qq ?_ | fail)
  refine SX.condp rfl (fun k24 => ?_) (fun k24 => ?_)
  · rw [if_neg (by unfold okRe; simp; omega)] at h
    repeat (first | refine Qa ?_ | refine Qb ?_ | refine Qc ?_ | refine Qd ?_ | refine Qe ?_ | refine Qf ?_ | refine Qg ?_ | refine Qh ?_ | refine Qi ?_ | refine Qj ?_ | refine Qk ?_ | refine Ql ?_ | refine Qm ?_ | refine Qn ?_ | refine Qo ?_ | refine Qp ?_ | refine Qq ?_ | fail)
    refine SX.ret (M' := F) rfl (Evals.tmp rfl (Evals.tmp rfl Evals.nil)) ?_ inferInstance
    exact h _ _ rfl
  rw [if_pos (by unfold okRe; simp only [Bool.and_eq_true, decide_eq_true_eq]; exact ⟨k9', by omega, by omega⟩)] at h
  repeat (first | refine Qa ?_ | refine Qb ?_ | refine Qc ?_ | refine Qd ?_ | refine Qe ?_ | refine Qf ?_ | refine Qg ?_ | refine Qh ?_ | refine Qi ?_ | refine Qj ?_ | refine Qk ?_ | refine Ql ?_ | refine Qm ?_ | refine Qn ?_ | refine Qo ?_ | refine Qp ?_ | refine Qq ?_ | fail)
  refine SXL.call rfl rfl rfl ?_
  refine (RPut_S (l := s.e) inferInstance hc2 (by omega) hw.e (fun row n hm => callK.ret ?_))
  rw [hm] at h
  repeat (first | refine Qa ?_ | refine Qb ?_ | refine Qc ?_ | refine Qd ?_ | refine Qe ?_ | refine Qf ?_ | refine Qg ?_ | refine Qh ?_ | refine Qi ?_ | refine Qj ?_ | refine Qk ?_ | refine Ql ?_ | refine Qm ?_ | refine Qn ?_ | refine Qo ?_ | refine Qp ?_ | refine Qq ?_ | fail)
  refine SX.cond rfl (fun hn => ?_) (fun hn => ?_)
  · have hn' : n ≠ 0 := by simpa using hn
    rw [if_pos hn'] at h
    repeat (first | refine Qa ?_ | refine Qb ?_ | refine Qc ?_ | refine Qd ?_ | refine Qe ?_ | refine Qf ?_ | refine Qg ?_ | refine Qh ?_ | refine Qi ?_ | refine Qj ?_ | refine Qk ?_ | refine Ql ?_ | refine Qm ?_ | refine Qn ?_ | refine Qo ?_ | refine Qp ?_ | refine Qq ?_ | fail)
    refine SX.ret (M' := F) rfl (Evals.tmp rfl (Evals.tmp rfl Evals.nil)) ?_ inferInstance
    exact h _ _ rfl
  obtain rfl : n = 0 := by simpa using hn
  rw [if_neg (by simp)] at h
  obtain ⟨hmay, hq, hle⟩ := putM_0 (l := s.e) (by rw [hm])
  have hfl := flat_len48 hle
  obtain rfl : row = s.e.flatMap encE := by rw [hm] at hq; simpa using hq
  have hrb := bytesB_flatE hw.e hle
  have hbd := bytesOf_strOfNums _ hw.d
  have hbr := bytesOf_strOfNums _ hrb
  have hrz := size_strOfNums (s.e.flatMap encE)
  have hop : (opq s.d).length ≤ 1032 := by have := opq_len' s.d; omega
  have hor : (opq (s.e.flatMap encE)).length ≤ 1168 := by have := opq_len' (s.e.flatMap encE); omega
  repeat (first | refine Qa ?_ | refine Qb ?_ | refine Qc ?_ | refine Qd ?_ | refine Qe ?_ | refine Qf ?_ | refine Qg ?_ | refine Qh ?_ | refine Qi ?_ | refine Qj ?_ | refine Qk ?_ | refine Ql ?_ | refine Qm ?_ | refine Qn ?_ | refine Qo ?_ | refine Qp ?_ | refine Qq ?_ | fail)
  refine SXA.begin [.own (some ⟨b, 0, none⟩) (cellsR b (rrC s B c2) 66)] [] ?_
  unfold rrC
  (first | refine Qr 0 ?_ | refine Qs 0 ?_ | refine Qt 0 ?_ | refine Qu 0 ?_ | fail)
  (first | refine Qr 3 ?_ | refine Qs 3 ?_ | refine Qt 3 ?_ | refine Qu 3 ?_ | fail)
  (first | refine Qr 7 ?_ | refine Qs 7 ?_ | refine Qt 7 ?_ | refine Qu 7 ?_ | fail)
  (first | refine Qr 12 ?_ | refine Qs 12 ?_ | refine Qt 12 ?_ | refine Qu 12 ?_ | fail)
  (first | refine Qr 17 ?_ | refine Qs 17 ?_ | refine Qt 17 ?_ | refine Qu 17 ?_ | fail)
  (first | refine Qr 22 ?_ | refine Qs 22 ?_ | refine Qt 22 ?_ | refine Qu 22 ?_ | fail)
  (first | refine Qr 27 ?_ | refine Qs 27 ?_ | refine Qt 27 ?_ | refine Qu 27 ?_ | fail)
  (first | refine Qr 32 ?_ | refine Qs 32 ?_ | refine Qt 32 ?_ | refine Qu 32 ?_ | fail)
  (first | refine Qr 37 ?_ | refine Qs 37 ?_ | refine Qt 37 ?_ | refine Qu 37 ?_ | fail)
  (first | refine Qr 42 ?_ | refine Qs 42 ?_ | refine Qt 42 ?_ | refine Qu 42 ?_ | fail)
  (first | refine Qr 1 ?_ | refine Qs 1 ?_ | refine Qt 1 ?_ | refine Qu 1 ?_ | fail)
  (first | refine Qr 4 ?_ | refine Qs 4 ?_ | refine Qt 4 ?_ | refine Qu 4 ?_ | fail)
  (first | refine Qr 8 ?_ | refine Qs 8 ?_ | refine Qt 8 ?_ | refine Qu 8 ?_ | fail)
  (first | refine Qr 13 ?_ | refine Qs 13 ?_ | refine Qt 13 ?_ | refine Qu 13 ?_ | fail)
  (first | refine Qr 18 ?_ | refine Qs 18 ?_ | refine Qt 18 ?_ | refine Qu 18 ?_ | fail)
  (first | refine Qr 23 ?_ | refine Qs 23 ?_ | refine Qt 23 ?_ | refine Qu 23 ?_ | fail)
  (first | refine Qr 28 ?_ | refine Qs 28 ?_ | refine Qt 28 ?_ | refine Qu 28 ?_ | fail)
  (first | refine Qr 33 ?_ | refine Qs 33 ?_ | refine Qt 33 ?_ | refine Qu 33 ?_ | fail)
  (first | refine Qr 38 ?_ | refine Qs 38 ?_ | refine Qt 38 ?_ | refine Qu 38 ?_ | fail)
  (first | refine Qr 43 ?_ | refine Qs 43 ?_ | refine Qt 43 ?_ | refine Qu 43 ?_ | fail)
  (first | refine Qr 9 ?_ | refine Qs 9 ?_ | refine Qt 9 ?_ | refine Qu 9 ?_ | fail)
  (first | refine Qr 14 ?_ | refine Qs 14 ?_ | refine Qt 14 ?_ | refine Qu 14 ?_ | fail)
  (first | refine Qr 19 ?_ | refine Qs 19 ?_ | refine Qt 19 ?_ | refine Qu 19 ?_ | fail)
  (first | refine Qr 24 ?_ | refine Qs 24 ?_ | refine Qt 24 ?_ | refine Qu 24 ?_ | fail)
  (first | refine Qr 29 ?_ | refine Qs 29 ?_ | refine Qt 29 ?_ | refine Qu 29 ?_ | fail)
  (first | refine Qr 34 ?_ | refine Qs 34 ?_ | refine Qt 34 ?_ | refine Qu 34 ?_ | fail)
  (first | refine Qr 39 ?_ | refine Qs 39 ?_ | refine Qt 39 ?_ | refine Qu 39 ?_ | fail)
  (first | refine Qr 44 ?_ | refine Qs 44 ?_ | refine Qt 44 ?_ | refine Qu 44 ?_ | fail)
  refine SXA.same 43 (.int .u32 s.st) rfl (by rw [IntWalk.u32_in _ (by omega)]) ?_
  refine Qw 2 ?_
  refine SXL.call rfl rfl rfl ?_
  refine (Ru09_S s.client hw.client.1 hw.client.2 (callK.ret ?_))
  refine SXL.nil (SXA.next inferInstance ?_)
  refine Qw 5 ?_
  refine SXL.call rfl rfl rfl ?_
  refine (Ru09_S s.xid hw.xid.1 hw.xid.2 (callK.ret ?_))
  refine SXL.nil (SXA.next inferInstance ?_)
  refine SXA.cat 6 rfl (by decide +kernel) rfl rfl rfl (by simp only [ByteArray.size_append, size_strOfNums, be32_len', be64_len', hbd, hbr]; omega) rfl inferInstance ?_
  refine Qw 10 ?_
  refine SXL.call rfl rfl rfl ?_
  refine (Ru09_S s.st hst.1 (by omega) (callK.ret ?_))
  refine SXL.nil (SXA.next inferInstance ?_)
  refine SXA.cat 11 rfl (by decide +kernel) rfl rfl rfl (by simp only [ByteArray.size_append, size_strOfNums, be32_len', be64_len', hbd, hbr]; omega) rfl inferInstance ?_
  refine Qw 15 ?_
  refine SXL.call rfl rfl rfl ?_
  refine (Ru09_S s.ai hw.ai.1 hw.ai.2 (callK.ret ?_))
  refine SXL.nil (SXA.next inferInstance ?_)
  refine SXA.cat 16 rfl (by decide +kernel) rfl rfl rfl (by simp only [ByteArray.size_append, size_strOfNums, be32_len', be64_len', hbd, hbr]; omega) rfl inferInstance ?_
  refine Qw 20 ?_
  refine SXL.call rfl rfl rfl ?_
  refine (Ru09_S s.ag hw.ag.1 hw.ag.2 (callK.ret ?_))
  refine SXL.nil (SXA.next inferInstance ?_)
  refine SXA.cat 21 rfl (by decide +kernel) rfl rfl rfl (by simp only [ByteArray.size_append, size_strOfNums, be32_len', be64_len', hbd, hbr]; omega) rfl inferInstance ?_
  refine Qw 25 ?_
  refine SXL.call rfl rfl rfl ?_
  refine (Ru09_S s.ak hw.ak.1 hw.ak.2 (callK.ret ?_))
  refine SXL.nil (SXA.next inferInstance ?_)
  refine SXA.cat 26 rfl (by decide +kernel) rfl rfl rfl (by simp only [ByteArray.size_append, size_strOfNums, be32_len', be64_len', hbd, hbr]; omega) rfl inferInstance ?_
  refine Qw 30 ?_
  refine SXL.call rfl rfl rfl ?_
  refine (Ru09_S s.am hw.am.1 hw.am.2 (callK.ret ?_))
  refine SXL.nil (SXA.next inferInstance ?_)
  refine SXA.cat 31 rfl (by decide +kernel) rfl rfl rfl (by simp only [ByteArray.size_append, size_strOfNums, be32_len', be64_len', hbd, hbr]; omega) rfl inferInstance ?_
  refine Qw 35 ?_
  refine SXL.call rfl rfl rfl ?_
  refine (Ru09_S s.al hw.al.1 hw.al.2 (callK.ret ?_))
  refine SXL.nil (SXA.next inferInstance ?_)
  refine SXA.cat 36 rfl (by decide +kernel) rfl rfl rfl (by simp only [ByteArray.size_append, size_strOfNums, be32_len', be64_len', hbd, hbr]; omega) rfl inferInstance ?_
  refine Qw 40 ?_
  refine SXL.call rfl rfl rfl ?_
  refine (Ru09_S s.sz hw.sz.1 hw.sz.2 (callK.ret ?_))
  refine SXL.nil (SXA.next inferInstance ?_)
  refine SXA.cat 41 rfl (by decide +kernel) rfl rfl rfl (by simp only [ByteArray.size_append, size_strOfNums, be32_len', be64_len', hbd, hbr]; omega) rfl inferInstance ?_
  refine Qw 45 ?_
  refine SXL.call rfl rfl rfl ?_
  refine (SU64_S s.ac hw.ac.1 hw.ac.2 (callK.ret ?_))
  refine SXL.nil (SXA.next inferInstance ?_)
  refine SXA.cat 46 rfl (by decide +kernel) rfl rfl rfl (by simp only [ByteArray.size_append, size_strOfNums, be32_len', be64_len', hbd, hbr]; omega) rfl inferInstance ?_
  (first | refine Qr 47 ?_ | refine Qs 47 ?_ | refine Qt 47 ?_ | refine Qu 47 ?_ | fail)
  refine Qv ?_
  repeat (first | refine Qa ?_ | refine Qb ?_ | refine Qc ?_ | refine Qd ?_ | refine Qe ?_ | refine Qf ?_ | refine Qg ?_ | refine Qh ?_ | refine Qi ?_ | refine Qj ?_ | refine Qk ?_ | refine Ql ?_ | refine Qm ?_ | refine Qn ?_ | refine Qo ?_ | refine Qp ?_ | refine Qq ?_ | fail)
  refine SXA.begin [.own (some ⟨b, 0, none⟩) (cellsR b (rrC s B c2) 66)] [] ?_
  unfold rrC
  (first | refine Qr 0 ?_ | refine Qs 0 ?_ | refine Qt 0 ?_ | refine Qu 0 ?_ | fail)
  (first | refine Qr 1 ?_ | refine Qs 1 ?_ | refine Qt 1 ?_ | refine Qu 1 ?_ | fail)
  (first | refine Qr 5 ?_ | refine Qs 5 ?_ | refine Qt 5 ?_ | refine Qu 5 ?_ | fail)
  (first | refine Qr 8 ?_ | refine Qs 8 ?_ | refine Qt 8 ?_ | refine Qu 8 ?_ | fail)
  (first | refine Qr 12 ?_ | refine Qs 12 ?_ | refine Qt 12 ?_ | refine Qu 12 ?_ | fail)
  (first | refine Qr 16 ?_ | refine Qs 16 ?_ | refine Qt 16 ?_ | refine Qu 16 ?_ | fail)
  (first | refine Qr 2 ?_ | refine Qs 2 ?_ | refine Qt 2 ?_ | refine Qu 2 ?_ | fail)
  (first | refine Qr 9 ?_ | refine Qs 9 ?_ | refine Qt 9 ?_ | refine Qu 9 ?_ | fail)
  (first | refine Qr 13 ?_ | refine Qs 13 ?_ | refine Qt 13 ?_ | refine Qu 13 ?_ | fail)
  (first | refine Qr 17 ?_ | refine Qs 17 ?_ | refine Qt 17 ?_ | refine Qu 17 ?_ | fail)
  refine Qw 3 ?_
  refine SXL.call rfl rfl rfl ?_
  refine (SOpaque_S (strOfNums s.d) (by omega) (callK.ret ?_))
  refine SXL.nil (SXA.next inferInstance ?_)
  refine SXA.cat 4 rfl (by decide +kernel) rfl rfl rfl (by simp only [ByteArray.size_append, size_strOfNums, be32_len', be64_len', hbd, hbr]; omega) rfl inferInstance ?_
  refine Qw 6 ?_
  refine SXL.call rfl rfl rfl ?_
  refine (SOpaque_S (strOfNums (s.e.flatMap encE)) (by omega) (callK.ret ?_))
  refine SXL.nil (SXA.next inferInstance ?_)
  refine SXA.cat 7 rfl (by decide +kernel) rfl rfl rfl (by simp only [ByteArray.size_append, size_strOfNums, be32_len', be64_len', hbd, hbr]; omega) rfl inferInstance ?_
  refine Qw 10 ?_
  refine SXL.call rfl rfl rfl ?_
  refine (RBo_S s.eof (callK.ret ?_))
  refine SXL.nil (SXA.next inferInstance ?_)
  refine SXA.cat 11 rfl (by decide +kernel) rfl rfl rfl (by simp only [ByteArray.size_append, size_strOfNums, be32_len', be64_len', hbd, hbr]; omega) rfl inferInstance ?_
  refine Qw 14 ?_
  refine SXL.call rfl rfl rfl ?_
  refine (SU64_S s.verf hw.verf.1 hw.verf.2 (callK.ret ?_))
  refine SXL.nil (SXA.next inferInstance ?_)
  refine SXA.cat 15 rfl (by decide +kernel) rfl rfl rfl (by simp only [ByteArray.size_append, size_strOfNums, be32_len', be64_len', hbd, hbr]; omega) rfl inferInstance ?_
  refine Qw 18 ?_
  refine SXL.call rfl rfl rfl ?_
  refine (Ru09_S s.free hw.free.1 hw.free.2 (callK.ret ?_))
  refine SXL.nil (SXA.next inferInstance ?_)
  refine SXA.cat 19 rfl (by decide +kernel) rfl rfl rfl (by simp only [ByteArray.size_append, size_strOfNums, be32_len', be64_len', hbd, hbr]; omega) rfl inferInstance ?_
  (first | refine Qr 20 ?_ | refine Qs 20 ?_ | refine Qt 20 ?_ | refine Qu 20 ?_ | fail)
  (first | refine Qr 21 ?_ | refine Qs 21 ?_ | refine Qt 21 ?_ | refine Qu 21 ?_ | fail)
  refine Qv ?_
  repeat (first | refine Qa ?_ | refine Qb ?_ | refine Qc ?_ | refine Qd ?_ | refine Qe ?_ | refine Qf ?_ | refine Qg ?_ | refine Qh ?_ | refine Qi ?_ | refine Qj ?_ | refine Qk ?_ | refine Ql ?_ | refine Qm ?_ | refine Qn ?_ | refine Qo ?_ | refine Qp ?_ | refine Qq ?_ | fail)
  refine SX.same 2 (.string (strOfNums (encRe s))) rfl ?_ ?_
  · rw [hbd, hbr]
    simp only [encRe, hm, reF, reV, encFs, encF, strOfNums_app', List.append_nil]
    simp only [ByteArray.append_assoc, strOfNums_nil', ByteArray.append_empty]
  refine SX.ret (M' := F) rfl (Evals.tmp rfl (Evals.tmp rfl Evals.nil)) ?_ inferInstance
  exact h _ _ rfl
def eqE (a b : Ent) : Bool := (a.c == b.c) && (((a.i == b.i) && (a.g == b.g)) && (a.s.toList == b.s.toList))
def sameE : List Ent → List Ent → Bool
  | [], [] => true
  | a :: l, b :: m => eqE a b && sameE l m
  | _, _ => false
theorem toList_iff' (a b : ByteArray) : (a.toList == b.toList) = true ↔ a = b := by
  rw [beq_iff_eq, ByteArray.toList_eq, ByteArray.toList_eq]
  constructor
  · intro h; exact ByteArray.ext (Array.ext' h)
  · rintro rfl; rfl
theorem eqE_iff (a b : Ent) : eqE a b = true ↔ a = b := by
  unfold eqE
  simp only [Bool.and_eq_true]
  rw [toList_iff']
  simp only [beq_iff_eq]
  obtain ⟨a0, a1, a2, a3⟩ := a
  obtain ⟨b0, b1, b2, b3⟩ := b
  simp only [Ent.mk.injEq]
  constructor
  · rintro ⟨h1, ⟨h2, h3⟩, h4⟩; exact ⟨h1, h2, h3, h4⟩
  · rintro ⟨h1, h2, h3, h4⟩; exact ⟨h1, ⟨h2, h3⟩, h4⟩
theorem sameE_iff : ∀ (l m : List Ent), sameE l m = true ↔ l = m
  | [], [] => by simp [sameE]
  | [], _ :: _ => by simp [sameE]
  | _ :: _, [] => by simp [sameE]
  | a :: l, b :: m => by
    unfold sameE
    rw [Bool.and_eq_true, eqE_iff, sameE_iff l m, List.cons.injEq]
theorem sameE_no {l m : List Ent} (h : l ≠ m) : sameE l m = false := by
  cases h1 : sameE l m with
  | true => exact absurd ((sameE_iff l m).1 h1) h
  | false => rfl
set_option maxRecDepth 20000 in
theorem SameE_S {l m : List Ent} {c' : Nat} (hr : Ro kE A F l) (hr2 : Ro kE B F m) (hc : l.length ≤ c) (hc' : m.length ≤ c') (hl : l.length ≤ 4398046510976) (h : K (.returned (.bool (sameE l m))) F) : Fn (Try.prog) 31 [.slice A l.length c, .slice B m.length c'] F K := by
  have ml := (inferInstance : Ro kE A F l)
  refine Fn.enter Try.call31 Try.func31 rfl rfl rfl ?_
  repeat (first | refine Qa ?_ | refine Qb ?_ | refine Qc ?_ | refine Qd ?_ | refine Qe ?_ | refine Qf ?_ | refine Qg ?_ | refine Qh ?_ | refine Qi ?_ | refine Qj ?_ | refine Qk ?_ | refine Ql ?_ | refine Qm ?_ | refine Qn ?_ | refine Qo ?_ | refine Qp ?_ | refine Qq ?_ | fail)
  refine SX.cond rfl (fun hne => ?_) (fun hne => ?_)
  · rw [sameE_no (by rintro rfl; simp at hne)] at h
    repeat (first | refine Qa ?_ | refine Qb ?_ | refine Qc ?_ | refine Qd ?_ | refine Qe ?_ | refine Qf ?_ | refine Qg ?_ | refine Qh ?_ | refine Qi ?_ | refine Qj ?_ | refine Qk ?_ | refine Ql ?_ | refine Qm ?_ | refine Qn ?_ | refine Qo ?_ | refine Qp ?_ | refine Qq ?_ | fail)
    refine SX.ret (M' := F) rfl (Evals.tmp rfl Evals.nil) ?_ inferInstance
    exact h
  have hlen : l.length = m.length := by
    have h9 : (l.length : Int) = m.length := by simpa using hne
    omega
  repeat (first | refine Qa ?_ | refine Qb ?_ | refine Qc ?_ | refine Qd ?_ | refine Qe ?_ | refine Qf ?_ | refine Qg ?_ | refine Qh ?_ | refine Qi ?_ | refine Qj ?_ | refine Qk ?_ | refine Ql ?_ | refine Qm ?_ | refine Qn ?_ | refine Qo ?_ | refine Qp ?_ | refine Qq ?_ | fail)
  refine SX.loop (fun z a M => ∃ i : Nat, i + z = l.length ∧ l.take i = m.take i ∧ a = [(0, .slice A l.length c), (1, .slice B m.length c'), (5, .int .i64 i)] ∧ F = M) l.length ⟨0, by omega, by simp, rfl, rfl⟩ (by repeat (first | exact trivial | refine ⟨rfl, ?_⟩)) inferInstance ?_
  rintro z _ _ ⟨i, hz, htk, rfl, rfl⟩
  repeat (first | refine Qa ?_ | refine Qb ?_ | refine Qc ?_ | refine Qd ?_ | refine Qe ?_ | refine Qf ?_ | refine Qg ?_ | refine Qh ?_ | refine Qi ?_ | refine Qj ?_ | refine Qk ?_ | refine Ql ?_ | refine Qm ?_ | refine Qn ?_ | refine Qo ?_ | refine Qp ?_ | refine Qq ?_ | fail)
  refine SX.condp rfl (fun hi => ?_) (fun hi => ?_)
  · obtain ⟨x, hx⟩ : ∃ x, l[i]? = some x := ⟨_, List.getElem?_eq_getElem (by omega)⟩
    obtain ⟨y, hy⟩ : ∃ y, m[i]? = some y := ⟨_, List.getElem?_eq_getElem (by omega)⟩
    refine SX.addr (A := A) kE (by decide) (xs := l) (by omega) (fun b3 o3 e3 => ?_)
    subst e3
    refine SX.addr (A := B) kE (by decide) (xs := m) (by omega) (fun b4 o4 e4 => ?_)
    subst e4
    repeat (first | refine Qa ?_ | refine Qb ?_ | refine Qc ?_ | refine Qd ?_ | refine Qe ?_ | refine Qf ?_ | refine Qg ?_ | refine Qh ?_ | refine Qi ?_ | refine Qj ?_ | refine Qk ?_ | refine Ql ?_ | refine Qm ?_ | refine Qn ?_ | refine Qo ?_ | refine Qp ?_ | refine Qq ?_ | fail)
    refine SXA.begin F [] ?_
    (first | refine Qr 0 ?_ | refine Qs 0 ?_ | refine Qt 0 ?_ | refine Qu 0 ?_ | fail)
    (first | refine Qr 1 ?_ | refine Qs 1 ?_ | refine Qt 1 ?_ | refine Qu 1 ?_ | fail)
    (first | refine Qr 4 ?_ | refine Qs 4 ?_ | refine Qt 4 ?_ | refine Qu 4 ?_ | fail)
    (first | refine Qr 5 ?_ | refine Qs 5 ?_ | refine Qt 5 ?_ | refine Qu 5 ?_ | fail)
    refine SXA.idx 2 rfl (by decide +kernel) rfl rfl rfl rfl rfl rfl (by omega) (by omega) rfl inferInstance ?_
    refine SXA.idx 6 rfl (by decide +kernel) rfl rfl rfl rfl rfl rfl (by omega) (by omega) rfl inferInstance ?_
    refine SXA.loadRow 3 kE rfl (by decide +kernel) rfl rfl rfl hr (by rw [Int.toNat_natCast]; exact hx) rfl rfl inferInstance ?_
    refine SXA.loadRow 7 kE rfl (by decide +kernel) rfl rfl rfl hr2 (by rw [Int.toNat_natCast]; exact hy) rfl rfl inferInstance ?_
    refine Qw 8 ?_
    refine SXL.neStr rfl rfl inferInstance inferInstance rfl rfl rfl rfl ?_
    refine SXL.nil (SXA.next inferInstance ?_)
    refine Qv ?_
    refine SX.cond rfl (fun hq => ?_) (fun hq => ?_)
    · have hxy : x ≠ y := fun e => by
        have h1 := (eqE_iff x y).2 e
        have h2 : (!eqE x y) = true := hq
        rw [h1] at h2
        cases h2
      rw [sameE_no (by rintro rfl; rw [hx] at hy; exact hxy (Option.some.inj hy))] at h
      repeat (first | refine Qa ?_ | refine Qb ?_ | refine Qc ?_ | refine Qd ?_ | refine Qe ?_ | refine Qf ?_ | refine Qg ?_ | refine Qh ?_ | refine Qi ?_ | refine Qj ?_ | refine Qk ?_ | refine Ql ?_ | refine Qm ?_ | refine Qn ?_ | refine Qo ?_ | refine Qp ?_ | refine Qq ?_ | fail)
      refine SX.ret (M' := F) rfl (Evals.tmp rfl Evals.nil) ?_ inferInstance
      exact h
    · have hxy : x = y := (eqE_iff x y).1 (by
        have h2 : (!eqE x y) = false := hq
        cases h3 : eqE x y with
        | true => rfl
        | false => rw [h3] at h2; cases h2)
      subst hxy
      repeat (first | refine Qa ?_ | refine Qb ?_ | refine Qc ?_ | refine Qd ?_ | refine Qe ?_ | refine Qf ?_ | refine Qg ?_ | refine Qh ?_ | refine Qi ?_ | refine Qj ?_ | refine Qk ?_ | refine Ql ?_ | refine Qm ?_ | refine Qn ?_ | refine Qo ?_ | refine Qp ?_ | refine Qq ?_ | fail)
      refine SX.same 5 (.int .i64 ((i + 1 : Nat) : Int)) rfl (by simp (disch := omega) only [IntWalk.i64_in, IntWalk.u8_in, IntWalk.u32_in, IntWalk.u64_in, IntWalk.rem_in, Int.natCast_add, Int.natCast_one]) ?_
      refine SX.again (z - 1) (by omega) ⟨i + 1, by omega, ?_, rfl, rfl⟩ (by repeat (first | exact trivial | refine ⟨rfl, ?_⟩)) inferInstance
      obtain ⟨hil, hv⟩ := List.getElem?_eq_some_iff.1 hx
      obtain ⟨hjl, hu⟩ := List.getElem?_eq_some_iff.1 hy
      rw [List.take_succ_eq_append_getElem hil, List.take_succ_eq_append_getElem hjl, htk, hv, hu]
  · have hi' : i = l.length := by omega
    rw [hi', List.take_length, List.take_of_length_le (by omega)] at htk
    rw [(sameE_iff l m).2 htk] at h
    repeat (first | refine Qa ?_ | refine Qb ?_ | refine Qc ?_ | refine Qd ?_ | refine Qe ?_ | refine Qf ?_ | refine Qg ?_ | refine Qh ?_ | refine Qi ?_ | refine Qj ?_ | refine Qk ?_ | refine Ql ?_ | refine Qm ?_ | refine Qn ?_ | refine Qo ?_ | refine Qp ?_ | refine Qq ?_ | fail)
    refine SX.ret (M' := F) rfl (Evals.tmp rfl Evals.nil) ?_ inferInstance
    exact h
def sameRe (s u : Re) : Bool := (s.client == u.client) && ((s.xid == u.xid) && ((s.st == u.st) && (((s.ai == u.ai) && (s.ag == u.ag)) && (((s.ak == u.ak) && ((s.am == u.am) && ((s.al == u.al) && ((s.sz == u.sz) && (s.ac == u.ac))))) && (((strOfNums s.d).toList == (strOfNums u.d).toList) && (sameE s.e u.e && ((s.eof == u.eof) && ((s.verf == u.verf) && (s.free == u.free)))))))))
theorem sameRe_iff {s u : Re} (hs : bytesB s.d = true) (hu : bytesB u.d = true) : sameRe s u = true ↔ s = u := by
  constructor
  · intro h
    unfold sameRe at h
    simp only [Bool.and_eq_true, beq_iff_eq, sameE_iff] at h
    obtain ⟨h1, h2, h3, ⟨h4, h5⟩, ⟨h6, h7, h8, h9, h10⟩, h11, h12, h13, h14, h15⟩ := h
    have h16 := (toList_iff' _ _).1 (beq_iff_eq.2 h11)
    have h17 : s.d = u.d := by rw [← bytesOf_strOfNums _ hs, ← bytesOf_strOfNums _ hu, h16]
    cases s
    cases u
    simp_all
  · rintro rfl
    simp [sameRe, (sameE_iff s.e s.e).2 rfl]
set_option maxRecDepth 20000 in
theorem SameRe_S {s u : Re} {B' : Option Addr} {c' : Nat} (hr : Ro kE B F s.e) (hr2 : Ro kE B' F u.e) (hc : s.e.length ≤ c2) (hc' : u.e.length ≤ c') (hl : s.e.length ≤ 4398046510976) (h : K (.returned (.bool (sameRe s u))) F) : Fn (Try.prog) 18 [.agg (rrC s B c2).toArray, .agg (rrC u B' c').toArray] F K := by
  unfold rrC
  refine Fn.enter Try.call18 Try.func18 rfl rfl rfl ?_
  repeat (first | refine Qa ?_ | refine Qb ?_ | refine Qc ?_ | refine Qd ?_ | refine Qe ?_ | refine Qf ?_ | refine Qg ?_ | refine Qh ?_ | refine Qi ?_ | refine Qj ?_ | refine Qk ?_ | refine Ql ?_ | refine Qm ?_ | refine Qn ?_ | refine Qo ?_ | refine Qp ?_ | refine Qq ?_ | fail)
  refine SXL.box rfl rfl rfl (fun b1 => ?_)
  repeat (first | refine Qa ?_ | refine Qb ?_ | refine Qc ?_ | refine Qd ?_ | refine Qe ?_ | refine Qf ?_ | refine Qg ?_ | refine Qh ?_ | refine Qi ?_ | refine Qj ?_ | refine Qk ?_ | refine Ql ?_ | refine Qm ?_ | refine Qn ?_ | refine Qo ?_ | refine Qp ?_ | refine Qq ?_ | fail)
  refine SXL.box rfl rfl rfl (fun b2 => ?_)
  repeat (first | refine Qa ?_ | refine Qb ?_ | refine Qc ?_ | refine Qd ?_ | refine Qe ?_ | refine Qf ?_ | refine Qg ?_ | refine Qh ?_ | refine Qi ?_ | refine Qj ?_ | refine Qk ?_ | refine Ql ?_ | refine Qm ?_ | refine Qn ?_ | refine Qo ?_ | refine Qp ?_ | refine Qq ?_ | fail)
  refine SXL.split (s := 10) rfl (fun h10 => ?_) (fun h10 => ?_)
  rotate_left
  · repeat (first | refine Qa ?_ | refine Qb ?_ | refine Qc ?_ | refine Qd ?_ | refine Qe ?_ | refine Qf ?_ | refine Qg ?_ | refine Qh ?_ | refine Qi ?_ | refine Qj ?_ | refine Qk ?_ | refine Ql ?_ | refine Qm ?_ | refine Qn ?_ | refine Qo ?_ | refine Qp ?_ | refine Qq ?_ | fail)
    refine SX.same 4 (.bool (sameRe s u)) rfl (by simp [sameRe, h10]) ?_
    refine SX.ret (M' := F) rfl (Evals.tmp rfl Evals.nil) ?_ inferInstance
    exact h
  repeat (first | refine Qa ?_ | refine Qb ?_ | refine Qc ?_ | refine Qd ?_ | refine Qe ?_ | refine Qf ?_ | refine Qg ?_ | refine Qh ?_ | refine Qi ?_ | refine Qj ?_ | refine Qk ?_ | refine Ql ?_ | refine Qm ?_ | refine Qn ?_ | refine Qo ?_ | refine Qp ?_ | refine Qq ?_ | fail)
  refine SXL.split (s := 17) rfl (fun h17 => ?_) (fun h17 => ?_)
  rotate_left
  · repeat (first | refine Qa ?_ | refine Qb ?_ | refine Qc ?_ | refine Qd ?_ | refine Qe ?_ | refine Qf ?_ | refine Qg ?_ | refine Qh ?_ | refine Qi ?_ | refine Qj ?_ | refine Qk ?_ | refine Ql ?_ | refine Qm ?_ | refine Qn ?_ | refine Qo ?_ | refine Qp ?_ | refine Qq ?_ | fail)
    refine SX.same 4 (.bool (sameRe s u)) rfl (by simp [sameRe, h10, h17]) ?_
    refine SX.ret (M' := F) rfl (Evals.tmp rfl Evals.nil) ?_ inferInstance
    exact h
  repeat (first | refine Qa ?_ | refine Qb ?_ | refine Qc ?_ | refine Qd ?_ | refine Qe ?_ | refine Qf ?_ | refine Qg ?_ | refine Qh ?_ | refine Qi ?_ | refine Qj ?_ | refine Qk ?_ | refine Ql ?_ | refine Qm ?_ | refine Qn ?_ | refine Qo ?_ | refine Qp ?_ | refine Qq ?_ | fail)
  refine SXL.split (s := 24) rfl (fun h24 => ?_) (fun h24 => ?_)
  rotate_left
  · repeat (first | refine Qa ?_ | refine Qb ?_ | refine Qc ?_ | refine Qd ?_ | refine Qe ?_ | refine Qf ?_ | refine Qg ?_ | refine Qh ?_ | refine Qi ?_ | refine Qj ?_ | refine Qk ?_ | refine Ql ?_ | refine Qm ?_ | refine Qn ?_ | refine Qo ?_ | refine Qp ?_ | refine Qq ?_ | fail)
    refine SX.same 4 (.bool (sameRe s u)) rfl (by simp [sameRe, h10, h17, h24]) ?_
    refine SX.ret (M' := F) rfl (Evals.tmp rfl Evals.nil) ?_ inferInstance
    exact h
  repeat (first | refine Qa ?_ | refine Qb ?_ | refine Qc ?_ | refine Qd ?_ | refine Qe ?_ | refine Qf ?_ | refine Qg ?_ | refine Qh ?_ | refine Qi ?_ | refine Qj ?_ | refine Qk ?_ | refine Ql ?_ | refine Qm ?_ | refine Qn ?_ | refine Qo ?_ | refine Qp ?_ | refine Qq ?_ | fail)
  refine SXL.eqStr rfl rfl inferInstance inferInstance rfl rfl rfl rfl ?_
  repeat (first | refine Qa ?_ | refine Qb ?_ | refine Qc ?_ | refine Qd ?_ | refine Qe ?_ | refine Qf ?_ | refine Qg ?_ | refine Qh ?_ | refine Qi ?_ | refine Qj ?_ | refine Qk ?_ | refine Ql ?_ | refine Qm ?_ | refine Qn ?_ | refine Qo ?_ | refine Qp ?_ | refine Qq ?_ | fail)
  refine SXL.split (s := 31) rfl (fun h31 => ?_) (fun h31 => ?_)
  rotate_left
  · repeat (first | refine Qa ?_ | refine Qb ?_ | refine Qc ?_ | refine Qd ?_ | refine Qe ?_ | refine Qf ?_ | refine Qg ?_ | refine Qh ?_ | refine Qi ?_ | refine Qj ?_ | refine Qk ?_ | refine Ql ?_ | refine Qm ?_ | refine Qn ?_ | refine Qo ?_ | refine Qp ?_ | refine Qq ?_ | fail)
    refine SX.same 4 (.bool (sameRe s u)) rfl (by simp [sameRe, h10, h17, h24, h31]) ?_
    refine SX.ret (M' := F) rfl (Evals.tmp rfl Evals.nil) ?_ inferInstance
    exact h
  repeat (first | refine Qa ?_ | refine Qb ?_ | refine Qc ?_ | refine Qd ?_ | refine Qe ?_ | refine Qf ?_ | refine Qg ?_ | refine Qh ?_ | refine Qi ?_ | refine Qj ?_ | refine Qk ?_ | refine Ql ?_ | refine Qm ?_ | refine Qn ?_ | refine Qo ?_ | refine Qp ?_ | refine Qq ?_ | fail)
  refine SXL.eqStr rfl rfl inferInstance inferInstance rfl rfl rfl rfl ?_
  repeat (first | refine Qa ?_ | refine Qb ?_ | refine Qc ?_ | refine Qd ?_ | refine Qe ?_ | refine Qf ?_ | refine Qg ?_ | refine Qh ?_ | refine Qi ?_ | refine Qj ?_ | refine Qk ?_ | refine Ql ?_ | refine Qm ?_ | refine Qn ?_ | refine Qo ?_ | refine Qp ?_ | refine Qq ?_ | fail)
  refine SXL.split (s := 38) rfl (fun h38 => ?_) (fun h38 => ?_)
  rotate_left
  · repeat (first | refine Qa ?_ | refine Qb ?_ | refine Qc ?_ | refine Qd ?_ | refine Qe ?_ | refine Qf ?_ | refine Qg ?_ | refine Qh ?_ | refine Qi ?_ | refine Qj ?_ | refine Qk ?_ | refine Ql ?_ | refine Qm ?_ | refine Qn ?_ | refine Qo ?_ | refine Qp ?_ | refine Qq ?_ | fail)
    refine SX.same 4 (.bool (sameRe s u)) rfl (by simp [sameRe, h10, h17, h24, h31, h38]) ?_
    refine SX.ret (M' := F) rfl (Evals.tmp rfl Evals.nil) ?_ inferInstance
    exact h
  repeat (first | refine Qa ?_ | refine Qb ?_ | refine Qc ?_ | refine Qd ?_ | refine Qe ?_ | refine Qf ?_ | refine Qg ?_ | refine Qh ?_ | refine Qi ?_ | refine Qj ?_ | refine Qk ?_ | refine Ql ?_ | refine Qm ?_ | refine Qn ?_ | refine Qo ?_ | refine Qp ?_ | refine Qq ?_ | fail)
  refine SXL.split (s := 45) rfl (fun h45 => ?_) (fun h45 => ?_)
  rotate_left
  · repeat (first | refine Qa ?_ | refine Qb ?_ | refine Qc ?_ | refine Qd ?_ | refine Qe ?_ | refine Qf ?_ | refine Qg ?_ | refine Qh ?_ | refine Qi ?_ | refine Qj ?_ | refine Qk ?_ | refine Ql ?_ | refine Qm ?_ | refine Qn ?_ | refine Qo ?_ | refine Qp ?_ | refine Qq ?_ | fail)
    refine SX.same 4 (.bool (sameRe s u)) rfl (by simp [sameRe, h10, h17, h24, h31, h38, h45]) ?_
    refine SX.ret (M' := F) rfl (Evals.tmp rfl Evals.nil) ?_ inferInstance
    exact h
  repeat (first | refine Qa ?_ | refine Qb ?_ | refine Qc ?_ | refine Qd ?_ | refine Qe ?_ | refine Qf ?_ | refine Qg ?_ | refine Qh ?_ | refine Qi ?_ | refine Qj ?_ | refine Qk ?_ | refine Ql ?_ | refine Qm ?_ | refine Qn ?_ | refine Qo ?_ | refine Qp ?_ | refine Qq ?_ | fail)
  refine SXL.call rfl rfl rfl ?_
  refine (SameE_S (l := s.e) (m := u.e) inferInstance inferInstance hc hc' hl (callK.ret ?_))
  repeat (first | refine Qa ?_ | refine Qb ?_ | refine Qc ?_ | refine Qd ?_ | refine Qe ?_ | refine Qf ?_ | refine Qg ?_ | refine Qh ?_ | refine Qi ?_ | refine Qj ?_ | refine Qk ?_ | refine Ql ?_ | refine Qm ?_ | refine Qn ?_ | refine Qo ?_ | refine Qp ?_ | refine Qq ?_ | fail)
  refine SXL.split (s := 52) rfl (fun h52 => ?_) (fun h52 => ?_)
  rotate_left
  · repeat (first | refine Qa ?_ | refine Qb ?_ | refine Qc ?_ | refine Qd ?_ | refine Qe ?_ | refine Qf ?_ | refine Qg ?_ | refine Qh ?_ | refine Qi ?_ | refine Qj ?_ | refine Qk ?_ | refine Ql ?_ | refine Qm ?_ | refine Qn ?_ | refine Qo ?_ | refine Qp ?_ | refine Qq ?_ | fail)
    refine SX.same 4 (.bool (sameRe s u)) rfl (by simp [sameRe, h10, h17, h24, h31, h38, h45, h52]) ?_
    refine SX.ret (M' := F) rfl (Evals.tmp rfl Evals.nil) ?_ inferInstance
    exact h
  repeat (first | refine Qa ?_ | refine Qb ?_ | refine Qc ?_ | refine Qd ?_ | refine Qe ?_ | refine Qf ?_ | refine Qg ?_ | refine Qh ?_ | refine Qi ?_ | refine Qj ?_ | refine Qk ?_ | refine Ql ?_ | refine Qm ?_ | refine Qn ?_ | refine Qo ?_ | refine Qp ?_ | refine Qq ?_ | fail)
  refine SXL.split (s := 59) rfl (fun h59 => ?_) (fun h59 => ?_)
  rotate_left
  · repeat (first | refine Qa ?_ | refine Qb ?_ | refine Qc ?_ | refine Qd ?_ | refine Qe ?_ | refine Qf ?_ | refine Qg ?_ | refine Qh ?_ | refine Qi ?_ | refine Qj ?_ | refine Qk ?_ | refine Ql ?_ | refine Qm ?_ | refine Qn ?_ | refine Qo ?_ | refine Qp ?_ | refine Qq ?_ | fail)
    refine SX.same 4 (.bool (sameRe s u)) rfl (by simp [sameRe, h10, h17, h24, h31, h38, h45, h52, h59]) ?_
    refine SX.ret (M' := F) rfl (Evals.tmp rfl Evals.nil) ?_ inferInstance
    exact h
  repeat (first | refine Qa ?_ | refine Qb ?_ | refine Qc ?_ | refine Qd ?_ | refine Qe ?_ | refine Qf ?_ | refine Qg ?_ | refine Qh ?_ | refine Qi ?_ | refine Qj ?_ | refine Qk ?_ | refine Ql ?_ | refine Qm ?_ | refine Qn ?_ | refine Qo ?_ | refine Qp ?_ | refine Qq ?_ | fail)
  refine SXL.split (s := 66) rfl (fun h66 => ?_) (fun h66 => ?_)
  rotate_left
  · repeat (first | refine Qa ?_ | refine Qb ?_ | refine Qc ?_ | refine Qd ?_ | refine Qe ?_ | refine Qf ?_ | refine Qg ?_ | refine Qh ?_ | refine Qi ?_ | refine Qj ?_ | refine Qk ?_ | refine Ql ?_ | refine Qm ?_ | refine Qn ?_ | refine Qo ?_ | refine Qp ?_ | refine Qq ?_ | fail)
    refine SX.same 4 (.bool (sameRe s u)) rfl (by simp [sameRe, h10, h17, h24, h31, h38, h45, h52, h59, h66]) ?_
    refine SX.ret (M' := F) rfl (Evals.tmp rfl Evals.nil) ?_ inferInstance
    exact h
  repeat (first | refine Qa ?_ | refine Qb ?_ | refine Qc ?_ | refine Qd ?_ | refine Qe ?_ | refine Qf ?_ | refine Qg ?_ | refine Qh ?_ | refine Qi ?_ | refine Qj ?_ | refine Qk ?_ | refine Ql ?_ | refine Qm ?_ | refine Qn ?_ | refine Qo ?_ | refine Qp ?_ | refine Qq ?_ | fail)
  refine SX.same 4 (.bool (sameRe s u)) rfl (by simp [sameRe, h10, h17, h24, h31, h38, h45, h52, h59, h66]) ?_
  refine SX.ret (M' := F) rfl (Evals.tmp rfl Evals.nil) ?_ inferInstance
  exact h
end
end Go.Proofs.Ytgjajalneknagaa.Sx
end
