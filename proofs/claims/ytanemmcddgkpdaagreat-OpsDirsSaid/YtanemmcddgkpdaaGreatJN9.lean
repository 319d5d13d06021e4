/- Part N9 of the lemmas and walks of the Go functions that these statements reach; conditions: those that each theorem names. -/
import Derived.Test.YtanemmcddgkpdaaGreatJN7
import Derived.Test.YtanemmcddgkpdaaGreatJN8
section
/- Chapter 13: the names of the laws, walked; conditions: those that each theorem names. -/
namespace Go.Proofs.YtanemmcddgkpdaaGreat.Sx
open Go.RowKit Go.Proofs.YtanemmcddgkpdaaGreat.Hm Go.Proofs.YtanemmcddgkpdaaGreatW.PrintWords Go.Proofs.YtanemmcddgkpdaaGreatW.PrintLast Go.Proofs.YtanemmcddgkpdaaGreatW.PrintMore
set_option linter.unusedVariables false
set_option linter.unusedSimpArgs false
attribute [local irreducible] SX SXL SXA St callK Post Evals

def nmL : List ByteArray := [⟨#[97]⟩, ⟨#[98]⟩, ⟨#[99]⟩, ⟨#[100, 100]⟩, ⟨#[101]⟩, ⟨#[]⟩, ⟨#[46, 46]⟩, ⟨#[120, 47, 121]⟩, ⟨#[97, 97, 97, 97, 97, 97, 97, 97, 97, 97, 97, 97, 97, 97, 97, 97, 97, 97, 97, 97, 97, 97, 97, 97]⟩, ⟨#[97, 97, 97, 97, 97, 97, 97, 97, 97, 97, 97, 97, 97, 97, 97, 97, 97, 97, 97, 97, 97, 97, 97, 97, 97]⟩, ⟨#[102]⟩, ⟨#[103]⟩]
def nm (j : Nat) : ByteArray := nmL.getD j ⟨#[]⟩
section
variable {F : List Thing} {K : Ending → List Thing → Prop} {k : Int}
theorem named13_S (h0 : 0 ≤ k) (h1 : k < 256) (h : K (.returned (.string (nm (k.toNat % 12)))) F) : Fn (Tryz.prog) 30 [.int .u8 k] F K := by
  have hw : IntKind.i64.wrap k = k := IntWalk.i64_in _ (by omega)
  have ht : k.tmod 12 = k % 12 := Int.tmod_eq_emod_of_nonneg h0
  have hj : k % 12 = 0 ∨ k % 12 = 1 ∨ k % 12 = 2 ∨ k % 12 = 3 ∨ k % 12 = 4 ∨ k % 12 = 5 ∨ k % 12 = 6 ∨ k % 12 = 7 ∨ k % 12 = 8 ∨ k % 12 = 9 ∨ k % 12 = 10 ∨ k % 12 = 11 := by omega
  refine Fn.enter Tryz.call30 Tryz.func30 rfl rfl rfl ?_
  repeat (first | refine Qa ?_ | refine Qb ?_ | refine Qc ?_ | refine Qd ?_ | refine Qe ?_ | refine Qf ?_ | refine Qg ?_ | refine Qh ?_ | refine Qi ?_ | refine Qj ?_ | refine Qk ?_ | refine Ql ?_ | refine Qm ?_ | refine Qn ?_ | refine Qo ?_ | refine Qp ?_ | refine Qq ?_ | fail)
  refine SXL.lit rfl rfl (fun g => ?_)
  repeat (first | refine Qa ?_ | refine Qb ?_ | refine Qc ?_ | refine Qd ?_ | refine Qe ?_ | refine Qf ?_ | refine Qg ?_ | refine Qh ?_ | refine Qi ?_ | refine Qj ?_ | refine Qk ?_ | refine Ql ?_ | refine Qm ?_ | refine Qn ?_ | refine Qo ?_ | refine Qp ?_ | refine Qq ?_ | fail)
  rw [hw]
  rcases hj with hj | hj | hj | hj | hj | hj | hj | hj | hj | hj | hj | hj
  · rw [show k.toNat % 12 = 0 by omega] at h
    refine SXL.same 10 (.int .i64 0) rfl (congrArg (Value.int .i64) (by show k.tmod 12 = _; rw [ht, hj])) ?_
    refine SXL.idx rfl rfl rfl rfl rfl (by omega) (by omega) rfl ?_
    repeat (first | refine Qa ?_ | refine Qb ?_ | refine Qc ?_ | refine Qd ?_ | refine Qe ?_ | refine Qf ?_ | refine Qg ?_ | refine Qh ?_ | refine Qi ?_ | refine Qj ?_ | refine Qk ?_ | refine Ql ?_ | refine Qm ?_ | refine Qn ?_ | refine Qo ?_ | refine Qp ?_ | refine Qq ?_ | fail)
    refine SX.ret (M' := F) rfl (Evals.tmp rfl Evals.nil) ?_ inferInstance
    exact h
  · rw [show k.toNat % 12 = 1 by omega] at h
    refine SXL.same 10 (.int .i64 1) rfl (congrArg (Value.int .i64) (by show k.tmod 12 = _; rw [ht, hj])) ?_
    refine SXL.idx rfl rfl rfl rfl rfl (by omega) (by omega) rfl ?_
    repeat (first | refine Qa ?_ | refine Qb ?_ | refine Qc ?_ | refine Qd ?_ | refine Qe ?_ | refine Qf ?_ | refine Qg ?_ | refine Qh ?_ | refine Qi ?_ | refine Qj ?_ | refine Qk ?_ | refine Ql ?_ | refine Qm ?_ | refine Qn ?_ | refine Qo ?_ | refine Qp ?_ | refine Qq ?_ | fail)
    refine SX.ret (M' := F) rfl (Evals.tmp rfl Evals.nil) ?_ inferInstance
    exact h
  · rw [show k.toNat % 12 = 2 by omega] at h
    refine SXL.same 10 (.int .i64 2) rfl (congrArg (Value.int .i64) (by show k.tmod 12 = _; rw [ht, hj])) ?_
    refine SXL.idx rfl rfl rfl rfl rfl (by omega) (by omega) rfl ?_
    repeat (first | refine Qa ?_ | refine Qb ?_ | refine Qc ?_ | refine Qd ?_ | refine Qe ?_ | refine Qf ?_ | refine Qg ?_ | refine Qh ?_ | refine Qi ?_ | refine Qj ?_ | refine Qk ?_ | refine Ql ?_ | refine Qm ?_ | refine Qn ?_ | refine Qo ?_ | refine Qp ?_ | refine Qq ?_ | fail)
    refine SX.ret (M' := F) rfl (Evals.tmp rfl Evals.nil) ?_ inferInstance
    exact h
  · rw [show k.toNat % 12 = 3 by omega] at h
    refine SXL.same 10 (.int .i64 3) rfl (congrArg (Value.int .i64) (by show k.tmod 12 = _; rw [ht, hj])) ?_
    refine SXL.idx rfl rfl rfl rfl rfl (by omega) (by omega) rfl ?_
    repeat (first | refine Qa ?_ | refine Qb ?_ | refine Qc ?_ | refine Qd ?_ | refine Qe ?_ | refine Qf ?_ | refine Qg ?_ | refine Qh ?_ | refine Qi ?_ | refine Qj ?_ | refine Qk ?_ | refine Ql ?_ | refine Qm ?_ | refine Qn ?_ | refine Qo ?_ | refine Qp ?_ | refine Qq ?_ | fail)
    refine SX.ret (M' := F) rfl (Evals.tmp rfl Evals.nil) ?_ inferInstance
    exact h
  · rw [show k.toNat % 12 = 4 by omega] at h
    refine SXL.same 10 (.int .i64 4) rfl (congrArg (Value.int .i64) (by show k.tmod 12 = _; rw [ht, hj])) ?_
    refine SXL.idx rfl rfl rfl rfl rfl (by omega) (by omega) rfl ?_
    repeat (first | refine Qa ?_ | refine Qb ?_ | refine Qc ?_ | refine Qd ?_ | refine Qe ?_ | refine Qf ?_ | refine Qg ?_ | refine Qh ?_ | refine Qi ?_ | refine Qj ?_ | refine Qk ?_ | refine Ql ?_ | refine Qm ?_ | refine Qn ?_ | refine Qo ?_ | refine Qp ?_ | refine Qq ?_ | fail)
    refine SX.ret (M' := F) rfl (Evals.tmp rfl Evals.nil) ?_ inferInstance
    exact h
  · rw [show k.toNat % 12 = 5 by omega] at h
    refine SXL.same 10 (.int .i64 5) rfl (congrArg (Value.int .i64) (by show k.tmod 12 = _; rw [ht, hj])) ?_
    refine SXL.idx rfl rfl rfl rfl rfl (by omega) (by omega) rfl ?_
    repeat (first | refine Qa ?_ | refine Qb ?_ | refine Qc ?_ | refine Qd ?_ | refine Qe ?_ | refine Qf ?_ | refine Qg ?_ | refine Qh ?_ | refine Qi ?_ | refine Qj ?_ | refine Qk ?_ | refine Ql ?_ | refine Qm ?_ | refine Qn ?_ | refine Qo ?_ | refine Qp ?_ | refine Qq ?_ | fail)
    refine SX.ret (M' := F) rfl (Evals.tmp rfl Evals.nil) ?_ inferInstance
    exact h
  · rw [show k.toNat % 12 = 6 by omega] at h
    refine SXL.same 10 (.int .i64 6) rfl (congrArg (Value.int .i64) (by show k.tmod 12 = _; rw [ht, hj])) ?_
    refine SXL.idx rfl rfl rfl rfl rfl (by omega) (by omega) rfl ?_
    repeat (first | refine Qa ?_ | refine Qb ?_ | refine Qc ?_ | refine Qd ?_ | refine Qe ?_ | refine Qf ?_ | refine Qg ?_ | refine Qh ?_ | refine Qi ?_ | refine Qj ?_ | refine Qk ?_ | refine Ql ?_ | refine Qm ?_ | refine Qn ?_ | refine Qo ?_ | refine Qp ?_ | refine Qq ?_ | fail)
    refine SX.ret (M' := F) rfl (Evals.tmp rfl Evals.nil) ?_ inferInstance
    exact h
  · rw [show k.toNat % 12 = 7 by omega] at h
    refine SXL.same 10 (.int .i64 7) rfl (congrArg (Value.int .i64) (by show k.tmod 12 = _; rw [ht, hj])) ?_
    refine SXL.idx rfl rfl rfl rfl rfl (by omega) (by omega) rfl ?_
    repeat (first | refine Qa ?_ | refine Qb ?_ | refine Qc ?_ | refine Qd ?_ | refine Qe ?_ | refine Qf ?_ | refine Qg ?_ | refine Qh ?_ | refine Qi ?_ | refine Qj ?_ | refine Qk ?_ | refine Ql ?_ | refine Qm ?_ | refine Qn ?_ | refine Qo ?_ | refine Qp ?_ | refine Qq ?_ | fail)
    refine SX.ret (M' := F) rfl (Evals.tmp rfl Evals.nil) ?_ inferInstance
    exact h
  · rw [show k.toNat % 12 = 8 by omega] at h
    refine SXL.same 10 (.int .i64 8) rfl (congrArg (Value.int .i64) (by show k.tmod 12 = _; rw [ht, hj])) ?_
    refine SXL.idx rfl rfl rfl rfl rfl (by omega) (by omega) rfl ?_
    repeat (first | refine Qa ?_ | refine Qb ?_ | refine Qc ?_ | refine Qd ?_ | refine Qe ?_ | refine Qf ?_ | refine Qg ?_ | refine Qh ?_ | refine Qi ?_ | refine Qj ?_ | refine Qk ?_ | refine Ql ?_ | refine Qm ?_ | refine Qn ?_ | refine Qo ?_ | refine Qp ?_ | refine Qq ?_ | fail)
    refine SX.ret (M' := F) rfl (Evals.tmp rfl Evals.nil) ?_ inferInstance
    exact h
  · rw [show k.toNat % 12 = 9 by omega] at h
    refine SXL.same 10 (.int .i64 9) rfl (congrArg (Value.int .i64) (by show k.tmod 12 = _; rw [ht, hj])) ?_
    refine SXL.idx rfl rfl rfl rfl rfl (by omega) (by omega) rfl ?_
    repeat (first | refine Qa ?_ | refine Qb ?_ | refine Qc ?_ | refine Qd ?_ | refine Qe ?_ | refine Qf ?_ | refine Qg ?_ | refine Qh ?_ | refine Qi ?_ | refine Qj ?_ | refine Qk ?_ | refine Ql ?_ | refine Qm ?_ | refine Qn ?_ | refine Qo ?_ | refine Qp ?_ | refine Qq ?_ | fail)
    refine SX.ret (M' := F) rfl (Evals.tmp rfl Evals.nil) ?_ inferInstance
    exact h
  · rw [show k.toNat % 12 = 10 by omega] at h
    refine SXL.same 10 (.int .i64 10) rfl (congrArg (Value.int .i64) (by show k.tmod 12 = _; rw [ht, hj])) ?_
    refine SXL.idx rfl rfl rfl rfl rfl (by omega) (by omega) rfl ?_
    repeat (first | refine Qa ?_ | refine Qb ?_ | refine Qc ?_ | refine Qd ?_ | refine Qe ?_ | refine Qf ?_ | refine Qg ?_ | refine Qh ?_ | refine Qi ?_ | refine Qj ?_ | refine Qk ?_ | refine Ql ?_ | refine Qm ?_ | refine Qn ?_ | refine Qo ?_ | refine Qp ?_ | refine Qq ?_ | fail)
    refine SX.ret (M' := F) rfl (Evals.tmp rfl Evals.nil) ?_ inferInstance
    exact h
  · rw [show k.toNat % 12 = 11 by omega] at h
    refine SXL.same 10 (.int .i64 11) rfl (congrArg (Value.int .i64) (by show k.tmod 12 = _; rw [ht, hj])) ?_
    refine SXL.idx rfl rfl rfl rfl rfl (by omega) (by omega) rfl ?_
    repeat (first | refine Qa ?_ | refine Qb ?_ | refine Qc ?_ | refine Qd ?_ | refine Qe ?_ | refine Qf ?_ | refine Qg ?_ | refine Qh ?_ | refine Qi ?_ | refine Qj ?_ | refine Qk ?_ | refine Ql ?_ | refine Qm ?_ | refine Qn ?_ | refine Qo ?_ | refine Qp ?_ | refine Qq ?_ | fail)
    refine SX.ret (M' := F) rfl (Evals.tmp rfl Evals.nil) ?_ inferInstance
    exact h
end
end Go.Proofs.YtanemmcddgkpdaaGreat.Sx
end
section
/- Chapter 13: a directory is removed as one, pure; conditions: those that each theorem names. -/
namespace Go.Proofs.YtanemmcddgkpdaaGreat.Sx
open Go.RowKit Go.Proofs.YtanemmcddgkpdaaGreat.Hm Go.Proofs.YtanemmcddgkpdaaGreatW.PrintWords Go.Proofs.YtanemmcddgkpdaaGreatW.PrintLast Go.Proofs.YtanemmcddgkpdaaGreatW.PrintMore
set_option linter.unusedVariables false
set_option linter.unusedSimpArgs false

noncomputable def dm : Th × Re := doT (formT 20) (ca 7 0 1 ⟨#[100]⟩ 0 0 [])
def dop (lk : Bool) : Int := match lk with | true => 8 | false => 6
noncomputable def dT (lk : Bool) : Nat → Th
  | 0 => dm.1
  | k + 1 => (doT (dT lk k) (ca (dop lk) 1 1 (nm k) 0 0 [120])).1
noncomputable def dE (lk : Bool) (n : Nat) : Nat → Th
  | 0 => dT lk n
  | i + 1 => (doT (dE lk n i) (ca 10 1 1 (nm i) 0 0 [])).1
noncomputable def dU (lk : Bool) (n : Nat) : Th × Re := doT (dE lk n n) (ca 11 0 1 ⟨#[100]⟩ 0 0 [])
noncomputable def okD (lk : Bool) (n : Nat) : Bool :=
  ((doT (dT lk n) (ca 10 0 1 ⟨#[100]⟩ 0 0 [])).2.st == 63) && (((doT (dT lk n) (ca 11 0 1 ⟨#[100]⟩ 0 0 [])).2.st == (match n with | 0 => 0 | _ + 1 => 68)) &&
  (((List.range n).all fun i => ((doT (dE lk n i) (ca 11 1 1 (nm i) 0 0 [])).2.st == 62) && ((doT (dE lk n i) (ca 10 1 1 (nm i) 0 0 [])).2.st == 0)) &&
  (((dU lk n).2.st == 0) && (((doT (dU lk n).1 (ca 1 1 1 ⟨#[97]⟩ 0 0 [])).2.st == 69) && (usedT (dU lk n).1.l == 0)))))
theorem okD_t0 : okD true 0 = true := by kernel_rfl
theorem okD_t1 : okD true 1 = true := by kernel_rfl
theorem okD_t2 : okD true 2 = true := by kernel_rfl
theorem okD_t3 : okD true 3 = true := by kernel_rfl
theorem okD_f0 : okD false 0 = true := by kernel_rfl
theorem okD_f1 : okD false 1 = true := by kernel_rfl
theorem okD_f2 : okD false 2 = true := by kernel_rfl
theorem okD_f3 : okD false 3 = true := by kernel_rfl
theorem dm_ai : dm.2.ai = 1 := by kernel_rfl
theorem dm_ag : dm.2.ag = 1 := by kernel_rfl
theorem dT_succ (lk : Bool) (k : Nat) : dT lk (k + 1) = (doT (dT lk k) (ca (dop lk) 1 1 (nm k) 0 0 [120])).1 := rfl
theorem dT_zero (lk : Bool) : dT lk 0 = dm.1 := rfl
theorem dE_succ (lk : Bool) (n i : Nat) : dE lk n (i + 1) = (doT (dE lk n i) (ca 10 1 1 (nm i) 0 0 [])).1 := rfl
theorem dE_zero (lk : Bool) (n : Nat) : dE lk n 0 = dT lk n := rfl
theorem dU_def (lk : Bool) (n : Nat) : dU lk n = doT (dE lk n n) (ca 11 0 1 ⟨#[100]⟩ 0 0 []) := rfl
theorem okD_all (lk : Bool) {n : Nat} (hn : n < 4) : okD lk n = true := by
  have h : n = 0 ∨ n = 1 ∨ n = 2 ∨ n = 3 := by omega
  cases lk
  · rcases h with h | h | h | h
    · rw [h]; exact okD_f0
    · rw [h]; exact okD_f1
    · rw [h]; exact okD_f2
    · rw [h]; exact okD_f3
  · rcases h with h | h | h | h
    · rw [h]; exact okD_t0
    · rw [h]; exact okD_t1
    · rw [h]; exact okD_t2
    · rw [h]; exact okD_t3
theorem okD_st {lk : Bool} {n : Nat} (h : okD lk n = true) : (doT (dT lk n) (ca 10 0 1 ⟨#[100]⟩ 0 0 [])).2.st = 63 ∧ (doT (dT lk n) (ca 11 0 1 ⟨#[100]⟩ 0 0 [])).2.st = (if n = 0 then 0 else 68) ∧
    (∀ i, i < n → (doT (dE lk n i) (ca 11 1 1 (nm i) 0 0 [])).2.st = 62 ∧ (doT (dE lk n i) (ca 10 1 1 (nm i) 0 0 [])).2.st = 0) ∧ (dU lk n).2.st = 0 ∧ (doT (dU lk n).1 (ca 1 1 1 ⟨#[97]⟩ 0 0 [])).2.st = 69 ∧ usedT (dU lk n).1.l = 0 := by
  unfold okD at h
  simp only [Bool.and_eq_true, beq_iff_eq, List.all_eq_true, List.mem_range] at h
  refine ⟨h.1, ?_, fun i hi => h.2.2.1 i hi, h.2.2.2.1, h.2.2.2.2.1, h.2.2.2.2.2⟩
  rw [h.2.1]
  cases n <;> simp
end Go.Proofs.YtanemmcddgkpdaaGreat.Sx
end
