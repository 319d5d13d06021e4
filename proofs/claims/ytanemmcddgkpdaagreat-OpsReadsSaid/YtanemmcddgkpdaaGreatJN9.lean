/- Chapter 13: the names of the laws, walked; conditions: those that each theorem names. -/
import Derived.Test.YtanemmcddgkpdaaGreatJN7
namespace Go.Proofs.YtanemmcddgkpdaaGreat.Sx
open Go.RowKit Go.Proofs.YtanemmcddgkpdaaGreat.Hm Go.Proofs.YtanemmcddgkpdaaGreatW.PrintWords Go.Proofs.YtanemmcddgkpdaaGreatW.PrintLast Go.Proofs.YtanemmcddgkpdaaGreatW.PrintMore
set_option linter.unusedVariables false
set_option linter.unusedSimpArgs false
attribute [local irreducible] SX SXL SXA St callK Post Evals
def nmL : List ByteArray := [⟨#[97]⟩, ⟨#[98]⟩, ⟨#[99]⟩, ⟨#[100, 100]⟩, ⟨#[101]⟩, ⟨#[]⟩, ⟨#[46, 46]⟩, ⟨#[120, 47, 121]⟩, ⟨#[97, 97, 97, 97, 97, 97, 97, 97, 97, 97, 97, 97, 97, 97, 97, 97, 97, 97, 97, 97, 97, 97, 97, 97]⟩, ⟨#[97, 97, 97, 97, 97, 97, 97, 97, 97, 97, 97, 97, 97, 97, 97, 97, 97, 97, 97, 97, 97, 97, 97, 97, 97]⟩, ⟨#[102]⟩, ⟨#[103]⟩]
def nm (j : Nat) : ByteArray := nmL.getD j ⟨#[]⟩
section
variable {F : List Thing} {K : Ending → List Thing → Prop} {k : Int}
theorem named13_S (h0 : 0 ≤ k) (h1 : k < 256) (h : K (.returned (.string (nm (k.toNat % 12)))) F) : Fn (Tryz.prog) 30 [.int .u8 k] F K := by
  have hw : IntKind.i64.wrap k = k := IntWalk.i64_in _ (by omega)
  have ht : k.tmod 12 = k % 12 := Int.tmod_eq_emod_of_nonneg h0
  have hj : k % 12 = 0 ∨ k % 12 = 1 ∨ k % 12 = 2 ∨ k % 12 = 3 ∨ k % 12 = 4 ∨ k % 12 = 5 ∨ k % 12 = 6 ∨ k % 12 = 7 ∨ k % 12 = 8 ∨ k % 12 = 9 ∨ k % 12 = 10 ∨ k % 12 = 11 := by omega
  refine Fn.enter Tryz.call30 Tryz.func30 rfl rfl rfl ?_
  repeat (first|refine Qa ?_|refine Qd ?_|refine Qe ?_|refine Qf ?_|fail)
  refine SXL.lit rfl rfl (fun g => ?_)
  repeat (first|refine Qa ?_|refine Qd ?_|refine Qe ?_|refine Qf ?_|fail)
  rw [hw]
  rcases hj with hj | hj | hj | hj | hj | hj | hj | hj | hj | hj | hj | hj
  · rw [show k.toNat % 12 = 0 by omega] at h
    refine SXL.same 10 (.int .i64 0) rfl (congrArg (Value.int .i64) (by show k.tmod 12 = _; rw [ht, hj])) ?_
    refine SXL.idx rfl rfl rfl rfl rfl (by omega) (by omega) rfl ?_
    repeat (first|refine Qa ?_|refine Qb ?_|refine Qd ?_|fail)
    refine SX.ret (M' := F) rfl (Evals.tmp rfl Evals.nil) ?_ inferInstance
    exact h
  · rw [show k.toNat % 12 = 1 by omega] at h
    refine SXL.same 10 (.int .i64 1) rfl (congrArg (Value.int .i64) (by show k.tmod 12 = _; rw [ht, hj])) ?_
    refine SXL.idx rfl rfl rfl rfl rfl (by omega) (by omega) rfl ?_
    repeat (first|refine Qa ?_|refine Qb ?_|refine Qd ?_|fail)
    refine SX.ret (M' := F) rfl (Evals.tmp rfl Evals.nil) ?_ inferInstance
    exact h
  · rw [show k.toNat % 12 = 2 by omega] at h
    refine SXL.same 10 (.int .i64 2) rfl (congrArg (Value.int .i64) (by show k.tmod 12 = _; rw [ht, hj])) ?_
    refine SXL.idx rfl rfl rfl rfl rfl (by omega) (by omega) rfl ?_
    repeat (first|refine Qa ?_|refine Qb ?_|refine Qd ?_|fail)
    refine SX.ret (M' := F) rfl (Evals.tmp rfl Evals.nil) ?_ inferInstance
    exact h
  · rw [show k.toNat % 12 = 3 by omega] at h
    refine SXL.same 10 (.int .i64 3) rfl (congrArg (Value.int .i64) (by show k.tmod 12 = _; rw [ht, hj])) ?_
    refine SXL.idx rfl rfl rfl rfl rfl (by omega) (by omega) rfl ?_
    repeat (first|refine Qa ?_|refine Qb ?_|refine Qd ?_|fail)
    refine SX.ret (M' := F) rfl (Evals.tmp rfl Evals.nil) ?_ inferInstance
    exact h
  · rw [show k.toNat % 12 = 4 by omega] at h
    refine SXL.same 10 (.int .i64 4) rfl (congrArg (Value.int .i64) (by show k.tmod 12 = _; rw [ht, hj])) ?_
    refine SXL.idx rfl rfl rfl rfl rfl (by omega) (by omega) rfl ?_
    repeat (first|refine Qa ?_|refine Qb ?_|refine Qd ?_|fail)
    refine SX.ret (M' := F) rfl (Evals.tmp rfl Evals.nil) ?_ inferInstance
    exact h
  · rw [show k.toNat % 12 = 5 by omega] at h
    refine SXL.same 10 (.int .i64 5) rfl (congrArg (Value.int .i64) (by show k.tmod 12 = _; rw [ht, hj])) ?_
    refine SXL.idx rfl rfl rfl rfl rfl (by omega) (by omega) rfl ?_
    repeat (first|refine Qa ?_|refine Qb ?_|refine Qd ?_|fail)
    refine SX.ret (M' := F) rfl (Evals.tmp rfl Evals.nil) ?_ inferInstance
    exact h
  · rw [show k.toNat % 12 = 6 by omega] at h
    refine SXL.same 10 (.int .i64 6) rfl (congrArg (Value.int .i64) (by show k.tmod 12 = _; rw [ht, hj])) ?_
    refine SXL.idx rfl rfl rfl rfl rfl (by omega) (by omega) rfl ?_
    repeat (first|refine Qa ?_|refine Qb ?_|refine Qd ?_|fail)
    refine SX.ret (M' := F) rfl (Evals.tmp rfl Evals.nil) ?_ inferInstance
    exact h
  · rw [show k.toNat % 12 = 7 by omega] at h
    refine SXL.same 10 (.int .i64 7) rfl (congrArg (Value.int .i64) (by show k.tmod 12 = _; rw [ht, hj])) ?_
    refine SXL.idx rfl rfl rfl rfl rfl (by omega) (by omega) rfl ?_
    repeat (first|refine Qa ?_|refine Qb ?_|refine Qd ?_|fail)
    refine SX.ret (M' := F) rfl (Evals.tmp rfl Evals.nil) ?_ inferInstance
    exact h
  · rw [show k.toNat % 12 = 8 by omega] at h
    refine SXL.same 10 (.int .i64 8) rfl (congrArg (Value.int .i64) (by show k.tmod 12 = _; rw [ht, hj])) ?_
    refine SXL.idx rfl rfl rfl rfl rfl (by omega) (by omega) rfl ?_
    repeat (first|refine Qa ?_|refine Qb ?_|refine Qd ?_|fail)
    refine SX.ret (M' := F) rfl (Evals.tmp rfl Evals.nil) ?_ inferInstance
    exact h
  · rw [show k.toNat % 12 = 9 by omega] at h
    refine SXL.same 10 (.int .i64 9) rfl (congrArg (Value.int .i64) (by show k.tmod 12 = _; rw [ht, hj])) ?_
    refine SXL.idx rfl rfl rfl rfl rfl (by omega) (by omega) rfl ?_
    repeat (first|refine Qa ?_|refine Qb ?_|refine Qd ?_|fail)
    refine SX.ret (M' := F) rfl (Evals.tmp rfl Evals.nil) ?_ inferInstance
    exact h
  · rw [show k.toNat % 12 = 10 by omega] at h
    refine SXL.same 10 (.int .i64 10) rfl (congrArg (Value.int .i64) (by show k.tmod 12 = _; rw [ht, hj])) ?_
    refine SXL.idx rfl rfl rfl rfl rfl (by omega) (by omega) rfl ?_
    repeat (first|refine Qa ?_|refine Qb ?_|refine Qd ?_|fail)
    refine SX.ret (M' := F) rfl (Evals.tmp rfl Evals.nil) ?_ inferInstance
    exact h
  · rw [show k.toNat % 12 = 11 by omega] at h
    refine SXL.same 10 (.int .i64 11) rfl (congrArg (Value.int .i64) (by show k.tmod 12 = _; rw [ht, hj])) ?_
    refine SXL.idx rfl rfl rfl rfl rfl (by omega) (by omega) rfl ?_
    repeat (first|refine Qa ?_|refine Qb ?_|refine Qd ?_|fail)
    refine SX.ret (M' := F) rfl (Evals.tmp rfl Evals.nil) ?_ inferInstance
    exact h
end
end Go.Proofs.YtanemmcddgkpdaaGreat.Sx
