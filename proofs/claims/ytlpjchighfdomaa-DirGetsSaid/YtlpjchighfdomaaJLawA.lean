/- Chapter 8's law DirGets, walked; conditions: those that each theorem names. -/
import Derived.Test.YtlpjchighfdomaaJU
namespace Go.Proofs.Ytlpjchighfdomaa.Sx
open Go.RowKit Go.Proofs.Ytlpjchighfdomaa.Hm Go.Proofs.YtlpjchighfdomaaW.PrintWords Go.Proofs.YtlpjchighfdomaaW.PrintLast Go.Proofs.YtlpjchighfdomaaW.PrintMore
set_option linter.unusedVariables false
set_option linter.unusedSimpArgs false
attribute [local irreducible] SX SXL SXA St callK Post Evals

set_option maxRecDepth 20000 in
theorem DirGets_S {F : List Thing} {K : Ending → List Thing → Prop} {A : Option Addr} {c : Nat} {b : List Int} (hr : Ro (Kd.int .u8) A F b) (hc : b.length ≤ c) (hb : bytesB b = true) (h : K (.returned (.bool true)) F) :
    Fn (Try.prog) 3 [.slice A b.length c] F K := by
  refine Fn.enter Try.call3 Try.func3 rfl rfl rfl ?_
  repeat (first | refine SXL.pure rfl rfl ?_ | refine SXL.load rfl inferInstance rfl rfl ?_ | refine SXL.store rfl rfl inferInstance rfl ?_ | refine SXL.nil ?_ | refine SX.region ?_ | refine SX.seq ?_ | refine SX.skip ?_ | refine SX.block ?_ | refine SX.endBlock ?_ | refine SX.exit rfl ?_ | refine SX.cond_t rfl (by first | with_reducible rfl | decide) ?_ | refine SX.cond_f rfl (by first | with_reducible rfl | decide) ?_ | refine SXL.guard_t rfl rfl (by first | with_reducible rfl | decide) ?_ | refine SXL.guard_f rfl rfl (by first | with_reducible rfl | decide) rfl ?_ | refine SXL.guard_n rfl rfl (by first | with_reducible rfl | decide) ?_)
  refine SXL.call rfl rfl rfl ?_
  refine (awake08_S (callK.ret ?_))
  repeat (first | refine SXL.pure rfl rfl ?_ | refine SXL.load rfl inferInstance rfl rfl ?_ | refine SXL.store rfl rfl inferInstance rfl ?_ | refine SXL.nil ?_ | refine SX.region ?_ | refine SX.seq ?_ | refine SX.skip ?_ | refine SX.block ?_ | refine SX.endBlock ?_ | refine SX.exit rfl ?_ | refine SX.cond_t rfl (by first | with_reducible rfl | decide) ?_ | refine SX.cond_f rfl (by first | with_reducible rfl | decide) ?_ | refine SXL.guard_t rfl rfl (by first | with_reducible rfl | decide) ?_ | refine SXL.guard_f rfl rfl (by first | with_reducible rfl | decide) rfl ?_ | refine SXL.guard_n rfl rfl (by first | with_reducible rfl | decide) ?_)
  refine SX.condp rfl (fun hl => ?_) (fun hl => ?_)
  · repeat (first | refine SXL.pure rfl rfl ?_ | refine SXL.load rfl inferInstance rfl rfl ?_ | refine SXL.store rfl rfl inferInstance rfl ?_ | refine SXL.nil ?_ | refine SX.region ?_ | refine SX.seq ?_ | refine SX.skip ?_ | refine SX.block ?_ | refine SX.endBlock ?_ | refine SX.exit rfl ?_ | refine SX.cond_t rfl (by first | with_reducible rfl | decide) ?_ | refine SX.cond_f rfl (by first | with_reducible rfl | decide) ?_ | refine SXL.guard_t rfl rfl (by first | with_reducible rfl | decide) ?_ | refine SXL.guard_f rfl rfl (by first | with_reducible rfl | decide) rfl ?_ | refine SXL.guard_n rfl rfl (by first | with_reducible rfl | decide) ?_)
    refine SX.ret (M' := F) rfl (Evals.tmp rfl Evals.nil) ?_ inferInstance
    exact h
  · repeat (first | refine SXL.pure rfl rfl ?_ | refine SXL.load rfl inferInstance rfl rfl ?_ | refine SXL.store rfl rfl inferInstance rfl ?_ | refine SXL.nil ?_ | refine SX.region ?_ | refine SX.seq ?_ | refine SX.skip ?_ | refine SX.block ?_ | refine SX.endBlock ?_ | refine SX.exit rfl ?_ | refine SX.cond_t rfl (by first | with_reducible rfl | decide) ?_ | refine SX.cond_f rfl (by first | with_reducible rfl | decide) ?_ | refine SXL.guard_t rfl rfl (by first | with_reducible rfl | decide) ?_ | refine SXL.guard_f rfl rfl (by first | with_reducible rfl | decide) rfl ?_ | refine SXL.guard_n rfl rfl (by first | with_reducible rfl | decide) ?_)
    refine SXL.call rfl rfl rfl ?_
    refine (Get_S hr hc hb (by omega) (fun l n hm A1 c1 hc1 => callK.ret ?_))
    repeat (first | refine SXL.pure rfl rfl ?_ | refine SXL.load rfl inferInstance rfl rfl ?_ | refine SXL.store rfl rfl inferInstance rfl ?_ | refine SXL.nil ?_ | refine SX.region ?_ | refine SX.seq ?_ | refine SX.skip ?_ | refine SX.block ?_ | refine SX.endBlock ?_ | refine SX.exit rfl ?_ | refine SX.cond_t rfl (by first | with_reducible rfl | decide) ?_ | refine SX.cond_f rfl (by first | with_reducible rfl | decide) ?_ | refine SXL.guard_t rfl rfl (by first | with_reducible rfl | decide) ?_ | refine SXL.guard_f rfl rfl (by first | with_reducible rfl | decide) rfl ?_ | refine SXL.guard_n rfl rfl (by first | with_reducible rfl | decide) ?_)
    refine SXL.bytesStr rfl inferInstance rfl Try.underlying22 Try.underlying5 Try.underlying9 rfl ?_
    repeat (first | refine SXL.pure rfl rfl ?_ | refine SXL.load rfl inferInstance rfl rfl ?_ | refine SXL.store rfl rfl inferInstance rfl ?_ | refine SXL.nil ?_ | refine SX.region ?_ | refine SX.seq ?_ | refine SX.skip ?_ | refine SX.block ?_ | refine SX.endBlock ?_ | refine SX.exit rfl ?_ | refine SX.cond_t rfl (by first | with_reducible rfl | decide) ?_ | refine SX.cond_f rfl (by first | with_reducible rfl | decide) ?_ | refine SXL.guard_t rfl rfl (by first | with_reducible rfl | decide) ?_ | refine SXL.guard_f rfl rfl (by first | with_reducible rfl | decide) rfl ?_ | refine SXL.guard_n rfl rfl (by first | with_reducible rfl | decide) ?_)
    have hbs := bytesOf_strOfNums _ hb
    refine SXL.call rfl rfl rfl ?_
    refine (RGet_S (strOfNums b) (by rw [size_strOfNums]; omega) (fun l' n' hm' A2 c2 hc2 => callK.ret ?_))
    rw [hbs, hm] at hm'
    simp only [Prod.mk.injEq] at hm'
    obtain ⟨rfl, rfl⟩ := hm'
    repeat (first | refine SXL.pure rfl rfl ?_ | refine SXL.load rfl inferInstance rfl rfl ?_ | refine SXL.store rfl rfl inferInstance rfl ?_ | refine SXL.nil ?_ | refine SX.region ?_ | refine SX.seq ?_ | refine SX.skip ?_ | refine SX.block ?_ | refine SX.endBlock ?_ | refine SX.exit rfl ?_ | refine SX.cond_t rfl (by first | with_reducible rfl | decide) ?_ | refine SX.cond_f rfl (by first | with_reducible rfl | decide) ?_ | refine SXL.guard_t rfl rfl (by first | with_reducible rfl | decide) ?_ | refine SXL.guard_f rfl rfl (by first | with_reducible rfl | decide) rfl ?_ | refine SXL.guard_n rfl rfl (by first | with_reducible rfl | decide) ?_)
    refine SXL.know 30 false rfl (by simp) ?_
    repeat (first | refine SXL.pure rfl rfl ?_ | refine SXL.load rfl inferInstance rfl rfl ?_ | refine SXL.store rfl rfl inferInstance rfl ?_ | refine SXL.nil ?_ | refine SX.region ?_ | refine SX.seq ?_ | refine SX.skip ?_ | refine SX.block ?_ | refine SX.endBlock ?_ | refine SX.exit rfl ?_ | refine SX.cond_t rfl (by first | with_reducible rfl | decide) ?_ | refine SX.cond_f rfl (by first | with_reducible rfl | decide) ?_ | refine SXL.guard_t rfl rfl (by first | with_reducible rfl | decide) ?_ | refine SXL.guard_f rfl rfl (by first | with_reducible rfl | decide) rfl ?_ | refine SXL.guard_n rfl rfl (by first | with_reducible rfl | decide) ?_)
    have hll := getM_len hb hm
    refine SXL.call rfl rfl rfl ?_
    refine (entriesOf_S inferInstance hc1 (by omega) (fun A3 c3 hc3 => callK.ret ?_))
    repeat (first | refine SXL.pure rfl rfl ?_ | refine SXL.load rfl inferInstance rfl rfl ?_ | refine SXL.store rfl rfl inferInstance rfl ?_ | refine SXL.nil ?_ | refine SX.region ?_ | refine SX.seq ?_ | refine SX.skip ?_ | refine SX.block ?_ | refine SX.endBlock ?_ | refine SX.exit rfl ?_ | refine SX.cond_t rfl (by first | with_reducible rfl | decide) ?_ | refine SX.cond_f rfl (by first | with_reducible rfl | decide) ?_ | refine SXL.guard_t rfl rfl (by first | with_reducible rfl | decide) ?_ | refine SXL.guard_f rfl rfl (by first | with_reducible rfl | decide) rfl ?_ | refine SXL.guard_n rfl rfl (by first | with_reducible rfl | decide) ?_)
    refine SXL.call rfl rfl rfl ?_
    refine (Same_S inferInstance inferInstance hc3 hc2 (callK.ret ?_))
    repeat (first | refine SXL.pure rfl rfl ?_ | refine SXL.load rfl inferInstance rfl rfl ?_ | refine SXL.store rfl rfl inferInstance rfl ?_ | refine SXL.nil ?_ | refine SX.region ?_ | refine SX.seq ?_ | refine SX.skip ?_ | refine SX.block ?_ | refine SX.endBlock ?_ | refine SX.exit rfl ?_ | refine SX.cond_t rfl (by first | with_reducible rfl | decide) ?_ | refine SX.cond_f rfl (by first | with_reducible rfl | decide) ?_ | refine SXL.guard_t rfl rfl (by first | with_reducible rfl | decide) ?_ | refine SXL.guard_f rfl rfl (by first | with_reducible rfl | decide) rfl ?_ | refine SXL.guard_n rfl rfl (by first | with_reducible rfl | decide) ?_)
    refine SX.cond rfl (fun hn => ?_) (fun hn => ?_)
    · repeat (first | refine SXL.pure rfl rfl ?_ | refine SXL.load rfl inferInstance rfl rfl ?_ | refine SXL.store rfl rfl inferInstance rfl ?_ | refine SXL.nil ?_ | refine SX.region ?_ | refine SX.seq ?_ | refine SX.skip ?_ | refine SX.block ?_ | refine SX.endBlock ?_ | refine SX.exit rfl ?_ | refine SX.cond_t rfl (by first | with_reducible rfl | decide) ?_ | refine SX.cond_f rfl (by first | with_reducible rfl | decide) ?_ | refine SXL.guard_t rfl rfl (by first | with_reducible rfl | decide) ?_ | refine SXL.guard_f rfl rfl (by first | with_reducible rfl | decide) rfl ?_ | refine SXL.guard_n rfl rfl (by first | with_reducible rfl | decide) ?_)
      refine SX.ret (M' := F) rfl (Evals.tmp rfl Evals.nil) ?_ inferInstance
      exact h
    · obtain rfl : n = 0 := by simpa using hn
      obtain ⟨hp, hw⟩ := getM_put hb hm
      repeat (first | refine SXL.pure rfl rfl ?_ | refine SXL.load rfl inferInstance rfl rfl ?_ | refine SXL.store rfl rfl inferInstance rfl ?_ | refine SXL.nil ?_ | refine SX.region ?_ | refine SX.seq ?_ | refine SX.skip ?_ | refine SX.block ?_ | refine SX.endBlock ?_ | refine SX.exit rfl ?_ | refine SX.cond_t rfl (by first | with_reducible rfl | decide) ?_ | refine SX.cond_f rfl (by first | with_reducible rfl | decide) ?_ | refine SXL.guard_t rfl rfl (by first | with_reducible rfl | decide) ?_ | refine SXL.guard_f rfl rfl (by first | with_reducible rfl | decide) rfl ?_ | refine SXL.guard_n rfl rfl (by first | with_reducible rfl | decide) ?_)
      refine SXL.call rfl rfl rfl ?_
      refine (Put_S inferInstance hc1 (by omega) hw (fun r n hm A4 c4 hc4 => callK.ret ?_))
      rw [hp] at hm
      simp only [Prod.mk.injEq] at hm
      obtain ⟨rfl, rfl⟩ := hm
      repeat (first | refine SXL.pure rfl rfl ?_ | refine SXL.load rfl inferInstance rfl rfl ?_ | refine SXL.store rfl rfl inferInstance rfl ?_ | refine SXL.nil ?_ | refine SX.region ?_ | refine SX.seq ?_ | refine SX.skip ?_ | refine SX.block ?_ | refine SX.endBlock ?_ | refine SX.exit rfl ?_ | refine SX.cond_t rfl (by first | with_reducible rfl | decide) ?_ | refine SX.cond_f rfl (by first | with_reducible rfl | decide) ?_ | refine SXL.guard_t rfl rfl (by first | with_reducible rfl | decide) ?_ | refine SXL.guard_f rfl rfl (by first | with_reducible rfl | decide) rfl ?_ | refine SXL.guard_n rfl rfl (by first | with_reducible rfl | decide) ?_)
      refine SXL.bytesStr rfl inferInstance rfl Try.underlying22 Try.underlying5 Try.underlying9 rfl ?_
      repeat (first | refine SXL.pure rfl rfl ?_ | refine SXL.load rfl inferInstance rfl rfl ?_ | refine SXL.store rfl rfl inferInstance rfl ?_ | refine SXL.nil ?_ | refine SX.region ?_ | refine SX.seq ?_ | refine SX.skip ?_ | refine SX.block ?_ | refine SX.endBlock ?_ | refine SX.exit rfl ?_ | refine SX.cond_t rfl (by first | with_reducible rfl | decide) ?_ | refine SX.cond_f rfl (by first | with_reducible rfl | decide) ?_ | refine SXL.guard_t rfl rfl (by first | with_reducible rfl | decide) ?_ | refine SXL.guard_f rfl rfl (by first | with_reducible rfl | decide) rfl ?_ | refine SXL.guard_n rfl rfl (by first | with_reducible rfl | decide) ?_)
      refine SXL.bytesStr rfl inferInstance rfl Try.underlying22 Try.underlying5 Try.underlying9 rfl ?_
      repeat (first | refine SXL.pure rfl rfl ?_ | refine SXL.load rfl inferInstance rfl rfl ?_ | refine SXL.store rfl rfl inferInstance rfl ?_ | refine SXL.nil ?_ | refine SX.region ?_ | refine SX.seq ?_ | refine SX.skip ?_ | refine SX.block ?_ | refine SX.endBlock ?_ | refine SX.exit rfl ?_ | refine SX.cond_t rfl (by first | with_reducible rfl | decide) ?_ | refine SX.cond_f rfl (by first | with_reducible rfl | decide) ?_ | refine SXL.guard_t rfl rfl (by first | with_reducible rfl | decide) ?_ | refine SXL.guard_f rfl rfl (by first | with_reducible rfl | decide) rfl ?_ | refine SXL.guard_n rfl rfl (by first | with_reducible rfl | decide) ?_)
      refine SX.same 2 (.bool true) rfl (by simp) ?_
      refine SX.ret (M' := F) rfl (Evals.tmp rfl Evals.nil) ?_ inferInstance
      exact h
theorem DirGets_any (A : Option Addr) (c : Nat) (b : List Int) (W : World) (hr : Kd.C (Kd.int .u8) W A b.length b) (hc : b.length ≤ c) (hw : b.length ≤ maxLen ∧ ∀ x ∈ b, (Lit.int .u8 x).wf = true) :
    Calls Try.prog 3 #[.slice A b.length c] W fun e w' => e = .returned (.bool true) ∧ Below W.heap.size W w' :=
  Fn.out W [.per (roR (Kd.int .u8) A b), .per (oldR W)] (Holds.ofStart (Holds.startRow (Holds.start0 W) (Kd.C_F (Kd.heap_int _) hr))) inferInstance
    (DirGets_S inferInstance hc (bytesB_of_wf b hw.2) ⟨rfl, inferInstance⟩)
end Go.Proofs.Ytlpjchighfdomaa.Sx
