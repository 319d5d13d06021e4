/- Chapter 8's law DirDoes, walked; conditions: those that each theorem names. -/
import Derived.Test.YtlpjchighfdomaaJU
namespace Go.Proofs.Ytlpjchighfdomaa.Sx
open Go.RowKit Go.Proofs.Ytlpjchighfdomaa.Hm Go.Proofs.YtlpjchighfdomaaW.PrintWords Go.Proofs.YtlpjchighfdomaaW.PrintLast Go.Proofs.YtlpjchighfdomaaW.PrintMore
set_option linter.unusedVariables false
set_option linter.unusedSimpArgs false
attribute [local irreducible] SX SXL SXA St callK Post Evals

theorem addM_len (l : List Ent) (x : Ent) : (addM l x).1.length ≤ l.length + 1 := by
  unfold addM
  split
  · simp
  · split
    · simp
    · split
      · simp
      · simp
theorem removeM_len (l : List Ent) (s : ByteArray) : (removeM l s).1.length ≤ l.length := by
  unfold removeM
  split
  · simp
  · exact (List.eraseIdx_sublist _ _).length_le
theorem afterM_len (l : List Ent) (s m : Int) : (afterM l s m).1.length ≤ l.length := by
  unfold afterM
  split
  · simp
  · simp only [List.length_drop, List.length_take]
    omega
set_option maxHeartbeats 1000000 in
set_option maxRecDepth 20000 in
theorem DirDoes_S {F : List Thing} {K : Ending → List Thing → Prop} {A : Option Addr} {c : Nat} {l : List Ent} {x : Ent} {ck most : Int} (hr : Ro kE A F l) (hc : l.length ≤ c) (hw : ∀ e ∈ l, e.wf) (hx : x.wf) (hm0 : -9223372036854775808 ≤ most) (hm1 : most ≤ 9223372036854775807) (h : K (.returned (.bool true)) F) :
    Fn (Try.prog) 4 [.slice A l.length c, .agg #[.int .u64 x.c, .int .u32 x.i, .int .u32 x.g, .string x.s], .int .u64 ck, .int .i64 most] F K := by
  refine Fn.enter Try.call4 Try.func4 rfl rfl rfl ?_
  repeat (first | refine SXL.pure rfl rfl ?_ | refine SXL.load rfl inferInstance rfl rfl ?_ | refine SXL.store rfl rfl inferInstance rfl ?_ | refine SXL.nil ?_ | refine SX.region ?_ | refine SX.seq ?_ | refine SX.skip ?_ | refine SX.block ?_ | refine SX.endBlock ?_ | refine SX.exit rfl ?_ | refine SX.cond_t rfl (by first | with_reducible rfl | decide) ?_ | refine SX.cond_f rfl (by first | with_reducible rfl | decide) ?_ | refine SXL.guard_t rfl rfl (by first | with_reducible rfl | decide) ?_ | refine SXL.guard_f rfl rfl (by first | with_reducible rfl | decide) rfl ?_ | refine SXL.guard_n rfl rfl (by first | with_reducible rfl | decide) ?_)
  refine SXL.box rfl rfl rfl (fun p => ?_)
  repeat (first | refine SXL.pure rfl rfl ?_ | refine SXL.load rfl inferInstance rfl rfl ?_ | refine SXL.store rfl rfl inferInstance rfl ?_ | refine SXL.nil ?_ | refine SX.region ?_ | refine SX.seq ?_ | refine SX.skip ?_ | refine SX.block ?_ | refine SX.endBlock ?_ | refine SX.exit rfl ?_ | refine SX.cond_t rfl (by first | with_reducible rfl | decide) ?_ | refine SX.cond_f rfl (by first | with_reducible rfl | decide) ?_ | refine SXL.guard_t rfl rfl (by first | with_reducible rfl | decide) ?_ | refine SXL.guard_f rfl rfl (by first | with_reducible rfl | decide) rfl ?_ | refine SXL.guard_n rfl rfl (by first | with_reducible rfl | decide) ?_)
  refine SXL.call rfl rfl rfl ?_
  refine (awake08_S (callK.ret ?_))
  repeat (first | refine SXL.pure rfl rfl ?_ | refine SXL.load rfl inferInstance rfl rfl ?_ | refine SXL.store rfl rfl inferInstance rfl ?_ | refine SXL.nil ?_ | refine SX.region ?_ | refine SX.seq ?_ | refine SX.skip ?_ | refine SX.block ?_ | refine SX.endBlock ?_ | refine SX.exit rfl ?_ | refine SX.cond_t rfl (by first | with_reducible rfl | decide) ?_ | refine SX.cond_f rfl (by first | with_reducible rfl | decide) ?_ | refine SXL.guard_t rfl rfl (by first | with_reducible rfl | decide) ?_ | refine SXL.guard_f rfl rfl (by first | with_reducible rfl | decide) rfl ?_ | refine SXL.guard_n rfl rfl (by first | with_reducible rfl | decide) ?_)
  refine SXL.call rfl rfl rfl ?_
  refine (short_S inferInstance hc (callK.ret ?_))
  repeat (first | refine SXL.pure rfl rfl ?_ | refine SXL.load rfl inferInstance rfl rfl ?_ | refine SXL.store rfl rfl inferInstance rfl ?_ | refine SXL.nil ?_ | refine SX.region ?_ | refine SX.seq ?_ | refine SX.skip ?_ | refine SX.block ?_ | refine SX.endBlock ?_ | refine SX.exit rfl ?_ | refine SX.cond_t rfl (by first | with_reducible rfl | decide) ?_ | refine SX.cond_f rfl (by first | with_reducible rfl | decide) ?_ | refine SXL.guard_t rfl rfl (by first | with_reducible rfl | decide) ?_ | refine SXL.guard_f rfl rfl (by first | with_reducible rfl | decide) rfl ?_ | refine SXL.guard_n rfl rfl (by first | with_reducible rfl | decide) ?_)
  refine SXL.split (s := 27) rfl (fun hs => ?_) (fun hs => ?_)
  · repeat (first | refine SXL.pure rfl rfl ?_ | refine SXL.load rfl inferInstance rfl rfl ?_ | refine SXL.store rfl rfl inferInstance rfl ?_ | refine SXL.nil ?_ | refine SX.region ?_ | refine SX.seq ?_ | refine SX.skip ?_ | refine SX.block ?_ | refine SX.endBlock ?_ | refine SX.exit rfl ?_ | refine SX.cond_t rfl (by first | with_reducible rfl | decide) ?_ | refine SX.cond_f rfl (by first | with_reducible rfl | decide) ?_ | refine SXL.guard_t rfl rfl (by first | with_reducible rfl | decide) ?_ | refine SXL.guard_f rfl rfl (by first | with_reducible rfl | decide) rfl ?_ | refine SXL.guard_n rfl rfl (by first | with_reducible rfl | decide) ?_)
    refine SX.ret (M' := F) rfl (Evals.tmp rfl Evals.nil) ?_ inferInstance
    exact h
  · have hsh : shortB l = true := by simpa using hs
    unfold shortB at hsh
    rw [Bool.and_eq_true, decide_eq_true_eq] at hsh
    have hll := hsh.2
    repeat (first | refine SXL.pure rfl rfl ?_ | refine SXL.load rfl inferInstance rfl rfl ?_ | refine SXL.store rfl rfl inferInstance rfl ?_ | refine SXL.nil ?_ | refine SX.region ?_ | refine SX.seq ?_ | refine SX.skip ?_ | refine SX.block ?_ | refine SX.endBlock ?_ | refine SX.exit rfl ?_ | refine SX.cond_t rfl (by first | with_reducible rfl | decide) ?_ | refine SX.cond_f rfl (by first | with_reducible rfl | decide) ?_ | refine SXL.guard_t rfl rfl (by first | with_reducible rfl | decide) ?_ | refine SXL.guard_f rfl rfl (by first | with_reducible rfl | decide) rfl ?_ | refine SXL.guard_n rfl rfl (by first | with_reducible rfl | decide) ?_)
    refine SX.condp rfl (fun hl => ?_) (fun hl => ?_)
    · repeat (first | refine SXL.pure rfl rfl ?_ | refine SXL.load rfl inferInstance rfl rfl ?_ | refine SXL.store rfl rfl inferInstance rfl ?_ | refine SXL.nil ?_ | refine SX.region ?_ | refine SX.seq ?_ | refine SX.skip ?_ | refine SX.block ?_ | refine SX.endBlock ?_ | refine SX.exit rfl ?_ | refine SX.cond_t rfl (by first | with_reducible rfl | decide) ?_ | refine SX.cond_f rfl (by first | with_reducible rfl | decide) ?_ | refine SXL.guard_t rfl rfl (by first | with_reducible rfl | decide) ?_ | refine SXL.guard_f rfl rfl (by first | with_reducible rfl | decide) rfl ?_ | refine SXL.guard_n rfl rfl (by first | with_reducible rfl | decide) ?_)
      refine SX.ret (M' := F) rfl (Evals.tmp rfl Evals.nil) ?_ inferInstance
      exact h
    · repeat (first | refine SXL.pure rfl rfl ?_ | refine SXL.load rfl inferInstance rfl rfl ?_ | refine SXL.store rfl rfl inferInstance rfl ?_ | refine SXL.nil ?_ | refine SX.region ?_ | refine SX.seq ?_ | refine SX.skip ?_ | refine SX.block ?_ | refine SX.endBlock ?_ | refine SX.exit rfl ?_ | refine SX.cond_t rfl (by first | with_reducible rfl | decide) ?_ | refine SX.cond_f rfl (by first | with_reducible rfl | decide) ?_ | refine SXL.guard_t rfl rfl (by first | with_reducible rfl | decide) ?_ | refine SXL.guard_f rfl rfl (by first | with_reducible rfl | decide) rfl ?_ | refine SXL.guard_n rfl rfl (by first | with_reducible rfl | decide) ?_)
      refine SXL.call rfl rfl rfl ?_
      refine (entriesOf_S inferInstance hc (by omega) (fun A1 c1 hc1 => callK.ret ?_))
      repeat (first | refine SXL.pure rfl rfl ?_ | refine SXL.load rfl inferInstance rfl rfl ?_ | refine SXL.store rfl rfl inferInstance rfl ?_ | refine SXL.nil ?_ | refine SX.region ?_ | refine SX.seq ?_ | refine SX.skip ?_ | refine SX.block ?_ | refine SX.endBlock ?_ | refine SX.exit rfl ?_ | refine SX.cond_t rfl (by first | with_reducible rfl | decide) ?_ | refine SX.cond_f rfl (by first | with_reducible rfl | decide) ?_ | refine SXL.guard_t rfl rfl (by first | with_reducible rfl | decide) ?_ | refine SXL.guard_f rfl rfl (by first | with_reducible rfl | decide) rfl ?_ | refine SXL.guard_n rfl rfl (by first | with_reducible rfl | decide) ?_)
      refine SXL.call rfl rfl rfl ?_
      refine (Put_S inferInstance hc (by omega) hw (fun r n hm A2 c2 hc2 => callK.ret ?_))
      repeat (first | refine SXL.pure rfl rfl ?_ | refine SXL.load rfl inferInstance rfl rfl ?_ | refine SXL.store rfl rfl inferInstance rfl ?_ | refine SXL.nil ?_ | refine SX.region ?_ | refine SX.seq ?_ | refine SX.skip ?_ | refine SX.block ?_ | refine SX.endBlock ?_ | refine SX.exit rfl ?_ | refine SX.cond_t rfl (by first | with_reducible rfl | decide) ?_ | refine SX.cond_f rfl (by first | with_reducible rfl | decide) ?_ | refine SXL.guard_t rfl rfl (by first | with_reducible rfl | decide) ?_ | refine SXL.guard_f rfl rfl (by first | with_reducible rfl | decide) rfl ?_ | refine SXL.guard_n rfl rfl (by first | with_reducible rfl | decide) ?_)
      refine SXL.call rfl rfl rfl ?_
      refine (RPut_S inferInstance hc1 (by omega) hw (fun r' n' hm' => callK.ret ?_))
      rw [hm] at hm'
      simp only [Prod.mk.injEq] at hm'
      obtain ⟨rfl, rfl⟩ := hm'
      repeat (first | refine SXL.pure rfl rfl ?_ | refine SXL.load rfl inferInstance rfl rfl ?_ | refine SXL.store rfl rfl inferInstance rfl ?_ | refine SXL.nil ?_ | refine SX.region ?_ | refine SX.seq ?_ | refine SX.skip ?_ | refine SX.block ?_ | refine SX.endBlock ?_ | refine SX.exit rfl ?_ | refine SX.cond_t rfl (by first | with_reducible rfl | decide) ?_ | refine SX.cond_f rfl (by first | with_reducible rfl | decide) ?_ | refine SXL.guard_t rfl rfl (by first | with_reducible rfl | decide) ?_ | refine SXL.guard_f rfl rfl (by first | with_reducible rfl | decide) rfl ?_ | refine SXL.guard_n rfl rfl (by first | with_reducible rfl | decide) ?_)
      refine SXA.begin [.own A2 (rowR (Kd.int .u8) 5 (.slice A2 r.length c2) r), .own (some ⟨p, 0, none⟩) (cellsR p [.int .u64 x.c, .int .u32 x.i, .int .u32 x.g, .string x.s] 41)] [] ?_
      (first | refine SXA.pure 0 rfl (by decide +kernel) rfl rfl rfl ?_ | refine SXA.skip 0 rfl (by decide +kernel) rfl rfl ?_ | refine SXA.load 0 rfl (by decide +kernel) rfl rfl inferInstance rfl rfl inferInstance ?_ | refine SXA.store 0 rfl (by decide +kernel) rfl rfl inferInstance rfl inferInstance ?_)
      refine SXA.bytesStr 1 rfl (by decide +kernel) rfl rfl inferInstance rfl Try.underlying22 Try.underlying5 Try.underlying9 rfl inferInstance ?_
      (first | refine SXA.pure 2 rfl (by decide +kernel) rfl rfl rfl ?_ | refine SXA.skip 2 rfl (by decide +kernel) rfl rfl ?_ | refine SXA.load 2 rfl (by decide +kernel) rfl rfl inferInstance rfl rfl inferInstance ?_ | refine SXA.store 2 rfl (by decide +kernel) rfl rfl inferInstance rfl inferInstance ?_)
      (first | refine SXA.pure 3 rfl (by decide +kernel) rfl rfl rfl ?_ | refine SXA.skip 3 rfl (by decide +kernel) rfl rfl ?_ | refine SXA.load 3 rfl (by decide +kernel) rfl rfl inferInstance rfl rfl inferInstance ?_ | refine SXA.store 3 rfl (by decide +kernel) rfl rfl inferInstance rfl inferInstance ?_)
      (first | refine SXA.pure 4 rfl (by decide +kernel) rfl rfl rfl ?_ | refine SXA.skip 4 rfl (by decide +kernel) rfl rfl ?_ | refine SXA.load 4 rfl (by decide +kernel) rfl rfl inferInstance rfl rfl inferInstance ?_ | refine SXA.store 4 rfl (by decide +kernel) rfl rfl inferInstance rfl inferInstance ?_)
      refine SXA.know 49 false rfl (by simp) ?_
      (first | refine SXA.pure 5 rfl (by decide +kernel) rfl rfl rfl ?_ | refine SXA.skip 5 rfl (by decide +kernel) rfl rfl ?_ | refine SXA.load 5 rfl (by decide +kernel) rfl rfl inferInstance rfl rfl inferInstance ?_ | refine SXA.store 5 rfl (by decide +kernel) rfl rfl inferInstance rfl inferInstance ?_)
      (first | refine SXA.pure 6 rfl (by decide +kernel) rfl rfl rfl ?_ | refine SXA.skip 6 rfl (by decide +kernel) rfl rfl ?_ | refine SXA.load 6 rfl (by decide +kernel) rfl rfl inferInstance rfl rfl inferInstance ?_ | refine SXA.store 6 rfl (by decide +kernel) rfl rfl inferInstance rfl inferInstance ?_)
      (first | refine SXA.pure 7 rfl (by decide +kernel) rfl rfl rfl ?_ | refine SXA.skip 7 rfl (by decide +kernel) rfl rfl ?_ | refine SXA.load 7 rfl (by decide +kernel) rfl rfl inferInstance rfl rfl inferInstance ?_ | refine SXA.store 7 rfl (by decide +kernel) rfl rfl inferInstance rfl inferInstance ?_)
      (first | refine SXA.pure 8 rfl (by decide +kernel) rfl rfl rfl ?_ | refine SXA.skip 8 rfl (by decide +kernel) rfl rfl ?_ | refine SXA.load 8 rfl (by decide +kernel) rfl rfl inferInstance rfl rfl inferInstance ?_ | refine SXA.store 8 rfl (by decide +kernel) rfl rfl inferInstance rfl inferInstance ?_)
      (first | refine SXA.pure 9 rfl (by decide +kernel) rfl rfl rfl ?_ | refine SXA.skip 9 rfl (by decide +kernel) rfl rfl ?_ | refine SXA.load 9 rfl (by decide +kernel) rfl rfl inferInstance rfl rfl inferInstance ?_ | refine SXA.store 9 rfl (by decide +kernel) rfl rfl inferInstance rfl inferInstance ?_)
      refine SXA.know 54 false rfl (by simp) ?_
      (first | refine SXA.pure 10 rfl (by decide +kernel) rfl rfl rfl ?_ | refine SXA.skip 10 rfl (by decide +kernel) rfl rfl ?_ | refine SXA.load 10 rfl (by decide +kernel) rfl rfl inferInstance rfl rfl inferInstance ?_ | refine SXA.store 10 rfl (by decide +kernel) rfl rfl inferInstance rfl inferInstance ?_)
      (first | refine SXA.pure 11 rfl (by decide +kernel) rfl rfl rfl ?_ | refine SXA.skip 11 rfl (by decide +kernel) rfl rfl ?_ | refine SXA.load 11 rfl (by decide +kernel) rfl rfl inferInstance rfl rfl inferInstance ?_ | refine SXA.store 11 rfl (by decide +kernel) rfl rfl inferInstance rfl inferInstance ?_)
      (first | refine SXA.pure 13 rfl (by decide +kernel) rfl rfl rfl ?_ | refine SXA.skip 13 rfl (by decide +kernel) rfl rfl ?_ | refine SXA.load 13 rfl (by decide +kernel) rfl rfl inferInstance rfl rfl inferInstance ?_ | refine SXA.store 13 rfl (by decide +kernel) rfl rfl inferInstance rfl inferInstance ?_)
      (first | refine SXA.pure 14 rfl (by decide +kernel) rfl rfl rfl ?_ | refine SXA.skip 14 rfl (by decide +kernel) rfl rfl ?_ | refine SXA.load 14 rfl (by decide +kernel) rfl rfl inferInstance rfl rfl inferInstance ?_ | refine SXA.store 14 rfl (by decide +kernel) rfl rfl inferInstance rfl inferInstance ?_)
      refine SXA.one 12 (by decide +kernel) rfl ?_
      refine SXL.guard_t rfl rfl (by first | with_reducible rfl | decide) ?_
      refine SXL.call rfl rfl rfl ?_
      refine (Name_S x.s (callK.ret ?_))
      refine SXL.nil (SXA.next inferInstance ?_)
      refine SXA.one 15 (by decide +kernel) rfl ?_
      refine SXL.guard_t rfl rfl (by first | with_reducible rfl | decide) ?_
      refine SXL.call rfl rfl rfl ?_
      refine (RName_S x.s (callK.ret ?_))
      refine SXL.nil (SXA.next inferInstance ?_)
      (first | refine SXA.pure 16 rfl (by decide +kernel) rfl rfl rfl ?_ | refine SXA.skip 16 rfl (by decide +kernel) rfl rfl ?_ | refine SXA.load 16 rfl (by decide +kernel) rfl rfl inferInstance rfl rfl inferInstance ?_ | refine SXA.store 16 rfl (by decide +kernel) rfl rfl inferInstance rfl inferInstance ?_)
      (first | refine SXA.pure 17 rfl (by decide +kernel) rfl rfl rfl ?_ | refine SXA.skip 17 rfl (by decide +kernel) rfl rfl ?_ | refine SXA.load 17 rfl (by decide +kernel) rfl rfl inferInstance rfl rfl inferInstance ?_ | refine SXA.store 17 rfl (by decide +kernel) rfl rfl inferInstance rfl inferInstance ?_)
      (first | refine SXA.pure 18 rfl (by decide +kernel) rfl rfl rfl ?_ | refine SXA.skip 18 rfl (by decide +kernel) rfl rfl ?_ | refine SXA.load 18 rfl (by decide +kernel) rfl rfl inferInstance rfl rfl inferInstance ?_ | refine SXA.store 18 rfl (by decide +kernel) rfl rfl inferInstance rfl inferInstance ?_)
      refine SXA.know 63 false rfl (by simp) ?_
      (first | refine SXA.pure 19 rfl (by decide +kernel) rfl rfl rfl ?_ | refine SXA.skip 19 rfl (by decide +kernel) rfl rfl ?_ | refine SXA.load 19 rfl (by decide +kernel) rfl rfl inferInstance rfl rfl inferInstance ?_ | refine SXA.store 19 rfl (by decide +kernel) rfl rfl inferInstance rfl inferInstance ?_)
      (first | refine SXA.pure 20 rfl (by decide +kernel) rfl rfl rfl ?_ | refine SXA.skip 20 rfl (by decide +kernel) rfl rfl ?_ | refine SXA.load 20 rfl (by decide +kernel) rfl rfl inferInstance rfl rfl inferInstance ?_ | refine SXA.store 20 rfl (by decide +kernel) rfl rfl inferInstance rfl inferInstance ?_)
      (first | refine SXA.pure 21 rfl (by decide +kernel) rfl rfl rfl ?_ | refine SXA.skip 21 rfl (by decide +kernel) rfl rfl ?_ | refine SXA.load 21 rfl (by decide +kernel) rfl rfl inferInstance rfl rfl inferInstance ?_ | refine SXA.store 21 rfl (by decide +kernel) rfl rfl inferInstance rfl inferInstance ?_)
      (first | refine SXA.pure 23 rfl (by decide +kernel) rfl rfl rfl ?_ | refine SXA.skip 23 rfl (by decide +kernel) rfl rfl ?_ | refine SXA.load 23 rfl (by decide +kernel) rfl rfl inferInstance rfl rfl inferInstance ?_ | refine SXA.store 23 rfl (by decide +kernel) rfl rfl inferInstance rfl inferInstance ?_)
      (first | refine SXA.pure 24 rfl (by decide +kernel) rfl rfl rfl ?_ | refine SXA.skip 24 rfl (by decide +kernel) rfl rfl ?_ | refine SXA.load 24 rfl (by decide +kernel) rfl rfl inferInstance rfl rfl inferInstance ?_ | refine SXA.store 24 rfl (by decide +kernel) rfl rfl inferInstance rfl inferInstance ?_)
      (first | refine SXA.pure 25 rfl (by decide +kernel) rfl rfl rfl ?_ | refine SXA.skip 25 rfl (by decide +kernel) rfl rfl ?_ | refine SXA.load 25 rfl (by decide +kernel) rfl rfl inferInstance rfl rfl inferInstance ?_ | refine SXA.store 25 rfl (by decide +kernel) rfl rfl inferInstance rfl inferInstance ?_)
      refine SXA.one 22 (by decide +kernel) rfl ?_
      refine SXL.guard_t rfl rfl (by first | with_reducible rfl | decide) ?_
      refine SXL.call rfl rfl rfl ?_
      refine (Find_S x.s inferInstance hc (callK.ret ?_))
      refine SXL.nil (SXA.next inferInstance ?_)
      refine SXA.one 26 (by decide +kernel) rfl ?_
      refine SXL.guard_t rfl rfl (by first | with_reducible rfl | decide) ?_
      refine SXL.call rfl rfl rfl ?_
      refine (RFind_S x.s inferInstance hc1 (callK.ret ?_))
      refine SXL.nil (SXA.next inferInstance ?_)
      (first | refine SXA.pure 27 rfl (by decide +kernel) rfl rfl rfl ?_ | refine SXA.skip 27 rfl (by decide +kernel) rfl rfl ?_ | refine SXA.load 27 rfl (by decide +kernel) rfl rfl inferInstance rfl rfl inferInstance ?_ | refine SXA.store 27 rfl (by decide +kernel) rfl rfl inferInstance rfl inferInstance ?_)
      (first | refine SXA.pure 28 rfl (by decide +kernel) rfl rfl rfl ?_ | refine SXA.skip 28 rfl (by decide +kernel) rfl rfl ?_ | refine SXA.load 28 rfl (by decide +kernel) rfl rfl inferInstance rfl rfl inferInstance ?_ | refine SXA.store 28 rfl (by decide +kernel) rfl rfl inferInstance rfl inferInstance ?_)
      refine SXA.done (by decide +kernel) ?_
      refine SX.know 73 false rfl (by simp) ?_
      repeat (first | refine SXL.pure rfl rfl ?_ | refine SXL.load rfl inferInstance rfl rfl ?_ | refine SXL.store rfl rfl inferInstance rfl ?_ | refine SXL.nil ?_ | refine SX.region ?_ | refine SX.seq ?_ | refine SX.skip ?_ | refine SX.block ?_ | refine SX.endBlock ?_ | refine SX.exit rfl ?_ | refine SX.cond_t rfl (by first | with_reducible rfl | decide) ?_ | refine SX.cond_f rfl (by first | with_reducible rfl | decide) ?_ | refine SXL.guard_t rfl rfl (by first | with_reducible rfl | decide) ?_ | refine SXL.guard_f rfl rfl (by first | with_reducible rfl | decide) rfl ?_ | refine SXL.guard_n rfl rfl (by first | with_reducible rfl | decide) ?_)
      refine SXL.call rfl rfl rfl ?_
      refine (Add_S x inferInstance hc (by omega) (fun r1 n1 hq1 A3 c3 hc3 => callK.ret ?_))
      repeat (first | refine SXL.pure rfl rfl ?_ | refine SXL.load rfl inferInstance rfl rfl ?_ | refine SXL.store rfl rfl inferInstance rfl ?_ | refine SXL.nil ?_ | refine SX.region ?_ | refine SX.seq ?_ | refine SX.skip ?_ | refine SX.block ?_ | refine SX.endBlock ?_ | refine SX.exit rfl ?_ | refine SX.cond_t rfl (by first | with_reducible rfl | decide) ?_ | refine SX.cond_f rfl (by first | with_reducible rfl | decide) ?_ | refine SXL.guard_t rfl rfl (by first | with_reducible rfl | decide) ?_ | refine SXL.guard_f rfl rfl (by first | with_reducible rfl | decide) rfl ?_ | refine SXL.guard_n rfl rfl (by first | with_reducible rfl | decide) ?_)
      refine SXL.call rfl rfl rfl ?_
      refine (RAdd_S x inferInstance hc1 (by omega) (fun r1' n1' hm1' A4 c4 hc4 => callK.ret ?_))
      rw [hq1] at hm1'
      simp only [Prod.mk.injEq] at hm1'
      obtain ⟨rfl, rfl⟩ := hm1'
      have hr1 : r1.length ≤ 25 := by
        have h9 := addM_len l x
        rw [hq1] at h9
        dsimp only at h9
        omega
      repeat (first | refine SXL.pure rfl rfl ?_ | refine SXL.load rfl inferInstance rfl rfl ?_ | refine SXL.store rfl rfl inferInstance rfl ?_ | refine SXL.nil ?_ | refine SX.region ?_ | refine SX.seq ?_ | refine SX.skip ?_ | refine SX.block ?_ | refine SX.endBlock ?_ | refine SX.exit rfl ?_ | refine SX.cond_t rfl (by first | with_reducible rfl | decide) ?_ | refine SX.cond_f rfl (by first | with_reducible rfl | decide) ?_ | refine SXL.guard_t rfl rfl (by first | with_reducible rfl | decide) ?_ | refine SXL.guard_f rfl rfl (by first | with_reducible rfl | decide) rfl ?_ | refine SXL.guard_n rfl rfl (by first | with_reducible rfl | decide) ?_)
      refine SXL.know 95 false rfl (by simp) ?_
      repeat (first | refine SXL.pure rfl rfl ?_ | refine SXL.load rfl inferInstance rfl rfl ?_ | refine SXL.store rfl rfl inferInstance rfl ?_ | refine SXL.nil ?_ | refine SX.region ?_ | refine SX.seq ?_ | refine SX.skip ?_ | refine SX.block ?_ | refine SX.endBlock ?_ | refine SX.exit rfl ?_ | refine SX.cond_t rfl (by first | with_reducible rfl | decide) ?_ | refine SX.cond_f rfl (by first | with_reducible rfl | decide) ?_ | refine SXL.guard_t rfl rfl (by first | with_reducible rfl | decide) ?_ | refine SXL.guard_f rfl rfl (by first | with_reducible rfl | decide) rfl ?_ | refine SXL.guard_n rfl rfl (by first | with_reducible rfl | decide) ?_)
      refine SXL.call rfl rfl rfl ?_
      refine (entriesOf_S inferInstance hc3 (by omega) (fun A5 c5 hc5 => callK.ret ?_))
      repeat (first | refine SXL.pure rfl rfl ?_ | refine SXL.load rfl inferInstance rfl rfl ?_ | refine SXL.store rfl rfl inferInstance rfl ?_ | refine SXL.nil ?_ | refine SX.region ?_ | refine SX.seq ?_ | refine SX.skip ?_ | refine SX.block ?_ | refine SX.endBlock ?_ | refine SX.exit rfl ?_ | refine SX.cond_t rfl (by first | with_reducible rfl | decide) ?_ | refine SX.cond_f rfl (by first | with_reducible rfl | decide) ?_ | refine SXL.guard_t rfl rfl (by first | with_reducible rfl | decide) ?_ | refine SXL.guard_f rfl rfl (by first | with_reducible rfl | decide) rfl ?_ | refine SXL.guard_n rfl rfl (by first | with_reducible rfl | decide) ?_)
      refine SXL.call rfl rfl rfl ?_
      refine (Same_S inferInstance inferInstance hc5 hc4 (callK.ret ?_))
      repeat (first | refine SXL.pure rfl rfl ?_ | refine SXL.load rfl inferInstance rfl rfl ?_ | refine SXL.store rfl rfl inferInstance rfl ?_ | refine SXL.nil ?_ | refine SX.region ?_ | refine SX.seq ?_ | refine SX.skip ?_ | refine SX.block ?_ | refine SX.endBlock ?_ | refine SX.exit rfl ?_ | refine SX.cond_t rfl (by first | with_reducible rfl | decide) ?_ | refine SX.cond_f rfl (by first | with_reducible rfl | decide) ?_ | refine SXL.guard_t rfl rfl (by first | with_reducible rfl | decide) ?_ | refine SXL.guard_f rfl rfl (by first | with_reducible rfl | decide) rfl ?_ | refine SXL.guard_n rfl rfl (by first | with_reducible rfl | decide) ?_)
      refine SXL.call rfl rfl rfl ?_
      refine (Remove_S x.s inferInstance hc (by omega) (fun r2 n2 hm2 A6 c6 hc6 => callK.ret ?_))
      repeat (first | refine SXL.pure rfl rfl ?_ | refine SXL.load rfl inferInstance rfl rfl ?_ | refine SXL.store rfl rfl inferInstance rfl ?_ | refine SXL.nil ?_ | refine SX.region ?_ | refine SX.seq ?_ | refine SX.skip ?_ | refine SX.block ?_ | refine SX.endBlock ?_ | refine SX.exit rfl ?_ | refine SX.cond_t rfl (by first | with_reducible rfl | decide) ?_ | refine SX.cond_f rfl (by first | with_reducible rfl | decide) ?_ | refine SXL.guard_t rfl rfl (by first | with_reducible rfl | decide) ?_ | refine SXL.guard_f rfl rfl (by first | with_reducible rfl | decide) rfl ?_ | refine SXL.guard_n rfl rfl (by first | with_reducible rfl | decide) ?_)
      refine SXL.call rfl rfl rfl ?_
      refine (RRemove_S x.s inferInstance hc1 (by omega) (fun r2' n2' hm2' A7 c7 hc7 => callK.ret ?_))
      rw [hm2] at hm2'
      simp only [Prod.mk.injEq] at hm2'
      obtain ⟨rfl, rfl⟩ := hm2'
      have hr2 : r2.length ≤ 25 := by
        have h9 := removeM_len l x.s
        rw [hm2] at h9
        dsimp only at h9
        omega
      repeat (first | refine SXL.pure rfl rfl ?_ | refine SXL.load rfl inferInstance rfl rfl ?_ | refine SXL.store rfl rfl inferInstance rfl ?_ | refine SXL.nil ?_ | refine SX.region ?_ | refine SX.seq ?_ | refine SX.skip ?_ | refine SX.block ?_ | refine SX.endBlock ?_ | refine SX.exit rfl ?_ | refine SX.cond_t rfl (by first | with_reducible rfl | decide) ?_ | refine SX.cond_f rfl (by first | with_reducible rfl | decide) ?_ | refine SXL.guard_t rfl rfl (by first | with_reducible rfl | decide) ?_ | refine SXL.guard_f rfl rfl (by first | with_reducible rfl | decide) rfl ?_ | refine SXL.guard_n rfl rfl (by first | with_reducible rfl | decide) ?_)
      refine SXL.know 119 false rfl (by simp) ?_
      repeat (first | refine SXL.pure rfl rfl ?_ | refine SXL.load rfl inferInstance rfl rfl ?_ | refine SXL.store rfl rfl inferInstance rfl ?_ | refine SXL.nil ?_ | refine SX.region ?_ | refine SX.seq ?_ | refine SX.skip ?_ | refine SX.block ?_ | refine SX.endBlock ?_ | refine SX.exit rfl ?_ | refine SX.cond_t rfl (by first | with_reducible rfl | decide) ?_ | refine SX.cond_f rfl (by first | with_reducible rfl | decide) ?_ | refine SXL.guard_t rfl rfl (by first | with_reducible rfl | decide) ?_ | refine SXL.guard_f rfl rfl (by first | with_reducible rfl | decide) rfl ?_ | refine SXL.guard_n rfl rfl (by first | with_reducible rfl | decide) ?_)
      refine SXL.call rfl rfl rfl ?_
      refine (entriesOf_S inferInstance hc6 (by omega) (fun A8 c8 hc8 => callK.ret ?_))
      repeat (first | refine SXL.pure rfl rfl ?_ | refine SXL.load rfl inferInstance rfl rfl ?_ | refine SXL.store rfl rfl inferInstance rfl ?_ | refine SXL.nil ?_ | refine SX.region ?_ | refine SX.seq ?_ | refine SX.skip ?_ | refine SX.block ?_ | refine SX.endBlock ?_ | refine SX.exit rfl ?_ | refine SX.cond_t rfl (by first | with_reducible rfl | decide) ?_ | refine SX.cond_f rfl (by first | with_reducible rfl | decide) ?_ | refine SXL.guard_t rfl rfl (by first | with_reducible rfl | decide) ?_ | refine SXL.guard_f rfl rfl (by first | with_reducible rfl | decide) rfl ?_ | refine SXL.guard_n rfl rfl (by first | with_reducible rfl | decide) ?_)
      refine SXL.call rfl rfl rfl ?_
      refine (Same_S inferInstance inferInstance hc8 hc7 (callK.ret ?_))
      repeat (first | refine SXL.pure rfl rfl ?_ | refine SXL.load rfl inferInstance rfl rfl ?_ | refine SXL.store rfl rfl inferInstance rfl ?_ | refine SXL.nil ?_ | refine SX.region ?_ | refine SX.seq ?_ | refine SX.skip ?_ | refine SX.block ?_ | refine SX.endBlock ?_ | refine SX.exit rfl ?_ | refine SX.cond_t rfl (by first | with_reducible rfl | decide) ?_ | refine SX.cond_f rfl (by first | with_reducible rfl | decide) ?_ | refine SXL.guard_t rfl rfl (by first | with_reducible rfl | decide) ?_ | refine SXL.guard_f rfl rfl (by first | with_reducible rfl | decide) rfl ?_ | refine SXL.guard_n rfl rfl (by first | with_reducible rfl | decide) ?_)
      refine SXL.call rfl rfl rfl ?_
      refine (After_S ck most inferInstance hc (by omega) hm0 hm1 (fun r3 b3 hm3 A9 c9 hc9 => callK.ret ?_))
      repeat (first | refine SXL.pure rfl rfl ?_ | refine SXL.load rfl inferInstance rfl rfl ?_ | refine SXL.store rfl rfl inferInstance rfl ?_ | refine SXL.nil ?_ | refine SX.region ?_ | refine SX.seq ?_ | refine SX.skip ?_ | refine SX.block ?_ | refine SX.endBlock ?_ | refine SX.exit rfl ?_ | refine SX.cond_t rfl (by first | with_reducible rfl | decide) ?_ | refine SX.cond_f rfl (by first | with_reducible rfl | decide) ?_ | refine SXL.guard_t rfl rfl (by first | with_reducible rfl | decide) ?_ | refine SXL.guard_f rfl rfl (by first | with_reducible rfl | decide) rfl ?_ | refine SXL.guard_n rfl rfl (by first | with_reducible rfl | decide) ?_)
      refine SXL.call rfl rfl rfl ?_
      refine (RAfter_S ck most inferInstance hc1 (by omega) (fun r3' b3' hm3' A10 c10 hc10 => callK.ret ?_))
      rw [hm3] at hm3'
      simp only [Prod.mk.injEq] at hm3'
      obtain ⟨rfl, rfl⟩ := hm3'
      have hr3 : r3.length ≤ 25 := by
        have h9 := afterM_len l ck most
        rw [hm3] at h9
        dsimp only at h9
        omega
      repeat (first | refine SXL.pure rfl rfl ?_ | refine SXL.load rfl inferInstance rfl rfl ?_ | refine SXL.store rfl rfl inferInstance rfl ?_ | refine SXL.nil ?_ | refine SX.region ?_ | refine SX.seq ?_ | refine SX.skip ?_ | refine SX.block ?_ | refine SX.endBlock ?_ | refine SX.exit rfl ?_ | refine SX.cond_t rfl (by first | with_reducible rfl | decide) ?_ | refine SX.cond_f rfl (by first | with_reducible rfl | decide) ?_ | refine SXL.guard_t rfl rfl (by first | with_reducible rfl | decide) ?_ | refine SXL.guard_f rfl rfl (by first | with_reducible rfl | decide) rfl ?_ | refine SXL.guard_n rfl rfl (by first | with_reducible rfl | decide) ?_)
      refine SXL.know 143 true rfl (by simp) ?_
      repeat (first | refine SXL.pure rfl rfl ?_ | refine SXL.load rfl inferInstance rfl rfl ?_ | refine SXL.store rfl rfl inferInstance rfl ?_ | refine SXL.nil ?_ | refine SX.region ?_ | refine SX.seq ?_ | refine SX.skip ?_ | refine SX.block ?_ | refine SX.endBlock ?_ | refine SX.exit rfl ?_ | refine SX.cond_t rfl (by first | with_reducible rfl | decide) ?_ | refine SX.cond_f rfl (by first | with_reducible rfl | decide) ?_ | refine SXL.guard_t rfl rfl (by first | with_reducible rfl | decide) ?_ | refine SXL.guard_f rfl rfl (by first | with_reducible rfl | decide) rfl ?_ | refine SXL.guard_n rfl rfl (by first | with_reducible rfl | decide) ?_)
      refine SXL.call rfl rfl rfl ?_
      refine (entriesOf_S inferInstance hc9 (by omega) (fun A11 c11 hc11 => callK.ret ?_))
      repeat (first | refine SXL.pure rfl rfl ?_ | refine SXL.load rfl inferInstance rfl rfl ?_ | refine SXL.store rfl rfl inferInstance rfl ?_ | refine SXL.nil ?_ | refine SX.region ?_ | refine SX.seq ?_ | refine SX.skip ?_ | refine SX.block ?_ | refine SX.endBlock ?_ | refine SX.exit rfl ?_ | refine SX.cond_t rfl (by first | with_reducible rfl | decide) ?_ | refine SX.cond_f rfl (by first | with_reducible rfl | decide) ?_ | refine SXL.guard_t rfl rfl (by first | with_reducible rfl | decide) ?_ | refine SXL.guard_f rfl rfl (by first | with_reducible rfl | decide) rfl ?_ | refine SXL.guard_n rfl rfl (by first | with_reducible rfl | decide) ?_)
      refine SXL.call rfl rfl rfl ?_
      refine (Same_S inferInstance inferInstance hc11 hc10 (callK.ret ?_))
      repeat (first | refine SXL.pure rfl rfl ?_ | refine SXL.load rfl inferInstance rfl rfl ?_ | refine SXL.store rfl rfl inferInstance rfl ?_ | refine SXL.nil ?_ | refine SX.region ?_ | refine SX.seq ?_ | refine SX.skip ?_ | refine SX.block ?_ | refine SX.endBlock ?_ | refine SX.exit rfl ?_ | refine SX.cond_t rfl (by first | with_reducible rfl | decide) ?_ | refine SX.cond_f rfl (by first | with_reducible rfl | decide) ?_ | refine SXL.guard_t rfl rfl (by first | with_reducible rfl | decide) ?_ | refine SXL.guard_f rfl rfl (by first | with_reducible rfl | decide) rfl ?_ | refine SXL.guard_n rfl rfl (by first | with_reducible rfl | decide) ?_)
      refine SX.ret (M' := F) rfl (Evals.tmp rfl Evals.nil) ?_ inferInstance
      exact h
theorem wf_of_ok {e : Ent} (h : (Lit.int .u64 e.c).wf = true ∧ ((Lit.int .u32 e.i).wf = true ∧ (Lit.int .u32 e.g).wf = true) ∧ e.s.size ≤ maxLen) : e.wf :=
  ⟨(u64_of_wf _ h.1).1, (u64_of_wf _ h.1).2, (u32_of_wf _ h.2.1.1).1, (u32_of_wf _ h.2.1.1).2, (u32_of_wf _ h.2.1.2).1, (u32_of_wf _ h.2.1.2).2⟩
theorem heapE : Kd.Heap kE := Kd.heap_iso _ (Kd.heap_pair (Kd.heap_int _) (Kd.heap_pair (Kd.heap_iso _ (Kd.heap_pair (Kd.heap_int _) (Kd.heap_int _))) Kd.heap_string))
theorem DirDoes_any (A : Option Addr) (c : Nat) (l : List Ent) (xc xi xg : Int) (xs : ByteArray) (ck most : Int) (W : World) (hr : kE.C W A l.length l) (hc : l.length ≤ c)
    (hw : l.length ≤ maxLen ∧ ∀ e ∈ l, (Lit.int .u64 e.c).wf = true ∧ ((Lit.int .u32 e.i).wf = true ∧ (Lit.int .u32 e.g).wf = true) ∧ e.s.size ≤ maxLen)
    (wc : (Lit.int .u64 xc).wf = true) (wi : (Lit.int .u32 xi).wf = true) (wg : (Lit.int .u32 xg).wf = true) (ws : xs.size ≤ maxLen) (wk : (Lit.int .u64 ck).wf = true) (wm : (Lit.int .i64 most).wf = true) :
    Calls Try.prog 4 #[.slice A l.length c, .agg #[.int .u64 xc, .int .u32 xi, .int .u32 xg, .string xs], .int .u64 ck, .int .i64 most] W fun e w' => e = .returned (.bool true) ∧ Below W.heap.size W w' :=
  Fn.out W [.per (roR kE A l), .per (oldR W)] (Holds.ofStart (Holds.startRow (Holds.start0 W) (Kd.C_F heapE hr))) inferInstance
    (DirDoes_S (x := ⟨xc, xi, xg, xs⟩) inferInstance hc (fun e he => wf_of_ok (hw.2 e he)) (wf_of_ok (e := ⟨xc, xi, xg, xs⟩) ⟨wc, ⟨wi, wg⟩, ws⟩) (i64_of_wf _ wm).1 (i64_of_wf _ wm).2 ⟨rfl, inferInstance⟩)
end Go.Proofs.Ytlpjchighfdomaa.Sx
