/- Chapter 11's laws SlotGets, SlotUnlike, SlotFree, walked; conditions: those that each theorem names. -/
import Derived.Test.YtlpjchighfdomaaJV7
namespace Go.Proofs.Ytlpjchighfdomaa.Sx
open Go.RowKit Go.Proofs.Ytlpjchighfdomaa.Hm Go.Proofs.YtlpjchighfdomaaW.PrintWords Go.Proofs.YtlpjchighfdomaaW.PrintLast Go.Proofs.YtlpjchighfdomaaW.PrintMore
set_option linter.unusedVariables false
set_option linter.unusedSimpArgs false
attribute [local irreducible] SX SXL SXA St callK Post Evals

section
variable {F R : List Thing} {K : Ending → List Thing → Prop} {s : Sl} {A : Option Addr} {c : Nat}
set_option maxRecDepth 20000 in
theorem SlotGets_S {b : List Int} (hr : Ro (Kd.int .u8) A F b) (hc : b.length ≤ c) (hb : bytesB b = true) (h : K (.returned (.bool true)) F) :
    Fn (Try.prog) 11 [.slice A b.length c] F K := by
  refine Fn.enter Try.call11 Try.func11 rfl rfl rfl ?_
  repeat (first | refine SXL.pure rfl rfl ?_ | refine SXL.load rfl inferInstance rfl rfl ?_ | refine SXL.store rfl rfl inferInstance rfl ?_ | refine SXL.nil ?_ | refine SX.region ?_ | refine SX.seq ?_ | refine SX.skip ?_ | refine SX.block ?_ | refine SX.endBlock ?_ | refine SX.exit rfl ?_ | refine SX.cond_t rfl (by first | with_reducible rfl | decide) ?_ | refine SX.cond_f rfl (by first | with_reducible rfl | decide) ?_ | refine SXL.guard_t rfl rfl (by first | with_reducible rfl | decide) ?_ | refine SXL.guard_f rfl rfl (by first | with_reducible rfl | decide) rfl ?_ | refine SXL.guard_n rfl rfl (by first | with_reducible rfl | decide) ?_ | refine SXL.guard_fu rfl rfl rfl ?_ | refine SXL.guard_nu rfl rfl ?_)
  refine SXL.call rfl rfl rfl ?_
  refine (awake11_S (callK.ret ?_))
  repeat (first | refine SXL.pure rfl rfl ?_ | refine SXL.load rfl inferInstance rfl rfl ?_ | refine SXL.store rfl rfl inferInstance rfl ?_ | refine SXL.nil ?_ | refine SX.region ?_ | refine SX.seq ?_ | refine SX.skip ?_ | refine SX.block ?_ | refine SX.endBlock ?_ | refine SX.exit rfl ?_ | refine SX.cond_t rfl (by first | with_reducible rfl | decide) ?_ | refine SX.cond_f rfl (by first | with_reducible rfl | decide) ?_ | refine SXL.guard_t rfl rfl (by first | with_reducible rfl | decide) ?_ | refine SXL.guard_f rfl rfl (by first | with_reducible rfl | decide) rfl ?_ | refine SXL.guard_n rfl rfl (by first | with_reducible rfl | decide) ?_ | refine SXL.guard_fu rfl rfl rfl ?_ | refine SXL.guard_nu rfl rfl ?_)
  refine SX.condp rfl (fun hl => ?_) (fun hl => ?_)
  · repeat (first | refine SXL.pure rfl rfl ?_ | refine SXL.load rfl inferInstance rfl rfl ?_ | refine SXL.store rfl rfl inferInstance rfl ?_ | refine SXL.nil ?_ | refine SX.region ?_ | refine SX.seq ?_ | refine SX.skip ?_ | refine SX.block ?_ | refine SX.endBlock ?_ | refine SX.exit rfl ?_ | refine SX.cond_t rfl (by first | with_reducible rfl | decide) ?_ | refine SX.cond_f rfl (by first | with_reducible rfl | decide) ?_ | refine SXL.guard_t rfl rfl (by first | with_reducible rfl | decide) ?_ | refine SXL.guard_f rfl rfl (by first | with_reducible rfl | decide) rfl ?_ | refine SXL.guard_n rfl rfl (by first | with_reducible rfl | decide) ?_ | refine SXL.guard_fu rfl rfl rfl ?_ | refine SXL.guard_nu rfl rfl ?_)
    refine SX.ret (M' := F) rfl (Evals.tmp rfl Evals.nil) ?_ inferInstance
    exact h
  repeat (first | refine SXL.pure rfl rfl ?_ | refine SXL.load rfl inferInstance rfl rfl ?_ | refine SXL.store rfl rfl inferInstance rfl ?_ | refine SXL.nil ?_ | refine SX.region ?_ | refine SX.seq ?_ | refine SX.skip ?_ | refine SX.block ?_ | refine SX.endBlock ?_ | refine SX.exit rfl ?_ | refine SX.cond_t rfl (by first | with_reducible rfl | decide) ?_ | refine SX.cond_f rfl (by first | with_reducible rfl | decide) ?_ | refine SXL.guard_t rfl rfl (by first | with_reducible rfl | decide) ?_ | refine SXL.guard_f rfl rfl (by first | with_reducible rfl | decide) rfl ?_ | refine SXL.guard_n rfl rfl (by first | with_reducible rfl | decide) ?_ | refine SXL.guard_fu rfl rfl rfl ?_ | refine SXL.guard_nu rfl rfl ?_)
  refine SXL.call rfl rfl rfl ?_
  refine (Get11_S hr hc hb (by omega) (fun r n hm A1 c1 hc1 => callK.ret ?_))
  have hw := getS_wf hb hm
  repeat (first | refine SXL.pure rfl rfl ?_ | refine SXL.load rfl inferInstance rfl rfl ?_ | refine SXL.store rfl rfl inferInstance rfl ?_ | refine SXL.nil ?_ | refine SX.region ?_ | refine SX.seq ?_ | refine SX.skip ?_ | refine SX.block ?_ | refine SX.endBlock ?_ | refine SX.exit rfl ?_ | refine SX.cond_t rfl (by first | with_reducible rfl | decide) ?_ | refine SX.cond_f rfl (by first | with_reducible rfl | decide) ?_ | refine SXL.guard_t rfl rfl (by first | with_reducible rfl | decide) ?_ | refine SXL.guard_f rfl rfl (by first | with_reducible rfl | decide) rfl ?_ | refine SXL.guard_n rfl rfl (by first | with_reducible rfl | decide) ?_ | refine SXL.guard_fu rfl rfl rfl ?_ | refine SXL.guard_nu rfl rfl ?_)
  refine SXL.alloc rfl rfl (fun g => ?_)
  repeat (first | refine SXL.pure rfl rfl ?_ | refine SXL.load rfl inferInstance rfl rfl ?_ | refine SXL.store rfl rfl inferInstance rfl ?_ | refine SXL.nil ?_ | refine SX.region ?_ | refine SX.seq ?_ | refine SX.skip ?_ | refine SX.block ?_ | refine SX.endBlock ?_ | refine SX.exit rfl ?_ | refine SX.cond_t rfl (by first | with_reducible rfl | decide) ?_ | refine SX.cond_f rfl (by first | with_reducible rfl | decide) ?_ | refine SXL.guard_t rfl rfl (by first | with_reducible rfl | decide) ?_ | refine SXL.guard_f rfl rfl (by first | with_reducible rfl | decide) rfl ?_ | refine SXL.guard_n rfl rfl (by first | with_reducible rfl | decide) ?_ | refine SXL.guard_fu rfl rfl rfl ?_ | refine SXL.guard_nu rfl rfl ?_)
  refine SXL.bytesStr rfl inferInstance rfl Try.underlying22 Try.underlying5 Try.underlying9 rfl ?_
  repeat (first | refine SXL.pure rfl rfl ?_ | refine SXL.load rfl inferInstance rfl rfl ?_ | refine SXL.store rfl rfl inferInstance rfl ?_ | refine SXL.nil ?_ | refine SX.region ?_ | refine SX.seq ?_ | refine SX.skip ?_ | refine SX.block ?_ | refine SX.endBlock ?_ | refine SX.exit rfl ?_ | refine SX.cond_t rfl (by first | with_reducible rfl | decide) ?_ | refine SX.cond_f rfl (by first | with_reducible rfl | decide) ?_ | refine SXL.guard_t rfl rfl (by first | with_reducible rfl | decide) ?_ | refine SXL.guard_f rfl rfl (by first | with_reducible rfl | decide) rfl ?_ | refine SXL.guard_n rfl rfl (by first | with_reducible rfl | decide) ?_ | refine SXL.guard_fu rfl rfl rfl ?_ | refine SXL.guard_nu rfl rfl ?_)
  have hbs := bytesOf_strOfNums _ hb
  refine SXL.call rfl rfl rfl ?_
  refine (RGet11_S (strOfNums b) (by rw [size_strOfNums]; omega) (fun r' n' hm' => callK.ret ?_))
  rw [hbs, hm] at hm'
  simp only [Prod.mk.injEq] at hm'
  obtain ⟨rfl, rfl⟩ := hm'
  repeat (first | refine SXL.pure rfl rfl ?_ | refine SXL.load rfl inferInstance rfl rfl ?_ | refine SXL.store rfl rfl inferInstance rfl ?_ | refine SXL.nil ?_ | refine SX.region ?_ | refine SX.seq ?_ | refine SX.skip ?_ | refine SX.block ?_ | refine SX.endBlock ?_ | refine SX.exit rfl ?_ | refine SX.cond_t rfl (by first | with_reducible rfl | decide) ?_ | refine SX.cond_f rfl (by first | with_reducible rfl | decide) ?_ | refine SXL.guard_t rfl rfl (by first | with_reducible rfl | decide) ?_ | refine SXL.guard_f rfl rfl (by first | with_reducible rfl | decide) rfl ?_ | refine SXL.guard_n rfl rfl (by first | with_reducible rfl | decide) ?_ | refine SXL.guard_fu rfl rfl rfl ?_ | refine SXL.guard_nu rfl rfl ?_)
  refine SXL.alloc rfl rfl (fun q => ?_)
  repeat (first | refine SXL.pure rfl rfl ?_ | refine SXL.load rfl inferInstance rfl rfl ?_ | refine SXL.store rfl rfl inferInstance rfl ?_ | refine SXL.nil ?_ | refine SX.region ?_ | refine SX.seq ?_ | refine SX.skip ?_ | refine SX.block ?_ | refine SX.endBlock ?_ | refine SX.exit rfl ?_ | refine SX.cond_t rfl (by first | with_reducible rfl | decide) ?_ | refine SX.cond_f rfl (by first | with_reducible rfl | decide) ?_ | refine SXL.guard_t rfl rfl (by first | with_reducible rfl | decide) ?_ | refine SXL.guard_f rfl rfl (by first | with_reducible rfl | decide) rfl ?_ | refine SXL.guard_n rfl rfl (by first | with_reducible rfl | decide) ?_ | refine SXL.guard_fu rfl rfl rfl ?_ | refine SXL.guard_nu rfl rfl ?_)
  refine SXA.begin [.own (some ⟨g, 0, none⟩) (cellsR g (slC r A1 c1) 66), .own (some ⟨q, 0, none⟩) (cellsR q (srC r) 70), .own A1 (rowR (Kd.int .u8) 5 (.slice A1 r.d.length c1) r.d)] [] ?_
  unfold slC srC
  (first | refine SXA.pure 0 rfl (by decide +kernel) rfl rfl rfl ?_ | refine SXA.skip 0 rfl (by decide +kernel) rfl rfl ?_ | refine SXA.load 0 rfl (by decide +kernel) rfl rfl inferInstance rfl rfl inferInstance ?_ | refine SXA.store 0 rfl (by decide +kernel) rfl rfl inferInstance rfl inferInstance ?_)
  (first | refine SXA.pure 1 rfl (by decide +kernel) rfl rfl rfl ?_ | refine SXA.skip 1 rfl (by decide +kernel) rfl rfl ?_ | refine SXA.load 1 rfl (by decide +kernel) rfl rfl inferInstance rfl rfl inferInstance ?_ | refine SXA.store 1 rfl (by decide +kernel) rfl rfl inferInstance rfl inferInstance ?_)
  (first | refine SXA.pure 2 rfl (by decide +kernel) rfl rfl rfl ?_ | refine SXA.skip 2 rfl (by decide +kernel) rfl rfl ?_ | refine SXA.load 2 rfl (by decide +kernel) rfl rfl inferInstance rfl rfl inferInstance ?_ | refine SXA.store 2 rfl (by decide +kernel) rfl rfl inferInstance rfl inferInstance ?_)
  (first | refine SXA.pure 3 rfl (by decide +kernel) rfl rfl rfl ?_ | refine SXA.skip 3 rfl (by decide +kernel) rfl rfl ?_ | refine SXA.load 3 rfl (by decide +kernel) rfl rfl inferInstance rfl rfl inferInstance ?_ | refine SXA.store 3 rfl (by decide +kernel) rfl rfl inferInstance rfl inferInstance ?_)
  refine SXA.know 30 false rfl (by simp) ?_
  (first | refine SXA.pure 4 rfl (by decide +kernel) rfl rfl rfl ?_ | refine SXA.skip 4 rfl (by decide +kernel) rfl rfl ?_ | refine SXA.load 4 rfl (by decide +kernel) rfl rfl inferInstance rfl rfl inferInstance ?_ | refine SXA.store 4 rfl (by decide +kernel) rfl rfl inferInstance rfl inferInstance ?_)
  (first | refine SXA.pure 6 rfl (by decide +kernel) rfl rfl rfl ?_ | refine SXA.skip 6 rfl (by decide +kernel) rfl rfl ?_ | refine SXA.load 6 rfl (by decide +kernel) rfl rfl inferInstance rfl rfl inferInstance ?_ | refine SXA.store 6 rfl (by decide +kernel) rfl rfl inferInstance rfl inferInstance ?_)
  refine SXA.one 5 (by decide +kernel) rfl ?_
  refine SXL.guard_t rfl rfl (by first | with_reducible rfl | decide) ?_
  refine SXL.call rfl rfl rfl ?_
  refine (slotOf_S (s := r) inferInstance (callK.ret ?_))
  refine SXL.nil (SXA.next inferInstance ?_)
  refine SXA.one 7 (by decide +kernel) rfl ?_
  refine SXL.guard_t rfl rfl (by first | with_reducible rfl | decide) ?_
  refine SXL.neAgg rfl rfl inferInstance rfl rfl rfl rfl ?_
  refine SXL.nil (SXA.next inferInstance ?_)
  (first | refine SXA.pure 8 rfl (by decide +kernel) rfl rfl rfl ?_ | refine SXA.skip 8 rfl (by decide +kernel) rfl rfl ?_ | refine SXA.load 8 rfl (by decide +kernel) rfl rfl inferInstance rfl rfl inferInstance ?_ | refine SXA.store 8 rfl (by decide +kernel) rfl rfl inferInstance rfl inferInstance ?_)
  refine SXA.done (by decide +kernel) ?_
  refine SX.know 35 false rfl (by simp) ?_
  repeat (first | refine SXL.pure rfl rfl ?_ | refine SXL.load rfl inferInstance rfl rfl ?_ | refine SXL.store rfl rfl inferInstance rfl ?_ | refine SXL.nil ?_ | refine SX.region ?_ | refine SX.seq ?_ | refine SX.skip ?_ | refine SX.block ?_ | refine SX.endBlock ?_ | refine SX.exit rfl ?_ | refine SX.cond_t rfl (by first | with_reducible rfl | decide) ?_ | refine SX.cond_f rfl (by first | with_reducible rfl | decide) ?_ | refine SXL.guard_t rfl rfl (by first | with_reducible rfl | decide) ?_ | refine SXL.guard_f rfl rfl (by first | with_reducible rfl | decide) rfl ?_ | refine SXL.guard_n rfl rfl (by first | with_reducible rfl | decide) ?_ | refine SXL.guard_fu rfl rfl rfl ?_ | refine SXL.guard_nu rfl rfl ?_)
  refine SX.cond rfl (fun hn => ?_) (fun hn => ?_)
  · repeat (first | refine SXL.pure rfl rfl ?_ | refine SXL.load rfl inferInstance rfl rfl ?_ | refine SXL.store rfl rfl inferInstance rfl ?_ | refine SXL.nil ?_ | refine SX.region ?_ | refine SX.seq ?_ | refine SX.skip ?_ | refine SX.block ?_ | refine SX.endBlock ?_ | refine SX.exit rfl ?_ | refine SX.cond_t rfl (by first | with_reducible rfl | decide) ?_ | refine SX.cond_f rfl (by first | with_reducible rfl | decide) ?_ | refine SXL.guard_t rfl rfl (by first | with_reducible rfl | decide) ?_ | refine SXL.guard_f rfl rfl (by first | with_reducible rfl | decide) rfl ?_ | refine SXL.guard_n rfl rfl (by first | with_reducible rfl | decide) ?_ | refine SXL.guard_fu rfl rfl rfl ?_ | refine SXL.guard_nu rfl rfl ?_)
    refine SX.ret (M' := F) rfl (Evals.tmp rfl Evals.nil) ?_ inferInstance
    exact h
  obtain rfl : n = 0 := by simpa using hn
  obtain ⟨hp, -, -⟩ := getS_ok hb hm
  have hld := hw.2.1
  repeat (first | refine SXL.pure rfl rfl ?_ | refine SXL.load rfl inferInstance rfl rfl ?_ | refine SXL.store rfl rfl inferInstance rfl ?_ | refine SXL.nil ?_ | refine SX.region ?_ | refine SX.seq ?_ | refine SX.skip ?_ | refine SX.block ?_ | refine SX.endBlock ?_ | refine SX.exit rfl ?_ | refine SX.cond_t rfl (by first | with_reducible rfl | decide) ?_ | refine SX.cond_f rfl (by first | with_reducible rfl | decide) ?_ | refine SXL.guard_t rfl rfl (by first | with_reducible rfl | decide) ?_ | refine SXL.guard_f rfl rfl (by first | with_reducible rfl | decide) rfl ?_ | refine SXL.guard_n rfl rfl (by first | with_reducible rfl | decide) ?_ | refine SXL.guard_fu rfl rfl rfl ?_ | refine SXL.guard_nu rfl rfl ?_)
  refine SXL.call rfl rfl rfl ?_
  refine (Put11_S (s := r) inferInstance hc1 hw.1 (by omega) (fun r2 n2 hm2 A2 c2 hc2 => callK.ret ?_))
  rw [hp] at hm2
  simp only [Prod.mk.injEq] at hm2
  obtain ⟨rfl, rfl⟩ := hm2
  repeat (first | refine SXL.pure rfl rfl ?_ | refine SXL.load rfl inferInstance rfl rfl ?_ | refine SXL.store rfl rfl inferInstance rfl ?_ | refine SXL.nil ?_ | refine SX.region ?_ | refine SX.seq ?_ | refine SX.skip ?_ | refine SX.block ?_ | refine SX.endBlock ?_ | refine SX.exit rfl ?_ | refine SX.cond_t rfl (by first | with_reducible rfl | decide) ?_ | refine SX.cond_f rfl (by first | with_reducible rfl | decide) ?_ | refine SXL.guard_t rfl rfl (by first | with_reducible rfl | decide) ?_ | refine SXL.guard_f rfl rfl (by first | with_reducible rfl | decide) rfl ?_ | refine SXL.guard_n rfl rfl (by first | with_reducible rfl | decide) ?_ | refine SXL.guard_fu rfl rfl rfl ?_ | refine SXL.guard_nu rfl rfl ?_)
  refine SXL.bytesStr rfl inferInstance rfl Try.underlying22 Try.underlying5 Try.underlying9 rfl ?_
  repeat (first | refine SXL.pure rfl rfl ?_ | refine SXL.load rfl inferInstance rfl rfl ?_ | refine SXL.store rfl rfl inferInstance rfl ?_ | refine SXL.nil ?_ | refine SX.region ?_ | refine SX.seq ?_ | refine SX.skip ?_ | refine SX.block ?_ | refine SX.endBlock ?_ | refine SX.exit rfl ?_ | refine SX.cond_t rfl (by first | with_reducible rfl | decide) ?_ | refine SX.cond_f rfl (by first | with_reducible rfl | decide) ?_ | refine SXL.guard_t rfl rfl (by first | with_reducible rfl | decide) ?_ | refine SXL.guard_f rfl rfl (by first | with_reducible rfl | decide) rfl ?_ | refine SXL.guard_n rfl rfl (by first | with_reducible rfl | decide) ?_ | refine SXL.guard_fu rfl rfl rfl ?_ | refine SXL.guard_nu rfl rfl ?_)
  refine SXL.bytesStr rfl inferInstance rfl Try.underlying22 Try.underlying5 Try.underlying9 rfl ?_
  repeat (first | refine SXL.pure rfl rfl ?_ | refine SXL.load rfl inferInstance rfl rfl ?_ | refine SXL.store rfl rfl inferInstance rfl ?_ | refine SXL.nil ?_ | refine SX.region ?_ | refine SX.seq ?_ | refine SX.skip ?_ | refine SX.block ?_ | refine SX.endBlock ?_ | refine SX.exit rfl ?_ | refine SX.cond_t rfl (by first | with_reducible rfl | decide) ?_ | refine SX.cond_f rfl (by first | with_reducible rfl | decide) ?_ | refine SXL.guard_t rfl rfl (by first | with_reducible rfl | decide) ?_ | refine SXL.guard_f rfl rfl (by first | with_reducible rfl | decide) rfl ?_ | refine SXL.guard_n rfl rfl (by first | with_reducible rfl | decide) ?_ | refine SXL.guard_fu rfl rfl rfl ?_ | refine SXL.guard_nu rfl rfl ?_)
  refine SX.same 2 (.bool true) rfl (by simp) ?_
  refine SX.ret (M' := F) rfl (Evals.tmp rfl Evals.nil) ?_ inferInstance
  exact h
theorem sameM_iff {s u : Sl} (hs : s.wf) (hu : u.wf) : sameM s u = true ↔ s = u := by
  constructor
  · intro h
    unfold sameM at h
    simp only [Bool.and_eq_true, beq_iff_eq] at h
    obtain ⟨h1, h2, h3, h4, h5, h6, h7, h8, h9⟩ := h
    have h10 := (toList_iff _ _).1 h9
    rw [bytesOf_strOfNums _ hs.d, bytesOf_strOfNums _ hu.d] at h10
    cases s
    cases u
    simp_all
  · rintro rfl
    simp [sameM]
theorem putS_ok {s : Sl} {r : List Int} (h : putS s = (r, 0)) : okB s = true ∧ r = encS s := by
  unfold putS at h
  split at h
  · rename_i hk
    simp only [Prod.mk.injEq, and_true] at h
    exact ⟨hk, h.symm⟩
  · simp at h
theorem enc_wf {s : Sl} (hw : s.wf) (hl : s.d.length ≤ 768) : bytesB (encS s) = true := by
  unfold encS opq
  simp only [bytesB_append, hw.d, bytesB_zeros, bytesB_be64 _ hw.change.1 hw.change.2, bytesB_be64 _ hw.cookie.1 hw.cookie.2, bytesB_be64 _ hw.verf.1 hw.verf.2, bytesB_be32 _ hw.ino.1 hw.ino.2, bytesB_be32 _ hw.kind.1 hw.kind.2, bytesB_be32 _ hw.gen.1 hw.gen.2, bytesB_be32 _ hw.links.1 hw.links.2, bytesB_be32 _ hw.mode.1 hw.mode.2]
  rw [bytesB_be32 _ (by omega) (by omega)]
  rfl
set_option maxHeartbeats 1000000 in
set_option maxRecDepth 20000 in
theorem SlotUnlike_S {u : Sl} {B : Option Addr} {c' : Nat} {sm : Bool} (hr : Ro (Kd.int .u8) A F s.d) (hr2 : Ro (Kd.int .u8) B F u.d) (hc : s.d.length ≤ c) (hc' : u.d.length ≤ c') (hs : s.wf) (hu : u.wf) (h : K (.returned (.bool true)) F) :
    Fn (Try.prog) 14 [.agg (slC s A c).toArray, .agg (slC u B c').toArray, .bool sm] F K := by
  unfold slC
  refine Fn.enter Try.call14 Try.func14 rfl rfl rfl ?_
  repeat (first | refine SXL.pure rfl rfl ?_ | refine SXL.load rfl inferInstance rfl rfl ?_ | refine SXL.store rfl rfl inferInstance rfl ?_ | refine SXL.nil ?_ | refine SX.region ?_ | refine SX.seq ?_ | refine SX.skip ?_ | refine SX.block ?_ | refine SX.endBlock ?_ | refine SX.exit rfl ?_ | refine SX.cond_t rfl (by first | with_reducible rfl | decide) ?_ | refine SX.cond_f rfl (by first | with_reducible rfl | decide) ?_ | refine SXL.guard_t rfl rfl (by first | with_reducible rfl | decide) ?_ | refine SXL.guard_f rfl rfl (by first | with_reducible rfl | decide) rfl ?_ | refine SXL.guard_n rfl rfl (by first | with_reducible rfl | decide) ?_ | refine SXL.guard_fu rfl rfl rfl ?_ | refine SXL.guard_nu rfl rfl ?_)
  refine SXL.box rfl rfl rfl (fun b1 => ?_)
  repeat (first | refine SXL.pure rfl rfl ?_ | refine SXL.load rfl inferInstance rfl rfl ?_ | refine SXL.store rfl rfl inferInstance rfl ?_ | refine SXL.nil ?_ | refine SX.region ?_ | refine SX.seq ?_ | refine SX.skip ?_ | refine SX.block ?_ | refine SX.endBlock ?_ | refine SX.exit rfl ?_ | refine SX.cond_t rfl (by first | with_reducible rfl | decide) ?_ | refine SX.cond_f rfl (by first | with_reducible rfl | decide) ?_ | refine SXL.guard_t rfl rfl (by first | with_reducible rfl | decide) ?_ | refine SXL.guard_f rfl rfl (by first | with_reducible rfl | decide) rfl ?_ | refine SXL.guard_n rfl rfl (by first | with_reducible rfl | decide) ?_ | refine SXL.guard_fu rfl rfl rfl ?_ | refine SXL.guard_nu rfl rfl ?_)
  refine SXL.box rfl rfl rfl (fun b2 => ?_)
  repeat (first | refine SXL.pure rfl rfl ?_ | refine SXL.load rfl inferInstance rfl rfl ?_ | refine SXL.store rfl rfl inferInstance rfl ?_ | refine SXL.nil ?_ | refine SX.region ?_ | refine SX.seq ?_ | refine SX.skip ?_ | refine SX.block ?_ | refine SX.endBlock ?_ | refine SX.exit rfl ?_ | refine SX.cond_t rfl (by first | with_reducible rfl | decide) ?_ | refine SX.cond_f rfl (by first | with_reducible rfl | decide) ?_ | refine SXL.guard_t rfl rfl (by first | with_reducible rfl | decide) ?_ | refine SXL.guard_f rfl rfl (by first | with_reducible rfl | decide) rfl ?_ | refine SXL.guard_n rfl rfl (by first | with_reducible rfl | decide) ?_ | refine SXL.guard_fu rfl rfl rfl ?_ | refine SXL.guard_nu rfl rfl ?_)
  refine SXL.call rfl rfl rfl ?_
  refine (awake11_S (callK.ret ?_))
  repeat (first | refine SXL.pure rfl rfl ?_ | refine SXL.load rfl inferInstance rfl rfl ?_ | refine SXL.store rfl rfl inferInstance rfl ?_ | refine SXL.nil ?_ | refine SX.region ?_ | refine SX.seq ?_ | refine SX.skip ?_ | refine SX.block ?_ | refine SX.endBlock ?_ | refine SX.exit rfl ?_ | refine SX.cond_t rfl (by first | with_reducible rfl | decide) ?_ | refine SX.cond_f rfl (by first | with_reducible rfl | decide) ?_ | refine SXL.guard_t rfl rfl (by first | with_reducible rfl | decide) ?_ | refine SXL.guard_f rfl rfl (by first | with_reducible rfl | decide) rfl ?_ | refine SXL.guard_n rfl rfl (by first | with_reducible rfl | decide) ?_ | refine SXL.guard_fu rfl rfl rfl ?_ | refine SXL.guard_nu rfl rfl ?_)
  refine SXL.split (s := 19) rfl (fun h19 => ?_) (fun h19 => ?_)
  · repeat (first | refine SXL.pure rfl rfl ?_ | refine SXL.load rfl inferInstance rfl rfl ?_ | refine SXL.store rfl rfl inferInstance rfl ?_ | refine SXL.nil ?_ | refine SX.region ?_ | refine SX.seq ?_ | refine SX.skip ?_ | refine SX.block ?_ | refine SX.endBlock ?_ | refine SX.exit rfl ?_ | refine SX.cond_t rfl (by first | with_reducible rfl | decide) ?_ | refine SX.cond_f rfl (by first | with_reducible rfl | decide) ?_ | refine SXL.guard_t rfl rfl (by first | with_reducible rfl | decide) ?_ | refine SXL.guard_f rfl rfl (by first | with_reducible rfl | decide) rfl ?_ | refine SXL.guard_n rfl rfl (by first | with_reducible rfl | decide) ?_ | refine SXL.guard_fu rfl rfl rfl ?_ | refine SXL.guard_nu rfl rfl ?_)
    refine SX.ret (M' := F) rfl (Evals.tmp rfl Evals.nil) ?_ inferInstance
    exact h
  have h19' := of_decide_eq_false h19
  repeat (first | refine SXL.pure rfl rfl ?_ | refine SXL.load rfl inferInstance rfl rfl ?_ | refine SXL.store rfl rfl inferInstance rfl ?_ | refine SXL.nil ?_ | refine SX.region ?_ | refine SX.seq ?_ | refine SX.skip ?_ | refine SX.block ?_ | refine SX.endBlock ?_ | refine SX.exit rfl ?_ | refine SX.cond_t rfl (by first | with_reducible rfl | decide) ?_ | refine SX.cond_f rfl (by first | with_reducible rfl | decide) ?_ | refine SXL.guard_t rfl rfl (by first | with_reducible rfl | decide) ?_ | refine SXL.guard_f rfl rfl (by first | with_reducible rfl | decide) rfl ?_ | refine SXL.guard_n rfl rfl (by first | with_reducible rfl | decide) ?_ | refine SXL.guard_fu rfl rfl rfl ?_ | refine SXL.guard_nu rfl rfl ?_)
  refine SX.condp rfl (fun hl => ?_) (fun hl => ?_)
  · repeat (first | refine SXL.pure rfl rfl ?_ | refine SXL.load rfl inferInstance rfl rfl ?_ | refine SXL.store rfl rfl inferInstance rfl ?_ | refine SXL.nil ?_ | refine SX.region ?_ | refine SX.seq ?_ | refine SX.skip ?_ | refine SX.block ?_ | refine SX.endBlock ?_ | refine SX.exit rfl ?_ | refine SX.cond_t rfl (by first | with_reducible rfl | decide) ?_ | refine SX.cond_f rfl (by first | with_reducible rfl | decide) ?_ | refine SXL.guard_t rfl rfl (by first | with_reducible rfl | decide) ?_ | refine SXL.guard_f rfl rfl (by first | with_reducible rfl | decide) rfl ?_ | refine SXL.guard_n rfl rfl (by first | with_reducible rfl | decide) ?_ | refine SXL.guard_fu rfl rfl rfl ?_ | refine SXL.guard_nu rfl rfl ?_)
    refine SX.ret (M' := F) rfl (Evals.tmp rfl Evals.nil) ?_ inferInstance
    exact h
  repeat (first | refine SXL.pure rfl rfl ?_ | refine SXL.load rfl inferInstance rfl rfl ?_ | refine SXL.store rfl rfl inferInstance rfl ?_ | refine SXL.nil ?_ | refine SX.region ?_ | refine SX.seq ?_ | refine SX.skip ?_ | refine SX.block ?_ | refine SX.endBlock ?_ | refine SX.exit rfl ?_ | refine SX.cond_t rfl (by first | with_reducible rfl | decide) ?_ | refine SX.cond_f rfl (by first | with_reducible rfl | decide) ?_ | refine SXL.guard_t rfl rfl (by first | with_reducible rfl | decide) ?_ | refine SXL.guard_f rfl rfl (by first | with_reducible rfl | decide) rfl ?_ | refine SXL.guard_n rfl rfl (by first | with_reducible rfl | decide) ?_ | refine SXL.guard_fu rfl rfl rfl ?_ | refine SXL.guard_nu rfl rfl ?_)
  refine SX.cut (fun a M => ∃ (v : Sl) (B' : Option Addr) (c2 : Nat), v.wf ∧ v.d.length ≤ c2 ∧ v.d.length ≤ 900 ∧ Ro (Kd.int .u8) B' F v.d ∧ a = [(3, .pointer (some ⟨b1, 0, none⟩)), (4, .pointer (some ⟨b2, 0, none⟩)), (6, .bool false)] ∧
      .own (some ⟨b1, 0, none⟩) (cellsR b1 (slC s A c) 66) :: .own (some ⟨b2, 0, none⟩) (cellsR b2 (slC v B' c2) 66) :: F = M) ?_ ?_
  · refine SX.cond rfl (fun hsm => ?_) (fun hsm => ?_)
    · repeat (first | refine SXL.pure rfl rfl ?_ | refine SXL.load rfl inferInstance rfl rfl ?_ | refine SXL.store rfl rfl inferInstance rfl ?_ | refine SXL.nil ?_ | refine SX.region ?_ | refine SX.seq ?_ | refine SX.skip ?_ | refine SX.block ?_ | refine SX.endBlock ?_ | refine SX.exit rfl ?_ | refine SX.cond_t rfl (by first | with_reducible rfl | decide) ?_ | refine SX.cond_f rfl (by first | with_reducible rfl | decide) ?_ | refine SXL.guard_t rfl rfl (by first | with_reducible rfl | decide) ?_ | refine SXL.guard_f rfl rfl (by first | with_reducible rfl | decide) rfl ?_ | refine SXL.guard_n rfl rfl (by first | with_reducible rfl | decide) ?_ | refine SXL.guard_fu rfl rfl rfl ?_ | refine SXL.guard_nu rfl rfl ?_)
      refine SX.meet ⟨s, A, c, hs, hc, by omega, hr, rfl, rfl⟩ (by repeat (first | exact trivial | refine ⟨rfl, ?_⟩)) (by unfold slC; infer_instance)
    · repeat (first | refine SXL.pure rfl rfl ?_ | refine SXL.load rfl inferInstance rfl rfl ?_ | refine SXL.store rfl rfl inferInstance rfl ?_ | refine SXL.nil ?_ | refine SX.region ?_ | refine SX.seq ?_ | refine SX.skip ?_ | refine SX.block ?_ | refine SX.endBlock ?_ | refine SX.exit rfl ?_ | refine SX.cond_t rfl (by first | with_reducible rfl | decide) ?_ | refine SX.cond_f rfl (by first | with_reducible rfl | decide) ?_ | refine SXL.guard_t rfl rfl (by first | with_reducible rfl | decide) ?_ | refine SXL.guard_f rfl rfl (by first | with_reducible rfl | decide) rfl ?_ | refine SXL.guard_n rfl rfl (by first | with_reducible rfl | decide) ?_ | refine SXL.guard_fu rfl rfl rfl ?_ | refine SXL.guard_nu rfl rfl ?_)
      refine SX.meet ⟨u, B, c', hu, hc', by omega, hr2, rfl, rfl⟩ (by repeat (first | exact trivial | refine ⟨rfl, ?_⟩)) (by unfold slC; infer_instance)
  clear hr2 hc' hu hl
  rintro _ _ ⟨u, B, c', hu, hc', hl, hr2, rfl, rfl⟩
  unfold slC
  repeat (first | refine SXL.pure rfl rfl ?_ | refine SXL.load rfl inferInstance rfl rfl ?_ | refine SXL.store rfl rfl inferInstance rfl ?_ | refine SXL.nil ?_ | refine SX.region ?_ | refine SX.seq ?_ | refine SX.skip ?_ | refine SX.block ?_ | refine SX.endBlock ?_ | refine SX.exit rfl ?_ | refine SX.cond_t rfl (by first | with_reducible rfl | decide) ?_ | refine SX.cond_f rfl (by first | with_reducible rfl | decide) ?_ | refine SXL.guard_t rfl rfl (by first | with_reducible rfl | decide) ?_ | refine SXL.guard_f rfl rfl (by first | with_reducible rfl | decide) rfl ?_ | refine SXL.guard_n rfl rfl (by first | with_reducible rfl | decide) ?_ | refine SXL.guard_fu rfl rfl rfl ?_ | refine SXL.guard_nu rfl rfl ?_)
  refine SXL.call rfl rfl rfl ?_
  refine (Put11_S (s := s) inferInstance hc hs (by omega) (fun r n hm A1 c1 hc1 => callK.ret ?_))
  repeat (first | refine SXL.pure rfl rfl ?_ | refine SXL.load rfl inferInstance rfl rfl ?_ | refine SXL.store rfl rfl inferInstance rfl ?_ | refine SXL.nil ?_ | refine SX.region ?_ | refine SX.seq ?_ | refine SX.skip ?_ | refine SX.block ?_ | refine SX.endBlock ?_ | refine SX.exit rfl ?_ | refine SX.cond_t rfl (by first | with_reducible rfl | decide) ?_ | refine SX.cond_f rfl (by first | with_reducible rfl | decide) ?_ | refine SXL.guard_t rfl rfl (by first | with_reducible rfl | decide) ?_ | refine SXL.guard_f rfl rfl (by first | with_reducible rfl | decide) rfl ?_ | refine SXL.guard_n rfl rfl (by first | with_reducible rfl | decide) ?_ | refine SXL.guard_fu rfl rfl rfl ?_ | refine SXL.guard_nu rfl rfl ?_)
  refine SXL.call rfl rfl rfl ?_
  refine (Put11_S (s := u) inferInstance hc' hu (by omega) (fun r2 n2 hm2 A2 c2 hc2 => callK.ret ?_))
  repeat (first | refine SXL.pure rfl rfl ?_ | refine SXL.load rfl inferInstance rfl rfl ?_ | refine SXL.store rfl rfl inferInstance rfl ?_ | refine SXL.nil ?_ | refine SX.region ?_ | refine SX.seq ?_ | refine SX.skip ?_ | refine SX.block ?_ | refine SX.endBlock ?_ | refine SX.exit rfl ?_ | refine SX.cond_t rfl (by first | with_reducible rfl | decide) ?_ | refine SX.cond_f rfl (by first | with_reducible rfl | decide) ?_ | refine SXL.guard_t rfl rfl (by first | with_reducible rfl | decide) ?_ | refine SXL.guard_f rfl rfl (by first | with_reducible rfl | decide) rfl ?_ | refine SXL.guard_n rfl rfl (by first | with_reducible rfl | decide) ?_ | refine SXL.guard_fu rfl rfl rfl ?_ | refine SXL.guard_nu rfl rfl ?_)
  refine SXL.split (s := 39) rfl (fun h39 => ?_) (fun h39 => ?_)
  · repeat (first | refine SXL.pure rfl rfl ?_ | refine SXL.load rfl inferInstance rfl rfl ?_ | refine SXL.store rfl rfl inferInstance rfl ?_ | refine SXL.nil ?_ | refine SX.region ?_ | refine SX.seq ?_ | refine SX.skip ?_ | refine SX.block ?_ | refine SX.endBlock ?_ | refine SX.exit rfl ?_ | refine SX.cond_t rfl (by first | with_reducible rfl | decide) ?_ | refine SX.cond_f rfl (by first | with_reducible rfl | decide) ?_ | refine SXL.guard_t rfl rfl (by first | with_reducible rfl | decide) ?_ | refine SXL.guard_f rfl rfl (by first | with_reducible rfl | decide) rfl ?_ | refine SXL.guard_n rfl rfl (by first | with_reducible rfl | decide) ?_ | refine SXL.guard_fu rfl rfl rfl ?_ | refine SXL.guard_nu rfl rfl ?_)
    refine SX.ret (M' := F) rfl (Evals.tmp rfl Evals.nil) ?_ inferInstance
    exact h
  obtain rfl : n = 0 := by simpa using h39
  repeat (first | refine SXL.pure rfl rfl ?_ | refine SXL.load rfl inferInstance rfl rfl ?_ | refine SXL.store rfl rfl inferInstance rfl ?_ | refine SXL.nil ?_ | refine SX.region ?_ | refine SX.seq ?_ | refine SX.skip ?_ | refine SX.block ?_ | refine SX.endBlock ?_ | refine SX.exit rfl ?_ | refine SX.cond_t rfl (by first | with_reducible rfl | decide) ?_ | refine SX.cond_f rfl (by first | with_reducible rfl | decide) ?_ | refine SXL.guard_t rfl rfl (by first | with_reducible rfl | decide) ?_ | refine SXL.guard_f rfl rfl (by first | with_reducible rfl | decide) rfl ?_ | refine SXL.guard_n rfl rfl (by first | with_reducible rfl | decide) ?_ | refine SXL.guard_fu rfl rfl rfl ?_ | refine SXL.guard_nu rfl rfl ?_)
  refine SX.cond rfl (fun hn2 => ?_) (fun hn2 => ?_)
  · repeat (first | refine SXL.pure rfl rfl ?_ | refine SXL.load rfl inferInstance rfl rfl ?_ | refine SXL.store rfl rfl inferInstance rfl ?_ | refine SXL.nil ?_ | refine SX.region ?_ | refine SX.seq ?_ | refine SX.skip ?_ | refine SX.block ?_ | refine SX.endBlock ?_ | refine SX.exit rfl ?_ | refine SX.cond_t rfl (by first | with_reducible rfl | decide) ?_ | refine SX.cond_f rfl (by first | with_reducible rfl | decide) ?_ | refine SXL.guard_t rfl rfl (by first | with_reducible rfl | decide) ?_ | refine SXL.guard_f rfl rfl (by first | with_reducible rfl | decide) rfl ?_ | refine SXL.guard_n rfl rfl (by first | with_reducible rfl | decide) ?_ | refine SXL.guard_fu rfl rfl rfl ?_ | refine SXL.guard_nu rfl rfl ?_)
    refine SX.ret (M' := F) rfl (Evals.tmp rfl Evals.nil) ?_ inferInstance
    exact h
  obtain rfl : n2 = 0 := by simpa using hn2
  obtain ⟨k1, rfl⟩ := putS_ok hm
  obtain ⟨k2, rfl⟩ := putS_ok hm2
  have e1 := sameM_iff hs hu
  have e2 := sameM_iff hu hs
  have hinj := encS_inj hs hu (ok_len k1) (ok_len k2)
  have w1 := enc_wf hs (ok_len k1)
  have w2 := enc_wf hu (ok_len k2)
  have hx : (((strOfNums (encS s)).toList == (strOfNums (encS u)).toList) == sameM s u) = true := by
    rw [beq_iff_eq, Bool.eq_iff_iff, beq_iff_eq, toList_iff, bytesOf_strOfNums _ w1, bytesOf_strOfNums _ w2, e1]
    exact ⟨hinj, fun e => by rw [e]⟩
  have hy : (sameM s u == sameM u s) = true := by
    rw [beq_iff_eq, Bool.eq_iff_iff, e1, e2]
    exact ⟨fun e => e.symm, fun e => e.symm⟩
  repeat (first | refine SXL.pure rfl rfl ?_ | refine SXL.load rfl inferInstance rfl rfl ?_ | refine SXL.store rfl rfl inferInstance rfl ?_ | refine SXL.nil ?_ | refine SX.region ?_ | refine SX.seq ?_ | refine SX.skip ?_ | refine SX.block ?_ | refine SX.endBlock ?_ | refine SX.exit rfl ?_ | refine SX.cond_t rfl (by first | with_reducible rfl | decide) ?_ | refine SX.cond_f rfl (by first | with_reducible rfl | decide) ?_ | refine SXL.guard_t rfl rfl (by first | with_reducible rfl | decide) ?_ | refine SXL.guard_f rfl rfl (by first | with_reducible rfl | decide) rfl ?_ | refine SXL.guard_n rfl rfl (by first | with_reducible rfl | decide) ?_ | refine SXL.guard_fu rfl rfl rfl ?_ | refine SXL.guard_nu rfl rfl ?_)
  refine SXA.begin [.own (some ⟨b1, 0, none⟩) (cellsR b1 (slC s A c) 66), .own (some ⟨b2, 0, none⟩) (cellsR b2 (slC u B c') 66), .own A1 (rowR (Kd.int .u8) 5 (.slice A1 (encS s).length c1) (encS s)), .own A2 (rowR (Kd.int .u8) 5 (.slice A2 (encS u).length c2) (encS u))] [] ?_
  unfold slC
  (first | refine SXA.pure 0 rfl (by decide +kernel) rfl rfl rfl ?_ | refine SXA.skip 0 rfl (by decide +kernel) rfl rfl ?_ | refine SXA.load 0 rfl (by decide +kernel) rfl rfl inferInstance rfl rfl inferInstance ?_ | refine SXA.store 0 rfl (by decide +kernel) rfl rfl inferInstance rfl inferInstance ?_)
  refine SXA.bytesStr 1 rfl (by decide +kernel) rfl rfl inferInstance rfl Try.underlying22 Try.underlying5 Try.underlying9 rfl inferInstance ?_
  (first | refine SXA.pure 2 rfl (by decide +kernel) rfl rfl rfl ?_ | refine SXA.skip 2 rfl (by decide +kernel) rfl rfl ?_ | refine SXA.load 2 rfl (by decide +kernel) rfl rfl inferInstance rfl rfl inferInstance ?_ | refine SXA.store 2 rfl (by decide +kernel) rfl rfl inferInstance rfl inferInstance ?_)
  refine SXA.bytesStr 3 rfl (by decide +kernel) rfl rfl inferInstance rfl Try.underlying22 Try.underlying5 Try.underlying9 rfl inferInstance ?_
  (first | refine SXA.pure 4 rfl (by decide +kernel) rfl rfl rfl ?_ | refine SXA.skip 4 rfl (by decide +kernel) rfl rfl ?_ | refine SXA.load 4 rfl (by decide +kernel) rfl rfl inferInstance rfl rfl inferInstance ?_ | refine SXA.store 4 rfl (by decide +kernel) rfl rfl inferInstance rfl inferInstance ?_)
  (first | refine SXA.pure 5 rfl (by decide +kernel) rfl rfl rfl ?_ | refine SXA.skip 5 rfl (by decide +kernel) rfl rfl ?_ | refine SXA.load 5 rfl (by decide +kernel) rfl rfl inferInstance rfl rfl inferInstance ?_ | refine SXA.store 5 rfl (by decide +kernel) rfl rfl inferInstance rfl inferInstance ?_)
  (first | refine SXA.pure 6 rfl (by decide +kernel) rfl rfl rfl ?_ | refine SXA.skip 6 rfl (by decide +kernel) rfl rfl ?_ | refine SXA.load 6 rfl (by decide +kernel) rfl rfl inferInstance rfl rfl inferInstance ?_ | refine SXA.store 6 rfl (by decide +kernel) rfl rfl inferInstance rfl inferInstance ?_)
  refine SXA.one 7 (by decide +kernel) rfl ?_
  refine SXL.call rfl rfl rfl ?_
  refine (Same11_S (s := s) (u := u) inferInstance inferInstance (callK.ret ?_))
  refine SXL.nil (SXA.next inferInstance ?_)
  (first | refine SXA.pure 8 rfl (by decide +kernel) rfl rfl rfl ?_ | refine SXA.skip 8 rfl (by decide +kernel) rfl rfl ?_ | refine SXA.load 8 rfl (by decide +kernel) rfl rfl inferInstance rfl rfl inferInstance ?_ | refine SXA.store 8 rfl (by decide +kernel) rfl rfl inferInstance rfl inferInstance ?_)
  (first | refine SXA.pure 9 rfl (by decide +kernel) rfl rfl rfl ?_ | refine SXA.skip 9 rfl (by decide +kernel) rfl rfl ?_ | refine SXA.load 9 rfl (by decide +kernel) rfl rfl inferInstance rfl rfl inferInstance ?_ | refine SXA.store 9 rfl (by decide +kernel) rfl rfl inferInstance rfl inferInstance ?_)
  refine SXA.know 52 true rfl hx ?_
  (first | refine SXA.pure 10 rfl (by decide +kernel) rfl rfl rfl ?_ | refine SXA.skip 10 rfl (by decide +kernel) rfl rfl ?_ | refine SXA.load 10 rfl (by decide +kernel) rfl rfl inferInstance rfl rfl inferInstance ?_ | refine SXA.store 10 rfl (by decide +kernel) rfl rfl inferInstance rfl inferInstance ?_)
  (first | refine SXA.pure 11 rfl (by decide +kernel) rfl rfl rfl ?_ | refine SXA.skip 11 rfl (by decide +kernel) rfl rfl ?_ | refine SXA.load 11 rfl (by decide +kernel) rfl rfl inferInstance rfl rfl inferInstance ?_ | refine SXA.store 11 rfl (by decide +kernel) rfl rfl inferInstance rfl inferInstance ?_)
  (first | refine SXA.pure 13 rfl (by decide +kernel) rfl rfl rfl ?_ | refine SXA.skip 13 rfl (by decide +kernel) rfl rfl ?_ | refine SXA.load 13 rfl (by decide +kernel) rfl rfl inferInstance rfl rfl inferInstance ?_ | refine SXA.store 13 rfl (by decide +kernel) rfl rfl inferInstance rfl inferInstance ?_)
  (first | refine SXA.pure 14 rfl (by decide +kernel) rfl rfl rfl ?_ | refine SXA.skip 14 rfl (by decide +kernel) rfl rfl ?_ | refine SXA.load 14 rfl (by decide +kernel) rfl rfl inferInstance rfl rfl inferInstance ?_ | refine SXA.store 14 rfl (by decide +kernel) rfl rfl inferInstance rfl inferInstance ?_)
  refine SXA.one 12 (by decide +kernel) rfl ?_
  refine SXL.guard_t rfl rfl (by first | with_reducible rfl | decide) ?_
  refine SXL.call rfl rfl rfl ?_
  refine (Same11_S (s := s) (u := u) inferInstance inferInstance (callK.ret ?_))
  refine SXL.nil (SXA.next inferInstance ?_)
  refine SXA.one 15 (by decide +kernel) rfl ?_
  refine SXL.guard_t rfl rfl (by first | with_reducible rfl | decide) ?_
  refine SXL.call rfl rfl rfl ?_
  refine (Same11_S (s := u) (u := s) inferInstance inferInstance (callK.ret ?_))
  refine SXL.nil (SXA.next inferInstance ?_)
  (first | refine SXA.pure 16 rfl (by decide +kernel) rfl rfl rfl ?_ | refine SXA.skip 16 rfl (by decide +kernel) rfl rfl ?_ | refine SXA.load 16 rfl (by decide +kernel) rfl rfl inferInstance rfl rfl inferInstance ?_ | refine SXA.store 16 rfl (by decide +kernel) rfl rfl inferInstance rfl inferInstance ?_)
  (first | refine SXA.pure 17 rfl (by decide +kernel) rfl rfl rfl ?_ | refine SXA.skip 17 rfl (by decide +kernel) rfl rfl ?_ | refine SXA.load 17 rfl (by decide +kernel) rfl rfl inferInstance rfl rfl inferInstance ?_ | refine SXA.store 17 rfl (by decide +kernel) rfl rfl inferInstance rfl inferInstance ?_)
  (first | refine SXA.pure 18 rfl (by decide +kernel) rfl rfl rfl ?_ | refine SXA.skip 18 rfl (by decide +kernel) rfl rfl ?_ | refine SXA.load 18 rfl (by decide +kernel) rfl rfl inferInstance rfl rfl inferInstance ?_ | refine SXA.store 18 rfl (by decide +kernel) rfl rfl inferInstance rfl inferInstance ?_)
  refine SXA.done (by decide +kernel) ?_
  repeat (first | refine SXL.pure rfl rfl ?_ | refine SXL.load rfl inferInstance rfl rfl ?_ | refine SXL.store rfl rfl inferInstance rfl ?_ | refine SXL.nil ?_ | refine SX.region ?_ | refine SX.seq ?_ | refine SX.skip ?_ | refine SX.block ?_ | refine SX.endBlock ?_ | refine SX.exit rfl ?_ | refine SX.cond_t rfl (by first | with_reducible rfl | decide) ?_ | refine SX.cond_f rfl (by first | with_reducible rfl | decide) ?_ | refine SXL.guard_t rfl rfl (by first | with_reducible rfl | decide) ?_ | refine SXL.guard_f rfl rfl (by first | with_reducible rfl | decide) rfl ?_ | refine SXL.guard_n rfl rfl (by first | with_reducible rfl | decide) ?_ | refine SXL.guard_fu rfl rfl rfl ?_ | refine SXL.guard_nu rfl rfl ?_)
  refine SX.same 6 (.bool true) rfl (by rw [hy]) ?_
  refine SX.ret (M' := F) rfl (Evals.tmp rfl Evals.nil) ?_ inferInstance
  exact h
def freeS (s : Sl) : Sl := ⟨s.ino.tmod 24, 0, s.gen, s.links, s.mode, s.change, s.cookie, s.verf, s.d⟩
def freeF (s : Sl) : Sl := ⟨s.ino.tmod 24, 1, s.gen, s.links, 0, 0, 0, 0, []⟩
theorem free_s {s : Sl} (hw : s.wf) (hl : s.d.length ≤ 900) : (checkM (freeS s) == 0) = bareB s := by
  have h0 := hw.ino.1
  have h1 := Int.emod_nonneg s.ino (show (24 : Int) ≠ 0 by decide)
  have h2 := Int.emod_lt_of_pos s.ino (show (0 : Int) < 24 by decide)
  have hb : bareB (freeS s) = bareB s := rfl
  have h3 : ok3 (freeS s) = true := rfl
  have h4 : ok2 (freeS s) = bareB s := by simp [ok2, freeS]; rfl
  have h5 : bareB s = true → ok1 (freeS s) = true := by
    intro h
    unfold bareB at h
    simp only [Bool.and_eq_true, beq_iff_eq] at h
    obtain ⟨-, -, -, -, h6⟩ := h
    unfold ok1 freeS
    rw [Int.tmod_eq_emod_of_nonneg h0]
    simp
    omega
  cases hbb : bareB s with
  | true => rw [check_0 (h5 hbb) (by rw [h4, hbb]) h3]; rfl
  | false => rw [check_2 (by rw [h4, hbb])]; rfl
theorem free_f {s : Sl} (hw : s.wf) : (checkM (freeF s) == 0) = decide (0 < s.links) := by
  have h0 := hw.ino.1
  have h1 := Int.emod_nonneg s.ino (show (24 : Int) ≠ 0 by decide)
  have h2 := Int.emod_lt_of_pos s.ino (show (0 : Int) < 24 by decide)
  have h3 : ok3 (freeF s) = true := rfl
  have h4 : ok2 (freeF s) = decide (1 ≤ s.links) := by simp [ok2, freeF]; rfl
  have h5 : ok1 (freeF s) = true := by
    unfold ok1 freeF
    rw [Int.tmod_eq_emod_of_nonneg h0]
    simp
    omega
  by_cases hlk : 0 < s.links
  · rw [check_0 h5 (by rw [h4]; simp; omega) h3, decide_eq_true hlk]; rfl
  · rw [check_2 (by rw [h4]; simp; omega), decide_eq_false hlk]; rfl
set_option maxHeartbeats 1000000 in
set_option maxRecDepth 20000 in
theorem SlotFree_S (hr : Ro (Kd.int .u8) A F s.d) (hc : s.d.length ≤ c) (hs : s.wf) (h : K (.returned (.bool true)) F) :
    Fn (Try.prog) 13 [.agg (slC s A c).toArray] F K := by
  unfold slC
  refine Fn.enter Try.call13 Try.func13 rfl rfl rfl ?_
  repeat (first | refine SXL.pure rfl rfl ?_ | refine SXL.load rfl inferInstance rfl rfl ?_ | refine SXL.store rfl rfl inferInstance rfl ?_ | refine SXL.nil ?_ | refine SX.region ?_ | refine SX.seq ?_ | refine SX.skip ?_ | refine SX.block ?_ | refine SX.endBlock ?_ | refine SX.exit rfl ?_ | refine SX.cond_t rfl (by first | with_reducible rfl | decide) ?_ | refine SX.cond_f rfl (by first | with_reducible rfl | decide) ?_ | refine SXL.guard_t rfl rfl (by first | with_reducible rfl | decide) ?_ | refine SXL.guard_f rfl rfl (by first | with_reducible rfl | decide) rfl ?_ | refine SXL.guard_n rfl rfl (by first | with_reducible rfl | decide) ?_ | refine SXL.guard_fu rfl rfl rfl ?_ | refine SXL.guard_nu rfl rfl ?_)
  refine SXL.box rfl rfl rfl (fun b1 => ?_)
  repeat (first | refine SXL.pure rfl rfl ?_ | refine SXL.load rfl inferInstance rfl rfl ?_ | refine SXL.store rfl rfl inferInstance rfl ?_ | refine SXL.nil ?_ | refine SX.region ?_ | refine SX.seq ?_ | refine SX.skip ?_ | refine SX.block ?_ | refine SX.endBlock ?_ | refine SX.exit rfl ?_ | refine SX.cond_t rfl (by first | with_reducible rfl | decide) ?_ | refine SX.cond_f rfl (by first | with_reducible rfl | decide) ?_ | refine SXL.guard_t rfl rfl (by first | with_reducible rfl | decide) ?_ | refine SXL.guard_f rfl rfl (by first | with_reducible rfl | decide) rfl ?_ | refine SXL.guard_n rfl rfl (by first | with_reducible rfl | decide) ?_ | refine SXL.guard_fu rfl rfl rfl ?_ | refine SXL.guard_nu rfl rfl ?_)
  refine SXL.call rfl rfl rfl ?_
  refine (awake11_S (callK.ret ?_))
  repeat (first | refine SXL.pure rfl rfl ?_ | refine SXL.load rfl inferInstance rfl rfl ?_ | refine SXL.store rfl rfl inferInstance rfl ?_ | refine SXL.nil ?_ | refine SX.region ?_ | refine SX.seq ?_ | refine SX.skip ?_ | refine SX.block ?_ | refine SX.endBlock ?_ | refine SX.exit rfl ?_ | refine SX.cond_t rfl (by first | with_reducible rfl | decide) ?_ | refine SX.cond_f rfl (by first | with_reducible rfl | decide) ?_ | refine SXL.guard_t rfl rfl (by first | with_reducible rfl | decide) ?_ | refine SXL.guard_f rfl rfl (by first | with_reducible rfl | decide) rfl ?_ | refine SXL.guard_n rfl rfl (by first | with_reducible rfl | decide) ?_ | refine SXL.guard_fu rfl rfl rfl ?_ | refine SXL.guard_nu rfl rfl ?_)
  refine SX.condp rfl (fun hl => ?_) (fun hl => ?_)
  · repeat (first | refine SXL.pure rfl rfl ?_ | refine SXL.load rfl inferInstance rfl rfl ?_ | refine SXL.store rfl rfl inferInstance rfl ?_ | refine SXL.nil ?_ | refine SX.region ?_ | refine SX.seq ?_ | refine SX.skip ?_ | refine SX.block ?_ | refine SX.endBlock ?_ | refine SX.exit rfl ?_ | refine SX.cond_t rfl (by first | with_reducible rfl | decide) ?_ | refine SX.cond_f rfl (by first | with_reducible rfl | decide) ?_ | refine SXL.guard_t rfl rfl (by first | with_reducible rfl | decide) ?_ | refine SXL.guard_f rfl rfl (by first | with_reducible rfl | decide) rfl ?_ | refine SXL.guard_n rfl rfl (by first | with_reducible rfl | decide) ?_ | refine SXL.guard_fu rfl rfl rfl ?_ | refine SXL.guard_nu rfl rfl ?_)
    refine SX.ret (M' := F) rfl (Evals.tmp rfl Evals.nil) ?_ inferInstance
    exact h
  repeat (first | refine SX.seq ?_ | refine SX.skip ?_ | refine SX.block ?_ | refine SX.endBlock ?_ | refine SX.exit rfl ?_ | refine SX.cond_t rfl (by first | with_reducible rfl | decide) ?_ | refine SX.cond_f rfl (by first | with_reducible rfl | decide) ?_)
  refine SX.region ?_
  repeat (first | refine SXL.pure rfl rfl ?_ | refine SXL.load rfl inferInstance rfl rfl ?_ | refine SXL.store rfl rfl inferInstance rfl ?_)
  refine SXL.nil ?_
  repeat (first | refine SX.seq ?_ | refine SX.skip ?_ | refine SX.block ?_ | refine SX.endBlock ?_ | refine SX.exit rfl ?_ | refine SX.cond_t rfl (by first | with_reducible rfl | decide) ?_ | refine SX.cond_f rfl (by first | with_reducible rfl | decide) ?_)
  refine SX.region ?_
  repeat (first | refine SXL.pure rfl rfl ?_ | refine SXL.load rfl inferInstance rfl rfl ?_ | refine SXL.store rfl rfl inferInstance rfl ?_)
  refine SXL.nil ?_
  repeat (first | refine SX.seq ?_ | refine SX.skip ?_ | refine SX.block ?_ | refine SX.endBlock ?_ | refine SX.exit rfl ?_ | refine SX.cond_t rfl (by first | with_reducible rfl | decide) ?_ | refine SX.cond_f rfl (by first | with_reducible rfl | decide) ?_)
  refine SX.cut (fun a M => a = [(1, .pointer (some ⟨b1, 0, none⟩)), (2, .bool false), (4, .bool (bareB s))] ∧ .own (some ⟨b1, 0, none⟩) (cellsR b1 (slC (freeS s) A c) 66) :: F = M) ?_ ?_
  · repeat (first | refine SXL.pure rfl rfl ?_ | refine SXL.load rfl inferInstance rfl rfl ?_ | refine SXL.store rfl rfl inferInstance rfl ?_ | refine SXL.nil ?_ | refine SX.region ?_ | refine SX.seq ?_ | refine SX.skip ?_ | refine SX.block ?_ | refine SX.endBlock ?_ | refine SX.exit rfl ?_ | refine SX.cond_t rfl (by first | with_reducible rfl | decide) ?_ | refine SX.cond_f rfl (by first | with_reducible rfl | decide) ?_ | refine SXL.guard_t rfl rfl (by first | with_reducible rfl | decide) ?_ | refine SXL.guard_f rfl rfl (by first | with_reducible rfl | decide) rfl ?_ | refine SXL.guard_n rfl rfl (by first | with_reducible rfl | decide) ?_ | refine SXL.guard_fu rfl rfl rfl ?_ | refine SXL.guard_nu rfl rfl ?_)
    refine SXL.split (s := 21) rfl (fun h21 => ?_) (fun h21 => ?_)
    rotate_left
    · repeat (first | refine SXL.pure rfl rfl ?_ | refine SXL.load rfl inferInstance rfl rfl ?_ | refine SXL.store rfl rfl inferInstance rfl ?_ | refine SXL.nil ?_ | refine SX.region ?_ | refine SX.seq ?_ | refine SX.skip ?_ | refine SX.block ?_ | refine SX.endBlock ?_ | refine SX.exit rfl ?_ | refine SX.cond_t rfl (by first | with_reducible rfl | decide) ?_ | refine SX.cond_f rfl (by first | with_reducible rfl | decide) ?_ | refine SXL.guard_t rfl rfl (by first | with_reducible rfl | decide) ?_ | refine SXL.guard_f rfl rfl (by first | with_reducible rfl | decide) rfl ?_ | refine SXL.guard_n rfl rfl (by first | with_reducible rfl | decide) ?_ | refine SXL.guard_fu rfl rfl rfl ?_ | refine SXL.guard_nu rfl rfl ?_)
      refine SX.same 4 (.bool (bareB s)) rfl (by simp [bareB, h21]) ?_
      refine SX.meet ⟨rfl, rfl⟩ (by repeat (first | exact trivial | refine ⟨rfl, ?_⟩)) (by unfold slC freeS; infer_instance)
    repeat (first | refine SXL.pure rfl rfl ?_ | refine SXL.load rfl inferInstance rfl rfl ?_ | refine SXL.store rfl rfl inferInstance rfl ?_ | refine SXL.nil ?_ | refine SX.region ?_ | refine SX.seq ?_ | refine SX.skip ?_ | refine SX.block ?_ | refine SX.endBlock ?_ | refine SX.exit rfl ?_ | refine SX.cond_t rfl (by first | with_reducible rfl | decide) ?_ | refine SX.cond_f rfl (by first | with_reducible rfl | decide) ?_ | refine SXL.guard_t rfl rfl (by first | with_reducible rfl | decide) ?_ | refine SXL.guard_f rfl rfl (by first | with_reducible rfl | decide) rfl ?_ | refine SXL.guard_n rfl rfl (by first | with_reducible rfl | decide) ?_ | refine SXL.guard_fu rfl rfl rfl ?_ | refine SXL.guard_nu rfl rfl ?_)
    refine SXL.split (s := 26) rfl (fun h26 => ?_) (fun h26 => ?_)
    rotate_left
    · repeat (first | refine SXL.pure rfl rfl ?_ | refine SXL.load rfl inferInstance rfl rfl ?_ | refine SXL.store rfl rfl inferInstance rfl ?_ | refine SXL.nil ?_ | refine SX.region ?_ | refine SX.seq ?_ | refine SX.skip ?_ | refine SX.block ?_ | refine SX.endBlock ?_ | refine SX.exit rfl ?_ | refine SX.cond_t rfl (by first | with_reducible rfl | decide) ?_ | refine SX.cond_f rfl (by first | with_reducible rfl | decide) ?_ | refine SXL.guard_t rfl rfl (by first | with_reducible rfl | decide) ?_ | refine SXL.guard_f rfl rfl (by first | with_reducible rfl | decide) rfl ?_ | refine SXL.guard_n rfl rfl (by first | with_reducible rfl | decide) ?_ | refine SXL.guard_fu rfl rfl rfl ?_ | refine SXL.guard_nu rfl rfl ?_)
      refine SX.same 4 (.bool (bareB s)) rfl (by simp [bareB, h21, h26]) ?_
      refine SX.meet ⟨rfl, rfl⟩ (by repeat (first | exact trivial | refine ⟨rfl, ?_⟩)) (by unfold slC freeS; infer_instance)
    repeat (first | refine SXL.pure rfl rfl ?_ | refine SXL.load rfl inferInstance rfl rfl ?_ | refine SXL.store rfl rfl inferInstance rfl ?_ | refine SXL.nil ?_ | refine SX.region ?_ | refine SX.seq ?_ | refine SX.skip ?_ | refine SX.block ?_ | refine SX.endBlock ?_ | refine SX.exit rfl ?_ | refine SX.cond_t rfl (by first | with_reducible rfl | decide) ?_ | refine SX.cond_f rfl (by first | with_reducible rfl | decide) ?_ | refine SXL.guard_t rfl rfl (by first | with_reducible rfl | decide) ?_ | refine SXL.guard_f rfl rfl (by first | with_reducible rfl | decide) rfl ?_ | refine SXL.guard_n rfl rfl (by first | with_reducible rfl | decide) ?_ | refine SXL.guard_fu rfl rfl rfl ?_ | refine SXL.guard_nu rfl rfl ?_)
    refine SXL.split (s := 31) rfl (fun h31 => ?_) (fun h31 => ?_)
    rotate_left
    · repeat (first | refine SXL.pure rfl rfl ?_ | refine SXL.load rfl inferInstance rfl rfl ?_ | refine SXL.store rfl rfl inferInstance rfl ?_ | refine SXL.nil ?_ | refine SX.region ?_ | refine SX.seq ?_ | refine SX.skip ?_ | refine SX.block ?_ | refine SX.endBlock ?_ | refine SX.exit rfl ?_ | refine SX.cond_t rfl (by first | with_reducible rfl | decide) ?_ | refine SX.cond_f rfl (by first | with_reducible rfl | decide) ?_ | refine SXL.guard_t rfl rfl (by first | with_reducible rfl | decide) ?_ | refine SXL.guard_f rfl rfl (by first | with_reducible rfl | decide) rfl ?_ | refine SXL.guard_n rfl rfl (by first | with_reducible rfl | decide) ?_ | refine SXL.guard_fu rfl rfl rfl ?_ | refine SXL.guard_nu rfl rfl ?_)
      refine SX.same 4 (.bool (bareB s)) rfl (by simp [bareB, h21, h26, h31]) ?_
      refine SX.meet ⟨rfl, rfl⟩ (by repeat (first | exact trivial | refine ⟨rfl, ?_⟩)) (by unfold slC freeS; infer_instance)
    repeat (first | refine SXL.pure rfl rfl ?_ | refine SXL.load rfl inferInstance rfl rfl ?_ | refine SXL.store rfl rfl inferInstance rfl ?_ | refine SXL.nil ?_ | refine SX.region ?_ | refine SX.seq ?_ | refine SX.skip ?_ | refine SX.block ?_ | refine SX.endBlock ?_ | refine SX.exit rfl ?_ | refine SX.cond_t rfl (by first | with_reducible rfl | decide) ?_ | refine SX.cond_f rfl (by first | with_reducible rfl | decide) ?_ | refine SXL.guard_t rfl rfl (by first | with_reducible rfl | decide) ?_ | refine SXL.guard_f rfl rfl (by first | with_reducible rfl | decide) rfl ?_ | refine SXL.guard_n rfl rfl (by first | with_reducible rfl | decide) ?_ | refine SXL.guard_fu rfl rfl rfl ?_ | refine SXL.guard_nu rfl rfl ?_)
    refine SXL.split (s := 36) rfl (fun h36 => ?_) (fun h36 => ?_)
    rotate_left
    · repeat (first | refine SXL.pure rfl rfl ?_ | refine SXL.load rfl inferInstance rfl rfl ?_ | refine SXL.store rfl rfl inferInstance rfl ?_ | refine SXL.nil ?_ | refine SX.region ?_ | refine SX.seq ?_ | refine SX.skip ?_ | refine SX.block ?_ | refine SX.endBlock ?_ | refine SX.exit rfl ?_ | refine SX.cond_t rfl (by first | with_reducible rfl | decide) ?_ | refine SX.cond_f rfl (by first | with_reducible rfl | decide) ?_ | refine SXL.guard_t rfl rfl (by first | with_reducible rfl | decide) ?_ | refine SXL.guard_f rfl rfl (by first | with_reducible rfl | decide) rfl ?_ | refine SXL.guard_n rfl rfl (by first | with_reducible rfl | decide) ?_ | refine SXL.guard_fu rfl rfl rfl ?_ | refine SXL.guard_nu rfl rfl ?_)
      refine SX.same 4 (.bool (bareB s)) rfl (by simp [bareB, h21, h26, h31, h36]) ?_
      refine SX.meet ⟨rfl, rfl⟩ (by repeat (first | exact trivial | refine ⟨rfl, ?_⟩)) (by unfold slC freeS; infer_instance)
    repeat (first | refine SXL.pure rfl rfl ?_ | refine SXL.load rfl inferInstance rfl rfl ?_ | refine SXL.store rfl rfl inferInstance rfl ?_ | refine SXL.nil ?_ | refine SX.region ?_ | refine SX.seq ?_ | refine SX.skip ?_ | refine SX.block ?_ | refine SX.endBlock ?_ | refine SX.exit rfl ?_ | refine SX.cond_t rfl (by first | with_reducible rfl | decide) ?_ | refine SX.cond_f rfl (by first | with_reducible rfl | decide) ?_ | refine SXL.guard_t rfl rfl (by first | with_reducible rfl | decide) ?_ | refine SXL.guard_f rfl rfl (by first | with_reducible rfl | decide) rfl ?_ | refine SXL.guard_n rfl rfl (by first | with_reducible rfl | decide) ?_ | refine SXL.guard_fu rfl rfl rfl ?_ | refine SXL.guard_nu rfl rfl ?_)
    refine SX.same 4 (.bool (bareB s)) rfl (by simp [bareB, h21, h26, h31, h36]) ?_
    refine SX.meet ⟨rfl, rfl⟩ (by repeat (first | exact trivial | refine ⟨rfl, ?_⟩)) (by unfold slC freeS; infer_instance)
  rintro _ _ ⟨rfl, rfl⟩
  unfold slC freeS
  repeat (first | refine SXL.pure rfl rfl ?_ | refine SXL.load rfl inferInstance rfl rfl ?_ | refine SXL.store rfl rfl inferInstance rfl ?_ | refine SXL.nil ?_ | refine SX.region ?_ | refine SX.seq ?_ | refine SX.skip ?_ | refine SX.block ?_ | refine SX.endBlock ?_ | refine SX.exit rfl ?_ | refine SX.cond_t rfl (by first | with_reducible rfl | decide) ?_ | refine SX.cond_f rfl (by first | with_reducible rfl | decide) ?_ | refine SXL.guard_t rfl rfl (by first | with_reducible rfl | decide) ?_ | refine SXL.guard_f rfl rfl (by first | with_reducible rfl | decide) rfl ?_ | refine SXL.guard_n rfl rfl (by first | with_reducible rfl | decide) ?_ | refine SXL.guard_fu rfl rfl rfl ?_ | refine SXL.guard_nu rfl rfl ?_)
  refine SXL.alloc rfl rfl (fun b2 => ?_)
  repeat (first | refine SXL.pure rfl rfl ?_ | refine SXL.load rfl inferInstance rfl rfl ?_ | refine SXL.store rfl rfl inferInstance rfl ?_ | refine SXL.nil ?_ | refine SX.region ?_ | refine SX.seq ?_ | refine SX.skip ?_ | refine SX.block ?_ | refine SX.endBlock ?_ | refine SX.exit rfl ?_ | refine SX.cond_t rfl (by first | with_reducible rfl | decide) ?_ | refine SX.cond_f rfl (by first | with_reducible rfl | decide) ?_ | refine SXL.guard_t rfl rfl (by first | with_reducible rfl | decide) ?_ | refine SXL.guard_f rfl rfl (by first | with_reducible rfl | decide) rfl ?_ | refine SXL.guard_n rfl rfl (by first | with_reducible rfl | decide) ?_ | refine SXL.guard_fu rfl rfl rfl ?_ | refine SXL.guard_nu rfl rfl ?_)
  refine SXA.begin [.own (some ⟨b1, 0, none⟩) (cellsR b1 (slC (freeS s) A c) 66), .own (some ⟨b2, 0, none⟩) (cellsR b2 (slC (freeF s) none 0) 66)] [] ?_
  unfold slC freeS freeF
  (first | refine SXA.pure 0 rfl (by decide +kernel) rfl rfl rfl ?_ | refine SXA.skip 0 rfl (by decide +kernel) rfl rfl ?_ | refine SXA.load 0 rfl (by decide +kernel) rfl rfl inferInstance rfl rfl inferInstance ?_ | refine SXA.store 0 rfl (by decide +kernel) rfl rfl inferInstance rfl inferInstance ?_)
  (first | refine SXA.pure 3 rfl (by decide +kernel) rfl rfl rfl ?_ | refine SXA.skip 3 rfl (by decide +kernel) rfl rfl ?_ | refine SXA.load 3 rfl (by decide +kernel) rfl rfl inferInstance rfl rfl inferInstance ?_ | refine SXA.store 3 rfl (by decide +kernel) rfl rfl inferInstance rfl inferInstance ?_)
  refine SXA.one 1 (by decide +kernel) rfl ?_
  refine SXL.call rfl rfl rfl ?_
  refine (Check_S (s := freeS s) (A := A) (c := c) inferInstance hc hs.d (by show s.d.length ≤ 4000000000; omega) (callK.ret ?_))
  refine SXL.nil (SXA.next inferInstance ?_)
  (first | refine SXA.pure 2 rfl (by decide +kernel) rfl rfl rfl ?_ | refine SXA.skip 2 rfl (by decide +kernel) rfl rfl ?_ | refine SXA.load 2 rfl (by decide +kernel) rfl rfl inferInstance rfl rfl inferInstance ?_ | refine SXA.store 2 rfl (by decide +kernel) rfl rfl inferInstance rfl inferInstance ?_)
  (first | refine SXA.pure 4 rfl (by decide +kernel) rfl rfl rfl ?_ | refine SXA.skip 4 rfl (by decide +kernel) rfl rfl ?_ | refine SXA.load 4 rfl (by decide +kernel) rfl rfl inferInstance rfl rfl inferInstance ?_ | refine SXA.store 4 rfl (by decide +kernel) rfl rfl inferInstance rfl inferInstance ?_)
  (first | refine SXA.pure 5 rfl (by decide +kernel) rfl rfl rfl ?_ | refine SXA.skip 5 rfl (by decide +kernel) rfl rfl ?_ | refine SXA.load 5 rfl (by decide +kernel) rfl rfl inferInstance rfl rfl inferInstance ?_ | refine SXA.store 5 rfl (by decide +kernel) rfl rfl inferInstance rfl inferInstance ?_)
  refine SXA.know 54 true rfl (by rw [free_s hs (by omega)]; simp) ?_
  (first | refine SXA.pure 6 rfl (by decide +kernel) rfl rfl rfl ?_ | refine SXA.skip 6 rfl (by decide +kernel) rfl rfl ?_ | refine SXA.load 6 rfl (by decide +kernel) rfl rfl inferInstance rfl rfl inferInstance ?_ | refine SXA.store 6 rfl (by decide +kernel) rfl rfl inferInstance rfl inferInstance ?_)
  (first | refine SXA.pure 9 rfl (by decide +kernel) rfl rfl rfl ?_ | refine SXA.skip 9 rfl (by decide +kernel) rfl rfl ?_ | refine SXA.load 9 rfl (by decide +kernel) rfl rfl inferInstance rfl rfl inferInstance ?_ | refine SXA.store 9 rfl (by decide +kernel) rfl rfl inferInstance rfl inferInstance ?_)
  (first | refine SXA.pure 10 rfl (by decide +kernel) rfl rfl rfl ?_ | refine SXA.skip 10 rfl (by decide +kernel) rfl rfl ?_ | refine SXA.load 10 rfl (by decide +kernel) rfl rfl inferInstance rfl rfl inferInstance ?_ | refine SXA.store 10 rfl (by decide +kernel) rfl rfl inferInstance rfl inferInstance ?_)
  (first | refine SXA.pure 11 rfl (by decide +kernel) rfl rfl rfl ?_ | refine SXA.skip 11 rfl (by decide +kernel) rfl rfl ?_ | refine SXA.load 11 rfl (by decide +kernel) rfl rfl inferInstance rfl rfl inferInstance ?_ | refine SXA.store 11 rfl (by decide +kernel) rfl rfl inferInstance rfl inferInstance ?_)
  refine SXA.one 7 (by decide +kernel) rfl ?_
  refine SXL.guard_t rfl rfl (by first | with_reducible rfl | decide) ?_
  refine SXL.call rfl rfl rfl ?_
  refine (Check_S (s := freeF s) (A := none) (c := 0) inferInstance (Nat.le_refl _) rfl (by show (0 : Nat) ≤ _; decide) (callK.ret ?_))
  refine SXL.nil (SXA.next inferInstance ?_)
  (first | refine SXA.pure 8 rfl (by decide +kernel) rfl rfl rfl ?_ | refine SXA.skip 8 rfl (by decide +kernel) rfl rfl ?_ | refine SXA.load 8 rfl (by decide +kernel) rfl rfl inferInstance rfl rfl inferInstance ?_ | refine SXA.store 8 rfl (by decide +kernel) rfl rfl inferInstance rfl inferInstance ?_)
  (first | refine SXA.pure 12 rfl (by decide +kernel) rfl rfl rfl ?_ | refine SXA.skip 12 rfl (by decide +kernel) rfl rfl ?_ | refine SXA.load 12 rfl (by decide +kernel) rfl rfl inferInstance rfl rfl inferInstance ?_ | refine SXA.store 12 rfl (by decide +kernel) rfl rfl inferInstance rfl inferInstance ?_)
  (first | refine SXA.pure 13 rfl (by decide +kernel) rfl rfl rfl ?_ | refine SXA.skip 13 rfl (by decide +kernel) rfl rfl ?_ | refine SXA.load 13 rfl (by decide +kernel) rfl rfl inferInstance rfl rfl inferInstance ?_ | refine SXA.store 13 rfl (by decide +kernel) rfl rfl inferInstance rfl inferInstance ?_)
  (first | refine SXA.pure 14 rfl (by decide +kernel) rfl rfl rfl ?_ | refine SXA.skip 14 rfl (by decide +kernel) rfl rfl ?_ | refine SXA.load 14 rfl (by decide +kernel) rfl rfl inferInstance rfl rfl inferInstance ?_ | refine SXA.store 14 rfl (by decide +kernel) rfl rfl inferInstance rfl inferInstance ?_)
  refine SXA.done (by decide +kernel) ?_
  repeat (first | refine SXL.pure rfl rfl ?_ | refine SXL.load rfl inferInstance rfl rfl ?_ | refine SXL.store rfl rfl inferInstance rfl ?_ | refine SXL.nil ?_ | refine SX.region ?_ | refine SX.seq ?_ | refine SX.skip ?_ | refine SX.block ?_ | refine SX.endBlock ?_ | refine SX.exit rfl ?_ | refine SX.cond_t rfl (by first | with_reducible rfl | decide) ?_ | refine SX.cond_f rfl (by first | with_reducible rfl | decide) ?_ | refine SXL.guard_t rfl rfl (by first | with_reducible rfl | decide) ?_ | refine SXL.guard_f rfl rfl (by first | with_reducible rfl | decide) rfl ?_ | refine SXL.guard_n rfl rfl (by first | with_reducible rfl | decide) ?_ | refine SXL.guard_fu rfl rfl rfl ?_ | refine SXL.guard_nu rfl rfl ?_)
  refine SX.same 2 (.bool true) rfl (by rw [free_f hs]; simp) ?_
  refine SX.ret (M' := F) rfl (Evals.tmp rfl Evals.nil) ?_ inferInstance
  exact h
end
/-! ### as walks of a world -/
theorem slV (s : Sl) (A : Option Addr) (c : Nat) : Value.agg #[.int .u32 s.ino, .int .u32 s.kind, .int .u32 s.gen, .int .u32 s.links, .int .u32 s.mode, .int .u64 s.change, .int .u64 s.cookie, .int .u64 s.verf, .slice A s.d.length c] = .agg (slC s A c).toArray := rfl
theorem wf_mk {a0 a1 a2 a3 a4 a5 a6 a7 : Int} {l : List Int} (w0 : (Lit.int .u32 a0).wf = true) (w1 : (Lit.int .u32 a1).wf = true) (w2 : (Lit.int .u32 a2).wf = true) (w3 : (Lit.int .u32 a3).wf = true) (w4 : (Lit.int .u32 a4).wf = true) (w5 : (Lit.int .u64 a5).wf = true) (w6 : (Lit.int .u64 a6).wf = true) (w7 : (Lit.int .u64 a7).wf = true)
    (w8 : l.length ≤ maxLen ∧ ∀ x ∈ l, (Lit.int .u8 x).wf = true) : (⟨a0, a1, a2, a3, a4, a5, a6, a7, l⟩ : Sl).wf :=
  ⟨u32_of_wf _ w0, u32_of_wf _ w1, u32_of_wf _ w2, u32_of_wf _ w3, u32_of_wf _ w4, u64_of_wf _ w5, u64_of_wf _ w6, u64_of_wf _ w7, bytesB_of_wf l w8.2⟩
theorem SlotGets_any (A : Option Addr) (c : Nat) (b : List Int) (W : World) (hr : Kd.C (Kd.int .u8) W A b.length b) (hc : b.length ≤ c) (hw : b.length ≤ maxLen ∧ ∀ x ∈ b, (Lit.int .u8 x).wf = true) :
    Calls Try.prog 11 #[.slice A b.length c] W fun e w' => e = .returned (.bool true) ∧ Below W.heap.size W w' :=
  Fn.out W [.per (roR (Kd.int .u8) A b), .per (oldR W)] (Holds.ofStart (Holds.startRow (Holds.start0 W) (Kd.C_F (Kd.heap_int _) hr))) inferInstance
    (SlotGets_S inferInstance hc (bytesB_of_wf b hw.2) ⟨rfl, inferInstance⟩)
theorem SlotFree_any (a0 a1 a2 a3 a4 a5 a6 a7 : Int) (A : Option Addr) (c : Nat) (l : List Int) (W : World) (w0 : (Lit.int .u32 a0).wf = true) (w1 : (Lit.int .u32 a1).wf = true) (w2 : (Lit.int .u32 a2).wf = true) (w3 : (Lit.int .u32 a3).wf = true) (w4 : (Lit.int .u32 a4).wf = true) (w5 : (Lit.int .u64 a5).wf = true) (w6 : (Lit.int .u64 a6).wf = true) (w7 : (Lit.int .u64 a7).wf = true)
    (hr : Kd.C (Kd.int .u8) W A l.length l) (hc : l.length ≤ c) (w8 : l.length ≤ maxLen ∧ ∀ x ∈ l, (Lit.int .u8 x).wf = true) :
    Calls Try.prog 13 #[.agg #[.int .u32 a0, .int .u32 a1, .int .u32 a2, .int .u32 a3, .int .u32 a4, .int .u64 a5, .int .u64 a6, .int .u64 a7, .slice A l.length c]] W fun e w' => e = .returned (.bool true) ∧ Below W.heap.size W w' :=
  Fn.out W [.per (roR (Kd.int .u8) A l), .per (oldR W)] (Holds.ofStart (Holds.startRow (Holds.start0 W) (Kd.C_F (Kd.heap_int _) hr))) inferInstance
    (SlotFree_S (s := ⟨a0, a1, a2, a3, a4, a5, a6, a7, l⟩) inferInstance hc (wf_mk w0 w1 w2 w3 w4 w5 w6 w7 w8) ⟨rfl, inferInstance⟩)
theorem SlotUnlike_any (a0 a1 a2 a3 a4 a5 a6 a7 : Int) (A : Option Addr) (c : Nat) (l : List Int) (x0 x1 x2 x3 x4 x5 x6 x7 : Int) (B : Option Addr) (d : Nat) (m : List Int) (sm : Bool) (W : World) (w0 : (Lit.int .u32 a0).wf = true) (w1 : (Lit.int .u32 a1).wf = true) (w2 : (Lit.int .u32 a2).wf = true) (w3 : (Lit.int .u32 a3).wf = true) (w4 : (Lit.int .u32 a4).wf = true) (w5 : (Lit.int .u64 a5).wf = true) (w6 : (Lit.int .u64 a6).wf = true) (w7 : (Lit.int .u64 a7).wf = true)
    (hr : Kd.C (Kd.int .u8) W A l.length l) (hc : l.length ≤ c) (w8 : l.length ≤ maxLen ∧ ∀ x ∈ l, (Lit.int .u8 x).wf = true)
    (y0 : (Lit.int .u32 x0).wf = true) (y1 : (Lit.int .u32 x1).wf = true) (y2 : (Lit.int .u32 x2).wf = true) (y3 : (Lit.int .u32 x3).wf = true) (y4 : (Lit.int .u32 x4).wf = true) (y5 : (Lit.int .u64 x5).wf = true) (y6 : (Lit.int .u64 x6).wf = true) (y7 : (Lit.int .u64 x7).wf = true)
    (hr2 : Kd.C (Kd.int .u8) W B m.length m) (hd : m.length ≤ d) (y8 : m.length ≤ maxLen ∧ ∀ x ∈ m, (Lit.int .u8 x).wf = true) :
    Calls Try.prog 14 #[.agg #[.int .u32 a0, .int .u32 a1, .int .u32 a2, .int .u32 a3, .int .u32 a4, .int .u64 a5, .int .u64 a6, .int .u64 a7, .slice A l.length c], .agg #[.int .u32 x0, .int .u32 x1, .int .u32 x2, .int .u32 x3, .int .u32 x4, .int .u64 x5, .int .u64 x6, .int .u64 x7, .slice B m.length d], .bool sm] W fun e w' => e = .returned (.bool true) ∧ Below W.heap.size W w' :=
  Fn.out W [.per (roR (Kd.int .u8) A l), .per (roR (Kd.int .u8) B m), .per (oldR W)] (Holds.ofStart (Holds.startRow (Holds.startRow (Holds.start0 W) (Kd.C_F (Kd.heap_int _) hr2)) (Kd.C_F (Kd.heap_int _) hr))) inferInstance
    (SlotUnlike_S (s := ⟨a0, a1, a2, a3, a4, a5, a6, a7, l⟩) (u := ⟨x0, x1, x2, x3, x4, x5, x6, x7, m⟩) ⟨(inferInstance : Ro (Kd.int .u8) A [.per (roR (Kd.int .u8) A l), .per (roR (Kd.int .u8) B m), .per (oldR W)] l).h⟩ ⟨fun w I U h => (inferInstance : Ro (Kd.int .u8) B [.per (roR (Kd.int .u8) B m), .per (oldR W)] m).h w I U h.tail⟩ hc hd (wf_mk w0 w1 w2 w3 w4 w5 w6 w7 w8) (wf_mk y0 y1 y2 y3 y4 y5 y6 y7 y8) ⟨rfl, inferInstance⟩)
end Go.Proofs.Ytlpjchighfdomaa.Sx
