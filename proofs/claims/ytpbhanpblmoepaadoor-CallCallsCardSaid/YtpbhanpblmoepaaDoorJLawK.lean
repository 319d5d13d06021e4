/- Chapter 9's law CallCalls, walked; conditions: those that each theorem names. -/
import Derived.Test.YtpbhanpblmoepaaDoorJLawJ
namespace Go.Proofs.YtpbhanpblmoepaaDoor.Sx
open Go.RowKit Go.Proofs.YtpbhanpblmoepaaDoor.Hm Go.Proofs.YtpbhanpblmoepaaDoorW.PrintWords Go.Proofs.YtpbhanpblmoepaaDoorW.PrintLast Go.Proofs.YtpbhanpblmoepaaDoorW.PrintMore
set_option linter.unusedVariables false
set_option linter.unusedSimpArgs false
attribute [local irreducible] SX SXL SXA St callK Post Evals

section
variable {F R : List Thing} {K : Ending → List Thing → Prop} {A B : Option Addr} {c c2 : Nat} {tg : TypeId} {s : Ca}
theorem RChanges_S {op : Int} (h : K (.returned (.bool (chB op))) F) : Fn (Tryd.prog) 16 [.int .u32 op] F K := by
  refine Fn.enter Tryd.call16 Tryd.func16 rfl rfl rfl ?_
  repeat (first | refine Qa ?_ | refine Qb ?_ | refine Qc ?_ | refine Qd ?_ | refine Qe ?_ | refine Qf ?_ | refine Qg ?_ | refine Qh ?_ | refine Qi ?_ | refine Qj ?_ | refine Qk ?_ | refine Ql ?_ | refine Qm ?_ | refine Qn ?_ | refine Qo ?_ | refine Qp ?_ | refine Qq ?_ | fail)
  refine SXL.split (s := 5) rfl (fun h5 => ?_) (fun h5 => ?_)
  · have k5 : op = 3 := by simpa using h5
    repeat (first | refine Qa ?_ | refine Qb ?_ | refine Qc ?_ | refine Qd ?_ | refine Qe ?_ | refine Qf ?_ | refine Qg ?_ | refine Qh ?_ | refine Qi ?_ | refine Qj ?_ | refine Qk ?_ | refine Ql ?_ | refine Qm ?_ | refine Qn ?_ | refine Qo ?_ | refine Qp ?_ | refine Qq ?_ | fail)
    refine SX.same 2 (.bool (chB op)) rfl (by simp only [chB, Value.bool.injEq]; rw [Bool.eq_iff_iff]; simp; omega) ?_
    refine SX.ret (M' := F) rfl (Evals.tmp rfl Evals.nil) ?_ inferInstance
    exact h
  have k5 : op ≠ 3 := by simpa using h5
  repeat (first | refine Qa ?_ | refine Qb ?_ | refine Qc ?_ | refine Qd ?_ | refine Qe ?_ | refine Qf ?_ | refine Qg ?_ | refine Qh ?_ | refine Qi ?_ | refine Qj ?_ | refine Qk ?_ | refine Ql ?_ | refine Qm ?_ | refine Qn ?_ | refine Qo ?_ | refine Qp ?_ | refine Qq ?_ | fail)
  refine SXL.split (s := 8) rfl (fun h8 => ?_) (fun h8 => ?_)
  · have k8 := of_decide_eq_true h8
    repeat (first | refine Qa ?_ | refine Qb ?_ | refine Qc ?_ | refine Qd ?_ | refine Qe ?_ | refine Qf ?_ | refine Qg ?_ | refine Qh ?_ | refine Qi ?_ | refine Qj ?_ | refine Qk ?_ | refine Ql ?_ | refine Qm ?_ | refine Qn ?_ | refine Qo ?_ | refine Qp ?_ | refine Qq ?_ | fail)
    refine SXL.split (s := 13) rfl (fun h13 => ?_) (fun h13 => ?_)
    · have k13 := of_decide_eq_true h13
      repeat (first | refine Qa ?_ | refine Qb ?_ | refine Qc ?_ | refine Qd ?_ | refine Qe ?_ | refine Qf ?_ | refine Qg ?_ | refine Qh ?_ | refine Qi ?_ | refine Qj ?_ | refine Qk ?_ | refine Ql ?_ | refine Qm ?_ | refine Qn ?_ | refine Qo ?_ | refine Qp ?_ | refine Qq ?_ | fail)
      refine SX.same 2 (.bool (chB op)) rfl (by simp only [chB, Value.bool.injEq]; rw [Bool.eq_iff_iff]; simp; omega) ?_
      refine SX.ret (M' := F) rfl (Evals.tmp rfl Evals.nil) ?_ inferInstance
      exact h
    have k13 := of_decide_eq_false h13
    repeat (first | refine Qa ?_ | refine Qb ?_ | refine Qc ?_ | refine Qd ?_ | refine Qe ?_ | refine Qf ?_ | refine Qg ?_ | refine Qh ?_ | refine Qi ?_ | refine Qj ?_ | refine Qk ?_ | refine Ql ?_ | refine Qm ?_ | refine Qn ?_ | refine Qo ?_ | refine Qp ?_ | refine Qq ?_ | fail)
    refine SXL.split (s := 16) rfl (fun h16 => ?_) (fun h16 => ?_)
    · have k16 := of_decide_eq_true h16
      repeat (first | refine Qa ?_ | refine Qb ?_ | refine Qc ?_ | refine Qd ?_ | refine Qe ?_ | refine Qf ?_ | refine Qg ?_ | refine Qh ?_ | refine Qi ?_ | refine Qj ?_ | refine Qk ?_ | refine Ql ?_ | refine Qm ?_ | refine Qn ?_ | refine Qo ?_ | refine Qp ?_ | refine Qq ?_ | fail)
      refine SX.same 2 (.bool (chB op)) rfl (by simp only [chB, Value.bool.injEq]; rw [Bool.eq_iff_iff]; simp; omega) ?_
      refine SX.ret (M' := F) rfl (Evals.tmp rfl Evals.nil) ?_ inferInstance
      exact h
    · have k16 := of_decide_eq_false h16
      repeat (first | refine Qa ?_ | refine Qb ?_ | refine Qc ?_ | refine Qd ?_ | refine Qe ?_ | refine Qf ?_ | refine Qg ?_ | refine Qh ?_ | refine Qi ?_ | refine Qj ?_ | refine Qk ?_ | refine Ql ?_ | refine Qm ?_ | refine Qn ?_ | refine Qo ?_ | refine Qp ?_ | refine Qq ?_ | fail)
      refine SX.same 2 (.bool (chB op)) rfl (by simp only [chB, Value.bool.injEq]; rw [Bool.eq_iff_iff]; simp; omega) ?_
      refine SX.ret (M' := F) rfl (Evals.tmp rfl Evals.nil) ?_ inferInstance
      exact h
  · have k8 := of_decide_eq_false h8
    repeat (first | refine Qa ?_ | refine Qb ?_ | refine Qc ?_ | refine Qd ?_ | refine Qe ?_ | refine Qf ?_ | refine Qg ?_ | refine Qh ?_ | refine Qi ?_ | refine Qj ?_ | refine Qk ?_ | refine Ql ?_ | refine Qm ?_ | refine Qn ?_ | refine Qo ?_ | refine Qp ?_ | refine Qq ?_ | fail)
    refine SXL.split (s := 16) rfl (fun h16 => ?_) (fun h16 => ?_)
    · have k16 := of_decide_eq_true h16
      repeat (first | refine Qa ?_ | refine Qb ?_ | refine Qc ?_ | refine Qd ?_ | refine Qe ?_ | refine Qf ?_ | refine Qg ?_ | refine Qh ?_ | refine Qi ?_ | refine Qj ?_ | refine Qk ?_ | refine Ql ?_ | refine Qm ?_ | refine Qn ?_ | refine Qo ?_ | refine Qp ?_ | refine Qq ?_ | fail)
      refine SX.same 2 (.bool (chB op)) rfl (by simp only [chB, Value.bool.injEq]; rw [Bool.eq_iff_iff]; simp; omega) ?_
      refine SX.ret (M' := F) rfl (Evals.tmp rfl Evals.nil) ?_ inferInstance
      exact h
    · have k16 := of_decide_eq_false h16
      repeat (first | refine Qa ?_ | refine Qb ?_ | refine Qc ?_ | refine Qd ?_ | refine Qe ?_ | refine Qf ?_ | refine Qg ?_ | refine Qh ?_ | refine Qi ?_ | refine Qj ?_ | refine Qk ?_ | refine Ql ?_ | refine Qm ?_ | refine Qn ?_ | refine Qo ?_ | refine Qp ?_ | refine Qq ?_ | fail)
      refine SX.same 2 (.bool (chB op)) rfl (by simp only [chB, Value.bool.injEq]; rw [Bool.eq_iff_iff]; simp; omega) ?_
      refine SX.ret (M' := F) rfl (Evals.tmp rfl Evals.nil) ?_ inferInstance
      exact h
set_option maxHeartbeats 1000000 in
set_option maxRecDepth 20000 in
theorem CallCalls_S {b : List Int} {op : Int} (hg : Has (cellsR 0 chT tg) F) (hr : Ro (Kd.int .u8) A F s.d) (hrb : Ro (Kd.int .u8) B F b) (hc : s.d.length ≤ c) (hcb : b.length ≤ c2) (hs : s.wf) (hb : bytesB b = true) (h0 : 0 ≤ op) (h : K (.returned (.bool true)) F) :
    Fn (Tryd.prog) 3 [.agg (caC s A c).toArray, .slice B b.length c2, .int .u32 op] F K := by
  unfold caC
  refine Fn.enter Tryd.call3 Tryd.func3 rfl rfl rfl ?_
  repeat (first | refine Qa ?_ | refine Qb ?_ | refine Qc ?_ | refine Qd ?_ | refine Qe ?_ | refine Qf ?_ | refine Qg ?_ | refine Qh ?_ | refine Qi ?_ | refine Qj ?_ | refine Qk ?_ | refine Ql ?_ | refine Qm ?_ | refine Qn ?_ | refine Qo ?_ | refine Qp ?_ | refine Qq ?_ | fail)
  refine SXL.box rfl rfl rfl (fun b1 => ?_)
  repeat (first | refine Qa ?_ | refine Qb ?_ | refine Qc ?_ | refine Qd ?_ | refine Qe ?_ | refine Qf ?_ | refine Qg ?_ | refine Qh ?_ | refine Qi ?_ | refine Qj ?_ | refine Qk ?_ | refine Ql ?_ | refine Qm ?_ | refine Qn ?_ | refine Qo ?_ | refine Qp ?_ | refine Qq ?_ | fail)
  refine SXL.call rfl rfl rfl ?_
  refine (awake09_S (tg := tg) inferInstance (callK.ret ?_))
  repeat (first | refine Qa ?_ | refine Qb ?_ | refine Qc ?_ | refine Qd ?_ | refine Qe ?_ | refine Qf ?_ | refine Qg ?_ | refine Qh ?_ | refine Qi ?_ | refine Qj ?_ | refine Qk ?_ | refine Ql ?_ | refine Qm ?_ | refine Qn ?_ | refine Qo ?_ | refine Qp ?_ | refine Qq ?_ | fail)
  refine SXL.split (s := 26) rfl (fun k1 => ?_) (fun k1 => ?_)
  · repeat (first | refine Qa ?_ | refine Qb ?_ | refine Qc ?_ | refine Qd ?_ | refine Qe ?_ | refine Qf ?_ | refine Qg ?_ | refine Qh ?_ | refine Qi ?_ | refine Qj ?_ | refine Qk ?_ | refine Ql ?_ | refine Qm ?_ | refine Qn ?_ | refine Qo ?_ | refine Qp ?_ | refine Qq ?_ | fail)
    refine SX.ret (M' := F) rfl (Evals.tmp rfl Evals.nil) ?_ inferInstance
    exact h
  have k1' := of_decide_eq_false k1
  repeat (first | refine Qa ?_ | refine Qb ?_ | refine Qc ?_ | refine Qd ?_ | refine Qe ?_ | refine Qf ?_ | refine Qg ?_ | refine Qh ?_ | refine Qi ?_ | refine Qj ?_ | refine Qk ?_ | refine Ql ?_ | refine Qm ?_ | refine Qn ?_ | refine Qo ?_ | refine Qp ?_ | refine Qq ?_ | fail)
  refine SXL.split (s := 32) rfl (fun k2 => ?_) (fun k2 => ?_)
  · repeat (first | refine Qa ?_ | refine Qb ?_ | refine Qc ?_ | refine Qd ?_ | refine Qe ?_ | refine Qf ?_ | refine Qg ?_ | refine Qh ?_ | refine Qi ?_ | refine Qj ?_ | refine Qk ?_ | refine Ql ?_ | refine Qm ?_ | refine Qn ?_ | refine Qo ?_ | refine Qp ?_ | refine Qq ?_ | fail)
    refine SX.ret (M' := F) rfl (Evals.tmp rfl Evals.nil) ?_ inferInstance
    exact h
  repeat (first | refine Qa ?_ | refine Qb ?_ | refine Qc ?_ | refine Qd ?_ | refine Qe ?_ | refine Qf ?_ | refine Qg ?_ | refine Qh ?_ | refine Qi ?_ | refine Qj ?_ | refine Qk ?_ | refine Ql ?_ | refine Qm ?_ | refine Qn ?_ | refine Qo ?_ | refine Qp ?_ | refine Qq ?_ | fail)
  refine SXL.split (s := 38) rfl (fun k3 => ?_) (fun k3 => ?_)
  · repeat (first | refine Qa ?_ | refine Qb ?_ | refine Qc ?_ | refine Qd ?_ | refine Qe ?_ | refine Qf ?_ | refine Qg ?_ | refine Qh ?_ | refine Qi ?_ | refine Qj ?_ | refine Qk ?_ | refine Ql ?_ | refine Qm ?_ | refine Qn ?_ | refine Qo ?_ | refine Qp ?_ | refine Qq ?_ | fail)
    refine SX.ret (M' := F) rfl (Evals.tmp rfl Evals.nil) ?_ inferInstance
    exact h
  repeat (first | refine Qa ?_ | refine Qb ?_ | refine Qc ?_ | refine Qd ?_ | refine Qe ?_ | refine Qf ?_ | refine Qg ?_ | refine Qh ?_ | refine Qi ?_ | refine Qj ?_ | refine Qk ?_ | refine Ql ?_ | refine Qm ?_ | refine Qn ?_ | refine Qo ?_ | refine Qp ?_ | refine Qq ?_ | fail)
  refine SX.condp rfl (fun k4 => ?_) (fun k4 => ?_)
  · repeat (first | refine Qa ?_ | refine Qb ?_ | refine Qc ?_ | refine Qd ?_ | refine Qe ?_ | refine Qf ?_ | refine Qg ?_ | refine Qh ?_ | refine Qi ?_ | refine Qj ?_ | refine Qk ?_ | refine Ql ?_ | refine Qm ?_ | refine Qn ?_ | refine Qo ?_ | refine Qp ?_ | refine Qq ?_ | fail)
    refine SX.ret (M' := F) rfl (Evals.tmp rfl Evals.nil) ?_ inferInstance
    exact h
  repeat (first | refine Qa ?_ | refine Qb ?_ | refine Qc ?_ | refine Qd ?_ | refine Qe ?_ | refine Qf ?_ | refine Qg ?_ | refine Qh ?_ | refine Qi ?_ | refine Qj ?_ | refine Qk ?_ | refine Ql ?_ | refine Qm ?_ | refine Qn ?_ | refine Qo ?_ | refine Qp ?_ | refine Qq ?_ | fail)
  refine SXL.call rfl rfl rfl ?_
  refine (PutCall_S (s := s) inferInstance hc hs (fun r n hm A1 c1 hc1 => callK.ret ?_))
  repeat (first | refine Qa ?_ | refine Qb ?_ | refine Qc ?_ | refine Qd ?_ | refine Qe ?_ | refine Qf ?_ | refine Qg ?_ | refine Qh ?_ | refine Qi ?_ | refine Qj ?_ | refine Qk ?_ | refine Ql ?_ | refine Qm ?_ | refine Qn ?_ | refine Qo ?_ | refine Qp ?_ | refine Qq ?_ | fail)
  refine SXL.call rfl rfl rfl ?_
  refine (callOf_S (s := s) inferInstance (callK.ret ?_))
  repeat (first | refine Qa ?_ | refine Qb ?_ | refine Qc ?_ | refine Qd ?_ | refine Qe ?_ | refine Qf ?_ | refine Qg ?_ | refine Qh ?_ | refine Qi ?_ | refine Qj ?_ | refine Qk ?_ | refine Ql ?_ | refine Qm ?_ | refine Qn ?_ | refine Qo ?_ | refine Qp ?_ | refine Qq ?_ | fail)
  refine SXL.call rfl rfl rfl ?_
  refine (RPutCall_S (s := s) hs (fun r' n' hm' => callK.ret ?_))
  rw [hm] at hm'
  simp only [Prod.mk.injEq] at hm'
  obtain ⟨rfl, rfl⟩ := hm'
  repeat (first | refine Qa ?_ | refine Qb ?_ | refine Qc ?_ | refine Qd ?_ | refine Qe ?_ | refine Qf ?_ | refine Qg ?_ | refine Qh ?_ | refine Qi ?_ | refine Qj ?_ | refine Qk ?_ | refine Ql ?_ | refine Qm ?_ | refine Qn ?_ | refine Qo ?_ | refine Qp ?_ | refine Qq ?_ | fail)
  refine SXL.call rfl rfl rfl ?_
  refine (GetCall_S (xs := b) inferInstance hcb hb (by omega) (fun x m hg2 A2 c3 hc3 => callK.ret ?_))
  obtain ⟨hxw, hx1, hx2, hx3, -⟩ := getCa_wf hb hg2
  repeat (first | refine Qa ?_ | refine Qb ?_ | refine Qc ?_ | refine Qd ?_ | refine Qe ?_ | refine Qf ?_ | refine Qg ?_ | refine Qh ?_ | refine Qi ?_ | refine Qj ?_ | refine Qk ?_ | refine Ql ?_ | refine Qm ?_ | refine Qn ?_ | refine Qo ?_ | refine Qp ?_ | refine Qq ?_ | fail)
  refine SXL.alloc rfl rfl (fun b3 => ?_)
  repeat (first | refine Qa ?_ | refine Qb ?_ | refine Qc ?_ | refine Qd ?_ | refine Qe ?_ | refine Qf ?_ | refine Qg ?_ | refine Qh ?_ | refine Qi ?_ | refine Qj ?_ | refine Qk ?_ | refine Ql ?_ | refine Qm ?_ | refine Qn ?_ | refine Qo ?_ | refine Qp ?_ | refine Qq ?_ | fail)
  refine SXL.bytesStr rfl inferInstance rfl Tryd.underlying26 Tryd.underlying5 Tryd.underlying9 rfl ?_
  repeat (first | refine Qa ?_ | refine Qb ?_ | refine Qc ?_ | refine Qd ?_ | refine Qe ?_ | refine Qf ?_ | refine Qg ?_ | refine Qh ?_ | refine Qi ?_ | refine Qj ?_ | refine Qk ?_ | refine Ql ?_ | refine Qm ?_ | refine Qn ?_ | refine Qo ?_ | refine Qp ?_ | refine Qq ?_ | fail)
  refine SXL.call rfl rfl rfl ?_
  refine (RGetCall_S (strOfNums b) (by rw [size_strOfNums]; omega) (fun x' m' hg3 => callK.ret ?_))
  rw [bytesOf_strOfNums _ hb, hg2] at hg3
  simp only [Prod.mk.injEq] at hg3
  obtain ⟨rfl, rfl⟩ := hg3
  repeat (first | refine Qa ?_ | refine Qb ?_ | refine Qc ?_ | refine Qd ?_ | refine Qe ?_ | refine Qf ?_ | refine Qg ?_ | refine Qh ?_ | refine Qi ?_ | refine Qj ?_ | refine Qk ?_ | refine Ql ?_ | refine Qm ?_ | refine Qn ?_ | refine Qo ?_ | refine Qp ?_ | refine Qq ?_ | fail)
  refine SXL.alloc rfl rfl (fun b4 => ?_)
  repeat (first | refine Qa ?_ | refine Qb ?_ | refine Qc ?_ | refine Qd ?_ | refine Qe ?_ | refine Qf ?_ | refine Qg ?_ | refine Qh ?_ | refine Qi ?_ | refine Qj ?_ | refine Qk ?_ | refine Ql ?_ | refine Qm ?_ | refine Qn ?_ | refine Qo ?_ | refine Qp ?_ | refine Qq ?_ | fail)
  refine SXA.begin [.own (some ⟨b4, 0, none⟩) (cellsR b4 (raC x) 36), .own (some ⟨b3, 0, none⟩) (cellsR b3 (caC x A2 c3) 28), .own A2 (rowR (Kd.int .u8) 5 (.slice A2 x.d.length c3) x.d), .own A1 (rowR (Kd.int .u8) 5 (.slice A1 r.length c1) r), .own (some ⟨b1, 0, none⟩) (cellsR b1 (caC s A c) 28)] [] ?_
  unfold caC raC
  (first | refine Qr 0 ?_ | refine Qs 0 ?_ | refine Qt 0 ?_ | refine Qu 0 ?_ | fail)
  (first | refine Qr 2 ?_ | refine Qs 2 ?_ | refine Qt 2 ?_ | refine Qu 2 ?_ | fail)
  refine SXA.bytesStr 1 rfl (by decide +kernel) rfl rfl inferInstance rfl Tryd.underlying26 Tryd.underlying5 Tryd.underlying9 rfl inferInstance ?_
  (first | refine Qr 3 ?_ | refine Qs 3 ?_ | refine Qt 3 ?_ | refine Qu 3 ?_ | fail)
  (first | refine Qr 4 ?_ | refine Qs 4 ?_ | refine Qt 4 ?_ | refine Qu 4 ?_ | fail)
  refine SXA.know 70 false rfl (by simp) ?_
  (first | refine Qr 5 ?_ | refine Qs 5 ?_ | refine Qt 5 ?_ | refine Qu 5 ?_ | fail)
  (first | refine Qr 6 ?_ | refine Qs 6 ?_ | refine Qt 6 ?_ | refine Qu 6 ?_ | fail)
  (first | refine Qr 7 ?_ | refine Qs 7 ?_ | refine Qt 7 ?_ | refine Qu 7 ?_ | fail)
  (first | refine Qr 8 ?_ | refine Qs 8 ?_ | refine Qt 8 ?_ | refine Qu 8 ?_ | fail)
  (first | refine Qr 9 ?_ | refine Qs 9 ?_ | refine Qt 9 ?_ | refine Qu 9 ?_ | fail)
  refine SXA.know 75 false rfl (by simp) ?_
  (first | refine Qr 10 ?_ | refine Qs 10 ?_ | refine Qt 10 ?_ | refine Qu 10 ?_ | fail)
  (first | refine Qr 11 ?_ | refine Qs 11 ?_ | refine Qt 11 ?_ | refine Qu 11 ?_ | fail)
  (first | refine Qr 12 ?_ | refine Qs 12 ?_ | refine Qt 12 ?_ | refine Qu 12 ?_ | fail)
  (first | refine Qr 13 ?_ | refine Qs 13 ?_ | refine Qt 13 ?_ | refine Qu 13 ?_ | fail)
  (first | refine Qr 14 ?_ | refine Qs 14 ?_ | refine Qt 14 ?_ | refine Qu 14 ?_ | fail)
  refine SXA.know 80 false rfl (by simp) ?_
  (first | refine Qr 15 ?_ | refine Qs 15 ?_ | refine Qt 15 ?_ | refine Qu 15 ?_ | fail)
  (first | refine Qr 17 ?_ | refine Qs 17 ?_ | refine Qt 17 ?_ | refine Qu 17 ?_ | fail)
  refine Qw 16 ?_
  refine Qm ?_
  refine SXL.call rfl rfl rfl ?_
  refine (callOf_S (s := x) (A := A2) inferInstance (callK.ret ?_))
  refine SXL.nil (SXA.next inferInstance ?_)
  refine Qw 18 ?_
  refine Qm ?_
  refine SXL.neStr rfl rfl inferInstance inferInstance rfl rfl rfl rfl ?_
  refine SXL.nil (SXA.next inferInstance ?_)
  (first | refine Qr 19 ?_ | refine Qs 19 ?_ | refine Qt 19 ?_ | refine Qu 19 ?_ | fail)
  (first | refine Qr 20 ?_ | refine Qs 20 ?_ | refine Qt 20 ?_ | refine Qu 20 ?_ | fail)
  refine SXA.know 86 false rfl (by simp) ?_
  (first | refine Qr 21 ?_ | refine Qs 21 ?_ | refine Qt 21 ?_ | refine Qu 21 ?_ | fail)
  (first | refine Qr 23 ?_ | refine Qs 23 ?_ | refine Qt 23 ?_ | refine Qu 23 ?_ | fail)
  refine Qw 22 ?_
  refine Qm ?_
  refine SXL.call rfl rfl rfl ?_
  refine (Changes_S (tg := tg) inferInstance h0 (callK.ret ?_))
  refine SXL.nil (SXA.next inferInstance ?_)
  refine Qw 24 ?_
  refine Qm ?_
  refine SXL.call rfl rfl rfl ?_
  refine (RChanges_S (callK.ret ?_))
  refine SXL.nil (SXA.next inferInstance ?_)
  (first | refine Qr 25 ?_ | refine Qs 25 ?_ | refine Qt 25 ?_ | refine Qu 25 ?_ | fail)
  (first | refine Qr 26 ?_ | refine Qs 26 ?_ | refine Qt 26 ?_ | refine Qu 26 ?_ | fail)
  refine Qv ?_
  refine SX.know 92 false rfl (by simp) ?_
  repeat (first | refine Qa ?_ | refine Qb ?_ | refine Qc ?_ | refine Qd ?_ | refine Qe ?_ | refine Qf ?_ | refine Qg ?_ | refine Qh ?_ | refine Qi ?_ | refine Qj ?_ | refine Qk ?_ | refine Ql ?_ | refine Qm ?_ | refine Qn ?_ | refine Qo ?_ | refine Qp ?_ | refine Qq ?_ | fail)
  refine SX.cut (fun a M => a = [(1, .slice B b.length c2), (12, .pointer (some ⟨b3, 0, none⟩)), (13, .int .i64 m)] ∧ .own (some ⟨b3, 0, none⟩) (cellsR b3 (caC x A2 c3) 28) :: .own A2 (rowR (Kd.int .u8) 5 (.slice A2 x.d.length c3) x.d) :: F = M) ?_ ?_
  · refine SX.cond rfl (fun hn => ?_) (fun hn => ?_)
    rotate_left
    · repeat (first | refine Qa ?_ | refine Qb ?_ | refine Qc ?_ | refine Qd ?_ | refine Qe ?_ | refine Qf ?_ | refine Qg ?_ | refine Qh ?_ | refine Qi ?_ | refine Qj ?_ | refine Qk ?_ | refine Ql ?_ | refine Qm ?_ | refine Qn ?_ | refine Qo ?_ | refine Qp ?_ | refine Qq ?_ | fail)
      refine SX.meet ⟨rfl, rfl⟩ (by repeat (first | exact trivial | refine ⟨rfl, ?_⟩)) (by unfold caC; infer_instance)
    obtain rfl : n = 0 := by simpa using hn
    obtain ⟨k, rfl⟩ := putCa_ok hm
    have e1 := encCa_len s
    have e3 := okCa_len k
    have e4 : bytesB (encCa s) = true := encFs_bytes (okCa_fs hs k)
    repeat (first | refine Qa ?_ | refine Qb ?_ | refine Qc ?_ | refine Qd ?_ | refine Qe ?_ | refine Qf ?_ | refine Qg ?_ | refine Qh ?_ | refine Qi ?_ | refine Qj ?_ | refine Qk ?_ | refine Ql ?_ | refine Qm ?_ | refine Qn ?_ | refine Qo ?_ | refine Qp ?_ | refine Qq ?_ | fail)
    refine SXL.call rfl rfl rfl ?_
    refine (GetCall_S (xs := encCa s) inferInstance hc1 e4 (by omega) (fun z i hg4 A5 c5 hc5 => callK.ret ?_))
    rw [getCa_put hs k] at hg4
    simp only [Prod.mk.injEq] at hg4
    obtain ⟨rfl, rfl⟩ := hg4
    repeat (first | refine Qa ?_ | refine Qb ?_ | refine Qc ?_ | refine Qd ?_ | refine Qe ?_ | refine Qf ?_ | refine Qg ?_ | refine Qh ?_ | refine Qi ?_ | refine Qj ?_ | refine Qk ?_ | refine Ql ?_ | refine Qm ?_ | refine Qn ?_ | refine Qo ?_ | refine Qp ?_ | refine Qq ?_ | fail)
    refine SXL.alloc rfl rfl (fun b5 => ?_)
    repeat (first | refine Qa ?_ | refine Qb ?_ | refine Qc ?_ | refine Qd ?_ | refine Qe ?_ | refine Qf ?_ | refine Qg ?_ | refine Qh ?_ | refine Qi ?_ | refine Qj ?_ | refine Qk ?_ | refine Ql ?_ | refine Qm ?_ | refine Qn ?_ | refine Qo ?_ | refine Qp ?_ | refine Qq ?_ | fail)
    refine SXA.begin [.own (some ⟨b5, 0, none⟩) (cellsR b5 (caC s A5 c5) 28), .own A5 (rowR (Kd.int .u8) 5 (.slice A5 s.d.length c5) s.d), .own (some ⟨b3, 0, none⟩) (cellsR b3 (caC x A2 c3) 28), .own A2 (rowR (Kd.int .u8) 5 (.slice A2 x.d.length c3) x.d), .own (some ⟨b1, 0, none⟩) (cellsR b1 (caC s A c) 28)] [] ?_
    unfold caC
    (first | refine Qr 0 ?_ | refine Qs 0 ?_ | refine Qt 0 ?_ | refine Qu 0 ?_ | fail)
    (first | refine Qr 1 ?_ | refine Qs 1 ?_ | refine Qt 1 ?_ | refine Qu 1 ?_ | fail)
    (first | refine Qr 2 ?_ | refine Qs 2 ?_ | refine Qt 2 ?_ | refine Qu 2 ?_ | fail)
    refine SXA.know 102 false rfl (by simp) ?_
    (first | refine Qr 3 ?_ | refine Qs 3 ?_ | refine Qt 3 ?_ | refine Qu 3 ?_ | fail)
    (first | refine Qr 5 ?_ | refine Qs 5 ?_ | refine Qt 5 ?_ | refine Qu 5 ?_ | fail)
    refine Qw 4 ?_
    refine Qm ?_
    refine SXL.call rfl rfl rfl ?_
    refine (callOf_S (s := s) (A := A5) inferInstance (callK.ret ?_))
    refine SXL.nil (SXA.next inferInstance ?_)
    refine Qw 6 ?_
    refine Qm ?_
    refine SXL.call rfl rfl rfl ?_
    refine (callOf_S (s := s) (A := A) inferInstance (callK.ret ?_))
    refine SXL.nil (SXA.next inferInstance ?_)
    refine Qw 7 ?_
    refine Qm ?_
    refine SXL.neStr rfl rfl inferInstance inferInstance rfl rfl rfl rfl ?_
    refine SXL.nil (SXA.next inferInstance ?_)
    (first | refine Qr 8 ?_ | refine Qs 8 ?_ | refine Qt 8 ?_ | refine Qu 8 ?_ | fail)
    refine Qv ?_
    refine SX.know 108 false rfl (by simp) ?_
    repeat (first | refine Qa ?_ | refine Qb ?_ | refine Qc ?_ | refine Qd ?_ | refine Qe ?_ | refine Qf ?_ | refine Qg ?_ | refine Qh ?_ | refine Qi ?_ | refine Qj ?_ | refine Qk ?_ | refine Ql ?_ | refine Qm ?_ | refine Qn ?_ | refine Qo ?_ | refine Qp ?_ | refine Qq ?_ | fail)
    refine SX.meet ⟨rfl, rfl⟩ (by repeat (first | exact trivial | refine ⟨rfl, ?_⟩)) (by first | infer_instance | (unfold caC; infer_instance))
  rintro _ _ ⟨rfl, rfl⟩
  unfold caC
  repeat (first | refine Qa ?_ | refine Qb ?_ | refine Qc ?_ | refine Qd ?_ | refine Qe ?_ | refine Qf ?_ | refine Qg ?_ | refine Qh ?_ | refine Qi ?_ | refine Qj ?_ | refine Qk ?_ | refine Ql ?_ | refine Qm ?_ | refine Qn ?_ | refine Qo ?_ | refine Qp ?_ | refine Qq ?_ | fail)
  refine SX.cond rfl (fun hm0 => ?_) (fun hm0 => ?_)
  · repeat (first | refine Qa ?_ | refine Qb ?_ | refine Qc ?_ | refine Qd ?_ | refine Qe ?_ | refine Qf ?_ | refine Qg ?_ | refine Qh ?_ | refine Qi ?_ | refine Qj ?_ | refine Qk ?_ | refine Ql ?_ | refine Qm ?_ | refine Qn ?_ | refine Qo ?_ | refine Qp ?_ | refine Qq ?_ | fail)
    refine SX.ret (M' := F) rfl (Evals.tmp rfl Evals.nil) ?_ inferInstance
    exact h
  obtain rfl : m = 0 := by simpa using hm0
  obtain ⟨hp, -, -⟩ := getCa_ok hb hg2
  repeat (first | refine Qa ?_ | refine Qb ?_ | refine Qc ?_ | refine Qd ?_ | refine Qe ?_ | refine Qf ?_ | refine Qg ?_ | refine Qh ?_ | refine Qi ?_ | refine Qj ?_ | refine Qk ?_ | refine Ql ?_ | refine Qm ?_ | refine Qn ?_ | refine Qo ?_ | refine Qp ?_ | refine Qq ?_ | fail)
  refine SXL.call rfl rfl rfl ?_
  refine (PutCall_S (s := x) (A := A2) inferInstance hc3 hxw (fun r2 n2 hm2 A6 c6 hc6 => callK.ret ?_))
  rw [hp] at hm2
  simp only [Prod.mk.injEq] at hm2
  obtain ⟨rfl, rfl⟩ := hm2
  repeat (first | refine Qa ?_ | refine Qb ?_ | refine Qc ?_ | refine Qd ?_ | refine Qe ?_ | refine Qf ?_ | refine Qg ?_ | refine Qh ?_ | refine Qi ?_ | refine Qj ?_ | refine Qk ?_ | refine Ql ?_ | refine Qm ?_ | refine Qn ?_ | refine Qo ?_ | refine Qp ?_ | refine Qq ?_ | fail)
  refine SXL.bytesStr rfl inferInstance rfl Tryd.underlying26 Tryd.underlying5 Tryd.underlying9 rfl ?_
  repeat (first | refine Qa ?_ | refine Qb ?_ | refine Qc ?_ | refine Qd ?_ | refine Qe ?_ | refine Qf ?_ | refine Qg ?_ | refine Qh ?_ | refine Qi ?_ | refine Qj ?_ | refine Qk ?_ | refine Ql ?_ | refine Qm ?_ | refine Qn ?_ | refine Qo ?_ | refine Qp ?_ | refine Qq ?_ | fail)
  refine SXL.bytesStr rfl inferInstance rfl Tryd.underlying26 Tryd.underlying5 Tryd.underlying9 rfl ?_
  repeat (first | refine Qa ?_ | refine Qb ?_ | refine Qc ?_ | refine Qd ?_ | refine Qe ?_ | refine Qf ?_ | refine Qg ?_ | refine Qh ?_ | refine Qi ?_ | refine Qj ?_ | refine Qk ?_ | refine Ql ?_ | refine Qm ?_ | refine Qn ?_ | refine Qo ?_ | refine Qp ?_ | refine Qq ?_ | fail)
  refine SX.same 6 (.bool true) rfl (by simp) ?_
  refine SX.ret (M' := F) rfl (Evals.tmp rfl Evals.nil) ?_ inferInstance
  exact h
end
theorem CallCalls_any (s0 : Int) (s1 : Int) (s2 : Int) (s3 : Int) (s4 : Int) (s5 : ByteArray) (s6 : Int) (s7 : Int) (s8 : ByteArray) (s9 : Int) (sa : Int) (sb : Int) (sd : Int) (Ase : Option Addr) (cse : Nat) (lse : List Int) (Ab : Option Addr) (cb : Nat) (lb : List Int) (k : Int) (W : World) (tg : TypeId) (hg : W.heap[0]? = some (.cells chT.toArray tg (0, 0))) (ws0 : (Lit.int .u32 s0).wf = true) (ws1 : (Lit.int .u32 s1).wf = true) (ws2 : (Lit.int .u32 s2).wf = true) (ws3 : (Lit.int .u32 s3).wf = true) (ws4 : (Lit.int .u32 s4).wf = true) (ws5 : s5.size ≤ maxLen) (ws6 : (Lit.int .u32 s6).wf = true) (ws7 : (Lit.int .u32 s7).wf = true) (ws8 : s8.size ≤ maxLen) (ws9 : (Lit.int .u64 s9).wf = true) (wsa : (Lit.int .u64 sa).wf = true) (wsb : (Lit.int .u32 sb).wf = true) (wsd : (Lit.int .u32 sd).wf = true) (rse : Kd.C (Kd.int .u8) W Ase lse.length lse) (hse : lse.length ≤ cse) (wse : lse.length ≤ maxLen ∧ ∀ x ∈ lse, (Lit.int .u8 x).wf = true) (rb : Kd.C (Kd.int .u8) W Ab lb.length lb) (hb : lb.length ≤ cb) (wb : lb.length ≤ maxLen ∧ ∀ x ∈ lb, (Lit.int .u8 x).wf = true) (wk : (Lit.int .u32 k).wf = true) :
    Calls Tryd.prog 3 #[.agg #[.int .u32 s0, .int .u32 s1, .int .u32 s2, .int .u32 s3, .int .u32 s4, .string s5, .int .u32 s6, .int .u32 s7, .string s8, .int .u64 s9, .int .u64 sa, .int .u32 sb, .int .u32 sd, .slice Ase lse.length cse], .slice Ab lb.length cb, .int .u32 k] W fun e w' => e = .returned (.bool true) ∧ Below W.heap.size W w' :=
  Fn.out W [.per (cellsR 0 chT tg), .per (roR (Kd.int .u8) Ase lse), .per (roR (Kd.int .u8) Ab lb), .per (oldR W)] (Holds.ofStart (Holds.startRow (Holds.startRow (Holds.startRow (Holds.start0 W) (Kd.C_F (Kd.heap_int _) rb)) (Kd.C_F (Kd.heap_int _) rse)) ⟨blk_lt hg, hg⟩)) inferInstance
    (CallCalls_S (s := (⟨s0, s1, s2, s3, s4, s5, s6, s7, s8, s9, sa, sb, sd, lse⟩ : Ca)) (tg := tg) Has.here (Ro.there (a := Ro.here)) (Ro.there (a := (Ro.there (a := Ro.here)))) hse hb ⟨u32_of_wf _ ws0, u32_of_wf _ ws1, u32_of_wf _ ws2, u32_of_wf _ ws3, u32_of_wf _ ws4, u32_of_wf _ ws6, u32_of_wf _ ws7, u64_of_wf _ ws9, u64_of_wf _ wsa, u32_of_wf _ wsb, u32_of_wf _ wsd, bytesB_of_wf lse wse.2⟩ (bytesB_of_wf lb wb.2) (u32_of_wf _ wk).1 ⟨rfl, inferInstance⟩)
end Go.Proofs.YtpbhanpblmoepaaDoor.Sx
