/- Chapter 11's laws SlotCut, SlotPuts, walked; conditions: those that each theorem names. -/
import Derived.Test.YtlpjchighfdomaaJV7
import Derived.Test.YtlpjchighfdomaaJV4
namespace Go.Proofs.Ytlpjchighfdomaa.Sx
open Go.RowKit Go.Proofs.Ytlpjchighfdomaa.Hm Go.Proofs.YtlpjchighfdomaaW.PrintWords Go.Proofs.YtlpjchighfdomaaW.PrintLast Go.Proofs.YtlpjchighfdomaaW.PrintMore
set_option linter.unusedVariables false
set_option linter.unusedSimpArgs false
attribute [local irreducible] SX SXL SXA St callK Post Evals

section
variable {F R : List Thing} {K : Ending → List Thing → Prop} {s : Sl} {A : Option Addr} {c : Nat}
set_option maxRecDepth 20000 in
theorem SlotCut_S {B : Option Addr} {c2 : Nat} {more : List Int} {at' : Int} (hr : Ro (Kd.int .u8) A F s.d) (hr2 : Ro (Kd.int .u8) B F more) (hc : s.d.length ≤ c) (hc2 : more.length ≤ c2) (hs : s.wf) (hb : bytesB more = true) (h0 : 0 ≤ at') (h1 : at' < 65536) (h : K (.returned (.bool true)) F) :
    Fn (Try.prog) 12 [.agg (slC s A c).toArray, .int .u16 at', .slice B more.length c2] F K := by
  unfold slC
  refine Fn.enter Try.call12 Try.func12 rfl rfl rfl ?_
  repeat (first | refine Qa ?_ | refine Qb ?_ | refine Qc ?_ | refine Qd ?_ | refine Qe ?_ | refine Qf ?_ | refine Qg ?_ | refine Qh ?_ | refine Qi ?_ | refine Qj ?_ | refine Qk ?_ | refine Ql ?_ | refine Qm ?_ | refine Qn ?_ | refine Qo ?_ | refine Qp ?_ | refine Qq ?_ | fail)
  refine SXL.box rfl rfl rfl (fun b1 => ?_)
  repeat (first | refine Qa ?_ | refine Qb ?_ | refine Qc ?_ | refine Qd ?_ | refine Qe ?_ | refine Qf ?_ | refine Qg ?_ | refine Qh ?_ | refine Qi ?_ | refine Qj ?_ | refine Qk ?_ | refine Ql ?_ | refine Qm ?_ | refine Qn ?_ | refine Qo ?_ | refine Qp ?_ | refine Qq ?_ | fail)
  refine SXL.call rfl rfl rfl ?_
  refine (awake11_S (callK.ret ?_))
  repeat (first | refine Qa ?_ | refine Qb ?_ | refine Qc ?_ | refine Qd ?_ | refine Qe ?_ | refine Qf ?_ | refine Qg ?_ | refine Qh ?_ | refine Qi ?_ | refine Qj ?_ | refine Qk ?_ | refine Ql ?_ | refine Qm ?_ | refine Qn ?_ | refine Qo ?_ | refine Qp ?_ | refine Qq ?_ | fail)
  refine SXL.split (s := 21) rfl (fun h21 => ?_) (fun h21 => ?_)
  · repeat (first | refine Qa ?_ | refine Qb ?_ | refine Qc ?_ | refine Qd ?_ | refine Qe ?_ | refine Qf ?_ | refine Qg ?_ | refine Qh ?_ | refine Qi ?_ | refine Qj ?_ | refine Qk ?_ | refine Ql ?_ | refine Qm ?_ | refine Qn ?_ | refine Qo ?_ | refine Qp ?_ | refine Qq ?_ | fail)
    refine SX.ret (M' := F) rfl (Evals.tmp rfl Evals.nil) ?_ inferInstance
    exact h
  have h21' := of_decide_eq_false h21
  repeat (first | refine Qa ?_ | refine Qb ?_ | refine Qc ?_ | refine Qd ?_ | refine Qe ?_ | refine Qf ?_ | refine Qg ?_ | refine Qh ?_ | refine Qi ?_ | refine Qj ?_ | refine Qk ?_ | refine Ql ?_ | refine Qm ?_ | refine Qn ?_ | refine Qo ?_ | refine Qp ?_ | refine Qq ?_ | fail)
  refine SXL.split (s := 26) rfl (fun h26 => ?_) (fun h26 => ?_)
  · repeat (first | refine Qa ?_ | refine Qb ?_ | refine Qc ?_ | refine Qd ?_ | refine Qe ?_ | refine Qf ?_ | refine Qg ?_ | refine Qh ?_ | refine Qi ?_ | refine Qj ?_ | refine Qk ?_ | refine Ql ?_ | refine Qm ?_ | refine Qn ?_ | refine Qo ?_ | refine Qp ?_ | refine Qq ?_ | fail)
    refine SX.ret (M' := F) rfl (Evals.tmp rfl Evals.nil) ?_ inferInstance
    exact h
  have h26' : more.length ≠ 0 := by simpa using h26
  repeat (first | refine Qa ?_ | refine Qb ?_ | refine Qc ?_ | refine Qd ?_ | refine Qe ?_ | refine Qf ?_ | refine Qg ?_ | refine Qh ?_ | refine Qi ?_ | refine Qj ?_ | refine Qk ?_ | refine Ql ?_ | refine Qm ?_ | refine Qn ?_ | refine Qo ?_ | refine Qp ?_ | refine Qq ?_ | fail)
  refine SX.condp rfl (fun hl => ?_) (fun hl => ?_)
  · repeat (first | refine Qa ?_ | refine Qb ?_ | refine Qc ?_ | refine Qd ?_ | refine Qe ?_ | refine Qf ?_ | refine Qg ?_ | refine Qh ?_ | refine Qi ?_ | refine Qj ?_ | refine Qk ?_ | refine Ql ?_ | refine Qm ?_ | refine Qn ?_ | refine Qo ?_ | refine Qp ?_ | refine Qq ?_ | fail)
    refine SX.ret (M' := F) rfl (Evals.tmp rfl Evals.nil) ?_ inferInstance
    exact h
  repeat (first | refine Qa ?_ | refine Qb ?_ | refine Qc ?_ | refine Qd ?_ | refine Qe ?_ | refine Qf ?_ | refine Qg ?_ | refine Qh ?_ | refine Qi ?_ | refine Qj ?_ | refine Qk ?_ | refine Ql ?_ | refine Qm ?_ | refine Qn ?_ | refine Qo ?_ | refine Qp ?_ | refine Qq ?_ | fail)
  refine SXL.call rfl rfl rfl ?_
  refine (Put11_S (s := s) inferInstance hc hs (by omega) (fun r n hm A1 c1 hc1 => callK.ret ?_))
  unfold putS at hm
  by_cases hk : okB s = true
  rotate_left
  · rw [if_neg hk] at hm
    simp only [Prod.mk.injEq] at hm
    obtain ⟨rfl, rfl⟩ := hm
    repeat (first | refine Qa ?_ | refine Qb ?_ | refine Qc ?_ | refine Qd ?_ | refine Qe ?_ | refine Qf ?_ | refine Qg ?_ | refine Qh ?_ | refine Qi ?_ | refine Qj ?_ | refine Qk ?_ | refine Ql ?_ | refine Qm ?_ | refine Qn ?_ | refine Qo ?_ | refine Qp ?_ | refine Qq ?_ | fail)
    refine SX.ret (M' := F) rfl (Evals.tmp rfl Evals.nil) ?_ inferInstance
    exact h
  rw [if_pos hk] at hm
  simp only [Prod.mk.injEq] at hm
  obtain ⟨rfl, rfl⟩ := hm
  have e1 := encS_len48 s
  have e2 := opq_len s.d
  have e3 := ok_len hk
  have e4 := enc_wf hs e3
  repeat (first | refine Qa ?_ | refine Qb ?_ | refine Qc ?_ | refine Qd ?_ | refine Qe ?_ | refine Qf ?_ | refine Qg ?_ | refine Qh ?_ | refine Qi ?_ | refine Qj ?_ | refine Qk ?_ | refine Ql ?_ | refine Qm ?_ | refine Qn ?_ | refine Qo ?_ | refine Qp ?_ | refine Qq ?_ | fail)
  refine SX.know 42 false rfl (by simp; intro h9; rw [h9] at e1; simp at e1; omega) ?_
  repeat (first | refine Qa ?_ | refine Qb ?_ | refine Qc ?_ | refine Qd ?_ | refine Qe ?_ | refine Qf ?_ | refine Qg ?_ | refine Qh ?_ | refine Qi ?_ | refine Qj ?_ | refine Qk ?_ | refine Ql ?_ | refine Qm ?_ | refine Qn ?_ | refine Qo ?_ | refine Qp ?_ | refine Qq ?_ | fail)
  obtain ⟨m, hm⟩ : ∃ m : Nat, (m : Int) = at' % ((encS s).length : Int) := ⟨(at' % ((encS s).length : Int)).toNat, by have := Int.emod_nonneg at' (b := ((encS s).length : Int)) (by omega); omega⟩
  have hm2 : m < (encS s).length := by have := Int.emod_lt_of_pos at' (b := ((encS s).length : Int)) (by omega); omega
  refine SXL.same 51 (.int .i64 (m : Int)) rfl (by rw [IntWalk.i64_in at' (by omega), Int.tmod_eq_emod_of_nonneg h0, hm]) ?_
  have hcut : getS ((encS s).take m) = (Sl0, 10) := getS_cut hs hk (List.take_append_drop m (encS s)) (by intro h9; have h8 := congrArg List.length h9; rw [List.length_drop] at h8; simp at h8; omega)
  have hlen : ((encS s).take m).length = m := by rw [List.length_take]; omega
  refine SXL.cut rfl rfl rfl rfl rfl rfl hc1 (by omega) (by omega) (by omega) rfl ?_
  refine SXL.same 52 (.slice A1 ((encS s).take m).length c1) rfl (by rw [cut0, hlen]; simp) ?_
  repeat (first | refine Qa ?_ | refine Qb ?_ | refine Qc ?_ | refine Qd ?_ | refine Qe ?_ | refine Qf ?_ | refine Qg ?_ | refine Qh ?_ | refine Qi ?_ | refine Qj ?_ | refine Qk ?_ | refine Ql ?_ | refine Qm ?_ | refine Qn ?_ | refine Qo ?_ | refine Qp ?_ | refine Qq ?_ | fail)
  refine SXL.call rfl rfl rfl ?_
  refine (Get11_S (xs := (encS s).take m) (Ro.take m inferInstance) (by omega) (bytesB_take _ e4) (by omega) (fun r n hm9 A2 c3 hc3 => callK.ret ?_))
  rw [hcut] at hm9
  simp only [Prod.mk.injEq] at hm9
  obtain ⟨rfl, rfl⟩ := hm9
  repeat (first | refine Qa ?_ | refine Qb ?_ | refine Qc ?_ | refine Qd ?_ | refine Qe ?_ | refine Qf ?_ | refine Qg ?_ | refine Qh ?_ | refine Qi ?_ | refine Qj ?_ | refine Qk ?_ | refine Ql ?_ | refine Qm ?_ | refine Qn ?_ | refine Qo ?_ | refine Qp ?_ | refine Qq ?_ | fail)
  refine SXL.alloc rfl rfl (fun g1 => ?_)
  repeat (first | refine Qa ?_ | refine Qb ?_ | refine Qc ?_ | refine Qd ?_ | refine Qe ?_ | refine Qf ?_ | refine Qg ?_ | refine Qh ?_ | refine Qi ?_ | refine Qj ?_ | refine Qk ?_ | refine Ql ?_ | refine Qm ?_ | refine Qn ?_ | refine Qo ?_ | refine Qp ?_ | refine Qq ?_ | fail)
  refine SXL.append (Kd.int .u8) rfl rfl inferInstance inferInstance rfl inferInstance (by simp; omega) rfl (fun A4 c4 hc4 => ?_)
  repeat (first | refine Qa ?_ | refine Qb ?_ | refine Qc ?_ | refine Qd ?_ | refine Qe ?_ | refine Qf ?_ | refine Qg ?_ | refine Qh ?_ | refine Qi ?_ | refine Qj ?_ | refine Qk ?_ | refine Ql ?_ | refine Qm ?_ | refine Qn ?_ | refine Qo ?_ | refine Qp ?_ | refine Qq ?_ | fail)
  refine SXL.call rfl rfl rfl ?_
  refine (Get11_S (xs := encS s ++ more) inferInstance hc4 (by rw [bytesB_append, e4, hb]; rfl) (by rw [List.length_append]; omega) (fun r n hm9 A5 c5 hc5 => callK.ret ?_))
  rw [getS_more hs hk (by intro h9; rw [h9] at h26'; exact h26' rfl)] at hm9
  simp only [Prod.mk.injEq] at hm9
  obtain ⟨rfl, rfl⟩ := hm9
  repeat (first | refine Qa ?_ | refine Qb ?_ | refine Qc ?_ | refine Qd ?_ | refine Qe ?_ | refine Qf ?_ | refine Qg ?_ | refine Qh ?_ | refine Qi ?_ | refine Qj ?_ | refine Qk ?_ | refine Ql ?_ | refine Qm ?_ | refine Qn ?_ | refine Qo ?_ | refine Qp ?_ | refine Qq ?_ | fail)
  refine SXL.alloc rfl rfl (fun g2 => ?_)
  repeat (first | refine Qa ?_ | refine Qb ?_ | refine Qc ?_ | refine Qd ?_ | refine Qe ?_ | refine Qf ?_ | refine Qg ?_ | refine Qh ?_ | refine Qi ?_ | refine Qj ?_ | refine Qk ?_ | refine Ql ?_ | refine Qm ?_ | refine Qn ?_ | refine Qo ?_ | refine Qp ?_ | refine Qq ?_ | fail)
  refine SX.ret (M' := F) rfl (Evals.tmp rfl Evals.nil) ?_ inferInstance
  exact h
set_option maxHeartbeats 1000000 in
set_option maxRecDepth 20000 in
theorem SlotPuts_S {u : Sl} {B : Option Addr} {c' : Nat} (hr : Ro (Kd.int .u8) A F s.d) (hr2 : Ro (Kd.int .u8) B F u.d) (hc : s.d.length ≤ c) (hc' : u.d.length ≤ c') (hs : s.wf) (hu : u.wf) (h : K (.returned (.bool true)) F) :
    Fn (Try.prog) 10 [.agg (slC s A c).toArray, .agg (slC u B c').toArray] F K := by
  unfold slC
  refine Fn.enter Try.call10 Try.func10 rfl rfl rfl ?_
  repeat (first | refine Qa ?_ | refine Qb ?_ | refine Qc ?_ | refine Qd ?_ | refine Qe ?_ | refine Qf ?_ | refine Qg ?_ | refine Qh ?_ | refine Qi ?_ | refine Qj ?_ | refine Qk ?_ | refine Ql ?_ | refine Qm ?_ | refine Qn ?_ | refine Qo ?_ | refine Qp ?_ | refine Qq ?_ | fail)
  refine SXL.box rfl rfl rfl (fun b1 => ?_)
  repeat (first | refine Qa ?_ | refine Qb ?_ | refine Qc ?_ | refine Qd ?_ | refine Qe ?_ | refine Qf ?_ | refine Qg ?_ | refine Qh ?_ | refine Qi ?_ | refine Qj ?_ | refine Qk ?_ | refine Ql ?_ | refine Qm ?_ | refine Qn ?_ | refine Qo ?_ | refine Qp ?_ | refine Qq ?_ | fail)
  refine SXL.box rfl rfl rfl (fun b2 => ?_)
  repeat (first | refine Qa ?_ | refine Qb ?_ | refine Qc ?_ | refine Qd ?_ | refine Qe ?_ | refine Qf ?_ | refine Qg ?_ | refine Qh ?_ | refine Qi ?_ | refine Qj ?_ | refine Qk ?_ | refine Ql ?_ | refine Qm ?_ | refine Qn ?_ | refine Qo ?_ | refine Qp ?_ | refine Qq ?_ | fail)
  refine SXL.call rfl rfl rfl ?_
  refine (awake11_S (callK.ret ?_))
  repeat (first | refine Qa ?_ | refine Qb ?_ | refine Qc ?_ | refine Qd ?_ | refine Qe ?_ | refine Qf ?_ | refine Qg ?_ | refine Qh ?_ | refine Qi ?_ | refine Qj ?_ | refine Qk ?_ | refine Ql ?_ | refine Qm ?_ | refine Qn ?_ | refine Qo ?_ | refine Qp ?_ | refine Qq ?_ | fail)
  refine SXL.split (s := 20) rfl (fun h20 => ?_) (fun h20 => ?_)
  · repeat (first | refine Qa ?_ | refine Qb ?_ | refine Qc ?_ | refine Qd ?_ | refine Qe ?_ | refine Qf ?_ | refine Qg ?_ | refine Qh ?_ | refine Qi ?_ | refine Qj ?_ | refine Qk ?_ | refine Ql ?_ | refine Qm ?_ | refine Qn ?_ | refine Qo ?_ | refine Qp ?_ | refine Qq ?_ | fail)
    refine SX.ret (M' := F) rfl (Evals.tmp rfl Evals.nil) ?_ inferInstance
    exact h
  have h20' := of_decide_eq_false h20
  repeat (first | refine Qa ?_ | refine Qb ?_ | refine Qc ?_ | refine Qd ?_ | refine Qe ?_ | refine Qf ?_ | refine Qg ?_ | refine Qh ?_ | refine Qi ?_ | refine Qj ?_ | refine Qk ?_ | refine Ql ?_ | refine Qm ?_ | refine Qn ?_ | refine Qo ?_ | refine Qp ?_ | refine Qq ?_ | fail)
  refine SX.condp rfl (fun hl => ?_) (fun hl => ?_)
  · repeat (first | refine Qa ?_ | refine Qb ?_ | refine Qc ?_ | refine Qd ?_ | refine Qe ?_ | refine Qf ?_ | refine Qg ?_ | refine Qh ?_ | refine Qi ?_ | refine Qj ?_ | refine Qk ?_ | refine Ql ?_ | refine Qm ?_ | refine Qn ?_ | refine Qo ?_ | refine Qp ?_ | refine Qq ?_ | fail)
    refine SX.ret (M' := F) rfl (Evals.tmp rfl Evals.nil) ?_ inferInstance
    exact h
  repeat (first | refine Qa ?_ | refine Qb ?_ | refine Qc ?_ | refine Qd ?_ | refine Qe ?_ | refine Qf ?_ | refine Qg ?_ | refine Qh ?_ | refine Qi ?_ | refine Qj ?_ | refine Qk ?_ | refine Ql ?_ | refine Qm ?_ | refine Qn ?_ | refine Qo ?_ | refine Qp ?_ | refine Qq ?_ | fail)
  refine SXL.call rfl rfl rfl ?_
  refine (Put11_S (s := s) inferInstance hc hs (by omega) (fun r n hm A1 c1 hc1 => callK.ret ?_))
  repeat (first | refine Qa ?_ | refine Qb ?_ | refine Qc ?_ | refine Qd ?_ | refine Qe ?_ | refine Qf ?_ | refine Qg ?_ | refine Qh ?_ | refine Qi ?_ | refine Qj ?_ | refine Qk ?_ | refine Ql ?_ | refine Qm ?_ | refine Qn ?_ | refine Qo ?_ | refine Qp ?_ | refine Qq ?_ | fail)
  refine SXL.call rfl rfl rfl ?_
  refine (slotOf_S (s := s) inferInstance (callK.ret ?_))
  repeat (first | refine Qa ?_ | refine Qb ?_ | refine Qc ?_ | refine Qd ?_ | refine Qe ?_ | refine Qf ?_ | refine Qg ?_ | refine Qh ?_ | refine Qi ?_ | refine Qj ?_ | refine Qk ?_ | refine Ql ?_ | refine Qm ?_ | refine Qn ?_ | refine Qo ?_ | refine Qp ?_ | refine Qq ?_ | fail)
  refine SXL.call rfl rfl rfl ?_
  refine (RPut11_S (s := s) hs (by omega) (fun r' n' hm' => callK.ret ?_))
  rw [hm] at hm'
  simp only [Prod.mk.injEq] at hm'
  obtain ⟨rfl, rfl⟩ := hm'
  repeat (first | refine Qa ?_ | refine Qb ?_ | refine Qc ?_ | refine Qd ?_ | refine Qe ?_ | refine Qf ?_ | refine Qg ?_ | refine Qh ?_ | refine Qi ?_ | refine Qj ?_ | refine Qk ?_ | refine Ql ?_ | refine Qm ?_ | refine Qn ?_ | refine Qo ?_ | refine Qp ?_ | refine Qq ?_ | fail)
  refine SXL.call rfl rfl rfl ?_
  refine (Handle_S (s := s) (callK.ret ?_))
  repeat (first | refine Qa ?_ | refine Qb ?_ | refine Qc ?_ | refine Qd ?_ | refine Qe ?_ | refine Qf ?_ | refine Qg ?_ | refine Qh ?_ | refine Qi ?_ | refine Qj ?_ | refine Qk ?_ | refine Ql ?_ | refine Qm ?_ | refine Qn ?_ | refine Qo ?_ | refine Qp ?_ | refine Qq ?_ | fail)
  refine SXL.alloc rfl rfl (fun g => ?_)
  repeat (first | refine Qa ?_ | refine Qb ?_ | refine Qc ?_ | refine Qd ?_ | refine Qe ?_ | refine Qf ?_ | refine Qg ?_ | refine Qh ?_ | refine Qi ?_ | refine Qj ?_ | refine Qk ?_ | refine Ql ?_ | refine Qm ?_ | refine Qn ?_ | refine Qo ?_ | refine Qp ?_ | refine Qq ?_ | fail)
  refine SXA.begin [.own (some ⟨g, 0, none⟩) (cellsR g [.int .u32 s.ino, .int .u32 s.gen] 39), .own A1 (rowR (Kd.int .u8) 5 (.slice A1 r.length c1) r), .own (some ⟨b2, 0, none⟩) (cellsR b2 (slC u B c') 66), .own (some ⟨b1, 0, none⟩) (cellsR b1 (slC s A c) 66)] [] ?_
  unfold slC
  (first | refine Qr 0 ?_ | refine Qs 0 ?_ | refine Qt 0 ?_ | refine Qu 0 ?_ | fail)
  (first | refine Qr 2 ?_ | refine Qs 2 ?_ | refine Qt 2 ?_ | refine Qu 2 ?_ | fail)
  refine Qw 1 ?_
  refine SXL.call rfl rfl rfl ?_
  refine (Check_S (s := s) inferInstance hc hs.d (by omega) (callK.ret ?_))
  refine SXL.nil (SXA.next inferInstance ?_)
  refine Qw 3 ?_
  refine SXL.call rfl rfl rfl ?_
  refine (slotOf_S (s := s) inferInstance (callK.ret ?_))
  refine SXL.nil (SXA.next inferInstance ?_)
  refine Qw 4 ?_
  refine SXL.call rfl rfl rfl ?_
  refine (RCheck_S (s := s) hs (by omega) (callK.ret ?_))
  refine SXL.nil (SXA.next inferInstance ?_)
  (first | refine Qr 5 ?_ | refine Qs 5 ?_ | refine Qt 5 ?_ | refine Qu 5 ?_ | fail)
  (first | refine Qr 6 ?_ | refine Qs 6 ?_ | refine Qt 6 ?_ | refine Qu 6 ?_ | fail)
  refine SXA.know 45 false rfl (by simp) ?_
  (first | refine Qr 7 ?_ | refine Qs 7 ?_ | refine Qt 7 ?_ | refine Qu 7 ?_ | fail)
  refine SXA.bytesStr 8 rfl (by decide +kernel) rfl rfl inferInstance rfl Try.underlying22 Try.underlying5 Try.underlying9 rfl inferInstance ?_
  (first | refine Qr 9 ?_ | refine Qs 9 ?_ | refine Qt 9 ?_ | refine Qu 9 ?_ | fail)
  (first | refine Qr 10 ?_ | refine Qs 10 ?_ | refine Qt 10 ?_ | refine Qu 10 ?_ | fail)
  (first | refine Qr 11 ?_ | refine Qs 11 ?_ | refine Qt 11 ?_ | refine Qu 11 ?_ | fail)
  (first | refine Qr 12 ?_ | refine Qs 12 ?_ | refine Qt 12 ?_ | refine Qu 12 ?_ | fail)
  refine SXA.know 51 false rfl (by simp) ?_
  (first | refine Qr 13 ?_ | refine Qs 13 ?_ | refine Qt 13 ?_ | refine Qu 13 ?_ | fail)
  (first | refine Qr 14 ?_ | refine Qs 14 ?_ | refine Qt 14 ?_ | refine Qu 14 ?_ | fail)
  (first | refine Qr 15 ?_ | refine Qs 15 ?_ | refine Qt 15 ?_ | refine Qu 15 ?_ | fail)
  (first | refine Qr 16 ?_ | refine Qs 16 ?_ | refine Qt 16 ?_ | refine Qu 16 ?_ | fail)
  (first | refine Qr 17 ?_ | refine Qs 17 ?_ | refine Qt 17 ?_ | refine Qu 17 ?_ | fail)
  refine SXA.know 56 false rfl (by simp) ?_
  (first | refine Qr 18 ?_ | refine Qs 18 ?_ | refine Qt 18 ?_ | refine Qu 18 ?_ | fail)
  (first | refine Qr 19 ?_ | refine Qs 19 ?_ | refine Qt 19 ?_ | refine Qu 19 ?_ | fail)
  (first | refine Qr 20 ?_ | refine Qs 20 ?_ | refine Qt 20 ?_ | refine Qu 20 ?_ | fail)
  (first | refine Qr 21 ?_ | refine Qs 21 ?_ | refine Qt 21 ?_ | refine Qu 21 ?_ | fail)
  (first | refine Qr 22 ?_ | refine Qs 22 ?_ | refine Qt 22 ?_ | refine Qu 22 ?_ | fail)
  (first | refine Qr 23 ?_ | refine Qs 23 ?_ | refine Qt 23 ?_ | refine Qu 23 ?_ | fail)
  (first | refine Qr 24 ?_ | refine Qs 24 ?_ | refine Qt 24 ?_ | refine Qu 24 ?_ | fail)
  refine SXA.know 63 false rfl (by simp) ?_
  (first | refine Qr 25 ?_ | refine Qs 25 ?_ | refine Qt 25 ?_ | refine Qu 25 ?_ | fail)
  (first | refine Qr 26 ?_ | refine Qs 26 ?_ | refine Qt 26 ?_ | refine Qu 26 ?_ | fail)
  (first | refine Qr 27 ?_ | refine Qs 27 ?_ | refine Qt 27 ?_ | refine Qu 27 ?_ | fail)
  (first | refine Qr 28 ?_ | refine Qs 28 ?_ | refine Qt 28 ?_ | refine Qu 28 ?_ | fail)
  (first | refine Qr 29 ?_ | refine Qs 29 ?_ | refine Qt 29 ?_ | refine Qu 29 ?_ | fail)
  (first | refine Qr 30 ?_ | refine Qs 30 ?_ | refine Qt 30 ?_ | refine Qu 30 ?_ | fail)
  (first | refine Qr 31 ?_ | refine Qs 31 ?_ | refine Qt 31 ?_ | refine Qu 31 ?_ | fail)
  refine SXA.know 70 false rfl (by simp) ?_
  (first | refine Qr 32 ?_ | refine Qs 32 ?_ | refine Qt 32 ?_ | refine Qu 32 ?_ | fail)
  (first | refine Qr 33 ?_ | refine Qs 33 ?_ | refine Qt 33 ?_ | refine Qu 33 ?_ | fail)
  (first | refine Qr 35 ?_ | refine Qs 35 ?_ | refine Qt 35 ?_ | refine Qu 35 ?_ | fail)
  (first | refine Qr 37 ?_ | refine Qs 37 ?_ | refine Qt 37 ?_ | refine Qu 37 ?_ | fail)
  refine Qw 34 ?_
  refine SXL.guard_t rfl rfl (by first | with_reducible rfl | decide) ?_
  refine SXL.call rfl rfl rfl ?_
  refine (Same11_S (s := s) (u := u) inferInstance inferInstance (callK.ret ?_))
  refine SXL.nil (SXA.next inferInstance ?_)
  refine Qw 36 ?_
  refine SXL.guard_t rfl rfl (by first | with_reducible rfl | decide) ?_
  refine SXL.call rfl rfl rfl ?_
  refine (slotOf_S (s := s) inferInstance (callK.ret ?_))
  refine SXL.nil (SXA.next inferInstance ?_)
  refine Qw 38 ?_
  refine SXL.guard_t rfl rfl (by first | with_reducible rfl | decide) ?_
  refine SXL.call rfl rfl rfl ?_
  refine (slotOf_S (s := u) inferInstance (callK.ret ?_))
  refine SXL.nil (SXA.next inferInstance ?_)
  refine Qw 39 ?_
  refine SXL.guard_t rfl rfl (by first | with_reducible rfl | decide) ?_
  refine SXL.eqAgg rfl rfl inferInstance rfl rfl rfl rfl ?_
  refine SXL.nil (SXA.next inferInstance ?_)
  (first | refine Qr 40 ?_ | refine Qs 40 ?_ | refine Qt 40 ?_ | refine Qu 40 ?_ | fail)
  (first | refine Qr 41 ?_ | refine Qs 41 ?_ | refine Qt 41 ?_ | refine Qu 41 ?_ | fail)
  (first | refine Qr 42 ?_ | refine Qs 42 ?_ | refine Qt 42 ?_ | refine Qu 42 ?_ | fail)
  refine SXA.know 81 false rfl (by show (!(sameM s u == sameM s u)) = false; simp) ?_
  (first | refine Qr 43 ?_ | refine Qs 43 ?_ | refine Qt 43 ?_ | refine Qu 43 ?_ | fail)
  (first | refine Qr 44 ?_ | refine Qs 44 ?_ | refine Qt 44 ?_ | refine Qu 44 ?_ | fail)
  refine Qw 45 ?_
  refine SXL.guard_t rfl rfl (by first | with_reducible rfl | decide) ?_
  refine SXL.call rfl rfl rfl ?_
  refine (Same11_S (s := s) (u := s) inferInstance inferInstance (callK.ret ?_))
  refine SXL.nil (SXA.next inferInstance ?_)
  (first | refine Qr 46 ?_ | refine Qs 46 ?_ | refine Qt 46 ?_ | refine Qu 46 ?_ | fail)
  (first | refine Qr 47 ?_ | refine Qs 47 ?_ | refine Qt 47 ?_ | refine Qu 47 ?_ | fail)
  refine Qv ?_
  refine SX.know 86 false rfl (by rw [(sameM_iff hs hs).2 rfl]; rfl) ?_
  repeat (first | refine Qa ?_ | refine Qb ?_ | refine Qc ?_ | refine Qd ?_ | refine Qe ?_ | refine Qf ?_ | refine Qg ?_ | refine Qh ?_ | refine Qi ?_ | refine Qj ?_ | refine Qk ?_ | refine Ql ?_ | refine Qm ?_ | refine Qn ?_ | refine Qo ?_ | refine Qp ?_ | refine Qq ?_ | fail)
  refine SX.cond rfl (fun hn => ?_) (fun hn => ?_)
  · repeat (first | refine Qa ?_ | refine Qb ?_ | refine Qc ?_ | refine Qd ?_ | refine Qe ?_ | refine Qf ?_ | refine Qg ?_ | refine Qh ?_ | refine Qi ?_ | refine Qj ?_ | refine Qk ?_ | refine Ql ?_ | refine Qm ?_ | refine Qn ?_ | refine Qo ?_ | refine Qp ?_ | refine Qq ?_ | fail)
    refine SX.ret (M' := F) rfl (Evals.tmp rfl Evals.nil) ?_ inferInstance
    exact h
  obtain rfl : n = 0 := by simpa using hn
  obtain ⟨k1, rfl⟩ := putS_ok hm
  have w1 := enc_wf hs (ok_len k1)
  have e1 := encS_len48 s
  have e2 := opq_len s.d
  have e3 := ok_len k1
  repeat (first | refine Qa ?_ | refine Qb ?_ | refine Qc ?_ | refine Qd ?_ | refine Qe ?_ | refine Qf ?_ | refine Qg ?_ | refine Qh ?_ | refine Qi ?_ | refine Qj ?_ | refine Qk ?_ | refine Ql ?_ | refine Qm ?_ | refine Qn ?_ | refine Qo ?_ | refine Qp ?_ | refine Qq ?_ | fail)
  refine SXL.call rfl rfl rfl ?_
  refine (Get11_S (xs := encS s) inferInstance hc1 w1 (by omega) (fun r2 n2 hm2 A2 c2 hc2 => callK.ret ?_))
  rw [getS_put hs k1] at hm2
  simp only [Prod.mk.injEq] at hm2
  obtain ⟨rfl, rfl⟩ := hm2
  repeat (first | refine Qa ?_ | refine Qb ?_ | refine Qc ?_ | refine Qd ?_ | refine Qe ?_ | refine Qf ?_ | refine Qg ?_ | refine Qh ?_ | refine Qi ?_ | refine Qj ?_ | refine Qk ?_ | refine Ql ?_ | refine Qm ?_ | refine Qn ?_ | refine Qo ?_ | refine Qp ?_ | refine Qq ?_ | fail)
  refine SXL.alloc rfl rfl (fun g2 => ?_)
  repeat (first | refine Qa ?_ | refine Qb ?_ | refine Qc ?_ | refine Qd ?_ | refine Qe ?_ | refine Qf ?_ | refine Qg ?_ | refine Qh ?_ | refine Qi ?_ | refine Qj ?_ | refine Qk ?_ | refine Ql ?_ | refine Qm ?_ | refine Qn ?_ | refine Qo ?_ | refine Qp ?_ | refine Qq ?_ | fail)
  refine SXA.begin [.own (some ⟨g2, 0, none⟩) (cellsR g2 (slC s A2 c2) 66), .own A2 (rowR (Kd.int .u8) 5 (.slice A2 s.d.length c2) s.d), .own (some ⟨b1, 0, none⟩) (cellsR b1 (slC s A c) 66)] [] ?_
  unfold slC
  (first | refine Qr 0 ?_ | refine Qs 0 ?_ | refine Qt 0 ?_ | refine Qu 0 ?_ | fail)
  (first | refine Qr 1 ?_ | refine Qs 1 ?_ | refine Qt 1 ?_ | refine Qu 1 ?_ | fail)
  (first | refine Qr 2 ?_ | refine Qs 2 ?_ | refine Qt 2 ?_ | refine Qu 2 ?_ | fail)
  refine SXA.know 96 true rfl (by simp) ?_
  (first | refine Qr 3 ?_ | refine Qs 3 ?_ | refine Qt 3 ?_ | refine Qu 3 ?_ | fail)
  (first | refine Qr 5 ?_ | refine Qs 5 ?_ | refine Qt 5 ?_ | refine Qu 5 ?_ | fail)
  refine Qw 4 ?_
  refine SXL.guard_t rfl rfl (by first | with_reducible rfl | decide) ?_
  refine SXL.call rfl rfl rfl ?_
  refine (slotOf_S (s := s) (A := A2) inferInstance (callK.ret ?_))
  refine SXL.nil (SXA.next inferInstance ?_)
  refine Qw 6 ?_
  refine SXL.guard_t rfl rfl (by first | with_reducible rfl | decide) ?_
  refine SXL.call rfl rfl rfl ?_
  refine (slotOf_S (s := s) inferInstance (callK.ret ?_))
  refine SXL.nil (SXA.next inferInstance ?_)
  refine Qw 7 ?_
  refine SXL.guard_t rfl rfl (by first | with_reducible rfl | decide) ?_
  refine SXL.eqAgg rfl rfl inferInstance rfl rfl rfl rfl ?_
  refine SXL.nil (SXA.next inferInstance ?_)
  (first | refine Qr 8 ?_ | refine Qs 8 ?_ | refine Qt 8 ?_ | refine Qu 8 ?_ | fail)
  (first | refine Qr 9 ?_ | refine Qs 9 ?_ | refine Qt 9 ?_ | refine Qu 9 ?_ | fail)
  refine Qv ?_
  repeat (first | refine Qa ?_ | refine Qb ?_ | refine Qc ?_ | refine Qd ?_ | refine Qe ?_ | refine Qf ?_ | refine Qg ?_ | refine Qh ?_ | refine Qi ?_ | refine Qj ?_ | refine Qk ?_ | refine Ql ?_ | refine Qm ?_ | refine Qn ?_ | refine Qo ?_ | refine Qp ?_ | refine Qq ?_ | fail)
  refine SX.same 4 (.bool true) rfl (by simp) ?_
  refine SX.ret (M' := F) rfl (Evals.tmp rfl Evals.nil) ?_ inferInstance
  exact h
end
theorem SlotCut_any (a0 a1 a2 a3 a4 a5 a6 a7 : Int) (A : Option Addr) (c : Nat) (l : List Int) (at' : Int) (B : Option Addr) (d : Nat) (m : List Int) (W : World) (w0 : (Lit.int .u32 a0).wf = true) (w1 : (Lit.int .u32 a1).wf = true) (w2 : (Lit.int .u32 a2).wf = true) (w3 : (Lit.int .u32 a3).wf = true) (w4 : (Lit.int .u32 a4).wf = true) (w5 : (Lit.int .u64 a5).wf = true) (w6 : (Lit.int .u64 a6).wf = true) (w7 : (Lit.int .u64 a7).wf = true)
    (hr : Kd.C (Kd.int .u8) W A l.length l) (hc : l.length ≤ c) (w8 : l.length ≤ maxLen ∧ ∀ x ∈ l, (Lit.int .u8 x).wf = true) (y0 : (Lit.int .u16 at').wf = true)
    (hr2 : Kd.C (Kd.int .u8) W B m.length m) (hd : m.length ≤ d) (y8 : m.length ≤ maxLen ∧ ∀ x ∈ m, (Lit.int .u8 x).wf = true) :
    Calls Try.prog 12 #[.agg #[.int .u32 a0, .int .u32 a1, .int .u32 a2, .int .u32 a3, .int .u32 a4, .int .u64 a5, .int .u64 a6, .int .u64 a7, .slice A l.length c], .int .u16 at', .slice B m.length d] W fun e w' => e = .returned (.bool true) ∧ Below W.heap.size W w' :=
  Fn.out W [.per (roR (Kd.int .u8) A l), .per (roR (Kd.int .u8) B m), .per (oldR W)] (Holds.ofStart (Holds.startRow (Holds.startRow (Holds.start0 W) (Kd.C_F (Kd.heap_int _) hr2)) (Kd.C_F (Kd.heap_int _) hr))) inferInstance
    (SlotCut_S (s := ⟨a0, a1, a2, a3, a4, a5, a6, a7, l⟩) ⟨(inferInstance : Ro (Kd.int .u8) A [.per (roR (Kd.int .u8) A l), .per (roR (Kd.int .u8) B m), .per (oldR W)] l).h⟩ ⟨fun w I U h => (inferInstance : Ro (Kd.int .u8) B [.per (roR (Kd.int .u8) B m), .per (oldR W)] m).h w I U h.tail⟩ hc hd (wf_mk w0 w1 w2 w3 w4 w5 w6 w7 w8) (bytesB_of_wf m y8.2) (u16_of_wf _ y0).1 (u16_of_wf _ y0).2 ⟨rfl, inferInstance⟩)
theorem SlotPuts_any (a0 a1 a2 a3 a4 a5 a6 a7 : Int) (A : Option Addr) (c : Nat) (l : List Int) (x0 x1 x2 x3 x4 x5 x6 x7 : Int) (B : Option Addr) (d : Nat) (m : List Int) (W : World) (w0 : (Lit.int .u32 a0).wf = true) (w1 : (Lit.int .u32 a1).wf = true) (w2 : (Lit.int .u32 a2).wf = true) (w3 : (Lit.int .u32 a3).wf = true) (w4 : (Lit.int .u32 a4).wf = true) (w5 : (Lit.int .u64 a5).wf = true) (w6 : (Lit.int .u64 a6).wf = true) (w7 : (Lit.int .u64 a7).wf = true)
    (hr : Kd.C (Kd.int .u8) W A l.length l) (hc : l.length ≤ c) (w8 : l.length ≤ maxLen ∧ ∀ x ∈ l, (Lit.int .u8 x).wf = true)
    (y0 : (Lit.int .u32 x0).wf = true) (y1 : (Lit.int .u32 x1).wf = true) (y2 : (Lit.int .u32 x2).wf = true) (y3 : (Lit.int .u32 x3).wf = true) (y4 : (Lit.int .u32 x4).wf = true) (y5 : (Lit.int .u64 x5).wf = true) (y6 : (Lit.int .u64 x6).wf = true) (y7 : (Lit.int .u64 x7).wf = true)
    (hr2 : Kd.C (Kd.int .u8) W B m.length m) (hd : m.length ≤ d) (y8 : m.length ≤ maxLen ∧ ∀ x ∈ m, (Lit.int .u8 x).wf = true) :
    Calls Try.prog 10 #[.agg #[.int .u32 a0, .int .u32 a1, .int .u32 a2, .int .u32 a3, .int .u32 a4, .int .u64 a5, .int .u64 a6, .int .u64 a7, .slice A l.length c], .agg #[.int .u32 x0, .int .u32 x1, .int .u32 x2, .int .u32 x3, .int .u32 x4, .int .u64 x5, .int .u64 x6, .int .u64 x7, .slice B m.length d]] W fun e w' => e = .returned (.bool true) ∧ Below W.heap.size W w' :=
  Fn.out W [.per (roR (Kd.int .u8) A l), .per (roR (Kd.int .u8) B m), .per (oldR W)] (Holds.ofStart (Holds.startRow (Holds.startRow (Holds.start0 W) (Kd.C_F (Kd.heap_int _) hr2)) (Kd.C_F (Kd.heap_int _) hr))) inferInstance
    (SlotPuts_S (s := ⟨a0, a1, a2, a3, a4, a5, a6, a7, l⟩) (u := ⟨x0, x1, x2, x3, x4, x5, x6, x7, m⟩) ⟨(inferInstance : Ro (Kd.int .u8) A [.per (roR (Kd.int .u8) A l), .per (roR (Kd.int .u8) B m), .per (oldR W)] l).h⟩ ⟨fun w I U h => (inferInstance : Ro (Kd.int .u8) B [.per (roR (Kd.int .u8) B m), .per (oldR W)] m).h w I U h.tail⟩ hc hd (wf_mk w0 w1 w2 w3 w4 w5 w6 w7 w8) (wf_mk y0 y1 y2 y3 y4 y5 y6 y7 y8) ⟨rfl, inferInstance⟩)
end Go.Proofs.Ytlpjchighfdomaa.Sx
