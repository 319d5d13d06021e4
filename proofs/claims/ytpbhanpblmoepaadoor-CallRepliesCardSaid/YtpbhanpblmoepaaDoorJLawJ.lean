/- Chapter 9's laws CallUnlike, CallCut, walked; conditions: those that each theorem names. -/
import Derived.Test.YtpbhanpblmoepaaDoorJX6
namespace Go.Proofs.YtpbhanpblmoepaaDoor.Sx
open Go.RowKit Go.Proofs.YtpbhanpblmoepaaDoor.Hm Go.Proofs.YtpbhanpblmoepaaDoorW.PrintWords Go.Proofs.YtpbhanpblmoepaaDoorW.PrintLast Go.Proofs.YtpbhanpblmoepaaDoorW.PrintMore
set_option linter.unusedVariables false
set_option linter.unusedSimpArgs false
attribute [local irreducible] SX SXL SXA St callK Post Evals

theorem bytesB_takeB {xs : List Int} (n : Nat) (h : bytesB xs = true) : bytesB (xs.take n) = true := by
  rw [← List.take_append_drop n xs, bytesB_append, Bool.and_eq_true] at h
  exact h.1
theorem opq_mod (l : List Int) : (opq l).length % 4 = 0 := by unfold opq; simp [be32]; omega
theorem encF_mod {f : Fk} {v : Fv} (h : okF f v) : (encF f v).length % 4 = 0 := by
  cases f <;> cases v <;> simp only [okF] at h
  · simp only [encF, be32_len']
  · simp only [encF, be64_len']
  · exact opq_mod _
  · simp only [encF, be32_len']
theorem encFs_mod : ∀ {fs : List Fk} {vs : List Fv}, okFs fs vs → (encFs fs vs).length % 4 = 0
  | [], [], _ => rfl
  | [], _ :: _, h => h.elim
  | _ :: _, [], h => h.elim
  | f :: fs, v :: vs, h => by
    have h1 := encF_mod h.1
    have h2 := encFs_mod h.2
    unfold encFs
    rw [List.length_append]
    omega
theorem encCa_len (s : Ca) : 64 ≤ (encCa s).length ∧ (encCa s).length ≤ 100 + (s.name.size + s.toName.size + s.d.length) := by
  have h1 := opq_len' (bytesOf s.name)
  have h2 := opq_len' (bytesOf s.toName)
  have h3 := opq_len' s.d
  have g1 : 4 ≤ (opq (bytesOf s.name)).length := by unfold opq; simp [be32]
  have g2 : 4 ≤ (opq (bytesOf s.toName)).length := by unfold opq; simp [be32]
  have g3 : 4 ≤ (opq s.d).length := by unfold opq; simp [be32]
  rw [bytesOf_length] at h1 h2
  unfold encCa caF caV
  simp only [encFs, encF, List.length_append, List.length_nil, be32_len', be64_len']
  omega
theorem encRe_len {s : Re} (h : okRe s = true) (hp : (putM s.e).2 = 0) : 64 ≤ (encRe s).length ∧ (encRe s).length ≤ 5000 := by
  obtain ⟨-, hq, hl⟩ := putM_0 hp
  have hf := flat_len48 hl
  unfold okRe at h
  simp only [Bool.and_eq_true, decide_eq_true_eq] at h
  have h1 := opq_len' s.d
  have h2 := opq_len' (s.e.flatMap encE)
  have g1 : 4 ≤ (opq s.d).length := by unfold opq; simp [be32]
  have g2 : 4 ≤ (opq (s.e.flatMap encE)).length := by unfold opq; simp [be32]
  unfold encRe reF reV
  rw [hq]
  simp only [encFs, encF, List.length_append, List.length_nil, be32_len', be64_len']
  omega
theorem okCa_len {s : Ca} (h : okCa s = true) : s.name.size ≤ 64 ∧ s.toName.size ≤ 64 ∧ s.d.length ≤ 1024 := by
  unfold okCa at h
  simp only [Bool.and_eq_true, decide_eq_true_eq] at h
  exact h.2
theorem putCa_ok {s : Ca} {r : List Int} (h : putCa s = (r, 0)) : okCa s = true ∧ r = encCa s := by
  unfold putCa at h
  split at h
  · rename_i hk
    simp only [Prod.mk.injEq, and_true] at h
    exact ⟨hk, h.symm⟩
  · simp at h
theorem putRe_ok {s : Re} {r : List Int} (h : putRe s = (r, 0)) : okRe s = true ∧ (putM s.e).2 = 0 ∧ r = encRe s := by
  unfold putRe at h
  split at h
  · rename_i hk
    split at h
    · rename_i hn
      simp only [Prod.mk.injEq] at h
      exact absurd h.2 hn
    · rename_i hn
      simp only [Prod.mk.injEq, and_true] at h
      exact ⟨hk, Decidable.not_not.1 hn, h.symm⟩
  · simp at h
def sameCa (s u : Ca) : Bool := (s.client == u.client) && ((s.xid == u.xid) && ((s.op == u.op) && (((s.ai == u.ai) && (s.ag == u.ag)) && ((s.name.toList == u.name.toList) && (((s.ti == u.ti) && (s.tg == u.tg)) && ((s.toName.toList == u.toName.toList) && ((s.off == u.off) && ((s.verf == u.verf) && ((s.cnt == u.cnt) && ((s.mode == u.mode) && ((strOfNums s.d).toList == (strOfNums u.d).toList)))))))))))
theorem sameCa_iff {s u : Ca} (hs : bytesB s.d = true) (hu : bytesB u.d = true) : sameCa s u = true ↔ s = u := by
  constructor
  · intro h
    unfold sameCa at h
    simp only [Bool.and_eq_true, beq_iff_eq] at h
    obtain ⟨h1, h2, h3, ⟨h4, h5⟩, h6, ⟨h7, h8⟩, h9, h10, h11, h12, h13, h14⟩ := h
    have e6 := (toList_iff' _ _).1 (beq_iff_eq.2 h6)
    have e9 := (toList_iff' _ _).1 (beq_iff_eq.2 h9)
    have e14 := (toList_iff' _ _).1 (beq_iff_eq.2 h14)
    have h17 : s.d = u.d := by rw [← bytesOf_strOfNums _ hs, ← bytesOf_strOfNums _ hu, e14]
    cases s
    cases u
    simp_all
  · rintro rfl
    simp [sameCa]
section
variable {F R : List Thing} {K : Ending → List Thing → Prop} {A B : Option Addr} {c c2 : Nat} {tg : TypeId} {s : Ca}
theorem callOf_S (hr : Ro (Kd.int .u8) A F s.d) (h : K (.returned (.agg (raC s).toArray)) F) : Fn (Tryd.prog) 12 [.agg (caC s A c).toArray] F K := by
  unfold caC
  refine Fn.enter Tryd.call12 Tryd.func12 rfl rfl rfl ?_
  repeat (first | refine Qa ?_ | refine Qb ?_ | refine Qc ?_ | refine Qd ?_ | refine Qe ?_ | refine Qf ?_ | refine Qg ?_ | refine Qh ?_ | refine Qi ?_ | refine Qj ?_ | refine Qk ?_ | refine Ql ?_ | refine Qm ?_ | refine Qn ?_ | refine Qo ?_ | refine Qp ?_ | refine Qq ?_ | fail)
  refine SXL.box rfl rfl rfl (fun b => ?_)
  repeat (first | refine Qa ?_ | refine Qb ?_ | refine Qc ?_ | refine Qd ?_ | refine Qe ?_ | refine Qf ?_ | refine Qg ?_ | refine Qh ?_ | refine Qi ?_ | refine Qj ?_ | refine Qk ?_ | refine Ql ?_ | refine Qm ?_ | refine Qn ?_ | refine Qo ?_ | refine Qp ?_ | refine Qq ?_ | fail)
  refine SXL.alloc rfl rfl (fun q => ?_)
  repeat (first | refine Qa ?_ | refine Qb ?_ | refine Qc ?_ | refine Qd ?_ | refine Qe ?_ | refine Qf ?_ | refine Qg ?_ | refine Qh ?_ | refine Qi ?_ | refine Qj ?_ | refine Qk ?_ | refine Ql ?_ | refine Qm ?_ | refine Qn ?_ | refine Qo ?_ | refine Qp ?_ | refine Qq ?_ | fail)
  refine SXL.bytesStr rfl inferInstance rfl Tryd.underlying26 Tryd.underlying5 Tryd.underlying9 rfl ?_
  repeat (first | refine Qa ?_ | refine Qb ?_ | refine Qc ?_ | refine Qd ?_ | refine Qe ?_ | refine Qf ?_ | refine Qg ?_ | refine Qh ?_ | refine Qi ?_ | refine Qj ?_ | refine Qk ?_ | refine Ql ?_ | refine Qm ?_ | refine Qn ?_ | refine Qo ?_ | refine Qp ?_ | refine Qq ?_ | fail)
  refine SX.ret (M' := F) rfl (Evals.cell rfl inferInstance rfl Evals.nil) ?_ inferInstance
  exact h
set_option maxHeartbeats 1000000 in
set_option maxRecDepth 20000 in
theorem CallUnlike_S {u : Ca} {c' : Nat} {sm : Bool} (hg : Has (cellsR 0 chT tg) F) (hr : Ro (Kd.int .u8) A F s.d) (hr2 : Ro (Kd.int .u8) B F u.d) (hc : s.d.length ≤ c) (hc' : u.d.length ≤ c') (hs : s.wf) (hu : u.wf) (h : K (.returned (.bool true)) F) :
    Fn (Tryd.prog) 6 [.agg (caC s A c).toArray, .agg (caC u B c').toArray, .bool sm] F K := by
  unfold caC
  refine Fn.enter Tryd.call6 Tryd.func6 rfl rfl rfl ?_
  repeat (first | refine Qa ?_ | refine Qb ?_ | refine Qc ?_ | refine Qd ?_ | refine Qe ?_ | refine Qf ?_ | refine Qg ?_ | refine Qh ?_ | refine Qi ?_ | refine Qj ?_ | refine Qk ?_ | refine Ql ?_ | refine Qm ?_ | refine Qn ?_ | refine Qo ?_ | refine Qp ?_ | refine Qq ?_ | fail)
  refine SXL.box rfl rfl rfl (fun b1 => ?_)
  repeat (first | refine Qa ?_ | refine Qb ?_ | refine Qc ?_ | refine Qd ?_ | refine Qe ?_ | refine Qf ?_ | refine Qg ?_ | refine Qh ?_ | refine Qi ?_ | refine Qj ?_ | refine Qk ?_ | refine Ql ?_ | refine Qm ?_ | refine Qn ?_ | refine Qo ?_ | refine Qp ?_ | refine Qq ?_ | fail)
  refine SXL.box rfl rfl rfl (fun b2 => ?_)
  repeat (first | refine Qa ?_ | refine Qb ?_ | refine Qc ?_ | refine Qd ?_ | refine Qe ?_ | refine Qf ?_ | refine Qg ?_ | refine Qh ?_ | refine Qi ?_ | refine Qj ?_ | refine Qk ?_ | refine Ql ?_ | refine Qm ?_ | refine Qn ?_ | refine Qo ?_ | refine Qp ?_ | refine Qq ?_ | fail)
  refine SXL.call rfl rfl rfl ?_
  refine (awake09_S (tg := tg) inferInstance (callK.ret ?_))
  repeat (first | refine Qa ?_ | refine Qb ?_ | refine Qc ?_ | refine Qd ?_ | refine Qe ?_ | refine Qf ?_ | refine Qg ?_ | refine Qh ?_ | refine Qi ?_ | refine Qj ?_ | refine Qk ?_ | refine Ql ?_ | refine Qm ?_ | refine Qn ?_ | refine Qo ?_ | refine Qp ?_ | refine Qq ?_ | fail)
  refine SXL.split (s := 19) rfl (fun h19 => ?_) (fun h19 => ?_)
  · repeat (first | refine Qa ?_ | refine Qb ?_ | refine Qc ?_ | refine Qd ?_ | refine Qe ?_ | refine Qf ?_ | refine Qg ?_ | refine Qh ?_ | refine Qi ?_ | refine Qj ?_ | refine Qk ?_ | refine Ql ?_ | refine Qm ?_ | refine Qn ?_ | refine Qo ?_ | refine Qp ?_ | refine Qq ?_ | fail)
    refine SX.ret (M' := F) rfl (Evals.tmp rfl Evals.nil) ?_ inferInstance
    exact h
  repeat (first | refine Qa ?_ | refine Qb ?_ | refine Qc ?_ | refine Qd ?_ | refine Qe ?_ | refine Qf ?_ | refine Qg ?_ | refine Qh ?_ | refine Qi ?_ | refine Qj ?_ | refine Qk ?_ | refine Ql ?_ | refine Qm ?_ | refine Qn ?_ | refine Qo ?_ | refine Qp ?_ | refine Qq ?_ | fail)
  refine SXL.split (s := 25) rfl (fun h25 => ?_) (fun h25 => ?_)
  · repeat (first | refine Qa ?_ | refine Qb ?_ | refine Qc ?_ | refine Qd ?_ | refine Qe ?_ | refine Qf ?_ | refine Qg ?_ | refine Qh ?_ | refine Qi ?_ | refine Qj ?_ | refine Qk ?_ | refine Ql ?_ | refine Qm ?_ | refine Qn ?_ | refine Qo ?_ | refine Qp ?_ | refine Qq ?_ | fail)
    refine SX.ret (M' := F) rfl (Evals.tmp rfl Evals.nil) ?_ inferInstance
    exact h
  repeat (first | refine Qa ?_ | refine Qb ?_ | refine Qc ?_ | refine Qd ?_ | refine Qe ?_ | refine Qf ?_ | refine Qg ?_ | refine Qh ?_ | refine Qi ?_ | refine Qj ?_ | refine Qk ?_ | refine Ql ?_ | refine Qm ?_ | refine Qn ?_ | refine Qo ?_ | refine Qp ?_ | refine Qq ?_ | fail)
  refine SX.cond rfl (fun hl => ?_) (fun hl => ?_)
  · repeat (first | refine Qa ?_ | refine Qb ?_ | refine Qc ?_ | refine Qd ?_ | refine Qe ?_ | refine Qf ?_ | refine Qg ?_ | refine Qh ?_ | refine Qi ?_ | refine Qj ?_ | refine Qk ?_ | refine Ql ?_ | refine Qm ?_ | refine Qn ?_ | refine Qo ?_ | refine Qp ?_ | refine Qq ?_ | fail)
    refine SX.ret (M' := F) rfl (Evals.tmp rfl Evals.nil) ?_ inferInstance
    exact h
  clear hl h19 h25
  repeat (first | refine Qa ?_ | refine Qb ?_ | refine Qc ?_ | refine Qd ?_ | refine Qe ?_ | refine Qf ?_ | refine Qg ?_ | refine Qh ?_ | refine Qi ?_ | refine Qj ?_ | refine Qk ?_ | refine Ql ?_ | refine Qm ?_ | refine Qn ?_ | refine Qo ?_ | refine Qp ?_ | refine Qq ?_ | fail)
  refine SX.cut (fun a M => ∃ (v : Ca) (B' : Option Addr) (c2 : Nat), v.wf ∧ v.d.length ≤ c2 ∧ Ro (Kd.int .u8) B' F v.d ∧ a = [(3, .pointer (some ⟨b1, 0, none⟩)), (4, .pointer (some ⟨b2, 0, none⟩)), (6, .bool false)] ∧
      .own (some ⟨b1, 0, none⟩) (cellsR b1 (caC s A c) 28) :: .own (some ⟨b2, 0, none⟩) (cellsR b2 (caC v B' c2) 28) :: F = M) ?_ ?_
  · refine SX.cond rfl (fun hsm => ?_) (fun hsm => ?_)
    · repeat (first | refine Qa ?_ | refine Qb ?_ | refine Qc ?_ | refine Qd ?_ | refine Qe ?_ | refine Qf ?_ | refine Qg ?_ | refine Qh ?_ | refine Qi ?_ | refine Qj ?_ | refine Qk ?_ | refine Ql ?_ | refine Qm ?_ | refine Qn ?_ | refine Qo ?_ | refine Qp ?_ | refine Qq ?_ | fail)
      refine SX.meet ⟨s, A, c, hs, hc, hr, rfl, rfl⟩ (by repeat (first | exact trivial | refine ⟨rfl, ?_⟩)) (by unfold caC; infer_instance)
    · repeat (first | refine Qa ?_ | refine Qb ?_ | refine Qc ?_ | refine Qd ?_ | refine Qe ?_ | refine Qf ?_ | refine Qg ?_ | refine Qh ?_ | refine Qi ?_ | refine Qj ?_ | refine Qk ?_ | refine Ql ?_ | refine Qm ?_ | refine Qn ?_ | refine Qo ?_ | refine Qp ?_ | refine Qq ?_ | fail)
      refine SX.meet ⟨u, B, c', hu, hc', hr2, rfl, rfl⟩ (by repeat (first | exact trivial | refine ⟨rfl, ?_⟩)) (by unfold caC; infer_instance)
  clear hr2 hc' hu
  rintro _ _ ⟨u, B, c', hu, hc', hr2, rfl, rfl⟩
  unfold caC
  repeat (first | refine Qa ?_ | refine Qb ?_ | refine Qc ?_ | refine Qd ?_ | refine Qe ?_ | refine Qf ?_ | refine Qg ?_ | refine Qh ?_ | refine Qi ?_ | refine Qj ?_ | refine Qk ?_ | refine Ql ?_ | refine Qm ?_ | refine Qn ?_ | refine Qo ?_ | refine Qp ?_ | refine Qq ?_ | fail)
  refine SXL.call rfl rfl rfl ?_
  refine (PutCall_S (s := s) inferInstance hc hs (fun r1 n1 hm A1 c1 hc1 => callK.ret ?_))
  repeat (first | refine Qa ?_ | refine Qb ?_ | refine Qc ?_ | refine Qd ?_ | refine Qe ?_ | refine Qf ?_ | refine Qg ?_ | refine Qh ?_ | refine Qi ?_ | refine Qj ?_ | refine Qk ?_ | refine Ql ?_ | refine Qm ?_ | refine Qn ?_ | refine Qo ?_ | refine Qp ?_ | refine Qq ?_ | fail)
  refine SXL.call rfl rfl rfl ?_
  refine (PutCall_S (s := u) inferInstance hc' hu (fun r2 n2 hm2 A2 c2 hc2 => callK.ret ?_))
  repeat (first | refine Qa ?_ | refine Qb ?_ | refine Qc ?_ | refine Qd ?_ | refine Qe ?_ | refine Qf ?_ | refine Qg ?_ | refine Qh ?_ | refine Qi ?_ | refine Qj ?_ | refine Qk ?_ | refine Ql ?_ | refine Qm ?_ | refine Qn ?_ | refine Qo ?_ | refine Qp ?_ | refine Qq ?_ | fail)
  refine SXL.split (s := 57) rfl (fun h39 => ?_) (fun h39 => ?_)
  · repeat (first | refine Qa ?_ | refine Qb ?_ | refine Qc ?_ | refine Qd ?_ | refine Qe ?_ | refine Qf ?_ | refine Qg ?_ | refine Qh ?_ | refine Qi ?_ | refine Qj ?_ | refine Qk ?_ | refine Ql ?_ | refine Qm ?_ | refine Qn ?_ | refine Qo ?_ | refine Qp ?_ | refine Qq ?_ | fail)
    refine SX.ret (M' := F) rfl (Evals.tmp rfl Evals.nil) ?_ inferInstance
    exact h
  obtain rfl : n1 = 0 := by simpa using h39
  repeat (first | refine Qa ?_ | refine Qb ?_ | refine Qc ?_ | refine Qd ?_ | refine Qe ?_ | refine Qf ?_ | refine Qg ?_ | refine Qh ?_ | refine Qi ?_ | refine Qj ?_ | refine Qk ?_ | refine Ql ?_ | refine Qm ?_ | refine Qn ?_ | refine Qo ?_ | refine Qp ?_ | refine Qq ?_ | fail)
  refine SX.cond rfl (fun hn2 => ?_) (fun hn2 => ?_)
  · repeat (first | refine Qa ?_ | refine Qb ?_ | refine Qc ?_ | refine Qd ?_ | refine Qe ?_ | refine Qf ?_ | refine Qg ?_ | refine Qh ?_ | refine Qi ?_ | refine Qj ?_ | refine Qk ?_ | refine Ql ?_ | refine Qm ?_ | refine Qn ?_ | refine Qo ?_ | refine Qp ?_ | refine Qq ?_ | fail)
    refine SX.ret (M' := F) rfl (Evals.tmp rfl Evals.nil) ?_ inferInstance
    exact h
  obtain rfl : n2 = 0 := by simpa using hn2
  obtain ⟨k1, rfl⟩ := putCa_ok hm
  obtain ⟨k2, rfl⟩ := putCa_ok hm2
  have e1 := sameCa_iff hs.d hu.d
  have w1 := encFs_bytes (okCa_fs hs k1)
  have w2 := encFs_bytes (okCa_fs hu k2)
  have hmod := encFs_mod (okCa_fs hs k1)
  have hlen := (encCa_len s).2
  have hln := okCa_len k1
  have hstr : ((strOfNums (encCa s)).toList == (strOfNums (encCa u)).toList) = sameCa s u := by
    rw [Bool.eq_iff_iff, toList_iff', e1]
    constructor
    · intro h9
      exact encCa_inj hs hu k1 k2 (by rw [← bytesOf_strOfNums _ (show bytesB (encCa s) = true from w1), h9, bytesOf_strOfNums _ (show bytesB (encCa u) = true from w2)])
    · rintro rfl; rfl
  repeat (first | refine Qa ?_ | refine Qb ?_ | refine Qc ?_ | refine Qd ?_ | refine Qe ?_ | refine Qf ?_ | refine Qg ?_ | refine Qh ?_ | refine Qi ?_ | refine Qj ?_ | refine Qk ?_ | refine Ql ?_ | refine Qm ?_ | refine Qn ?_ | refine Qo ?_ | refine Qp ?_ | refine Qq ?_ | fail)
  refine SXA.begin [.own A2 (rowR (Kd.int .u8) 5 (.slice A2 (encCa u).length c2) (encCa u)), .own A1 (rowR (Kd.int .u8) 5 (.slice A1 (encCa s).length c1) (encCa s)), .own (some ⟨b1, 0, none⟩) (cellsR b1 (caC s A c) 28), .own (some ⟨b2, 0, none⟩) (cellsR b2 (caC u B c') 28)] [] ?_
  unfold caC
  (first | refine Qr 0 ?_ | refine Qs 0 ?_ | refine Qt 0 ?_ | refine Qu 0 ?_ | fail)
  (first | refine Qr 2 ?_ | refine Qs 2 ?_ | refine Qt 2 ?_ | refine Qu 2 ?_ | fail)
  (first | refine Qr 5 ?_ | refine Qs 5 ?_ | refine Qt 5 ?_ | refine Qu 5 ?_ | fail)
  (first | refine Qr 7 ?_ | refine Qs 7 ?_ | refine Qt 7 ?_ | refine Qu 7 ?_ | fail)
  refine SXA.bytesStr 1 rfl (by decide +kernel) rfl rfl inferInstance rfl Tryd.underlying26 Tryd.underlying5 Tryd.underlying9 rfl inferInstance ?_
  refine SXA.bytesStr 3 rfl (by decide +kernel) rfl rfl inferInstance rfl Tryd.underlying26 Tryd.underlying5 Tryd.underlying9 rfl inferInstance ?_
  (first | refine Qr 4 ?_ | refine Qs 4 ?_ | refine Qt 4 ?_ | refine Qu 4 ?_ | fail)
  refine Qw 6 ?_
  refine SXL.call rfl rfl rfl ?_
  refine (callOf_S (s := s) inferInstance (callK.ret ?_))
  refine SXL.nil (SXA.next inferInstance ?_)
  refine Qw 8 ?_
  refine SXL.call rfl rfl rfl ?_
  refine (callOf_S (s := u) inferInstance (callK.ret ?_))
  refine SXL.nil (SXA.next inferInstance ?_)
  refine Qw 9 ?_
  refine SXL.eqStr rfl rfl inferInstance inferInstance rfl rfl rfl rfl ?_
  refine SXL.nil (SXA.next inferInstance ?_)
  (first | refine Qr 10 ?_ | refine Qs 10 ?_ | refine Qt 10 ?_ | refine Qu 10 ?_ | fail)
  (first | refine Qr 11 ?_ | refine Qs 11 ?_ | refine Qt 11 ?_ | refine Qu 11 ?_ | fail)
  refine SXA.know 72 true rfl (by show (((strOfNums (encCa s)).toList == (strOfNums (encCa u)).toList) == sameCa s u) = true; rw [hstr]; simp) ?_
  (first | refine Qr 12 ?_ | refine Qs 12 ?_ | refine Qt 12 ?_ | refine Qu 12 ?_ | fail)
  (first | refine Qr 13 ?_ | refine Qs 13 ?_ | refine Qt 13 ?_ | refine Qu 13 ?_ | fail)
  (first | refine Qr 14 ?_ | refine Qs 14 ?_ | refine Qt 14 ?_ | refine Qu 14 ?_ | fail)
  (first | refine Qr 15 ?_ | refine Qs 15 ?_ | refine Qt 15 ?_ | refine Qu 15 ?_ | fail)
  (first | refine Qr 16 ?_ | refine Qs 16 ?_ | refine Qt 16 ?_ | refine Qu 16 ?_ | fail)
  (first | refine Qr 17 ?_ | refine Qs 17 ?_ | refine Qt 17 ?_ | refine Qu 17 ?_ | fail)
  refine Qv ?_
  repeat (first | refine Qa ?_ | refine Qb ?_ | refine Qc ?_ | refine Qd ?_ | refine Qe ?_ | refine Qf ?_ | refine Qg ?_ | refine Qh ?_ | refine Qi ?_ | refine Qj ?_ | refine Qk ?_ | refine Ql ?_ | refine Qm ?_ | refine Qn ?_ | refine Qo ?_ | refine Qp ?_ | refine Qq ?_ | fail)
  refine SX.same 6 (.bool true) rfl (by
    have hmod' : (encCa s).length % 4 = 0 := hmod
    have : (((encCa s).length : Int)).tmod 4 = 0 := by rw [Int.tmod_eq_emod_of_nonneg (by omega)]; omega
    rw [this]
    rfl) ?_
  refine SX.ret (M' := F) rfl (Evals.tmp rfl Evals.nil) ?_ inferInstance
  exact h
set_option maxHeartbeats 1000000 in
set_option maxRecDepth 20000 in
theorem CallCut_S {C E : Option Addr} {c3 c4 : Nat} {x : Re} {more : List Int} {at' : Int} (hg : Has (cellsR 0 chT tg) F) (hr : Ro (Kd.int .u8) A F s.d) (hrx : Ro (Kd.int .u8) B F x.d) (hre : Ro kE C F x.e) (hrm : Ro (Kd.int .u8) E F more) (hc : s.d.length ≤ c) (hcx : x.d.length ≤ c2) (hce : x.e.length ≤ c3) (hcm : more.length ≤ c4) (hs : s.wf) (hx : x.wf) (hb : bytesB more = true) (h0 : 0 ≤ at') (h1 : at' < 65536) (h : K (.returned (.bool true)) F) :
    Fn (Tryd.prog) 5 [.agg (caC s A c).toArray, .agg (reC x B c2 C c3).toArray, .int .u16 at', .slice E more.length c4] F K := by
  unfold caC reC
  refine Fn.enter Tryd.call5 Tryd.func5 rfl rfl rfl ?_
  repeat (first | refine Qa ?_ | refine Qb ?_ | refine Qc ?_ | refine Qd ?_ | refine Qe ?_ | refine Qf ?_ | refine Qg ?_ | refine Qh ?_ | refine Qi ?_ | refine Qj ?_ | refine Qk ?_ | refine Ql ?_ | refine Qm ?_ | refine Qn ?_ | refine Qo ?_ | refine Qp ?_ | refine Qq ?_ | fail)
  refine SXL.box rfl rfl rfl (fun b1 => ?_)
  repeat (first | refine Qa ?_ | refine Qb ?_ | refine Qc ?_ | refine Qd ?_ | refine Qe ?_ | refine Qf ?_ | refine Qg ?_ | refine Qh ?_ | refine Qi ?_ | refine Qj ?_ | refine Qk ?_ | refine Ql ?_ | refine Qm ?_ | refine Qn ?_ | refine Qo ?_ | refine Qp ?_ | refine Qq ?_ | fail)
  refine SXL.box rfl rfl rfl (fun b2 => ?_)
  repeat (first | refine Qa ?_ | refine Qb ?_ | refine Qc ?_ | refine Qd ?_ | refine Qe ?_ | refine Qf ?_ | refine Qg ?_ | refine Qh ?_ | refine Qi ?_ | refine Qj ?_ | refine Qk ?_ | refine Ql ?_ | refine Qm ?_ | refine Qn ?_ | refine Qo ?_ | refine Qp ?_ | refine Qq ?_ | fail)
  refine SXL.call rfl rfl rfl ?_
  refine (awake09_S (tg := tg) inferInstance (callK.ret ?_))
  repeat (first | refine Qa ?_ | refine Qb ?_ | refine Qc ?_ | refine Qd ?_ | refine Qe ?_ | refine Qf ?_ | refine Qg ?_ | refine Qh ?_ | refine Qi ?_ | refine Qj ?_ | refine Qk ?_ | refine Ql ?_ | refine Qm ?_ | refine Qn ?_ | refine Qo ?_ | refine Qp ?_ | refine Qq ?_ | fail)
  refine SXL.split (s := 27) rfl (fun h27 => ?_) (fun h27 => ?_)
  · repeat (first | refine Qa ?_ | refine Qb ?_ | refine Qc ?_ | refine Qd ?_ | refine Qe ?_ | refine Qf ?_ | refine Qg ?_ | refine Qh ?_ | refine Qi ?_ | refine Qj ?_ | refine Qk ?_ | refine Ql ?_ | refine Qm ?_ | refine Qn ?_ | refine Qo ?_ | refine Qp ?_ | refine Qq ?_ | fail)
    refine SX.ret (M' := F) rfl (Evals.tmp rfl Evals.nil) ?_ inferInstance
    exact h
  have h27' : more ≠ [] := by rintro rfl; simp at h27
  repeat (first | refine Qa ?_ | refine Qb ?_ | refine Qc ?_ | refine Qd ?_ | refine Qe ?_ | refine Qf ?_ | refine Qg ?_ | refine Qh ?_ | refine Qi ?_ | refine Qj ?_ | refine Qk ?_ | refine Ql ?_ | refine Qm ?_ | refine Qn ?_ | refine Qo ?_ | refine Qp ?_ | refine Qq ?_ | fail)
  refine SXL.split (s := 32) rfl (fun h32 => ?_) (fun h32 => ?_)
  · repeat (first | refine Qa ?_ | refine Qb ?_ | refine Qc ?_ | refine Qd ?_ | refine Qe ?_ | refine Qf ?_ | refine Qg ?_ | refine Qh ?_ | refine Qi ?_ | refine Qj ?_ | refine Qk ?_ | refine Ql ?_ | refine Qm ?_ | refine Qn ?_ | refine Qo ?_ | refine Qp ?_ | refine Qq ?_ | fail)
    refine SX.ret (M' := F) rfl (Evals.tmp rfl Evals.nil) ?_ inferInstance
    exact h
  have h32' := of_decide_eq_false h32
  repeat (first | refine Qa ?_ | refine Qb ?_ | refine Qc ?_ | refine Qd ?_ | refine Qe ?_ | refine Qf ?_ | refine Qg ?_ | refine Qh ?_ | refine Qi ?_ | refine Qj ?_ | refine Qk ?_ | refine Ql ?_ | refine Qm ?_ | refine Qn ?_ | refine Qo ?_ | refine Qp ?_ | refine Qq ?_ | fail)
  refine SX.condp rfl (fun h37 => ?_) (fun h37 => ?_)
  · repeat (first | refine Qa ?_ | refine Qb ?_ | refine Qc ?_ | refine Qd ?_ | refine Qe ?_ | refine Qf ?_ | refine Qg ?_ | refine Qh ?_ | refine Qi ?_ | refine Qj ?_ | refine Qk ?_ | refine Ql ?_ | refine Qm ?_ | refine Qn ?_ | refine Qo ?_ | refine Qp ?_ | refine Qq ?_ | fail)
    refine SX.ret (M' := F) rfl (Evals.tmp rfl Evals.nil) ?_ inferInstance
    exact h
  repeat (first | refine Qa ?_ | refine Qb ?_ | refine Qc ?_ | refine Qd ?_ | refine Qe ?_ | refine Qf ?_ | refine Qg ?_ | refine Qh ?_ | refine Qi ?_ | refine Qj ?_ | refine Qk ?_ | refine Ql ?_ | refine Qm ?_ | refine Qn ?_ | refine Qo ?_ | refine Qp ?_ | refine Qq ?_ | fail)
  refine SXL.call rfl rfl rfl ?_
  refine (PutCall_S (s := s) inferInstance hc hs (fun r n hm A1 c1 hc1 => callK.ret ?_))
  repeat (refine Qa ?_)
  refine Qd ?_
  repeat (first | refine Qf ?_ | refine Qg ?_ | refine Qh ?_ | refine Qi ?_ | refine Qj ?_ | refine Qk ?_ | refine Ql ?_ | fail)
  refine SX.cut (fun a M => a = [(2, .int .u16 at'), (3, .slice E more.length c4), (5, .pointer (some ⟨b2, 0, none⟩)), (10, .slice A1 r.length c1), (49, .bool (okCa s))] ∧ .own A1 (rowR (Kd.int .u8) 5 (.slice A1 r.length c1) r) :: .own (some ⟨b2, 0, none⟩) (cellsR b2 (reC x B c2 C c3) 48) :: F = M) ?_ ?_
  · repeat (first | refine Qa ?_ | refine Qb ?_ | refine Qc ?_ | refine Qd ?_ | refine Qe ?_ | refine Qf ?_ | refine Qg ?_ | refine Qh ?_ | refine Qi ?_ | refine Qj ?_ | refine Qk ?_ | refine Ql ?_ | refine Qm ?_ | refine Qn ?_ | refine Qo ?_ | refine Qp ?_ | refine Qq ?_ | fail)
    refine SXL.split (s := 45) rfl (fun h45 => ?_) (fun h45 => ?_)
    · obtain rfl : n = 0 := by simpa using h45
      obtain ⟨k1, rfl⟩ := putCa_ok hm
      have hl := (encCa_len s).1
      repeat (first | refine Qa ?_ | refine Qb ?_ | refine Qc ?_ | refine Qd ?_ | refine Qe ?_ | refine Qf ?_ | refine Qg ?_ | refine Qh ?_ | refine Qi ?_ | refine Qj ?_ | refine Qk ?_ | refine Ql ?_ | refine Qm ?_ | refine Qn ?_ | refine Qo ?_ | refine Qp ?_ | refine Qq ?_ | fail)
      refine SX.same 49 (.bool (okCa s)) rfl (by rw [k1]; simp; omega) ?_
      refine SX.meet ⟨rfl, rfl⟩ (by repeat (first | exact trivial | refine ⟨rfl, ?_⟩)) (by unfold reC; infer_instance)
    · have hk : okCa s = false := by
        have h9 : n ≠ 0 := by simpa using h45
        unfold putCa at hm
        cases hk : okCa s with
        | true => rw [hk] at hm; simp only [if_true, Prod.mk.injEq] at hm; exact absurd hm.2.symm h9
        | false => rfl
      repeat (first | refine Qa ?_ | refine Qb ?_ | refine Qc ?_ | refine Qd ?_ | refine Qe ?_ | refine Qf ?_ | refine Qg ?_ | refine Qh ?_ | refine Qi ?_ | refine Qj ?_ | refine Qk ?_ | refine Ql ?_ | refine Qm ?_ | refine Qn ?_ | refine Qo ?_ | refine Qp ?_ | refine Qq ?_ | fail)
      refine SX.same 49 (.bool (okCa s)) rfl (by rw [hk]) ?_
      refine SX.meet ⟨rfl, rfl⟩ (by repeat (first | exact trivial | refine ⟨rfl, ?_⟩)) (by unfold reC; infer_instance)
  rintro _ _ ⟨rfl, rfl⟩
  repeat (first | refine Qf ?_ | refine Qg ?_ | refine Qh ?_ | refine Qi ?_ | refine Qj ?_ | refine Qk ?_ | refine Ql ?_ | fail)
  refine SX.cut (fun a M => a = [(2, .int .u16 at'), (3, .slice E more.length c4), (5, .pointer (some ⟨b2, 0, none⟩))] ∧ .own (some ⟨b2, 0, none⟩) (cellsR b2 (reC x B c2 C c3) 48) :: F = M) ?_ ?_
  · refine SX.cond rfl (fun hk => ?_) (fun hk => ?_)
    rotate_left
    · repeat (first | refine Qa ?_ | refine Qb ?_ | refine Qc ?_ | refine Qd ?_ | refine Qe ?_ | refine Qf ?_ | refine Qg ?_ | refine Qh ?_ | refine Qi ?_ | refine Qj ?_ | refine Qk ?_ | refine Ql ?_ | refine Qm ?_ | refine Qn ?_ | refine Qo ?_ | refine Qp ?_ | refine Qq ?_ | fail)
      refine SX.meet ⟨rfl, rfl⟩ (by repeat (first | exact trivial | refine ⟨rfl, ?_⟩)) inferInstance
    have hm9 : putCa s = (encCa s, 0) := by unfold putCa; rw [if_pos hk]
    rw [hm9] at hm
    simp only [Prod.mk.injEq] at hm
    obtain ⟨rfl, rfl⟩ := hm
    have e1 := encCa_len s
    have e3 := okCa_len hk
    have e4 : bytesB (encCa s) = true := encFs_bytes (okCa_fs hs hk)
    obtain ⟨m, hm⟩ : ∃ m : Nat, (m : Int) = at' % ((encCa s).length : Int) := ⟨(at' % ((encCa s).length : Int)).toNat, by have := Int.emod_nonneg at' (b := ((encCa s).length : Int)) (by omega); omega⟩
    have hm2 : m < (encCa s).length := by have := Int.emod_lt_of_pos at' (b := ((encCa s).length : Int)) (by omega); omega
    have hcut : getCa ((encCa s).take m) = (Ca0, 10) := getCa_cut hs hk (List.take_append_drop m (encCa s)) (by intro h9; have h8 := congrArg List.length h9; rw [List.length_drop] at h8; simp at h8; omega)
    have hlen : ((encCa s).take m).length = m := by rw [List.length_take]; omega
    repeat (first | refine Qa ?_ | refine Qb ?_ | refine Qc ?_ | refine Qd ?_ | refine Qe ?_ | refine Qf ?_ | refine Qg ?_ | refine Qh ?_ | refine Qi ?_ | refine Qj ?_ | refine Qk ?_ | refine Ql ?_ | refine Qm ?_ | refine Qn ?_ | refine Qo ?_ | refine Qp ?_ | refine Qq ?_ | fail)
    try refine SXL.rem rfl rfl (by show ((encCa s).length : Int) ≠ 0; omega) rfl ?_
    refine SXL.same 56 (.int .i64 (m : Int)) rfl (by rw [IntWalk.i64_in at' (by omega), Int.tmod_eq_emod_of_nonneg h0, hm]) ?_
    refine SXL.cut rfl rfl rfl rfl rfl rfl hc1 (by omega) (by omega) (by omega) rfl ?_
    refine SXL.same 57 (.slice A1 ((encCa s).take m).length c1) rfl (by rw [cut0, hlen]; simp) ?_
    repeat (first | refine Qa ?_ | refine Qb ?_ | refine Qc ?_ | refine Qd ?_ | refine Qe ?_ | refine Qf ?_ | refine Qg ?_ | refine Qh ?_ | refine Qi ?_ | refine Qj ?_ | refine Qk ?_ | refine Ql ?_ | refine Qm ?_ | refine Qn ?_ | refine Qo ?_ | refine Qp ?_ | refine Qq ?_ | fail)
    refine SXL.call rfl rfl rfl ?_
    refine (GetCall_S (xs := (encCa s).take m) (Ro.take m inferInstance) (by omega) (bytesB_takeB _ e4) (by omega) (fun r n hm9 A2 c3 hc3 => callK.ret ?_))
    rw [hcut] at hm9
    simp only [Prod.mk.injEq] at hm9
    obtain ⟨rfl, rfl⟩ := hm9
    repeat (first | refine Qa ?_ | refine Qb ?_ | refine Qc ?_ | refine Qd ?_ | refine Qe ?_ | refine Qf ?_ | refine Qg ?_ | refine Qh ?_ | refine Qi ?_ | refine Qj ?_ | refine Qk ?_ | refine Ql ?_ | refine Qm ?_ | refine Qn ?_ | refine Qo ?_ | refine Qp ?_ | refine Qq ?_ | fail)
    refine SXL.alloc rfl rfl (fun g1 => ?_)
    repeat (first | refine Qa ?_ | refine Qb ?_ | refine Qc ?_ | refine Qd ?_ | refine Qe ?_ | refine Qf ?_ | refine Qg ?_ | refine Qh ?_ | refine Qi ?_ | refine Qj ?_ | refine Qk ?_ | refine Ql ?_ | refine Qm ?_ | refine Qn ?_ | refine Qo ?_ | refine Qp ?_ | refine Qq ?_ | fail)
    refine SXL.append (Kd.int .u8) rfl rfl inferInstance inferInstance rfl inferInstance (by simp; omega) rfl (fun A4 c4 hc4 => ?_)
    repeat (first | refine Qa ?_ | refine Qb ?_ | refine Qc ?_ | refine Qd ?_ | refine Qe ?_ | refine Qf ?_ | refine Qg ?_ | refine Qh ?_ | refine Qi ?_ | refine Qj ?_ | refine Qk ?_ | refine Ql ?_ | refine Qm ?_ | refine Qn ?_ | refine Qo ?_ | refine Qp ?_ | refine Qq ?_ | fail)
    refine SXL.call rfl rfl rfl ?_
    refine (GetCall_S (xs := encCa s ++ more) inferInstance hc4 (by rw [bytesB_append, e4, hb]; rfl) (by rw [List.length_append]; omega) (fun r n hm9 A5 c5 hc5 => callK.ret ?_))
    rw [getCa_more hs hk h27'] at hm9
    simp only [Prod.mk.injEq] at hm9
    obtain ⟨rfl, rfl⟩ := hm9
    repeat (first | refine Qa ?_ | refine Qb ?_ | refine Qc ?_ | refine Qd ?_ | refine Qe ?_ | refine Qf ?_ | refine Qg ?_ | refine Qh ?_ | refine Qi ?_ | refine Qj ?_ | refine Qk ?_ | refine Ql ?_ | refine Qm ?_ | refine Qn ?_ | refine Qo ?_ | refine Qp ?_ | refine Qq ?_ | fail)
    refine SXL.alloc rfl rfl (fun g2 => ?_)
    repeat (first | refine Qa ?_ | refine Qb ?_ | refine Qc ?_ | refine Qd ?_ | refine Qe ?_ | refine Qf ?_ | refine Qg ?_ | refine Qh ?_ | refine Qi ?_ | refine Qj ?_ | refine Qk ?_ | refine Ql ?_ | refine Qm ?_ | refine Qn ?_ | refine Qo ?_ | refine Qp ?_ | refine Qq ?_ | fail)
    refine SX.meet ⟨rfl, rfl⟩ (by repeat (first | exact trivial | refine ⟨rfl, ?_⟩)) (by unfold reC; infer_instance)
  clear hm hc1
  rintro _ _ ⟨rfl, rfl⟩
  unfold reC
  repeat (first | refine Qa ?_ | refine Qb ?_ | refine Qc ?_ | refine Qd ?_ | refine Qe ?_ | refine Qf ?_ | refine Qg ?_ | refine Qh ?_ | refine Qi ?_ | refine Qj ?_ | refine Qk ?_ | refine Ql ?_ | refine Qm ?_ | refine Qn ?_ | refine Qo ?_ | refine Qp ?_ | refine Qq ?_ | fail)
  refine SXL.call rfl rfl rfl ?_
  refine (PutReply_S (s := x) inferInstance inferInstance hcx hce hx (fun r n hm A1 c1 hc1 => callK.ret ?_))
  repeat (first | refine Qa ?_ | refine Qb ?_ | refine Qc ?_ | refine Qd ?_ | refine Qe ?_ | refine Qf ?_ | refine Qg ?_ | refine Qh ?_ | refine Qi ?_ | refine Qj ?_ | refine Qk ?_ | refine Ql ?_ | refine Qm ?_ | refine Qn ?_ | refine Qo ?_ | refine Qp ?_ | refine Qq ?_ | fail)
  refine SXL.split (s := 81) rfl (fun h81 => ?_) (fun h81 => ?_)
  rotate_left
  · repeat (first | refine Qa ?_ | refine Qb ?_ | refine Qc ?_ | refine Qd ?_ | refine Qe ?_ | refine Qf ?_ | refine Qg ?_ | refine Qh ?_ | refine Qi ?_ | refine Qj ?_ | refine Qk ?_ | refine Ql ?_ | refine Qm ?_ | refine Qn ?_ | refine Qo ?_ | refine Qp ?_ | refine Qq ?_ | fail)
    refine SX.ret (M' := F) rfl (Evals.tmp rfl Evals.nil) ?_ inferInstance
    exact h
  obtain rfl : n = 0 := by simpa using h81
  obtain ⟨hk, hp, rfl⟩ := putRe_ok hm
  have e1 := encRe_len hk hp
  have e4 : bytesB (encRe x) = true := encFs_bytes (okRe_fs hx hk hp)
  obtain ⟨m, hm⟩ : ∃ m : Nat, (m : Int) = at' % ((encRe x).length : Int) := ⟨(at' % ((encRe x).length : Int)).toNat, by have := Int.emod_nonneg at' (b := ((encRe x).length : Int)) (by omega); omega⟩
  have hm2 : m < (encRe x).length := by have := Int.emod_lt_of_pos at' (b := ((encRe x).length : Int)) (by omega); omega
  have hcut : getRe ((encRe x).take m) = (Re0, 10) := getRe_cut hx hk hp (List.take_append_drop m (encRe x)) (by intro h9; have h8 := congrArg List.length h9; rw [List.length_drop] at h8; simp at h8; omega)
  have hlen : ((encRe x).take m).length = m := by rw [List.length_take]; omega
  repeat (first | refine Qa ?_ | refine Qb ?_ | refine Qc ?_ | refine Qd ?_ | refine Qe ?_ | refine Qf ?_ | refine Qg ?_ | refine Qh ?_ | refine Qi ?_ | refine Qj ?_ | refine Qk ?_ | refine Ql ?_ | refine Qm ?_ | refine Qn ?_ | refine Qo ?_ | refine Qp ?_ | refine Qq ?_ | fail)
  refine SX.know 85 true rfl (by simp; omega) ?_
  repeat (first | refine Qa ?_ | refine Qb ?_ | refine Qc ?_ | refine Qd ?_ | refine Qe ?_ | refine Qf ?_ | refine Qg ?_ | refine Qh ?_ | refine Qi ?_ | refine Qj ?_ | refine Qk ?_ | refine Ql ?_ | refine Qm ?_ | refine Qn ?_ | refine Qo ?_ | refine Qp ?_ | refine Qq ?_ | fail)
  try refine SXL.rem rfl rfl (by show ((encRe x).length : Int) ≠ 0; omega) rfl ?_
  refine SXL.same 92 (.int .i64 (m : Int)) rfl (by rw [IntWalk.i64_in at' (by omega), Int.tmod_eq_emod_of_nonneg h0, hm]) ?_
  refine SXL.cut rfl rfl rfl rfl rfl rfl hc1 (by omega) (by omega) (by omega) rfl ?_
  refine SXL.same 93 (.slice A1 ((encRe x).take m).length c1) rfl (by rw [cut0, hlen]; simp) ?_
  repeat (first | refine Qa ?_ | refine Qb ?_ | refine Qc ?_ | refine Qd ?_ | refine Qe ?_ | refine Qf ?_ | refine Qg ?_ | refine Qh ?_ | refine Qi ?_ | refine Qj ?_ | refine Qk ?_ | refine Ql ?_ | refine Qm ?_ | refine Qn ?_ | refine Qo ?_ | refine Qp ?_ | refine Qq ?_ | fail)
  refine SXL.call rfl rfl rfl ?_
  refine (GetReply_S (xs := (encRe x).take m) (Ro.take m inferInstance) (by omega) (bytesB_takeB _ e4) (by omega) (fun r n hm9 A2 c3 B2 d3 hc3 hd3 => callK.ret ?_))
  rw [hcut] at hm9
  simp only [Prod.mk.injEq] at hm9
  obtain ⟨rfl, rfl⟩ := hm9
  repeat (first | refine Qa ?_ | refine Qb ?_ | refine Qc ?_ | refine Qd ?_ | refine Qe ?_ | refine Qf ?_ | refine Qg ?_ | refine Qh ?_ | refine Qi ?_ | refine Qj ?_ | refine Qk ?_ | refine Ql ?_ | refine Qm ?_ | refine Qn ?_ | refine Qo ?_ | refine Qp ?_ | refine Qq ?_ | fail)
  refine SXL.alloc rfl rfl (fun g1 => ?_)
  repeat (first | refine Qa ?_ | refine Qb ?_ | refine Qc ?_ | refine Qd ?_ | refine Qe ?_ | refine Qf ?_ | refine Qg ?_ | refine Qh ?_ | refine Qi ?_ | refine Qj ?_ | refine Qk ?_ | refine Ql ?_ | refine Qm ?_ | refine Qn ?_ | refine Qo ?_ | refine Qp ?_ | refine Qq ?_ | fail)
  refine SXL.append (Kd.int .u8) rfl rfl inferInstance inferInstance rfl inferInstance (by simp; omega) rfl (fun A4 c4 hc4 => ?_)
  repeat (first | refine Qa ?_ | refine Qb ?_ | refine Qc ?_ | refine Qd ?_ | refine Qe ?_ | refine Qf ?_ | refine Qg ?_ | refine Qh ?_ | refine Qi ?_ | refine Qj ?_ | refine Qk ?_ | refine Ql ?_ | refine Qm ?_ | refine Qn ?_ | refine Qo ?_ | refine Qp ?_ | refine Qq ?_ | fail)
  refine SXL.call rfl rfl rfl ?_
  refine (GetReply_S (xs := encRe x ++ more) inferInstance hc4 (by rw [bytesB_append, e4, hb]; rfl) (by rw [List.length_append]; omega) (fun r n hm9 A5 c5 B5 d5 hc5 hd5 => callK.ret ?_))
  rw [getRe_more hx hk hp h27'] at hm9
  simp only [Prod.mk.injEq] at hm9
  obtain ⟨rfl, rfl⟩ := hm9
  repeat (first | refine Qa ?_ | refine Qb ?_ | refine Qc ?_ | refine Qd ?_ | refine Qe ?_ | refine Qf ?_ | refine Qg ?_ | refine Qh ?_ | refine Qi ?_ | refine Qj ?_ | refine Qk ?_ | refine Ql ?_ | refine Qm ?_ | refine Qn ?_ | refine Qo ?_ | refine Qp ?_ | refine Qq ?_ | fail)
  refine SXL.alloc rfl rfl (fun g2 => ?_)
  repeat (first | refine Qa ?_ | refine Qb ?_ | refine Qc ?_ | refine Qd ?_ | refine Qe ?_ | refine Qf ?_ | refine Qg ?_ | refine Qh ?_ | refine Qi ?_ | refine Qj ?_ | refine Qk ?_ | refine Ql ?_ | refine Qm ?_ | refine Qn ?_ | refine Qo ?_ | refine Qp ?_ | refine Qq ?_ | fail)
  refine SX.ret (M' := F) rfl (Evals.tmp rfl Evals.nil) ?_ inferInstance
  exact h
end
theorem CallUnlike_any (s0 : Int) (s1 : Int) (s2 : Int) (s3 : Int) (s4 : Int) (s5 : ByteArray) (s6 : Int) (s7 : Int) (s8 : ByteArray) (s9 : Int) (sa : Int) (sb : Int) (sd : Int) (Ase : Option Addr) (cse : Nat) (lse : List Int) (u0 : Int) (u1 : Int) (u2 : Int) (u3 : Int) (u4 : Int) (u5 : ByteArray) (u6 : Int) (u7 : Int) (u8 : ByteArray) (u9 : Int) (ua : Int) (ub : Int) (ud : Int) (Aue : Option Addr) (cue : Nat) (lue : List Int) (b : Bool) (W : World) (tg : TypeId) (hg : W.heap[0]? = some (.cells chT.toArray tg (0, 0))) (ws0 : (Lit.int .u32 s0).wf = true) (ws1 : (Lit.int .u32 s1).wf = true) (ws2 : (Lit.int .u32 s2).wf = true) (ws3 : (Lit.int .u32 s3).wf = true) (ws4 : (Lit.int .u32 s4).wf = true) (ws5 : s5.size ≤ maxLen) (ws6 : (Lit.int .u32 s6).wf = true) (ws7 : (Lit.int .u32 s7).wf = true) (ws8 : s8.size ≤ maxLen) (ws9 : (Lit.int .u64 s9).wf = true) (wsa : (Lit.int .u64 sa).wf = true) (wsb : (Lit.int .u32 sb).wf = true) (wsd : (Lit.int .u32 sd).wf = true) (rse : Kd.C (Kd.int .u8) W Ase lse.length lse) (hse : lse.length ≤ cse) (wse : lse.length ≤ maxLen ∧ ∀ x ∈ lse, (Lit.int .u8 x).wf = true) (wu0 : (Lit.int .u32 u0).wf = true) (wu1 : (Lit.int .u32 u1).wf = true) (wu2 : (Lit.int .u32 u2).wf = true) (wu3 : (Lit.int .u32 u3).wf = true) (wu4 : (Lit.int .u32 u4).wf = true) (wu5 : u5.size ≤ maxLen) (wu6 : (Lit.int .u32 u6).wf = true) (wu7 : (Lit.int .u32 u7).wf = true) (wu8 : u8.size ≤ maxLen) (wu9 : (Lit.int .u64 u9).wf = true) (wua : (Lit.int .u64 ua).wf = true) (wub : (Lit.int .u32 ub).wf = true) (wud : (Lit.int .u32 ud).wf = true) (rue : Kd.C (Kd.int .u8) W Aue lue.length lue) (hue : lue.length ≤ cue) (wue : lue.length ≤ maxLen ∧ ∀ x ∈ lue, (Lit.int .u8 x).wf = true) :
    Calls Tryd.prog 6 #[.agg #[.int .u32 s0, .int .u32 s1, .int .u32 s2, .int .u32 s3, .int .u32 s4, .string s5, .int .u32 s6, .int .u32 s7, .string s8, .int .u64 s9, .int .u64 sa, .int .u32 sb, .int .u32 sd, .slice Ase lse.length cse], .agg #[.int .u32 u0, .int .u32 u1, .int .u32 u2, .int .u32 u3, .int .u32 u4, .string u5, .int .u32 u6, .int .u32 u7, .string u8, .int .u64 u9, .int .u64 ua, .int .u32 ub, .int .u32 ud, .slice Aue lue.length cue], .bool b] W fun e w' => e = .returned (.bool true) ∧ Below W.heap.size W w' :=
  Fn.out W [.per (cellsR 0 chT tg), .per (roR (Kd.int .u8) Ase lse), .per (roR (Kd.int .u8) Aue lue), .per (oldR W)] (Holds.ofStart (Holds.startRow (Holds.startRow (Holds.startRow (Holds.start0 W) (Kd.C_F (Kd.heap_int _) rue)) (Kd.C_F (Kd.heap_int _) rse)) ⟨blk_lt hg, hg⟩)) inferInstance
    (CallUnlike_S (s := (⟨s0, s1, s2, s3, s4, s5, s6, s7, s8, s9, sa, sb, sd, lse⟩ : Ca)) (u := (⟨u0, u1, u2, u3, u4, u5, u6, u7, u8, u9, ua, ub, ud, lue⟩ : Ca)) (tg := tg) Has.here (Ro.there (a := Ro.here)) (Ro.there (a := (Ro.there (a := Ro.here)))) hse hue ⟨u32_of_wf _ ws0, u32_of_wf _ ws1, u32_of_wf _ ws2, u32_of_wf _ ws3, u32_of_wf _ ws4, u32_of_wf _ ws6, u32_of_wf _ ws7, u64_of_wf _ ws9, u64_of_wf _ wsa, u32_of_wf _ wsb, u32_of_wf _ wsd, bytesB_of_wf lse wse.2⟩ ⟨u32_of_wf _ wu0, u32_of_wf _ wu1, u32_of_wf _ wu2, u32_of_wf _ wu3, u32_of_wf _ wu4, u32_of_wf _ wu6, u32_of_wf _ wu7, u64_of_wf _ wu9, u64_of_wf _ wua, u32_of_wf _ wub, u32_of_wf _ wud, bytesB_of_wf lue wue.2⟩ ⟨rfl, inferInstance⟩)
theorem CallCut_any (s0 : Int) (s1 : Int) (s2 : Int) (s3 : Int) (s4 : Int) (s5 : ByteArray) (s6 : Int) (s7 : Int) (s8 : ByteArray) (s9 : Int) (sa : Int) (sb : Int) (sd : Int) (Ase : Option Addr) (cse : Nat) (lse : List Int) (x0 : Int) (x1 : Int) (x2 : Int) (x3 : Int) (x4 : Int) (x5 : Int) (x6 : Int) (x7 : Int) (x8 : Int) (x9 : Int) (Axa : Option Addr) (cxa : Nat) (lxa : List Int) (Axb : Option Addr) (cxb : Nat) (lxb : List Ent) (xd : Bool) (xe : Int) (xf : Int) (k : Int) (Am : Option Addr) (cm : Nat) (lm : List Int) (W : World) (tg : TypeId) (hg : W.heap[0]? = some (.cells chT.toArray tg (0, 0))) (ws0 : (Lit.int .u32 s0).wf = true) (ws1 : (Lit.int .u32 s1).wf = true) (ws2 : (Lit.int .u32 s2).wf = true) (ws3 : (Lit.int .u32 s3).wf = true) (ws4 : (Lit.int .u32 s4).wf = true) (ws5 : s5.size ≤ maxLen) (ws6 : (Lit.int .u32 s6).wf = true) (ws7 : (Lit.int .u32 s7).wf = true) (ws8 : s8.size ≤ maxLen) (ws9 : (Lit.int .u64 s9).wf = true) (wsa : (Lit.int .u64 sa).wf = true) (wsb : (Lit.int .u32 sb).wf = true) (wsd : (Lit.int .u32 sd).wf = true) (rse : Kd.C (Kd.int .u8) W Ase lse.length lse) (hse : lse.length ≤ cse) (wse : lse.length ≤ maxLen ∧ ∀ x ∈ lse, (Lit.int .u8 x).wf = true) (wx0 : (Lit.int .u32 x0).wf = true) (wx1 : (Lit.int .u32 x1).wf = true) (wx2 : (Lit.int .i64 x2).wf = true) (wx3 : (Lit.int .u32 x3).wf = true) (wx4 : (Lit.int .u32 x4).wf = true) (wx5 : (Lit.int .u32 x5).wf = true) (wx6 : (Lit.int .u32 x6).wf = true) (wx7 : (Lit.int .u32 x7).wf = true) (wx8 : (Lit.int .u32 x8).wf = true) (wx9 : (Lit.int .u64 x9).wf = true) (rxa : Kd.C (Kd.int .u8) W Axa lxa.length lxa) (hxa : lxa.length ≤ cxa) (wxa : lxa.length ≤ maxLen ∧ ∀ x ∈ lxa, (Lit.int .u8 x).wf = true) (rxb : kE.C W Axb lxb.length lxb) (hxb : lxb.length ≤ cxb) (wxb : lxb.length ≤ maxLen ∧ ∀ e ∈ lxb, (Lit.int .u64 e.c).wf = true ∧ ((Lit.int .u32 e.i).wf = true ∧ (Lit.int .u32 e.g).wf = true) ∧ e.s.size ≤ maxLen) (wxe : (Lit.int .u64 xe).wf = true) (wxf : (Lit.int .u32 xf).wf = true) (wk : (Lit.int .u16 k).wf = true) (rm : Kd.C (Kd.int .u8) W Am lm.length lm) (hm : lm.length ≤ cm) (wm : lm.length ≤ maxLen ∧ ∀ x ∈ lm, (Lit.int .u8 x).wf = true) :
    Calls Tryd.prog 5 #[.agg #[.int .u32 s0, .int .u32 s1, .int .u32 s2, .int .u32 s3, .int .u32 s4, .string s5, .int .u32 s6, .int .u32 s7, .string s8, .int .u64 s9, .int .u64 sa, .int .u32 sb, .int .u32 sd, .slice Ase lse.length cse], .agg #[.int .u32 x0, .int .u32 x1, .int .i64 x2, .int .u32 x3, .int .u32 x4, .int .u32 x5, .int .u32 x6, .int .u32 x7, .int .u32 x8, .int .u64 x9, .slice Axa lxa.length cxa, .slice Axb lxb.length cxb, .bool xd, .int .u64 xe, .int .u32 xf], .int .u16 k, .slice Am lm.length cm] W fun e w' => e = .returned (.bool true) ∧ Below W.heap.size W w' :=
  Fn.out W [.per (cellsR 0 chT tg), .per (roR (Kd.int .u8) Ase lse), .per (roR (Kd.int .u8) Axa lxa), .per (roR kE Axb lxb), .per (roR (Kd.int .u8) Am lm), .per (oldR W)] (Holds.ofStart (Holds.startRow (Holds.startRow (Holds.startRow (Holds.startRow (Holds.startRow (Holds.start0 W) (Kd.C_F (Kd.heap_int _) rm)) (Kd.C_F heapE rxb)) (Kd.C_F (Kd.heap_int _) rxa)) (Kd.C_F (Kd.heap_int _) rse)) ⟨blk_lt hg, hg⟩)) inferInstance
    (CallCut_S (s := (⟨s0, s1, s2, s3, s4, s5, s6, s7, s8, s9, sa, sb, sd, lse⟩ : Ca)) (x := (⟨x0, x1, x2, x3, x4, x5, x6, x7, x8, x9, lxa, lxb, xd, xe, xf⟩ : Re)) (tg := tg) Has.here (Ro.there (a := Ro.here)) (Ro.there (a := (Ro.there (a := Ro.here)))) (Ro.there (a := (Ro.there (a := (Ro.there (a := Ro.here)))))) (Ro.there (a := (Ro.there (a := (Ro.there (a := (Ro.there (a := Ro.here)))))))) hse hxa hxb hm ⟨u32_of_wf _ ws0, u32_of_wf _ ws1, u32_of_wf _ ws2, u32_of_wf _ ws3, u32_of_wf _ ws4, u32_of_wf _ ws6, u32_of_wf _ ws7, u64_of_wf _ ws9, u64_of_wf _ wsa, u32_of_wf _ wsb, u32_of_wf _ wsd, bytesB_of_wf lse wse.2⟩ ⟨u32_of_wf _ wx0, u32_of_wf _ wx1, u32_of_wf _ wx3, u32_of_wf _ wx4, u32_of_wf _ wx5, u32_of_wf _ wx6, u32_of_wf _ wx7, u32_of_wf _ wx8, u64_of_wf _ wx9, u64_of_wf _ wxe, u32_of_wf _ wxf, bytesB_of_wf lxa wxa.2, fun e he => wf_of_ok (wxb.2 e he)⟩ (bytesB_of_wf lm wm.2) (u16_of_wf _ wk).1 (u16_of_wf _ wk).2 ⟨rfl, inferInstance⟩)
end Go.Proofs.YtpbhanpblmoepaaDoor.Sx
