/- Part Y3 of the lemmas and walks of the Go functions that these statements reach; conditions: those that each theorem names. -/
import Derived.Test.YtpbhanpblmoepaaJY2
section
/- Chapter 16's laws WirePuts and WireUnlike, walked, and the chapter's example; conditions: those that each theorem names. -/
namespace Go.Proofs.Ytpbhanpblmoepaa.Sx
open Go.RowKit Go.Proofs.Ytpbhanpblmoepaa.Hm Go.Proofs.YtpbhanpblmoepaaW.PrintWords Go.Proofs.YtpbhanpblmoepaaW.PrintLast Go.Proofs.YtpbhanpblmoepaaW.PrintMore
set_option linter.unusedVariables false
set_option linter.unusedSimpArgs false
attribute [local irreducible] SX SXL SXA St callK Post Evals

theorem wf_of_ok {e : Ent} (h : (Lit.int .u64 e.c).wf = true ∧ ((Lit.int .u32 e.i).wf = true ∧ (Lit.int .u32 e.g).wf = true) ∧ e.s.size ≤ maxLen) : e.wf :=
  ⟨(u64_of_wf _ h.1).1, (u64_of_wf _ h.1).2, (u32_of_wf _ h.2.1.1).1, (u32_of_wf _ h.2.1.1).2, (u32_of_wf _ h.2.1.2).1, (u32_of_wf _ h.2.1.2).2⟩
theorem heapE : Kd.Heap kE := Kd.heap_iso _ (Kd.heap_pair (Kd.heap_int _) (Kd.heap_pair (Kd.heap_iso _ (Kd.heap_pair (Kd.heap_int _) (Kd.heap_int _))) Kd.heap_string))
theorem Ca0_wf : Ca0.wf := (getCa_wf (b := []) rfl (show getCa [] = (Ca0, 10) from by kernel_rfl)).1
theorem Re0_wf : Re0.wf := (getRe_wf (b := []) rfl (show getRe [] = (Re0, 10) from by kernel_rfl)).1
theorem Ctl0_wf : Ctl0.wf := (getCt_wf (b := []) rfl (show getCt [] = (Ctl0, 10) from by kernel_rfl)).1
def ct6 : Ctl := ⟨6, 1, 2, 0, []⟩
def m06 : Msg := ⟨3, Ca0, Re0, ct6⟩
theorem ct6_wf : ct6.wf := ⟨⟨by decide, by decide⟩, ⟨by decide, by decide⟩, ⟨by decide, by decide⟩, ⟨by decide, by decide⟩, rfl⟩
theorem m06_wf : m06.wf := ⟨⟨by decide, by decide⟩, Ca0_wf, Re0_wf, ct6_wf⟩
theorem putMs_bytes {m : Msg} {r : List Int} (hw : m.wf) (h : putMs m = (r, 0)) : bytesB r = true ∧ r.length ≤ 10000 ∧ 12 ≤ r.length ∧ rightB r = true := by
  obtain ⟨q, hi, rfl⟩ := putMs_ok h
  obtain ⟨hq, hl⟩ := innM_ok hw hi rfl
  have hop := opq_len' q
  have g1 : 4 ≤ (opq q).length := by unfold opq; simp [be32]
  have hb : bytesB (be32 m.k ++ opq q) = true := by rw [bytesB_append, bytesB_be32 _ hw.k.1 hw.k.2, bytesB_opq (by omega) hq]; rfl
  have hx : 0 ≤ crcM 0 (be32 m.k ++ opq q) ∧ crcM 0 (be32 m.k ++ opq q) < 4294967296 := crcM_range 0 _ (by omega) (by omega) ((bytesB_iff _).1 hb)
  refine ⟨?_, ?_, ?_, right_seal _⟩
  · unfold encMs sealM
    rw [bytesB_append, hb, bytesB_be32 _ hx.1 hx.2]
    rfl
  · unfold encMs sealM
    simp only [List.length_append, be32_len']
    omega
  · unfold encMs sealM
    simp only [List.length_append, be32_len']
    omega
theorem sameMs_iff {a b : Msg} {x y : List Int} (ha : a.wf) (hb : b.wf) (hx : putMs a = (x, 0)) (hy : putMs b = (y, 0)) : sameMs a b = true ↔ normM a = normM b := by
  obtain ⟨r, hi, rfl⟩ := putMs_ok hx
  obtain ⟨s, hj, rfl⟩ := putMs_ok hy
  have h1 := sameCa_iff ha.c.d hb.c.d
  have h2 := sameRe_iff ha.r.d hb.r.d
  have h3 := sameCt_iff ha.t.d hb.t.d
  unfold sameMs normM
  by_cases hk : a.k = b.k
  · rw [if_pos hk, ← hk]
    rcases innM_k hi with ⟨k, -⟩ | ⟨k, -⟩ | ⟨k, -⟩
    · simp [k, h1]
    · simp [k, h2]
    · simp [k, h3]
  · rw [if_neg hk]
    constructor
    · intro h; cases h
    · intro h
      exfalso
      apply hk
      have e1 := (innM_norm hi).2
      have e2 := (innM_norm hj).2
      unfold normM at e1 e2
      rw [← e1, ← e2, h]
theorem putMs_norm {m : Msg} {r : List Int} (h : putMs m = (r, 0)) : putMs (normM m) = (r, 0) ∧ normM (normM m) = normM m := by
  obtain ⟨q, hi, rfl⟩ := putMs_ok h
  obtain ⟨e1, e2⟩ := innM_norm hi
  refine ⟨?_, ?_⟩
  · unfold putMs
    rw [e1, if_neg (by simp), e2]
  · rcases innM_k hi with ⟨k, -⟩ | ⟨k, -⟩ | ⟨k, -⟩ <;> unfold normM <;> rw [k] <;> rfl
theorem normM_wf {m : Msg} (h : m.wf) : (normM m).wf := by
  have w0 : u32ok 0 := ⟨by decide, by decide⟩
  have w1 : u32ok 1 := ⟨by decide, by decide⟩
  have w2 : u32ok 2 := ⟨by decide, by decide⟩
  have w3 : u32ok 3 := ⟨by decide, by decide⟩
  unfold normM
  split
  · exact ⟨w1, h.c, Re0_wf, Ctl0_wf⟩
  · split
    · exact ⟨w2, Ca0_wf, h.r, Ctl0_wf⟩
    · split
      · exact ⟨w3, Ca0_wf, Re0_wf, h.t⟩
      · exact ⟨w0, Ca0_wf, Re0_wf, Ctl0_wf⟩
theorem normM_e {m : Msg} : (normM m).r.e.length ≤ m.r.e.length := by
  unfold normM
  split
  · exact Nat.zero_le _
  · split
    · exact Nat.le_refl _
    · split <;> exact Nat.zero_le _
section
variable {F R : List Thing} {K : Ending → List Thing → Prop} {A B C D A' B' C' D' : Option Addr} {a1 a2 a3 a4 b1 b2 b3 b4 : Nat}
set_option maxRecDepth 20000 in
theorem awake16_S (h : K (.returned (.bool true)) F) : Fn (Try.prog) 7 [] F K := by
  have hp : putMs m06 = (encMs 3 (encCt ct6), 0) := by kernel_rfl
  have hl : (encMs 3 (encCt ct6)).length = 40 := by decide +kernel
  have h3 : (encMs 3 (encCt ct6))[3]? = some 3 := by decide +kernel
  have hb : bytesB (encMs 3 (encCt ct6)) = true := by decide +kernel
  have hg := getMs_put m06_wf hp
  rw [show normM m06 = m06 from rfl] at hg
  refine Fn.enter Try.call7 Try.func7 rfl rfl rfl ?_
  repeat (first | refine Qa ?_ | refine Qb ?_ | refine Qc ?_ | refine Qd ?_ | refine Qe ?_ | refine Qf ?_ | refine Qg ?_ | refine Qh ?_ | refine Qi ?_ | refine Qj ?_ | refine Qk ?_ | refine Ql ?_ | refine Qm ?_ | refine Qn ?_ | refine Qo ?_ | refine Qp ?_ | refine Qq ?_ | fail)
  refine SXL.call rfl rfl rfl ?_
  refine (WPut_S (m := m06) (A := none) (B := none) (C := none) (D := none) (a1 := 0) (a2 := 0) (a3 := 0) (a4 := 0) inferInstance inferInstance inferInstance inferInstance (Nat.le_refl _) (Nat.le_refl _) (Nat.le_refl _) (Nat.le_refl _) m06_wf (fun r n hm A1 c1 hc1 => callK.ret ?_))
  rw [hp] at hm
  simp only [Prod.mk.injEq] at hm
  obtain ⟨rfl, rfl⟩ := hm
  repeat (first | refine Qa ?_ | refine Qb ?_ | refine Qc ?_ | refine Qd ?_ | refine Qe ?_ | refine Qf ?_ | refine Qg ?_ | refine Qh ?_ | refine Qi ?_ | refine Qj ?_ | refine Qk ?_ | refine Ql ?_ | refine Qm ?_ | refine Qn ?_ | refine Qo ?_ | refine Qp ?_ | refine Qq ?_ | fail)
  refine SXL.call rfl rfl rfl ?_
  refine (WGet_S inferInstance hc1 hb (by omega) (fun r n hm A2 x2 B2 y2 C2 z2 D2 u2 g1 g2 g3 g4 => callK.ret ?_))
  rw [hg] at hm
  simp only [Prod.mk.injEq] at hm
  obtain ⟨rfl, rfl⟩ := hm
  repeat (first | refine Qa ?_ | refine Qb ?_ | refine Qc ?_ | refine Qd ?_ | refine Qe ?_ | refine Qf ?_ | refine Qg ?_ | refine Qh ?_ | refine Qi ?_ | refine Qj ?_ | refine Qk ?_ | refine Ql ?_ | refine Qm ?_ | refine Qn ?_ | refine Qo ?_ | refine Qp ?_ | refine Qq ?_ | fail)
  refine SXL.alloc rfl rfl (fun q => ?_)
  repeat (first | refine Qa ?_ | refine Qb ?_ | refine Qc ?_ | refine Qd ?_ | refine Qe ?_ | refine Qf ?_ | refine Qg ?_ | refine Qh ?_ | refine Qi ?_ | refine Qj ?_ | refine Qk ?_ | refine Ql ?_ | refine Qm ?_ | refine Qn ?_ | refine Qo ?_ | refine Qp ?_ | refine Qq ?_ | fail)
  refine SXL.know 21 true rfl (by rw [hl]; rfl) ?_
  refine SXL.addr (A := A1) (Kd.int .u8) (by decide) (xs := encMs 3 (encCt ct6)) (by omega) (fun b3 o3 e3 => ?_)
  subst e3
  repeat (first | refine Qa ?_ | refine Qb ?_ | refine Qc ?_ | refine Qd ?_ | refine Qe ?_ | refine Qf ?_ | refine Qg ?_ | refine Qh ?_ | refine Qi ?_ | refine Qj ?_ | refine Qk ?_ | refine Ql ?_ | refine Qm ?_ | refine Qn ?_ | refine Qo ?_ | refine Qp ?_ | refine Qq ?_ | fail)
  refine SXL.idx rfl rfl rfl rfl rfl (by omega) (by omega) rfl ?_
  repeat (first | refine Qa ?_ | refine Qb ?_ | refine Qc ?_ | refine Qd ?_ | refine Qe ?_ | refine Qf ?_ | refine Qg ?_ | refine Qh ?_ | refine Qi ?_ | refine Qj ?_ | refine Qk ?_ | refine Ql ?_ | refine Qm ?_ | refine Qn ?_ | refine Qo ?_ | refine Qp ?_ | refine Qq ?_ | fail)
  refine SXL.loadRow (Kd.int .u8) rfl rfl inferInstance (by exact h3) rfl rfl ?_
  repeat (first | refine Qa ?_ | refine Qb ?_ | refine Qc ?_ | refine Qd ?_ | refine Qe ?_ | refine Qf ?_ | refine Qg ?_ | refine Qh ?_ | refine Qi ?_ | refine Qj ?_ | refine Qk ?_ | refine Ql ?_ | refine Qm ?_ | refine Qn ?_ | refine Qo ?_ | refine Qp ?_ | refine Qq ?_ | fail)
  refine SX.ret (M' := F) rfl (Evals.tmp rfl Evals.nil) ?_ inferInstance
  exact h
set_option maxHeartbeats 1000000 in
set_option maxRecDepth 20000 in
theorem WirePuts_S {m : Msg} (hrA : Ro (Kd.int .u8) A F m.c.d) (hrB : Ro (Kd.int .u8) B F m.r.d) (hrC : Ro kE C F m.r.e) (hrD : Ro (Kd.int .u8) D F m.t.d) (hA : m.c.d.length ≤ a1) (hB : m.r.d.length ≤ a2) (hC : m.r.e.length ≤ a3) (hD : m.t.d.length ≤ a4) (hw : m.wf) (h : K (.returned (.bool true)) F) :
    Fn (Try.prog) 3 [.agg (msC m A a1 B a2 C a3 D a4).toArray] F K := by
  unfold msC
  refine Fn.enter Try.call3 Try.func3 rfl rfl rfl ?_
  repeat (first | refine Qa ?_ | refine Qb ?_ | refine Qc ?_ | refine Qd ?_ | refine Qe ?_ | refine Qf ?_ | refine Qg ?_ | refine Qh ?_ | refine Qi ?_ | refine Qj ?_ | refine Qk ?_ | refine Ql ?_ | refine Qm ?_ | refine Qn ?_ | refine Qo ?_ | refine Qp ?_ | refine Qq ?_ | fail)
  refine SXL.box rfl rfl rfl (fun b => ?_)
  repeat (first | refine Qa ?_ | refine Qb ?_ | refine Qc ?_ | refine Qd ?_ | refine Qe ?_ | refine Qf ?_ | refine Qg ?_ | refine Qh ?_ | refine Qi ?_ | refine Qj ?_ | refine Qk ?_ | refine Ql ?_ | refine Qm ?_ | refine Qn ?_ | refine Qo ?_ | refine Qp ?_ | refine Qq ?_ | fail)
  refine SXL.call rfl rfl rfl ?_
  refine (awake16_S (callK.ret ?_))
  repeat (first | refine Qa ?_ | refine Qb ?_ | refine Qc ?_ | refine Qd ?_ | refine Qe ?_ | refine Qf ?_ | refine Qg ?_ | refine Qh ?_ | refine Qi ?_ | refine Qj ?_ | refine Qk ?_ | refine Ql ?_ | refine Qm ?_ | refine Qn ?_ | refine Qo ?_ | refine Qp ?_ | refine Qq ?_ | fail)
  refine SXL.call rfl rfl rfl ?_
  refine (short_S (m := m) (A := A) (B := B) (C := C) (D := D) (a1 := a1) (a2 := a2) (a3 := a3) (a4 := a4) (callK.ret ?_))
  repeat (first | refine Qa ?_ | refine Qb ?_ | refine Qc ?_ | refine Qd ?_ | refine Qe ?_ | refine Qf ?_ | refine Qg ?_ | refine Qh ?_ | refine Qi ?_ | refine Qj ?_ | refine Qk ?_ | refine Ql ?_ | refine Qm ?_ | refine Qn ?_ | refine Qo ?_ | refine Qp ?_ | refine Qq ?_ | fail)
  refine SX.cond rfl (fun hs => ?_) (fun hs => ?_)
  · repeat (first | refine Qa ?_ | refine Qb ?_ | refine Qc ?_ | refine Qd ?_ | refine Qe ?_ | refine Qf ?_ | refine Qg ?_ | refine Qh ?_ | refine Qi ?_ | refine Qj ?_ | refine Qk ?_ | refine Ql ?_ | refine Qm ?_ | refine Qn ?_ | refine Qo ?_ | refine Qp ?_ | refine Qq ?_ | fail)
    refine SX.ret (M' := F) rfl (Evals.tmp rfl Evals.nil) ?_ inferInstance
    exact h
  have hs' : shB m = true := by simpa using hs
  unfold shB at hs'
  simp only [Bool.and_eq_true, decide_eq_true_eq] at hs'
  have hel : m.r.e.length ≤ 30 := by omega
  clear hs hs'
  repeat (first | refine Qa ?_ | refine Qb ?_ | refine Qc ?_ | refine Qd ?_ | refine Qe ?_ | refine Qf ?_ | refine Qg ?_ | refine Qh ?_ | refine Qi ?_ | refine Qj ?_ | refine Qk ?_ | refine Ql ?_ | refine Qm ?_ | refine Qn ?_ | refine Qo ?_ | refine Qp ?_ | refine Qq ?_ | fail)
  refine SXL.call rfl rfl rfl ?_
  refine (WPut_S (m := m) inferInstance inferInstance inferInstance inferInstance hA hB hC hD hw (fun r n hm A1 c1 hc1 => callK.ret ?_))
  repeat (first | refine Qa ?_ | refine Qb ?_ | refine Qc ?_ | refine Qd ?_ | refine Qe ?_ | refine Qf ?_ | refine Qg ?_ | refine Qh ?_ | refine Qi ?_ | refine Qj ?_ | refine Qk ?_ | refine Ql ?_ | refine Qm ?_ | refine Qn ?_ | refine Qo ?_ | refine Qp ?_ | refine Qq ?_ | fail)
  refine SXL.call rfl rfl rfl ?_
  refine (msgOf_S (m := m) (A := A) (B := B) (C := C) (D := D) inferInstance inferInstance inferInstance inferInstance (by omega) hC (fun B3 d3 hd3 => callK.ret ?_))
  repeat (first | refine Qa ?_ | refine Qb ?_ | refine Qc ?_ | refine Qd ?_ | refine Qe ?_ | refine Qf ?_ | refine Qg ?_ | refine Qh ?_ | refine Qi ?_ | refine Qj ?_ | refine Qk ?_ | refine Ql ?_ | refine Qm ?_ | refine Qn ?_ | refine Qo ?_ | refine Qp ?_ | refine Qq ?_ | fail)
  refine SXL.call rfl rfl rfl ?_
  refine (RPut16_S (m := m) inferInstance hd3 hw (fun r' n' hm' => callK.ret ?_))
  rw [hm] at hm'
  simp only [Prod.mk.injEq] at hm'
  obtain ⟨rfl, rfl⟩ := hm'
  repeat (first | refine Qa ?_ | refine Qb ?_ | refine Qc ?_ | refine Qd ?_ | refine Qe ?_ | refine Qf ?_ | refine Qg ?_ | refine Qh ?_ | refine Qi ?_ | refine Qj ?_ | refine Qk ?_ | refine Ql ?_ | refine Qm ?_ | refine Qn ?_ | refine Qo ?_ | refine Qp ?_ | refine Qq ?_ | fail)
  refine SXL.bytesStr rfl inferInstance rfl Try.underlying26 Try.underlying5 Try.underlying9 rfl ?_
  repeat (first | refine Qa ?_ | refine Qb ?_ | refine Qc ?_ | refine Qd ?_ | refine Qe ?_ | refine Qf ?_ | refine Qg ?_ | refine Qh ?_ | refine Qi ?_ | refine Qj ?_ | refine Qk ?_ | refine Ql ?_ | refine Qm ?_ | refine Qn ?_ | refine Qo ?_ | refine Qp ?_ | refine Qq ?_ | fail)
  refine SXL.know 33 false rfl (by simp) ?_
  repeat (first | refine Qa ?_ | refine Qb ?_ | refine Qc ?_ | refine Qd ?_ | refine Qe ?_ | refine Qf ?_ | refine Qg ?_ | refine Qh ?_ | refine Qi ?_ | refine Qj ?_ | refine Qk ?_ | refine Ql ?_ | refine Qm ?_ | refine Qn ?_ | refine Qo ?_ | refine Qp ?_ | refine Qq ?_ | fail)
  refine SX.know 37 false rfl (by simp) ?_
  repeat (first | refine Qa ?_ | refine Qb ?_ | refine Qc ?_ | refine Qd ?_ | refine Qe ?_ | refine Qf ?_ | refine Qg ?_ | refine Qh ?_ | refine Qi ?_ | refine Qj ?_ | refine Qk ?_ | refine Ql ?_ | refine Qm ?_ | refine Qn ?_ | refine Qo ?_ | refine Qp ?_ | refine Qq ?_ | fail)
  refine SX.cond rfl (fun hn => ?_) (fun hn => ?_)
  · repeat (first | refine Qa ?_ | refine Qb ?_ | refine Qc ?_ | refine Qd ?_ | refine Qe ?_ | refine Qf ?_ | refine Qg ?_ | refine Qh ?_ | refine Qi ?_ | refine Qj ?_ | refine Qk ?_ | refine Ql ?_ | refine Qm ?_ | refine Qn ?_ | refine Qo ?_ | refine Qp ?_ | refine Qq ?_ | fail)
    refine SX.ret (M' := F) rfl (Evals.tmp rfl Evals.nil) ?_ inferInstance
    exact h
  obtain rfl : n = 0 := by simpa using hn
  have hsm := sameMs_iff (normM_wf hw) hw (putMs_norm hm).1 hm
  have hsm' : sameMs (normM m) m = true := hsm.2 (putMs_norm hm).2
  obtain ⟨hrb, hrl, -, -⟩ := putMs_bytes hw hm
  have hne := @normM_e m
  repeat (first | refine Qa ?_ | refine Qb ?_ | refine Qc ?_ | refine Qd ?_ | refine Qe ?_ | refine Qf ?_ | refine Qg ?_ | refine Qh ?_ | refine Qi ?_ | refine Qj ?_ | refine Qk ?_ | refine Ql ?_ | refine Qm ?_ | refine Qn ?_ | refine Qo ?_ | refine Qp ?_ | refine Qq ?_ | fail)
  refine SXL.call rfl rfl rfl ?_
  refine (WGet_S inferInstance hc1 hrb (by omega) (fun x g hg A2 x2 B2 y2 C2 z2 D2 u2 g1 g2 g3 g4 => callK.ret ?_))
  rw [getMs_put hw hm] at hg
  simp only [Prod.mk.injEq] at hg
  obtain ⟨rfl, rfl⟩ := hg
  repeat (first | refine Qa ?_ | refine Qb ?_ | refine Qc ?_ | refine Qd ?_ | refine Qe ?_ | refine Qf ?_ | refine Qg ?_ | refine Qh ?_ | refine Qi ?_ | refine Qj ?_ | refine Qk ?_ | refine Ql ?_ | refine Qm ?_ | refine Qn ?_ | refine Qo ?_ | refine Qp ?_ | refine Qq ?_ | fail)
  refine SXL.alloc rfl rfl (fun q => ?_)
  repeat (first | refine Qa ?_ | refine Qb ?_ | refine Qc ?_ | refine Qd ?_ | refine Qe ?_ | refine Qf ?_ | refine Qg ?_ | refine Qh ?_ | refine Qi ?_ | refine Qj ?_ | refine Qk ?_ | refine Ql ?_ | refine Qm ?_ | refine Qn ?_ | refine Qo ?_ | refine Qp ?_ | refine Qq ?_ | fail)
  refine SXA.begin (.own (some ⟨q, 0, none⟩) (cellsR q (msC (normM m) A2 x2 B2 y2 C2 z2 D2 u2) 38) :: .own (some ⟨b, 0, none⟩) (cellsR b (msC m A a1 B a2 C a3 D a4) 38) :: .own A2 (rowR (Kd.int .u8) 5 (.slice A2 (normM m).c.d.length x2) (normM m).c.d) :: .own B2 (rowR (Kd.int .u8) 5 (.slice B2 (normM m).r.d.length y2) (normM m).r.d) :: .own C2 (rowR kE 114 (.slice C2 (normM m).r.e.length z2) (normM m).r.e) :: .own D2 (rowR (Kd.int .u8) 5 (.slice D2 (normM m).t.d.length u2) (normM m).t.d) :: F) [] ?_
  unfold msC
  (first | refine Qr 0 ?_ | refine Qs 0 ?_ | refine Qt 0 ?_ | refine Qu 0 ?_ | fail)
  (first | refine Qr 1 ?_ | refine Qs 1 ?_ | refine Qt 1 ?_ | refine Qu 1 ?_ | fail)
  (first | refine Qr 2 ?_ | refine Qs 2 ?_ | refine Qt 2 ?_ | refine Qu 2 ?_ | fail)
  (first | refine Qr 3 ?_ | refine Qs 3 ?_ | refine Qt 3 ?_ | refine Qu 3 ?_ | fail)
  (first | refine Qr 5 ?_ | refine Qs 5 ?_ | refine Qt 5 ?_ | refine Qu 5 ?_ | fail)
  refine Qw 4 ?_
  refine SXL.guard_t rfl rfl (by first | with_reducible rfl | decide) ?_
  refine SXL.call rfl rfl rfl ?_
  refine (msgOf_S (m := normM m) (A := A2) (B := B2) (C := C2) (D := D2) inferInstance inferInstance inferInstance inferInstance (by omega) g3 (fun B5 d5 hd5 => callK.ret ?_))
  refine SXL.nil (SXA.next inferInstance ?_)
  refine Qw 6 ?_
  refine SXL.guard_t rfl rfl (by first | with_reducible rfl | decide) ?_
  refine SXL.call rfl rfl rfl ?_
  refine (msgOf_S (m := m) (A := A) (B := B) (C := C) (D := D) inferInstance inferInstance inferInstance inferInstance (by omega) hC (fun B6 d6 hd6 => callK.ret ?_))
  refine SXL.nil (SXA.next inferInstance ?_)
  refine Qw 7 ?_
  refine SXL.guard_t rfl rfl (by first | with_reducible rfl | decide) ?_
  refine SXL.call rfl rfl rfl ?_
  refine (Same16_S (a := normM m) (b := m) inferInstance inferInstance hd5 hd6 (by omega) (callK.ret ?_))
  rw [hsm']
  refine SXL.nil (SXA.next inferInstance ?_)
  (first | refine Qr 8 ?_ | refine Qs 8 ?_ | refine Qt 8 ?_ | refine Qu 8 ?_ | fail)
  (first | refine Qr 9 ?_ | refine Qs 9 ?_ | refine Qt 9 ?_ | refine Qu 9 ?_ | fail)
  refine Qv ?_
  repeat (first | refine Qa ?_ | refine Qb ?_ | refine Qc ?_ | refine Qd ?_ | refine Qe ?_ | refine Qf ?_ | refine Qg ?_ | refine Qh ?_ | refine Qi ?_ | refine Qj ?_ | refine Qk ?_ | refine Ql ?_ | refine Qm ?_ | refine Qn ?_ | refine Qo ?_ | refine Qp ?_ | refine Qq ?_ | fail)
  refine SX.ret (M' := F) rfl (Evals.tmp rfl Evals.nil) ?_ inferInstance
  exact h
set_option maxHeartbeats 1000000 in
set_option maxRecDepth 20000 in
theorem WireUnlike_S {m u : Msg} {sm : Bool} (hrA : Ro (Kd.int .u8) A F m.c.d) (hrB : Ro (Kd.int .u8) B F m.r.d) (hrC : Ro kE C F m.r.e) (hrD : Ro (Kd.int .u8) D F m.t.d) (hA : m.c.d.length ≤ a1) (hB : m.r.d.length ≤ a2) (hC : m.r.e.length ≤ a3) (hD : m.t.d.length ≤ a4) (hw : m.wf)
    (hrA' : Ro (Kd.int .u8) A' F u.c.d) (hrB' : Ro (Kd.int .u8) B' F u.r.d) (hrC' : Ro kE C' F u.r.e) (hrD' : Ro (Kd.int .u8) D' F u.t.d) (hA' : u.c.d.length ≤ b1) (hB' : u.r.d.length ≤ b2) (hC' : u.r.e.length ≤ b3) (hD' : u.t.d.length ≤ b4) (hu : u.wf) (h : K (.returned (.bool true)) F) :
    Fn (Try.prog) 6 [.agg (msC m A a1 B a2 C a3 D a4).toArray, .agg (msC u A' b1 B' b2 C' b3 D' b4).toArray, .bool sm] F K := by
  unfold msC
  refine Fn.enter Try.call6 Try.func6 rfl rfl rfl ?_
  repeat (first | refine Qa ?_ | refine Qb ?_ | refine Qc ?_ | refine Qd ?_ | refine Qe ?_ | refine Qf ?_ | refine Qg ?_ | refine Qh ?_ | refine Qi ?_ | refine Qj ?_ | refine Qk ?_ | refine Ql ?_ | refine Qm ?_ | refine Qn ?_ | refine Qo ?_ | refine Qp ?_ | refine Qq ?_ | fail)
  refine SXL.box rfl rfl rfl (fun p => ?_)
  repeat (first | refine Qa ?_ | refine Qb ?_ | refine Qc ?_ | refine Qd ?_ | refine Qe ?_ | refine Qf ?_ | refine Qg ?_ | refine Qh ?_ | refine Qi ?_ | refine Qj ?_ | refine Qk ?_ | refine Ql ?_ | refine Qm ?_ | refine Qn ?_ | refine Qo ?_ | refine Qp ?_ | refine Qq ?_ | fail)
  refine SXL.box rfl rfl rfl (fun q => ?_)
  repeat (first | refine Qa ?_ | refine Qb ?_ | refine Qc ?_ | refine Qd ?_ | refine Qe ?_ | refine Qf ?_ | refine Qg ?_ | refine Qh ?_ | refine Qi ?_ | refine Qj ?_ | refine Qk ?_ | refine Ql ?_ | refine Qm ?_ | refine Qn ?_ | refine Qo ?_ | refine Qp ?_ | refine Qq ?_ | fail)
  refine SXL.call rfl rfl rfl ?_
  refine (awake16_S (callK.ret ?_))
  repeat (first | refine Qa ?_ | refine Qb ?_ | refine Qc ?_ | refine Qd ?_ | refine Qe ?_ | refine Qf ?_ | refine Qg ?_ | refine Qh ?_ | refine Qi ?_ | refine Qj ?_ | refine Qk ?_ | refine Ql ?_ | refine Qm ?_ | refine Qn ?_ | refine Qo ?_ | refine Qp ?_ | refine Qq ?_ | fail)
  refine SXL.call rfl rfl rfl ?_
  refine (short_S (m := m) (A := A) (B := B) (C := C) (D := D) (a1 := a1) (a2 := a2) (a3 := a3) (a4 := a4) (callK.ret ?_))
  repeat (first | refine Qa ?_ | refine Qb ?_ | refine Qc ?_ | refine Qd ?_ | refine Qe ?_ | refine Qf ?_ | refine Qg ?_ | refine Qh ?_ | refine Qi ?_ | refine Qj ?_ | refine Qk ?_ | refine Ql ?_ | refine Qm ?_ | refine Qn ?_ | refine Qo ?_ | refine Qp ?_ | refine Qq ?_ | fail)
  refine SXL.call rfl rfl rfl ?_
  refine (short_S (m := u) (A := A') (B := B') (C := C') (D := D') (a1 := b1) (a2 := b2) (a3 := b3) (a4 := b4) (callK.ret ?_))
  repeat (first | refine Qa ?_ | refine Qb ?_ | refine Qc ?_ | refine Qd ?_ | refine Qe ?_ | refine Qf ?_ | refine Qg ?_ | refine Qh ?_ | refine Qi ?_ | refine Qj ?_ | refine Qk ?_ | refine Ql ?_ | refine Qm ?_ | refine Qn ?_ | refine Qo ?_ | refine Qp ?_ | refine Qq ?_ | fail)
  refine SXL.split (s := 23) rfl (fun hs => ?_) (fun hs => ?_)
  · repeat (first | refine Qa ?_ | refine Qb ?_ | refine Qc ?_ | refine Qd ?_ | refine Qe ?_ | refine Qf ?_ | refine Qg ?_ | refine Qh ?_ | refine Qi ?_ | refine Qj ?_ | refine Qk ?_ | refine Ql ?_ | refine Qm ?_ | refine Qn ?_ | refine Qo ?_ | refine Qp ?_ | refine Qq ?_ | fail)
    refine SX.ret (M' := F) rfl (Evals.tmp rfl Evals.nil) ?_ inferInstance
    exact h
  repeat (first | refine Qa ?_ | refine Qb ?_ | refine Qc ?_ | refine Qd ?_ | refine Qe ?_ | refine Qf ?_ | refine Qg ?_ | refine Qh ?_ | refine Qi ?_ | refine Qj ?_ | refine Qk ?_ | refine Ql ?_ | refine Qm ?_ | refine Qn ?_ | refine Qo ?_ | refine Qp ?_ | refine Qq ?_ | fail)
  refine SX.cond rfl (fun hs2 => ?_) (fun hs2 => ?_)
  · repeat (first | refine Qa ?_ | refine Qb ?_ | refine Qc ?_ | refine Qd ?_ | refine Qe ?_ | refine Qf ?_ | refine Qg ?_ | refine Qh ?_ | refine Qi ?_ | refine Qj ?_ | refine Qk ?_ | refine Ql ?_ | refine Qm ?_ | refine Qn ?_ | refine Qo ?_ | refine Qp ?_ | refine Qq ?_ | fail)
    refine SX.ret (M' := F) rfl (Evals.tmp rfl Evals.nil) ?_ inferInstance
    exact h
  have hs' : shB m = true := by simpa using hs
  unfold shB at hs'
  simp only [Bool.and_eq_true, decide_eq_true_eq] at hs'
  have hel : m.r.e.length ≤ 30 := by omega
  have hs2' : shB u = true := by simpa using hs2
  unfold shB at hs2'
  simp only [Bool.and_eq_true, decide_eq_true_eq] at hs2'
  have hel2 : u.r.e.length ≤ 30 := by omega
  clear hs hs' hs2 hs2'
  repeat (first | refine Qa ?_ | refine Qb ?_ | refine Qc ?_ | refine Qd ?_ | refine Qe ?_ | refine Qf ?_ | refine Qg ?_ | refine Qh ?_ | refine Qi ?_ | refine Qj ?_ | refine Qk ?_ | refine Ql ?_ | refine Qm ?_ | refine Qn ?_ | refine Qo ?_ | refine Qp ?_ | refine Qq ?_ | fail)
  refine SX.cut (fun a M => ∃ (v : Msg) (A' B' C' D' : Option Addr) (b1 b2 b3 b4 : Nat), v.wf ∧ v.c.d.length ≤ b1 ∧ v.r.d.length ≤ b2 ∧ v.r.e.length ≤ b3 ∧ v.t.d.length ≤ b4 ∧ v.r.e.length ≤ 30 ∧ Ro (Kd.int .u8) A' F v.c.d ∧ Ro (Kd.int .u8) B' F v.r.d ∧ Ro kE C' F v.r.e ∧ Ro (Kd.int .u8) D' F v.t.d ∧ a = [(3, .pointer (some ⟨p, 0, none⟩)), (4, .pointer (some ⟨q, 0, none⟩)), (6, .bool false)] ∧
      .own (some ⟨p, 0, none⟩) (cellsR p (msC m A a1 B a2 C a3 D a4) 38) :: .own (some ⟨q, 0, none⟩) (cellsR q (msC v A' b1 B' b2 C' b3 D' b4) 38) :: F = M) ?_ ?_
  · refine SX.cond rfl (fun hsm => ?_) (fun hsm => ?_)
    · repeat (first | refine Qa ?_ | refine Qb ?_ | refine Qc ?_ | refine Qd ?_ | refine Qe ?_ | refine Qf ?_ | refine Qg ?_ | refine Qh ?_ | refine Qi ?_ | refine Qj ?_ | refine Qk ?_ | refine Ql ?_ | refine Qm ?_ | refine Qn ?_ | refine Qo ?_ | refine Qp ?_ | refine Qq ?_ | fail)
      refine SX.meet ⟨m, A, B, C, D, a1, a2, a3, a4, hw, hA, hB, hC, hD, hel, hrA, hrB, hrC, hrD, rfl, rfl⟩ (by repeat (first | exact trivial | refine ⟨rfl, ?_⟩)) (by unfold msC; infer_instance)
    · repeat (first | refine Qa ?_ | refine Qb ?_ | refine Qc ?_ | refine Qd ?_ | refine Qe ?_ | refine Qf ?_ | refine Qg ?_ | refine Qh ?_ | refine Qi ?_ | refine Qj ?_ | refine Qk ?_ | refine Ql ?_ | refine Qm ?_ | refine Qn ?_ | refine Qo ?_ | refine Qp ?_ | refine Qq ?_ | fail)
      refine SX.meet ⟨u, A', B', C', D', b1, b2, b3, b4, hu, hA', hB', hC', hD', hel2, hrA', hrB', hrC', hrD', rfl, rfl⟩ (by repeat (first | exact trivial | refine ⟨rfl, ?_⟩)) (by unfold msC; infer_instance)
  clear hrA' hrB' hrC' hrD' hA' hB' hC' hD' hu hel2
  rintro _ _ ⟨u, A', B', C', D', b1, b2, b3, b4, hu, hA', hB', hC', hD', hel2, hrA', hrB', hrC', hrD', rfl, rfl⟩
  unfold msC
  repeat (first | refine Qa ?_ | refine Qb ?_ | refine Qc ?_ | refine Qd ?_ | refine Qe ?_ | refine Qf ?_ | refine Qg ?_ | refine Qh ?_ | refine Qi ?_ | refine Qj ?_ | refine Qk ?_ | refine Ql ?_ | refine Qm ?_ | refine Qn ?_ | refine Qo ?_ | refine Qp ?_ | refine Qq ?_ | fail)
  refine SXL.call rfl rfl rfl ?_
  refine (WPut_S (m := m) inferInstance inferInstance inferInstance inferInstance hA hB hC hD hw (fun x1 n1 hm A1 c1 hc1 => callK.ret ?_))
  repeat (first | refine Qa ?_ | refine Qb ?_ | refine Qc ?_ | refine Qd ?_ | refine Qe ?_ | refine Qf ?_ | refine Qg ?_ | refine Qh ?_ | refine Qi ?_ | refine Qj ?_ | refine Qk ?_ | refine Ql ?_ | refine Qm ?_ | refine Qn ?_ | refine Qo ?_ | refine Qp ?_ | refine Qq ?_ | fail)
  refine SXL.call rfl rfl rfl ?_
  refine (WPut_S (m := u) inferInstance inferInstance inferInstance inferInstance hA' hB' hC' hD' hu (fun x2 n2 hm2 A2 c2 hc2 => callK.ret ?_))
  repeat (first | refine Qa ?_ | refine Qb ?_ | refine Qc ?_ | refine Qd ?_ | refine Qe ?_ | refine Qf ?_ | refine Qg ?_ | refine Qh ?_ | refine Qi ?_ | refine Qj ?_ | refine Qk ?_ | refine Ql ?_ | refine Qm ?_ | refine Qn ?_ | refine Qo ?_ | refine Qp ?_ | refine Qq ?_ | fail)
  refine SXL.split (s := 41) rfl (fun h40 => ?_) (fun h40 => ?_)
  · repeat (first | refine Qa ?_ | refine Qb ?_ | refine Qc ?_ | refine Qd ?_ | refine Qe ?_ | refine Qf ?_ | refine Qg ?_ | refine Qh ?_ | refine Qi ?_ | refine Qj ?_ | refine Qk ?_ | refine Ql ?_ | refine Qm ?_ | refine Qn ?_ | refine Qo ?_ | refine Qp ?_ | refine Qq ?_ | fail)
    refine SX.ret (M' := F) rfl (Evals.tmp rfl Evals.nil) ?_ inferInstance
    exact h
  obtain rfl : n1 = 0 := by simpa using h40
  repeat (first | refine Qa ?_ | refine Qb ?_ | refine Qc ?_ | refine Qd ?_ | refine Qe ?_ | refine Qf ?_ | refine Qg ?_ | refine Qh ?_ | refine Qi ?_ | refine Qj ?_ | refine Qk ?_ | refine Ql ?_ | refine Qm ?_ | refine Qn ?_ | refine Qo ?_ | refine Qp ?_ | refine Qq ?_ | fail)
  refine SX.cond rfl (fun hn2 => ?_) (fun hn2 => ?_)
  · repeat (first | refine Qa ?_ | refine Qb ?_ | refine Qc ?_ | refine Qd ?_ | refine Qe ?_ | refine Qf ?_ | refine Qg ?_ | refine Qh ?_ | refine Qi ?_ | refine Qj ?_ | refine Qk ?_ | refine Ql ?_ | refine Qm ?_ | refine Qn ?_ | refine Qo ?_ | refine Qp ?_ | refine Qq ?_ | fail)
    refine SX.ret (M' := F) rfl (Evals.tmp rfl Evals.nil) ?_ inferInstance
    exact h
  obtain rfl : n2 = 0 := by simpa using hn2
  obtain ⟨w1, -, -, -⟩ := putMs_bytes hw hm
  obtain ⟨w2, -, -, -⟩ := putMs_bytes hu hm2
  have hstr : ((strOfNums x1).toList == (strOfNums x2).toList) = sameMs m u := by
    rw [Bool.eq_iff_iff, toList_iff', sameMs_iff hw hu hm hm2, ← encMs_iff hw hu hm hm2]
    constructor
    · intro h9
      rw [← bytesOf_strOfNums _ w1, h9, bytesOf_strOfNums _ w2]
    · rintro rfl; rfl
  repeat (first | refine Qa ?_ | refine Qb ?_ | refine Qc ?_ | refine Qd ?_ | refine Qe ?_ | refine Qf ?_ | refine Qg ?_ | refine Qh ?_ | refine Qi ?_ | refine Qj ?_ | refine Qk ?_ | refine Ql ?_ | refine Qm ?_ | refine Qn ?_ | refine Qo ?_ | refine Qp ?_ | refine Qq ?_ | fail)
  refine SXA.begin (.own A2 (rowR (Kd.int .u8) 5 (.slice A2 x2.length c2) x2) :: .own A1 (rowR (Kd.int .u8) 5 (.slice A1 x1.length c1) x1) :: .own (some ⟨p, 0, none⟩) (cellsR p (msC m A a1 B a2 C a3 D a4) 38) :: .own (some ⟨q, 0, none⟩) (cellsR q (msC u A' b1 B' b2 C' b3 D' b4) 38) :: F) [] ?_
  unfold msC
  (first | refine Qr 0 ?_ | refine Qs 0 ?_ | refine Qt 0 ?_ | refine Qu 0 ?_ | fail)
  (first | refine Qr 2 ?_ | refine Qs 2 ?_ | refine Qt 2 ?_ | refine Qu 2 ?_ | fail)
  (first | refine Qr 5 ?_ | refine Qs 5 ?_ | refine Qt 5 ?_ | refine Qu 5 ?_ | fail)
  (first | refine Qr 7 ?_ | refine Qs 7 ?_ | refine Qt 7 ?_ | refine Qu 7 ?_ | fail)
  refine SXA.bytesStr 1 rfl (by decide +kernel) rfl rfl inferInstance rfl Try.underlying26 Try.underlying5 Try.underlying9 rfl inferInstance ?_
  refine SXA.bytesStr 3 rfl (by decide +kernel) rfl rfl inferInstance rfl Try.underlying26 Try.underlying5 Try.underlying9 rfl inferInstance ?_
  (first | refine Qr 4 ?_ | refine Qs 4 ?_ | refine Qt 4 ?_ | refine Qu 4 ?_ | fail)
  refine Qw 6 ?_
  refine SXL.call rfl rfl rfl ?_
  refine (msgOf_S (m := m) (A := A) (B := B) (C := C) (D := D) inferInstance inferInstance inferInstance inferInstance (by omega) hC (fun B5 d5 hd5 => callK.ret ?_))
  refine SXL.nil (SXA.next inferInstance ?_)
  refine Qw 8 ?_
  refine SXL.call rfl rfl rfl ?_
  refine (msgOf_S (m := u) (A := A') (B := B') (C := C') (D := D') inferInstance inferInstance inferInstance inferInstance (by omega) hC' (fun B6 d6 hd6 => callK.ret ?_))
  refine SXL.nil (SXA.next inferInstance ?_)
  refine Qw 9 ?_
  refine SXL.call rfl rfl rfl ?_
  refine (Same16_S (a := m) (b := u) inferInstance inferInstance hd5 hd6 (by omega) (callK.ret ?_))
  refine SXL.nil (SXA.next inferInstance ?_)
  (first | refine Qr 10 ?_ | refine Qs 10 ?_ | refine Qt 10 ?_ | refine Qu 10 ?_ | fail)
  refine SXA.know 55 true rfl (by show (((strOfNums x1).toList == (strOfNums x2).toList) == sameMs m u) = true; rw [hstr]; simp) ?_
  (first | refine Qr 11 ?_ | refine Qs 11 ?_ | refine Qt 11 ?_ | refine Qu 11 ?_ | fail)
  refine Qv ?_
  repeat (first | refine Qa ?_ | refine Qb ?_ | refine Qc ?_ | refine Qd ?_ | refine Qe ?_ | refine Qf ?_ | refine Qg ?_ | refine Qh ?_ | refine Qi ?_ | refine Qj ?_ | refine Qk ?_ | refine Ql ?_ | refine Qm ?_ | refine Qn ?_ | refine Qo ?_ | refine Qp ?_ | refine Qq ?_ | fail)
  refine SX.ret (M' := F) rfl (Evals.tmp rfl Evals.nil) ?_ inferInstance
  exact h
end
end Go.Proofs.Ytpbhanpblmoepaa.Sx
end
section
/- Chapter 16's laws WirePuts, WireUnlike, for every input; conditions: those that each theorem names. -/
namespace Go.Proofs.Ytpbhanpblmoepaa.Sx
open Go.RowKit Go.Proofs.Ytpbhanpblmoepaa.Hm Go.Proofs.YtpbhanpblmoepaaW.PrintWords Go.Proofs.YtpbhanpblmoepaaW.PrintLast Go.Proofs.YtpbhanpblmoepaaW.PrintMore
set_option linter.unusedVariables false
set_option linter.unusedSimpArgs false
attribute [local irreducible] SX SXL SXA St callK Post Evals

theorem WirePuts_any (mk : Int) (mc0 : Int) (mc1 : Int) (mc2 : Int) (mc3 : Int) (mc4 : Int) (mc5 : ByteArray) (mc6 : Int) (mc7 : Int) (mc8 : ByteArray) (mc9 : Int) (mca : Int) (mcb : Int) (mcd : Int) (Amce : Option Addr) (cmce : Nat) (lmce : List Int) (mr0 : Int) (mr1 : Int) (mr2 : Int) (mr3 : Int) (mr4 : Int) (mr5 : Int) (mr6 : Int) (mr7 : Int) (mr8 : Int) (mr9 : Int) (Amra : Option Addr) (cmra : Nat) (lmra : List Int) (Amrb : Option Addr) (cmrb : Nat) (lmrb : List Ent) (mrd : Bool) (mre : Int) (mrf : Int) (mt0 : Int) (mt1 : Int) (mt2 : Int) (mt3 : Int) (Amt4 : Option Addr) (cmt4 : Nat) (lmt4 : List Int) (W : World) (wmk : (Lit.int .u32 mk).wf = true) (wmc0 : (Lit.int .u32 mc0).wf = true) (wmc1 : (Lit.int .u32 mc1).wf = true) (wmc2 : (Lit.int .u32 mc2).wf = true) (wmc3 : (Lit.int .u32 mc3).wf = true) (wmc4 : (Lit.int .u32 mc4).wf = true) (wmc5 : mc5.size ≤ maxLen) (wmc6 : (Lit.int .u32 mc6).wf = true) (wmc7 : (Lit.int .u32 mc7).wf = true) (wmc8 : mc8.size ≤ maxLen) (wmc9 : (Lit.int .u64 mc9).wf = true) (wmca : (Lit.int .u64 mca).wf = true) (wmcb : (Lit.int .u32 mcb).wf = true) (wmcd : (Lit.int .u32 mcd).wf = true) (rmce : Kd.C (Kd.int .u8) W Amce lmce.length lmce) (hmce : lmce.length ≤ cmce) (wmce : lmce.length ≤ maxLen ∧ ∀ x ∈ lmce, (Lit.int .u8 x).wf = true) (wmr0 : (Lit.int .u32 mr0).wf = true) (wmr1 : (Lit.int .u32 mr1).wf = true) (wmr2 : (Lit.int .i64 mr2).wf = true) (wmr3 : (Lit.int .u32 mr3).wf = true) (wmr4 : (Lit.int .u32 mr4).wf = true) (wmr5 : (Lit.int .u32 mr5).wf = true) (wmr6 : (Lit.int .u32 mr6).wf = true) (wmr7 : (Lit.int .u32 mr7).wf = true) (wmr8 : (Lit.int .u32 mr8).wf = true) (wmr9 : (Lit.int .u64 mr9).wf = true) (rmra : Kd.C (Kd.int .u8) W Amra lmra.length lmra) (hmra : lmra.length ≤ cmra) (wmra : lmra.length ≤ maxLen ∧ ∀ x ∈ lmra, (Lit.int .u8 x).wf = true) (rmrb : kE.C W Amrb lmrb.length lmrb) (hmrb : lmrb.length ≤ cmrb) (wmrb : lmrb.length ≤ maxLen ∧ ∀ e ∈ lmrb, (Lit.int .u64 e.c).wf = true ∧ ((Lit.int .u32 e.i).wf = true ∧ (Lit.int .u32 e.g).wf = true) ∧ e.s.size ≤ maxLen) (wmre : (Lit.int .u64 mre).wf = true) (wmrf : (Lit.int .u32 mrf).wf = true) (wmt0 : (Lit.int .u32 mt0).wf = true) (wmt1 : (Lit.int .u64 mt1).wf = true) (wmt2 : (Lit.int .u64 mt2).wf = true) (wmt3 : (Lit.int .u32 mt3).wf = true) (rmt4 : Kd.C (Kd.int .u8) W Amt4 lmt4.length lmt4) (hmt4 : lmt4.length ≤ cmt4) (wmt4 : lmt4.length ≤ maxLen ∧ ∀ x ∈ lmt4, (Lit.int .u8 x).wf = true) :
    Calls Try.prog 3 #[.agg #[.int .u32 mk, .int .u32 mc0, .int .u32 mc1, .int .u32 mc2, .int .u32 mc3, .int .u32 mc4, .string mc5, .int .u32 mc6, .int .u32 mc7, .string mc8, .int .u64 mc9, .int .u64 mca, .int .u32 mcb, .int .u32 mcd, .slice Amce lmce.length cmce, .int .u32 mr0, .int .u32 mr1, .int .i64 mr2, .int .u32 mr3, .int .u32 mr4, .int .u32 mr5, .int .u32 mr6, .int .u32 mr7, .int .u32 mr8, .int .u64 mr9, .slice Amra lmra.length cmra, .slice Amrb lmrb.length cmrb, .bool mrd, .int .u64 mre, .int .u32 mrf, .int .u32 mt0, .int .u64 mt1, .int .u64 mt2, .int .u32 mt3, .slice Amt4 lmt4.length cmt4]] W fun e w' => e = .returned (.bool true) ∧ Below W.heap.size W w' :=
  Fn.out W [.per (roR (Kd.int .u8) Amce lmce), .per (roR (Kd.int .u8) Amra lmra), .per (roR kE Amrb lmrb), .per (roR (Kd.int .u8) Amt4 lmt4), .per (oldR W)] (Holds.ofStart (Holds.startRow (Holds.startRow (Holds.startRow (Holds.startRow (Holds.start0 W) (Kd.C_F (Kd.heap_int _) rmt4)) (Kd.C_F heapE rmrb)) (Kd.C_F (Kd.heap_int _) rmra)) (Kd.C_F (Kd.heap_int _) rmce))) inferInstance
    (WirePuts_S (m := (⟨mk, (⟨mc0, mc1, mc2, mc3, mc4, mc5, mc6, mc7, mc8, mc9, mca, mcb, mcd, lmce⟩ : Ca), (⟨mr0, mr1, mr2, mr3, mr4, mr5, mr6, mr7, mr8, mr9, lmra, lmrb, mrd, mre, mrf⟩ : Re), (⟨mt0, mt1, mt2, mt3, lmt4⟩ : Ctl)⟩ : Msg)) Ro.here (Ro.there (a := Ro.here)) (Ro.there (a := (Ro.there (a := Ro.here)))) (Ro.there (a := (Ro.there (a := (Ro.there (a := Ro.here)))))) hmce hmra hmrb hmt4 (⟨u32_of_wf _ wmk, ⟨u32_of_wf _ wmc0, u32_of_wf _ wmc1, u32_of_wf _ wmc2, u32_of_wf _ wmc3, u32_of_wf _ wmc4, u32_of_wf _ wmc6, u32_of_wf _ wmc7, u64_of_wf _ wmc9, u64_of_wf _ wmca, u32_of_wf _ wmcb, u32_of_wf _ wmcd, bytesB_of_wf lmce wmce.2⟩, ⟨u32_of_wf _ wmr0, u32_of_wf _ wmr1, u32_of_wf _ wmr3, u32_of_wf _ wmr4, u32_of_wf _ wmr5, u32_of_wf _ wmr6, u32_of_wf _ wmr7, u32_of_wf _ wmr8, u64_of_wf _ wmr9, u64_of_wf _ wmre, u32_of_wf _ wmrf, bytesB_of_wf lmra wmra.2, fun e he => wf_of_ok (wmrb.2 e he)⟩, ⟨u32_of_wf _ wmt0, u64_of_wf _ wmt1, u64_of_wf _ wmt2, u32_of_wf _ wmt3, bytesB_of_wf lmt4 wmt4.2⟩⟩ : Msg.wf _) ⟨rfl, inferInstance⟩)
theorem WireUnlike_any (mk : Int) (mc0 : Int) (mc1 : Int) (mc2 : Int) (mc3 : Int) (mc4 : Int) (mc5 : ByteArray) (mc6 : Int) (mc7 : Int) (mc8 : ByteArray) (mc9 : Int) (mca : Int) (mcb : Int) (mcd : Int) (Amce : Option Addr) (cmce : Nat) (lmce : List Int) (mr0 : Int) (mr1 : Int) (mr2 : Int) (mr3 : Int) (mr4 : Int) (mr5 : Int) (mr6 : Int) (mr7 : Int) (mr8 : Int) (mr9 : Int) (Amra : Option Addr) (cmra : Nat) (lmra : List Int) (Amrb : Option Addr) (cmrb : Nat) (lmrb : List Ent) (mrd : Bool) (mre : Int) (mrf : Int) (mt0 : Int) (mt1 : Int) (mt2 : Int) (mt3 : Int) (Amt4 : Option Addr) (cmt4 : Nat) (lmt4 : List Int) (uk : Int) (uc0 : Int) (uc1 : Int) (uc2 : Int) (uc3 : Int) (uc4 : Int) (uc5 : ByteArray) (uc6 : Int) (uc7 : Int) (uc8 : ByteArray) (uc9 : Int) (uca : Int) (ucb : Int) (ucd : Int) (Auce : Option Addr) (cuce : Nat) (luce : List Int) (ur0 : Int) (ur1 : Int) (ur2 : Int) (ur3 : Int) (ur4 : Int) (ur5 : Int) (ur6 : Int) (ur7 : Int) (ur8 : Int) (ur9 : Int) (Aura : Option Addr) (cura : Nat) (lura : List Int) (Aurb : Option Addr) (curb : Nat) (lurb : List Ent) (urd : Bool) (ure : Int) (urf : Int) (ut0 : Int) (ut1 : Int) (ut2 : Int) (ut3 : Int) (Aut4 : Option Addr) (cut4 : Nat) (lut4 : List Int) (sm : Bool) (W : World) (wmk : (Lit.int .u32 mk).wf = true) (wmc0 : (Lit.int .u32 mc0).wf = true) (wmc1 : (Lit.int .u32 mc1).wf = true) (wmc2 : (Lit.int .u32 mc2).wf = true) (wmc3 : (Lit.int .u32 mc3).wf = true) (wmc4 : (Lit.int .u32 mc4).wf = true) (wmc5 : mc5.size ≤ maxLen) (wmc6 : (Lit.int .u32 mc6).wf = true) (wmc7 : (Lit.int .u32 mc7).wf = true) (wmc8 : mc8.size ≤ maxLen) (wmc9 : (Lit.int .u64 mc9).wf = true) (wmca : (Lit.int .u64 mca).wf = true) (wmcb : (Lit.int .u32 mcb).wf = true) (wmcd : (Lit.int .u32 mcd).wf = true) (rmce : Kd.C (Kd.int .u8) W Amce lmce.length lmce) (hmce : lmce.length ≤ cmce) (wmce : lmce.length ≤ maxLen ∧ ∀ x ∈ lmce, (Lit.int .u8 x).wf = true) (wmr0 : (Lit.int .u32 mr0).wf = true) (wmr1 : (Lit.int .u32 mr1).wf = true) (wmr2 : (Lit.int .i64 mr2).wf = true) (wmr3 : (Lit.int .u32 mr3).wf = true) (wmr4 : (Lit.int .u32 mr4).wf = true) (wmr5 : (Lit.int .u32 mr5).wf = true) (wmr6 : (Lit.int .u32 mr6).wf = true) (wmr7 : (Lit.int .u32 mr7).wf = true) (wmr8 : (Lit.int .u32 mr8).wf = true) (wmr9 : (Lit.int .u64 mr9).wf = true) (rmra : Kd.C (Kd.int .u8) W Amra lmra.length lmra) (hmra : lmra.length ≤ cmra) (wmra : lmra.length ≤ maxLen ∧ ∀ x ∈ lmra, (Lit.int .u8 x).wf = true) (rmrb : kE.C W Amrb lmrb.length lmrb) (hmrb : lmrb.length ≤ cmrb) (wmrb : lmrb.length ≤ maxLen ∧ ∀ e ∈ lmrb, (Lit.int .u64 e.c).wf = true ∧ ((Lit.int .u32 e.i).wf = true ∧ (Lit.int .u32 e.g).wf = true) ∧ e.s.size ≤ maxLen) (wmre : (Lit.int .u64 mre).wf = true) (wmrf : (Lit.int .u32 mrf).wf = true) (wmt0 : (Lit.int .u32 mt0).wf = true) (wmt1 : (Lit.int .u64 mt1).wf = true) (wmt2 : (Lit.int .u64 mt2).wf = true) (wmt3 : (Lit.int .u32 mt3).wf = true) (rmt4 : Kd.C (Kd.int .u8) W Amt4 lmt4.length lmt4) (hmt4 : lmt4.length ≤ cmt4) (wmt4 : lmt4.length ≤ maxLen ∧ ∀ x ∈ lmt4, (Lit.int .u8 x).wf = true) (wuk : (Lit.int .u32 uk).wf = true) (wuc0 : (Lit.int .u32 uc0).wf = true) (wuc1 : (Lit.int .u32 uc1).wf = true) (wuc2 : (Lit.int .u32 uc2).wf = true) (wuc3 : (Lit.int .u32 uc3).wf = true) (wuc4 : (Lit.int .u32 uc4).wf = true) (wuc5 : uc5.size ≤ maxLen) (wuc6 : (Lit.int .u32 uc6).wf = true) (wuc7 : (Lit.int .u32 uc7).wf = true) (wuc8 : uc8.size ≤ maxLen) (wuc9 : (Lit.int .u64 uc9).wf = true) (wuca : (Lit.int .u64 uca).wf = true) (wucb : (Lit.int .u32 ucb).wf = true) (wucd : (Lit.int .u32 ucd).wf = true) (ruce : Kd.C (Kd.int .u8) W Auce luce.length luce) (huce : luce.length ≤ cuce) (wuce : luce.length ≤ maxLen ∧ ∀ x ∈ luce, (Lit.int .u8 x).wf = true) (wur0 : (Lit.int .u32 ur0).wf = true) (wur1 : (Lit.int .u32 ur1).wf = true) (wur2 : (Lit.int .i64 ur2).wf = true) (wur3 : (Lit.int .u32 ur3).wf = true) (wur4 : (Lit.int .u32 ur4).wf = true) (wur5 : (Lit.int .u32 ur5).wf = true) (wur6 : (Lit.int .u32 ur6).wf = true) (wur7 : (Lit.int .u32 ur7).wf = true) (wur8 : (Lit.int .u32 ur8).wf = true) (wur9 : (Lit.int .u64 ur9).wf = true) (rura : Kd.C (Kd.int .u8) W Aura lura.length lura) (hura : lura.length ≤ cura) (wura : lura.length ≤ maxLen ∧ ∀ x ∈ lura, (Lit.int .u8 x).wf = true) (rurb : kE.C W Aurb lurb.length lurb) (hurb : lurb.length ≤ curb) (wurb : lurb.length ≤ maxLen ∧ ∀ e ∈ lurb, (Lit.int .u64 e.c).wf = true ∧ ((Lit.int .u32 e.i).wf = true ∧ (Lit.int .u32 e.g).wf = true) ∧ e.s.size ≤ maxLen) (wure : (Lit.int .u64 ure).wf = true) (wurf : (Lit.int .u32 urf).wf = true) (wut0 : (Lit.int .u32 ut0).wf = true) (wut1 : (Lit.int .u64 ut1).wf = true) (wut2 : (Lit.int .u64 ut2).wf = true) (wut3 : (Lit.int .u32 ut3).wf = true) (rut4 : Kd.C (Kd.int .u8) W Aut4 lut4.length lut4) (hut4 : lut4.length ≤ cut4) (wut4 : lut4.length ≤ maxLen ∧ ∀ x ∈ lut4, (Lit.int .u8 x).wf = true) :
    Calls Try.prog 6 #[.agg #[.int .u32 mk, .int .u32 mc0, .int .u32 mc1, .int .u32 mc2, .int .u32 mc3, .int .u32 mc4, .string mc5, .int .u32 mc6, .int .u32 mc7, .string mc8, .int .u64 mc9, .int .u64 mca, .int .u32 mcb, .int .u32 mcd, .slice Amce lmce.length cmce, .int .u32 mr0, .int .u32 mr1, .int .i64 mr2, .int .u32 mr3, .int .u32 mr4, .int .u32 mr5, .int .u32 mr6, .int .u32 mr7, .int .u32 mr8, .int .u64 mr9, .slice Amra lmra.length cmra, .slice Amrb lmrb.length cmrb, .bool mrd, .int .u64 mre, .int .u32 mrf, .int .u32 mt0, .int .u64 mt1, .int .u64 mt2, .int .u32 mt3, .slice Amt4 lmt4.length cmt4], .agg #[.int .u32 uk, .int .u32 uc0, .int .u32 uc1, .int .u32 uc2, .int .u32 uc3, .int .u32 uc4, .string uc5, .int .u32 uc6, .int .u32 uc7, .string uc8, .int .u64 uc9, .int .u64 uca, .int .u32 ucb, .int .u32 ucd, .slice Auce luce.length cuce, .int .u32 ur0, .int .u32 ur1, .int .i64 ur2, .int .u32 ur3, .int .u32 ur4, .int .u32 ur5, .int .u32 ur6, .int .u32 ur7, .int .u32 ur8, .int .u64 ur9, .slice Aura lura.length cura, .slice Aurb lurb.length curb, .bool urd, .int .u64 ure, .int .u32 urf, .int .u32 ut0, .int .u64 ut1, .int .u64 ut2, .int .u32 ut3, .slice Aut4 lut4.length cut4], .bool sm] W fun e w' => e = .returned (.bool true) ∧ Below W.heap.size W w' :=
  Fn.out W [.per (roR (Kd.int .u8) Amce lmce), .per (roR (Kd.int .u8) Amra lmra), .per (roR kE Amrb lmrb), .per (roR (Kd.int .u8) Amt4 lmt4), .per (roR (Kd.int .u8) Auce luce), .per (roR (Kd.int .u8) Aura lura), .per (roR kE Aurb lurb), .per (roR (Kd.int .u8) Aut4 lut4), .per (oldR W)] (Holds.ofStart (Holds.startRow (Holds.startRow (Holds.startRow (Holds.startRow (Holds.startRow (Holds.startRow (Holds.startRow (Holds.startRow (Holds.start0 W) (Kd.C_F (Kd.heap_int _) rut4)) (Kd.C_F heapE rurb)) (Kd.C_F (Kd.heap_int _) rura)) (Kd.C_F (Kd.heap_int _) ruce)) (Kd.C_F (Kd.heap_int _) rmt4)) (Kd.C_F heapE rmrb)) (Kd.C_F (Kd.heap_int _) rmra)) (Kd.C_F (Kd.heap_int _) rmce))) inferInstance
    (WireUnlike_S (m := (⟨mk, (⟨mc0, mc1, mc2, mc3, mc4, mc5, mc6, mc7, mc8, mc9, mca, mcb, mcd, lmce⟩ : Ca), (⟨mr0, mr1, mr2, mr3, mr4, mr5, mr6, mr7, mr8, mr9, lmra, lmrb, mrd, mre, mrf⟩ : Re), (⟨mt0, mt1, mt2, mt3, lmt4⟩ : Ctl)⟩ : Msg)) (u := (⟨uk, (⟨uc0, uc1, uc2, uc3, uc4, uc5, uc6, uc7, uc8, uc9, uca, ucb, ucd, luce⟩ : Ca), (⟨ur0, ur1, ur2, ur3, ur4, ur5, ur6, ur7, ur8, ur9, lura, lurb, urd, ure, urf⟩ : Re), (⟨ut0, ut1, ut2, ut3, lut4⟩ : Ctl)⟩ : Msg)) Ro.here (Ro.there (a := Ro.here)) (Ro.there (a := (Ro.there (a := Ro.here)))) (Ro.there (a := (Ro.there (a := (Ro.there (a := Ro.here)))))) hmce hmra hmrb hmt4 (⟨u32_of_wf _ wmk, ⟨u32_of_wf _ wmc0, u32_of_wf _ wmc1, u32_of_wf _ wmc2, u32_of_wf _ wmc3, u32_of_wf _ wmc4, u32_of_wf _ wmc6, u32_of_wf _ wmc7, u64_of_wf _ wmc9, u64_of_wf _ wmca, u32_of_wf _ wmcb, u32_of_wf _ wmcd, bytesB_of_wf lmce wmce.2⟩, ⟨u32_of_wf _ wmr0, u32_of_wf _ wmr1, u32_of_wf _ wmr3, u32_of_wf _ wmr4, u32_of_wf _ wmr5, u32_of_wf _ wmr6, u32_of_wf _ wmr7, u32_of_wf _ wmr8, u64_of_wf _ wmr9, u64_of_wf _ wmre, u32_of_wf _ wmrf, bytesB_of_wf lmra wmra.2, fun e he => wf_of_ok (wmrb.2 e he)⟩, ⟨u32_of_wf _ wmt0, u64_of_wf _ wmt1, u64_of_wf _ wmt2, u32_of_wf _ wmt3, bytesB_of_wf lmt4 wmt4.2⟩⟩ : Msg.wf _) (Ro.there (a := (Ro.there (a := (Ro.there (a := (Ro.there (a := Ro.here)))))))) (Ro.there (a := (Ro.there (a := (Ro.there (a := (Ro.there (a := (Ro.there (a := Ro.here)))))))))) (Ro.there (a := (Ro.there (a := (Ro.there (a := (Ro.there (a := (Ro.there (a := (Ro.there (a := Ro.here)))))))))))) (Ro.there (a := (Ro.there (a := (Ro.there (a := (Ro.there (a := (Ro.there (a := (Ro.there (a := (Ro.there (a := Ro.here)))))))))))))) huce hura hurb hut4 (⟨u32_of_wf _ wuk, ⟨u32_of_wf _ wuc0, u32_of_wf _ wuc1, u32_of_wf _ wuc2, u32_of_wf _ wuc3, u32_of_wf _ wuc4, u32_of_wf _ wuc6, u32_of_wf _ wuc7, u64_of_wf _ wuc9, u64_of_wf _ wuca, u32_of_wf _ wucb, u32_of_wf _ wucd, bytesB_of_wf luce wuce.2⟩, ⟨u32_of_wf _ wur0, u32_of_wf _ wur1, u32_of_wf _ wur3, u32_of_wf _ wur4, u32_of_wf _ wur5, u32_of_wf _ wur6, u32_of_wf _ wur7, u32_of_wf _ wur8, u64_of_wf _ wur9, u64_of_wf _ wure, u32_of_wf _ wurf, bytesB_of_wf lura wura.2, fun e he => wf_of_ok (wurb.2 e he)⟩, ⟨u32_of_wf _ wut0, u64_of_wf _ wut1, u64_of_wf _ wut2, u32_of_wf _ wut3, bytesB_of_wf lut4 wut4.2⟩⟩ : Msg.wf _) ⟨rfl, inferInstance⟩)
end Go.Proofs.Ytpbhanpblmoepaa.Sx
end
