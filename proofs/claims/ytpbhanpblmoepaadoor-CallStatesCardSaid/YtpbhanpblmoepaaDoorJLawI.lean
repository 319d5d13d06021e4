/- Chapter 9's laws CallOps, CallStates, walked; conditions: those that each theorem names. -/
import Derived.Test.YtpbhanpblmoepaaDoorJX6
namespace Go.Proofs.YtpbhanpblmoepaaDoor.Sx
open Go.RowKit Go.Proofs.YtpbhanpblmoepaaDoor.Hm Go.Proofs.YtpbhanpblmoepaaDoorW.PrintWords Go.Proofs.YtpbhanpblmoepaaDoorW.PrintLast Go.Proofs.YtpbhanpblmoepaaDoorW.PrintMore
set_option linter.unusedVariables false
set_option linter.unusedSimpArgs false
attribute [local irreducible] SX SXL SXA St callK Post Evals

def cntC (k : Nat) : Nat := ((List.range k).filter (fun j : Nat => chB (j : Int))).length
theorem cntC_succ (k : Nat) : cntC (k + 1) = cntC k + (if chB (k : Int) = true then 1 else 0) := by
  unfold cntC
  rw [List.range_succ, List.filter_append, List.length_append]
  by_cases h : chB (k : Int) = true
  · simp [h]
  · simp [h]
theorem cntC_le (k : Nat) : cntC k ≤ k := by
  unfold cntC
  have := List.length_filter_le (fun j : Nat => chB (j : Int)) (List.range k)
  simpa using this
def caO (op : Int) : Ca := ⟨0, 0, op, 0, 0, strOfNums [], 0, 0, strOfNums [], 0, 0, 0, 0, []⟩
def reS (st : Int) : Re := ⟨0, 4, st, 0, 0, 0, 0, 0, 0, 0, [], [], false, 0, 0⟩
theorem caO_set {op : Int} (h0 : 0 ≤ op) (h1 : op < 256) : (encCa (caO op)).set 11 17 = encFs caF (caV (caO 17)) := by
  have e1 : op / 16777216 % 256 = 0 := by omega
  have e2 : op / 65536 % 256 = 0 := by omega
  have e3 : op / 256 % 256 = 0 := by omega
  show (be32 0 ++ (be32 0 ++ ([op / 16777216 % 256, op / 65536 % 256, op / 256 % 256, op % 256] ++ _))).set 11 17 = _
  rw [e1, e2, e3]
  rfl
theorem reS_set {st : Int} (h0 : 0 ≤ st) (h1 : st < 256) : (encRe (reS st)).set 11 59 = encFs reF (reV (reS 59) []) := by
  have e1 : st / 16777216 % 256 = 0 := by omega
  have e2 : st / 65536 % 256 = 0 := by omega
  have e3 : st / 256 % 256 = 0 := by omega
  have hm : (putM (reS st).e).1 = [] := by show (putM []).1 = []; decide +kernel
  unfold encRe
  rw [hm]
  show (be32 0 ++ (be32 4 ++ ([st / 16777216 % 256, st / 65536 % 256, st / 256 % 256, st % 256] ++ _))).set 11 59 = _
  rw [e1, e2, e3]
  rfl
theorem caO_bad : getCa (encFs caF (caV (caO 17))) = (Ca0, 11) := by kernel_rfl
theorem reS_bad : getRe (encFs reF (reV (reS 59) [])) = (Re0, 11) := by kernel_rfl
section
variable {F R : List Thing} {K : Ending → List Thing → Prop} {A B : Option Addr} {c c2 : Nat} {tg : TypeId}
set_option maxHeartbeats 1000000 in
set_option maxRecDepth 20000 in
theorem CallOps_S {op : Int} (hg : Has (cellsR 0 chT tg) F) (h0 : 0 ≤ op) (h1 : op < 4294967296) (h : K (.returned (.bool true)) F) : Fn (Tryd.prog) 7 [.int .u32 op] F K := by
  have hw : (caO op).wf := ca_wf ⟨by decide, by decide⟩ ⟨h0, h1⟩
  have hok : okCa (caO op) = knownB op := by
    unfold okCa caO
    cases hkb : knownB op <;> simp [hkb] <;> decide
  refine Fn.enter Tryd.call7 Tryd.func7 rfl rfl rfl ?_
  repeat (first | refine Qa ?_ | refine Qb ?_ | refine Qc ?_ | refine Qd ?_ | refine Qe ?_ | refine Qf ?_ | refine Qg ?_ | refine Qh ?_ | refine Qi ?_ | refine Qj ?_ | refine Qk ?_ | refine Ql ?_ | refine Qm ?_ | refine Qn ?_ | refine Qo ?_ | refine Qp ?_ | refine Qq ?_ | fail)
  refine SXL.call rfl rfl rfl ?_
  refine (awake09_S (tg := tg) hg (callK.ret ?_))
  repeat (first | refine Qa ?_ | refine Qb ?_ | refine Qc ?_ | refine Qd ?_ | refine Qe ?_ | refine Qf ?_ | refine Qg ?_ | refine Qh ?_ | refine Qi ?_ | refine Qj ?_ | refine Qk ?_ | refine Ql ?_ | refine Qm ?_ | refine Qn ?_ | refine Qo ?_ | refine Qp ?_ | refine Qq ?_ | fail)
  refine SXL.call rfl rfl rfl ?_
  refine (PutCall_S (s := caO op) (A := none) (c := 0) inferInstance (Nat.le_refl _) hw (fun r n hm A1 c1 hc1 => callK.ret ?_))
  unfold putCa at hm
  rw [hok] at hm
  by_cases hk : knownB op = true
  · rw [if_pos hk] at hm
    simp only [Prod.mk.injEq] at hm
    obtain ⟨rfl, rfl⟩ := hm
    have hk2 := hk
    unfold knownB at hk2
    simp only [Bool.and_eq_true, decide_eq_true_eq] at hk2
    have hl : (encCa (caO op)).length = 64 := by
      unfold encCa caF caV caO
      simp only [encFs, encF, List.length_append, be32_len', be64_len']
      decide +kernel
    have hb := encFs_bytes (okCa_fs hw (by rw [hok]; exact hk))
    repeat (first | refine Qa ?_ | refine Qb ?_ | refine Qc ?_ | refine Qd ?_ | refine Qe ?_ | refine Qf ?_ | refine Qg ?_ | refine Qh ?_ | refine Qi ?_ | refine Qj ?_ | refine Qk ?_ | refine Ql ?_ | refine Qm ?_ | refine Qn ?_ | refine Qo ?_ | refine Qp ?_ | refine Qq ?_ | fail)
    refine SXL.know 24 true rfl (by simp; omega) ?_
    repeat (first | refine Qa ?_ | refine Qb ?_ | refine Qc ?_ | refine Qd ?_ | refine Qe ?_ | refine Qf ?_ | refine Qg ?_ | refine Qh ?_ | refine Qi ?_ | refine Qj ?_ | refine Qk ?_ | refine Ql ?_ | refine Qm ?_ | refine Qn ?_ | refine Qo ?_ | refine Qp ?_ | refine Qq ?_ | fail)
    refine SXL.know 32 false rfl (by simp; omega) ?_
    repeat (first | refine Qa ?_ | refine Qb ?_ | refine Qc ?_ | refine Qd ?_ | refine Qe ?_ | refine Qf ?_ | refine Qg ?_ | refine Qh ?_ | refine Qi ?_ | refine Qj ?_ | refine Qk ?_ | refine Ql ?_ | refine Qm ?_ | refine Qn ?_ | refine Qo ?_ | refine Qp ?_ | refine Qq ?_ | fail)
    refine SXL.know 35 false rfl (by simp; omega) ?_
    repeat (first | refine Qa ?_ | refine Qb ?_ | refine Qc ?_ | refine Qd ?_ | refine Qe ?_ | refine Qf ?_ | refine Qg ?_ | refine Qh ?_ | refine Qi ?_ | refine Qj ?_ | refine Qk ?_ | refine Ql ?_ | refine Qm ?_ | refine Qn ?_ | refine Qo ?_ | refine Qp ?_ | refine Qq ?_ | fail)
    refine SX.same 6 (.bool true) rfl (by simp; omega) ?_
    refine SX.loop (fun z a M => ∃ i : Nat, i + z = 40 ∧ a = [(0, .int .u32 op), (4, .slice A1 (encCa (caO op)).length c1), (5, .int .i64 0), (6, .bool true), (7, .int .i64 (cntC i : Int)), (8, .int .u32 (i : Int))] ∧ .own A1 (rowR (Kd.int .u8) 5 (.slice A1 (encCa (caO op)).length c1) (encCa (caO op))) :: F = M) 40 ⟨0, rfl, rfl, rfl⟩ (by repeat (first | exact trivial | refine ⟨rfl, ?_⟩)) inferInstance ?_
    rintro z _ _ ⟨i, hz, rfl, rfl⟩
    have hcl := cntC_le i
    repeat (first | refine Qa ?_ | refine Qb ?_ | refine Qc ?_ | refine Qd ?_ | refine Qe ?_ | refine Qf ?_ | refine Qg ?_ | refine Qh ?_ | refine Qi ?_ | refine Qj ?_ | refine Qk ?_ | refine Ql ?_ | refine Qm ?_ | refine Qn ?_ | refine Qo ?_ | refine Qp ?_ | refine Qq ?_ | fail)
    refine SX.condp rfl (fun hi => ?_) (fun hi => ?_)
    · repeat (first | refine Qa ?_ | refine Qb ?_ | refine Qc ?_ | refine Qd ?_ | refine Qe ?_ | refine Qf ?_ | refine Qg ?_ | refine Qh ?_ | refine Qi ?_ | refine Qj ?_ | refine Qk ?_ | refine Ql ?_ | refine Qm ?_ | refine Qn ?_ | refine Qo ?_ | refine Qp ?_ | refine Qq ?_ | fail)
      refine SXL.call rfl rfl rfl ?_
      refine (Changes_S (tg := tg) inferInstance (by omega) (callK.ret ?_))
      repeat (first | refine Qa ?_ | refine Qb ?_ | refine Qc ?_ | refine Qd ?_ | refine Qe ?_ | refine Qf ?_ | refine Qg ?_ | refine Qh ?_ | refine Qi ?_ | refine Qj ?_ | refine Qk ?_ | refine Ql ?_ | refine Qm ?_ | refine Qn ?_ | refine Qo ?_ | refine Qp ?_ | refine Qq ?_ | fail)
      refine SX.cond rfl (fun hch => ?_) (fun hch => ?_)
      · repeat (first | refine Qa ?_ | refine Qb ?_ | refine Qc ?_ | refine Qd ?_ | refine Qe ?_ | refine Qf ?_ | refine Qg ?_ | refine Qh ?_ | refine Qi ?_ | refine Qj ?_ | refine Qk ?_ | refine Ql ?_ | refine Qm ?_ | refine Qn ?_ | refine Qo ?_ | refine Qp ?_ | refine Qq ?_ | fail)
        refine SX.same 7 (.int .i64 (cntC (i + 1) : Int)) rfl (by rw [cntC_succ, if_pos hch, IntWalk.i64_in _ (by omega)]; simp) ?_
        refine SX.same 8 (.int .u32 ((i + 1 : Nat) : Int)) rfl (by simp (disch := omega) only [IntWalk.i64_in, IntWalk.u8_in, IntWalk.u32_in, IntWalk.u64_in, IntWalk.rem_in, Int.natCast_add, Int.natCast_one]) ?_
        refine SX.again (z - 1) (by omega) ⟨i + 1, by omega, rfl, rfl⟩ (by repeat (first | exact trivial | refine ⟨rfl, ?_⟩)) inferInstance
      · repeat (first | refine Qa ?_ | refine Qb ?_ | refine Qc ?_ | refine Qd ?_ | refine Qe ?_ | refine Qf ?_ | refine Qg ?_ | refine Qh ?_ | refine Qi ?_ | refine Qj ?_ | refine Qk ?_ | refine Ql ?_ | refine Qm ?_ | refine Qn ?_ | refine Qo ?_ | refine Qp ?_ | refine Qq ?_ | fail)
        refine SX.same 7 (.int .i64 (cntC (i + 1) : Int)) rfl (by rw [cntC_succ, if_neg (by rw [hch]; decide)]; simp) ?_
        refine SX.same 8 (.int .u32 ((i + 1 : Nat) : Int)) rfl (by simp (disch := omega) only [IntWalk.i64_in, IntWalk.u8_in, IntWalk.u32_in, IntWalk.u64_in, IntWalk.rem_in, Int.natCast_add, Int.natCast_one]) ?_
        refine SX.again (z - 1) (by omega) ⟨i + 1, by omega, rfl, rfl⟩ (by repeat (first | exact trivial | refine ⟨rfl, ?_⟩)) inferInstance
    obtain rfl : i = 40 := by omega
    have h9 : cntC 40 = 9 := by decide +kernel
    rw [h9]
    repeat (first | refine Qa ?_ | refine Qb ?_ | refine Qc ?_ | refine Qd ?_ | refine Qe ?_ | refine Qf ?_ | refine Qg ?_ | refine Qh ?_ | refine Qi ?_ | refine Qj ?_ | refine Qk ?_ | refine Ql ?_ | refine Qm ?_ | refine Qn ?_ | refine Qo ?_ | refine Qp ?_ | refine Qq ?_ | fail)
    refine SXL.call rfl rfl rfl ?_
    refine (GetCall_S (xs := encCa (caO op)) inferInstance hc1 hb (by omega) (fun r n hm A2 c2 hc2 => callK.ret ?_))
    rw [getCa_put hw (by rw [hok]; exact hk)] at hm
    simp only [Prod.mk.injEq] at hm
    obtain ⟨rfl, rfl⟩ := hm
    repeat (first | refine Qa ?_ | refine Qb ?_ | refine Qc ?_ | refine Qd ?_ | refine Qe ?_ | refine Qf ?_ | refine Qg ?_ | refine Qh ?_ | refine Qi ?_ | refine Qj ?_ | refine Qk ?_ | refine Ql ?_ | refine Qm ?_ | refine Qn ?_ | refine Qo ?_ | refine Qp ?_ | refine Qq ?_ | fail)
    refine SXL.alloc rfl rfl (fun b => ?_)
    refine SXL.addrOwn (A := A1) (Kd.int .u8) inferInstance (xs := encCa (caO op)) (by omega) (fun b3 e3 => ?_)
    subst e3
    repeat (first | refine Qa ?_ | refine Qb ?_ | refine Qc ?_ | refine Qd ?_ | refine Qe ?_ | refine Qf ?_ | refine Qg ?_ | refine Qh ?_ | refine Qi ?_ | refine Qj ?_ | refine Qk ?_ | refine Ql ?_ | refine Qm ?_ | refine Qn ?_ | refine Qo ?_ | refine Qp ?_ | refine Qq ?_ | fail)
    refine SXL.idx rfl rfl rfl rfl rfl (by omega) (by omega) rfl ?_
    refine SXL.storeElem (off := 11) rfl rfl inferInstance rfl rfl (by omega) ?_
    rw [caO_set h0 (by omega)]
    refine SXL.nil ?_
    refine SX.same 4 (.slice (some ⟨b3, 0, none⟩) (encFs caF (caV (caO 17))).length c1) rfl rfl ?_
    repeat (first | refine Qa ?_ | refine Qb ?_ | refine Qc ?_ | refine Qd ?_ | refine Qe ?_ | refine Qf ?_ | refine Qg ?_ | refine Qh ?_ | refine Qi ?_ | refine Qj ?_ | refine Qk ?_ | refine Ql ?_ | refine Qm ?_ | refine Qn ?_ | refine Qo ?_ | refine Qp ?_ | refine Qq ?_ | fail)
    refine SXL.call rfl rfl rfl ?_
    refine (GetCall_S (xs := encFs caF (caV (caO 17))) inferInstance (by show 64 ≤ c1; omega) (by decide +kernel) (by decide) (fun r n hm A3 c3 hc3 => callK.ret ?_))
    rw [caO_bad] at hm
    simp only [Prod.mk.injEq] at hm
    obtain ⟨rfl, rfl⟩ := hm
    repeat (first | refine Qa ?_ | refine Qb ?_ | refine Qc ?_ | refine Qd ?_ | refine Qe ?_ | refine Qf ?_ | refine Qg ?_ | refine Qh ?_ | refine Qi ?_ | refine Qj ?_ | refine Qk ?_ | refine Ql ?_ | refine Qm ?_ | refine Qn ?_ | refine Qo ?_ | refine Qp ?_ | refine Qq ?_ | fail)
    refine SXL.alloc rfl rfl (fun b4 => ?_)
    repeat (first | refine Qa ?_ | refine Qb ?_ | refine Qc ?_ | refine Qd ?_ | refine Qe ?_ | refine Qf ?_ | refine Qg ?_ | refine Qh ?_ | refine Qi ?_ | refine Qj ?_ | refine Qk ?_ | refine Ql ?_ | refine Qm ?_ | refine Qn ?_ | refine Qo ?_ | refine Qp ?_ | refine Qq ?_ | fail)
    refine SXL.know 81 true rfl (by simp [caO]) ?_
    repeat (first | refine Qa ?_ | refine Qb ?_ | refine Qc ?_ | refine Qd ?_ | refine Qe ?_ | refine Qf ?_ | refine Qg ?_ | refine Qh ?_ | refine Qi ?_ | refine Qj ?_ | refine Qk ?_ | refine Ql ?_ | refine Qm ?_ | refine Qn ?_ | refine Qo ?_ | refine Qp ?_ | refine Qq ?_ | fail)
    refine SX.ret (M' := F) rfl (Evals.tmp rfl Evals.nil) ?_ inferInstance
    exact h
  · have hk' : knownB op = false := by simpa using hk
    rw [if_neg hk] at hm
    simp only [Prod.mk.injEq] at hm
    obtain ⟨rfl, rfl⟩ := hm
    have hch : chB op = false := by
      unfold knownB at hk'
      simp only [Bool.and_eq_false_iff, decide_eq_false_iff_not] at hk'
      unfold chB
      simp only [Bool.or_eq_false_iff, Bool.and_eq_false_iff, decide_eq_false_iff_not, beq_eq_false_iff_ne]
      omega
    unfold knownB at hk'
    simp only [Bool.and_eq_false_iff, decide_eq_false_iff_not] at hk'
    repeat (first | refine Qa ?_ | refine Qb ?_ | refine Qc ?_ | refine Qd ?_ | refine Qe ?_ | refine Qf ?_ | refine Qg ?_ | refine Qh ?_ | refine Qi ?_ | refine Qj ?_ | refine Qk ?_ | refine Ql ?_ | refine Qm ?_ | refine Qn ?_ | refine Qo ?_ | refine Qp ?_ | refine Qq ?_ | fail)
    refine SXL.split (s := 24) rfl (fun h24 => ?_) (fun h24 => ?_)
    · have k24 := of_decide_eq_true h24
      repeat (first | refine Qa ?_ | refine Qb ?_ | refine Qc ?_ | refine Qd ?_ | refine Qe ?_ | refine Qf ?_ | refine Qg ?_ | refine Qh ?_ | refine Qi ?_ | refine Qj ?_ | refine Qk ?_ | refine Ql ?_ | refine Qm ?_ | refine Qn ?_ | refine Qo ?_ | refine Qp ?_ | refine Qq ?_ | fail)
      refine SXL.know 32 false rfl (by simp; omega) ?_
      repeat (first | refine Qa ?_ | refine Qb ?_ | refine Qc ?_ | refine Qd ?_ | refine Qe ?_ | refine Qf ?_ | refine Qg ?_ | refine Qh ?_ | refine Qi ?_ | refine Qj ?_ | refine Qk ?_ | refine Ql ?_ | refine Qm ?_ | refine Qn ?_ | refine Qo ?_ | refine Qp ?_ | refine Qq ?_ | fail)
      refine SXL.know 35 true rfl (by simp; omega) ?_
      repeat (first | refine Qa ?_ | refine Qb ?_ | refine Qc ?_ | refine Qd ?_ | refine Qe ?_ | refine Qf ?_ | refine Qg ?_ | refine Qh ?_ | refine Qi ?_ | refine Qj ?_ | refine Qk ?_ | refine Ql ?_ | refine Qm ?_ | refine Qn ?_ | refine Qo ?_ | refine Qp ?_ | refine Qq ?_ | fail)
      refine SXL.call rfl rfl rfl ?_
      refine (Changes_S (tg := tg) inferInstance h0 (callK.ret ?_))
      rw [hch]
      repeat (first | refine Qa ?_ | refine Qb ?_ | refine Qc ?_ | refine Qd ?_ | refine Qe ?_ | refine Qf ?_ | refine Qg ?_ | refine Qh ?_ | refine Qi ?_ | refine Qj ?_ | refine Qk ?_ | refine Ql ?_ | refine Qm ?_ | refine Qn ?_ | refine Qo ?_ | refine Qp ?_ | refine Qq ?_ | fail)
      refine SX.same 6 (.bool false) rfl (by simp; omega) ?_
      refine SX.loop (fun z a M => ∃ i : Nat, i + z = 40 ∧ a = [(0, .int .u32 op), (4, .slice A1 (([] : List Int)).length c1), (5, .int .i64 1), (6, .bool false), (7, .int .i64 (cntC i : Int)), (8, .int .u32 (i : Int))] ∧ .own A1 (rowR (Kd.int .u8) 5 (.slice A1 (([] : List Int)).length c1) (([] : List Int))) :: F = M) 40 ⟨0, rfl, rfl, rfl⟩ (by repeat (first | exact trivial | refine ⟨rfl, ?_⟩)) inferInstance ?_
      rintro z _ _ ⟨i, hz, rfl, rfl⟩
      have hcl := cntC_le i
      repeat (first | refine Qa ?_ | refine Qb ?_ | refine Qc ?_ | refine Qd ?_ | refine Qe ?_ | refine Qf ?_ | refine Qg ?_ | refine Qh ?_ | refine Qi ?_ | refine Qj ?_ | refine Qk ?_ | refine Ql ?_ | refine Qm ?_ | refine Qn ?_ | refine Qo ?_ | refine Qp ?_ | refine Qq ?_ | fail)
      refine SX.condp rfl (fun hi => ?_) (fun hi => ?_)
      · repeat (first | refine Qa ?_ | refine Qb ?_ | refine Qc ?_ | refine Qd ?_ | refine Qe ?_ | refine Qf ?_ | refine Qg ?_ | refine Qh ?_ | refine Qi ?_ | refine Qj ?_ | refine Qk ?_ | refine Ql ?_ | refine Qm ?_ | refine Qn ?_ | refine Qo ?_ | refine Qp ?_ | refine Qq ?_ | fail)
        refine SXL.call rfl rfl rfl ?_
        refine (Changes_S (tg := tg) inferInstance (by omega) (callK.ret ?_))
        repeat (first | refine Qa ?_ | refine Qb ?_ | refine Qc ?_ | refine Qd ?_ | refine Qe ?_ | refine Qf ?_ | refine Qg ?_ | refine Qh ?_ | refine Qi ?_ | refine Qj ?_ | refine Qk ?_ | refine Ql ?_ | refine Qm ?_ | refine Qn ?_ | refine Qo ?_ | refine Qp ?_ | refine Qq ?_ | fail)
        refine SX.cond rfl (fun hch => ?_) (fun hch => ?_)
        · repeat (first | refine Qa ?_ | refine Qb ?_ | refine Qc ?_ | refine Qd ?_ | refine Qe ?_ | refine Qf ?_ | refine Qg ?_ | refine Qh ?_ | refine Qi ?_ | refine Qj ?_ | refine Qk ?_ | refine Ql ?_ | refine Qm ?_ | refine Qn ?_ | refine Qo ?_ | refine Qp ?_ | refine Qq ?_ | fail)
          refine SX.same 7 (.int .i64 (cntC (i + 1) : Int)) rfl (by rw [cntC_succ, if_pos hch, IntWalk.i64_in _ (by omega)]; simp) ?_
          refine SX.same 8 (.int .u32 ((i + 1 : Nat) : Int)) rfl (by simp (disch := omega) only [IntWalk.i64_in, IntWalk.u8_in, IntWalk.u32_in, IntWalk.u64_in, IntWalk.rem_in, Int.natCast_add, Int.natCast_one]) ?_
          refine SX.again (z - 1) (by omega) ⟨i + 1, by omega, rfl, rfl⟩ (by repeat (first | exact trivial | refine ⟨rfl, ?_⟩)) inferInstance
        · repeat (first | refine Qa ?_ | refine Qb ?_ | refine Qc ?_ | refine Qd ?_ | refine Qe ?_ | refine Qf ?_ | refine Qg ?_ | refine Qh ?_ | refine Qi ?_ | refine Qj ?_ | refine Qk ?_ | refine Ql ?_ | refine Qm ?_ | refine Qn ?_ | refine Qo ?_ | refine Qp ?_ | refine Qq ?_ | fail)
          refine SX.same 7 (.int .i64 (cntC (i + 1) : Int)) rfl (by rw [cntC_succ, if_neg (by rw [hch]; decide)]; simp) ?_
          refine SX.same 8 (.int .u32 ((i + 1 : Nat) : Int)) rfl (by simp (disch := omega) only [IntWalk.i64_in, IntWalk.u8_in, IntWalk.u32_in, IntWalk.u64_in, IntWalk.rem_in, Int.natCast_add, Int.natCast_one]) ?_
          refine SX.again (z - 1) (by omega) ⟨i + 1, by omega, rfl, rfl⟩ (by repeat (first | exact trivial | refine ⟨rfl, ?_⟩)) inferInstance
      obtain rfl : i = 40 := by omega
      have h9 : cntC 40 = 9 := by decide +kernel
      rw [h9]
      repeat (first | refine Qa ?_ | refine Qb ?_ | refine Qc ?_ | refine Qd ?_ | refine Qe ?_ | refine Qf ?_ | refine Qg ?_ | refine Qh ?_ | refine Qi ?_ | refine Qj ?_ | refine Qk ?_ | refine Ql ?_ | refine Qm ?_ | refine Qn ?_ | refine Qo ?_ | refine Qp ?_ | refine Qq ?_ | fail)
      refine SX.ret (M' := F) rfl (Evals.tmp rfl Evals.nil) ?_ inferInstance
      exact h
    · have k24 := of_decide_eq_false h24
      repeat (first | refine Qa ?_ | refine Qb ?_ | refine Qc ?_ | refine Qd ?_ | refine Qe ?_ | refine Qf ?_ | refine Qg ?_ | refine Qh ?_ | refine Qi ?_ | refine Qj ?_ | refine Qk ?_ | refine Ql ?_ | refine Qm ?_ | refine Qn ?_ | refine Qo ?_ | refine Qp ?_ | refine Qq ?_ | fail)
      refine SXL.call rfl rfl rfl ?_
      refine (Changes_S (tg := tg) inferInstance h0 (callK.ret ?_))
      rw [hch]
      repeat (first | refine Qa ?_ | refine Qb ?_ | refine Qc ?_ | refine Qd ?_ | refine Qe ?_ | refine Qf ?_ | refine Qg ?_ | refine Qh ?_ | refine Qi ?_ | refine Qj ?_ | refine Qk ?_ | refine Ql ?_ | refine Qm ?_ | refine Qn ?_ | refine Qo ?_ | refine Qp ?_ | refine Qq ?_ | fail)
      refine SX.loop (fun z a M => ∃ i : Nat, i + z = 40 ∧ a = [(0, .int .u32 op), (4, .slice A1 (([] : List Int)).length c1), (5, .int .i64 1), (6, .bool false), (7, .int .i64 (cntC i : Int)), (8, .int .u32 (i : Int))] ∧ .own A1 (rowR (Kd.int .u8) 5 (.slice A1 (([] : List Int)).length c1) (([] : List Int))) :: F = M) 40 ⟨0, rfl, rfl, rfl⟩ (by repeat (first | exact trivial | refine ⟨rfl, ?_⟩)) inferInstance ?_
      rintro z _ _ ⟨i, hz, rfl, rfl⟩
      have hcl := cntC_le i
      repeat (first | refine Qa ?_ | refine Qb ?_ | refine Qc ?_ | refine Qd ?_ | refine Qe ?_ | refine Qf ?_ | refine Qg ?_ | refine Qh ?_ | refine Qi ?_ | refine Qj ?_ | refine Qk ?_ | refine Ql ?_ | refine Qm ?_ | refine Qn ?_ | refine Qo ?_ | refine Qp ?_ | refine Qq ?_ | fail)
      refine SX.condp rfl (fun hi => ?_) (fun hi => ?_)
      · repeat (first | refine Qa ?_ | refine Qb ?_ | refine Qc ?_ | refine Qd ?_ | refine Qe ?_ | refine Qf ?_ | refine Qg ?_ | refine Qh ?_ | refine Qi ?_ | refine Qj ?_ | refine Qk ?_ | refine Ql ?_ | refine Qm ?_ | refine Qn ?_ | refine Qo ?_ | refine Qp ?_ | refine Qq ?_ | fail)
        refine SXL.call rfl rfl rfl ?_
        refine (Changes_S (tg := tg) inferInstance (by omega) (callK.ret ?_))
        repeat (first | refine Qa ?_ | refine Qb ?_ | refine Qc ?_ | refine Qd ?_ | refine Qe ?_ | refine Qf ?_ | refine Qg ?_ | refine Qh ?_ | refine Qi ?_ | refine Qj ?_ | refine Qk ?_ | refine Ql ?_ | refine Qm ?_ | refine Qn ?_ | refine Qo ?_ | refine Qp ?_ | refine Qq ?_ | fail)
        refine SX.cond rfl (fun hch => ?_) (fun hch => ?_)
        · repeat (first | refine Qa ?_ | refine Qb ?_ | refine Qc ?_ | refine Qd ?_ | refine Qe ?_ | refine Qf ?_ | refine Qg ?_ | refine Qh ?_ | refine Qi ?_ | refine Qj ?_ | refine Qk ?_ | refine Ql ?_ | refine Qm ?_ | refine Qn ?_ | refine Qo ?_ | refine Qp ?_ | refine Qq ?_ | fail)
          refine SX.same 7 (.int .i64 (cntC (i + 1) : Int)) rfl (by rw [cntC_succ, if_pos hch, IntWalk.i64_in _ (by omega)]; simp) ?_
          refine SX.same 8 (.int .u32 ((i + 1 : Nat) : Int)) rfl (by simp (disch := omega) only [IntWalk.i64_in, IntWalk.u8_in, IntWalk.u32_in, IntWalk.u64_in, IntWalk.rem_in, Int.natCast_add, Int.natCast_one]) ?_
          refine SX.again (z - 1) (by omega) ⟨i + 1, by omega, rfl, rfl⟩ (by repeat (first | exact trivial | refine ⟨rfl, ?_⟩)) inferInstance
        · repeat (first | refine Qa ?_ | refine Qb ?_ | refine Qc ?_ | refine Qd ?_ | refine Qe ?_ | refine Qf ?_ | refine Qg ?_ | refine Qh ?_ | refine Qi ?_ | refine Qj ?_ | refine Qk ?_ | refine Ql ?_ | refine Qm ?_ | refine Qn ?_ | refine Qo ?_ | refine Qp ?_ | refine Qq ?_ | fail)
          refine SX.same 7 (.int .i64 (cntC (i + 1) : Int)) rfl (by rw [cntC_succ, if_neg (by rw [hch]; decide)]; simp) ?_
          refine SX.same 8 (.int .u32 ((i + 1 : Nat) : Int)) rfl (by simp (disch := omega) only [IntWalk.i64_in, IntWalk.u8_in, IntWalk.u32_in, IntWalk.u64_in, IntWalk.rem_in, Int.natCast_add, Int.natCast_one]) ?_
          refine SX.again (z - 1) (by omega) ⟨i + 1, by omega, rfl, rfl⟩ (by repeat (first | exact trivial | refine ⟨rfl, ?_⟩)) inferInstance
      obtain rfl : i = 40 := by omega
      have h9 : cntC 40 = 9 := by decide +kernel
      rw [h9]
      repeat (first | refine Qa ?_ | refine Qb ?_ | refine Qc ?_ | refine Qd ?_ | refine Qe ?_ | refine Qf ?_ | refine Qg ?_ | refine Qh ?_ | refine Qi ?_ | refine Qj ?_ | refine Qk ?_ | refine Ql ?_ | refine Qm ?_ | refine Qn ?_ | refine Qo ?_ | refine Qp ?_ | refine Qq ?_ | fail)
      refine SX.ret (M' := F) rfl (Evals.tmp rfl Evals.nil) ?_ inferInstance
      exact h
set_option maxHeartbeats 1000000 in
set_option maxRecDepth 20000 in
theorem CallStates_S {st : Int} (hg : Has (cellsR 0 chT tg) F) (h : K (.returned (.bool true)) F) : Fn (Tryd.prog) 8 [.int .i64 st] F K := by
  have hw : (reS st).wf := re_wf ⟨by decide, by decide⟩ rfl
  have hok : okRe (reS st) = statB st := by
    unfold okRe reS
    cases hkb : statB st <;> simp [hkb]
  have hm0 : (putM (reS st).e).2 = 0 := by show (putM []).2 = 0; decide +kernel
  refine Fn.enter Tryd.call8 Tryd.func8 rfl rfl rfl ?_
  repeat (first | refine Qa ?_ | refine Qb ?_ | refine Qc ?_ | refine Qd ?_ | refine Qe ?_ | refine Qf ?_ | refine Qg ?_ | refine Qh ?_ | refine Qi ?_ | refine Qj ?_ | refine Qk ?_ | refine Ql ?_ | refine Qm ?_ | refine Qn ?_ | refine Qo ?_ | refine Qp ?_ | refine Qq ?_ | fail)
  refine SXL.call rfl rfl rfl ?_
  refine (awake09_S (tg := tg) hg (callK.ret ?_))
  repeat (first | refine Qa ?_ | refine Qb ?_ | refine Qc ?_ | refine Qd ?_ | refine Qe ?_ | refine Qf ?_ | refine Qg ?_ | refine Qh ?_ | refine Qi ?_ | refine Qj ?_ | refine Qk ?_ | refine Ql ?_ | refine Qm ?_ | refine Qn ?_ | refine Qo ?_ | refine Qp ?_ | refine Qq ?_ | fail)
  refine SXL.call rfl rfl rfl ?_
  refine (PutReply_S (s := reS st) (A := none) (c := 0) (B := none) (c2 := 0) inferInstance inferInstance (Nat.le_refl _) (Nat.le_refl _) hw (fun r n hm A1 c1 hc1 => callK.ret ?_))
  unfold putRe at hm
  rw [hok] at hm
  by_cases hk : statB st = true
  · rw [if_pos hk, if_neg (by rw [hm0]; simp)] at hm
    simp only [Prod.mk.injEq] at hm
    obtain ⟨rfl, rfl⟩ := hm
    have hr := statB_range hk
    have hl : (encRe (reS st)).length = 68 := by unfold encRe; rw [show (putM (reS st).e).1 = [] by show (putM []).1 = []; decide +kernel]; unfold reF reV reS; simp only [encFs, encF, List.length_append, be32_len', be64_len']; decide +kernel
    have hb := encFs_bytes (okRe_fs hw (by rw [hok]; exact hk) hm0)
    have hk2 := hk
    unfold statB at hk2
    simp only [Bool.or_eq_true, Bool.and_eq_true, beq_iff_eq, decide_eq_true_eq] at hk2
    repeat (first | refine Qa ?_ | refine Qb ?_ | refine Qc ?_ | refine Qd ?_ | refine Qe ?_ | refine Qf ?_ | refine Qg ?_ | refine Qh ?_ | refine Qi ?_ | refine Qj ?_ | refine Qk ?_ | refine Ql ?_ | refine Qm ?_ | refine Qn ?_ | refine Qo ?_ | refine Qp ?_ | refine Qq ?_ | fail)
    by_cases hz : st = 0
    · refine SXL.know 22 true rfl (by simp [hz]) ?_
      repeat (first | refine Qa ?_ | refine Qb ?_ | refine Qc ?_ | refine Qd ?_ | refine Qe ?_ | refine Qf ?_ | refine Qg ?_ | refine Qh ?_ | refine Qi ?_ | refine Qj ?_ | refine Qk ?_ | refine Ql ?_ | refine Qm ?_ | refine Qn ?_ | refine Qo ?_ | refine Qp ?_ | refine Qq ?_ | fail)
      refine SXL.call rfl rfl rfl ?_
      refine (GetReply_S (xs := encRe (reS st)) inferInstance hc1 hb (by omega) (fun r n hm A2 c2 B2 d2 hc2 hd2 => callK.ret ?_))
      rw [getRe_put hw (by rw [hok]; exact hk) hm0] at hm
      simp only [Prod.mk.injEq] at hm
      obtain ⟨rfl, rfl⟩ := hm
      repeat (first | refine Qa ?_ | refine Qb ?_ | refine Qc ?_ | refine Qd ?_ | refine Qe ?_ | refine Qf ?_ | refine Qg ?_ | refine Qh ?_ | refine Qi ?_ | refine Qj ?_ | refine Qk ?_ | refine Ql ?_ | refine Qm ?_ | refine Qn ?_ | refine Qo ?_ | refine Qp ?_ | refine Qq ?_ | fail)
      refine SXL.alloc rfl rfl (fun b => ?_)
      refine SXL.addrOwn (A := A1) (Kd.int .u8) inferInstance (xs := encRe (reS st)) (by omega) (fun b3 e3 => ?_)
      subst e3
      repeat (first | refine Qa ?_ | refine Qb ?_ | refine Qc ?_ | refine Qd ?_ | refine Qe ?_ | refine Qf ?_ | refine Qg ?_ | refine Qh ?_ | refine Qi ?_ | refine Qj ?_ | refine Qk ?_ | refine Ql ?_ | refine Qm ?_ | refine Qn ?_ | refine Qo ?_ | refine Qp ?_ | refine Qq ?_ | fail)
      refine SXL.idx rfl rfl rfl rfl rfl (by omega) (by omega) rfl ?_
      refine SXL.storeElem (off := 11) rfl rfl inferInstance rfl rfl (by omega) ?_
      rw [reS_set hr.1 (by omega)]
      refine SXL.nil ?_
      refine SX.same 4 (.slice (some ⟨b3, 0, none⟩) (encFs reF (reV (reS 59) [])).length c1) rfl (by rw [hl]; rfl) ?_
      repeat (first | refine Qa ?_ | refine Qb ?_ | refine Qc ?_ | refine Qd ?_ | refine Qe ?_ | refine Qf ?_ | refine Qg ?_ | refine Qh ?_ | refine Qi ?_ | refine Qj ?_ | refine Qk ?_ | refine Ql ?_ | refine Qm ?_ | refine Qn ?_ | refine Qo ?_ | refine Qp ?_ | refine Qq ?_ | fail)
      refine SXL.call rfl rfl rfl ?_
      refine (GetReply_S (xs := encFs reF (reV (reS 59) [])) inferInstance (by show 68 ≤ c1; omega) (by decide +kernel) (by decide) (fun r n hm A3 c3 B3 d3 hc3 hd3 => callK.ret ?_))
      rw [reS_bad] at hm
      simp only [Prod.mk.injEq] at hm
      obtain ⟨rfl, rfl⟩ := hm
      repeat (first | refine Qa ?_ | refine Qb ?_ | refine Qc ?_ | refine Qd ?_ | refine Qe ?_ | refine Qf ?_ | refine Qg ?_ | refine Qh ?_ | refine Qi ?_ | refine Qj ?_ | refine Qk ?_ | refine Ql ?_ | refine Qm ?_ | refine Qn ?_ | refine Qo ?_ | refine Qp ?_ | refine Qq ?_ | fail)
      refine SXL.alloc rfl rfl (fun b4 => ?_)
      repeat (first | refine Qa ?_ | refine Qb ?_ | refine Qc ?_ | refine Qd ?_ | refine Qe ?_ | refine Qf ?_ | refine Qg ?_ | refine Qh ?_ | refine Qi ?_ | refine Qj ?_ | refine Qk ?_ | refine Ql ?_ | refine Qm ?_ | refine Qn ?_ | refine Qo ?_ | refine Qp ?_ | refine Qq ?_ | fail)
      refine SXL.know 63 true rfl (by simp [reS]) ?_
      repeat (first | refine Qa ?_ | refine Qb ?_ | refine Qc ?_ | refine Qd ?_ | refine Qe ?_ | refine Qf ?_ | refine Qg ?_ | refine Qh ?_ | refine Qi ?_ | refine Qj ?_ | refine Qk ?_ | refine Ql ?_ | refine Qm ?_ | refine Qn ?_ | refine Qo ?_ | refine Qp ?_ | refine Qq ?_ | fail)
      refine SXL.know 68 true rfl rfl ?_
      repeat (first | refine Qa ?_ | refine Qb ?_ | refine Qc ?_ | refine Qd ?_ | refine Qe ?_ | refine Qf ?_ | refine Qg ?_ | refine Qh ?_ | refine Qi ?_ | refine Qj ?_ | refine Qk ?_ | refine Ql ?_ | refine Qm ?_ | refine Qn ?_ | refine Qo ?_ | refine Qp ?_ | refine Qq ?_ | fail)
      refine SX.ret (M' := F) rfl (Evals.tmp rfl Evals.nil) ?_ inferInstance
      exact h
    · refine SXL.know 22 false rfl (by simp [hz]) ?_
      repeat (first | refine Qa ?_ | refine Qb ?_ | refine Qc ?_ | refine Qd ?_ | refine Qe ?_ | refine Qf ?_ | refine Qg ?_ | refine Qh ?_ | refine Qi ?_ | refine Qj ?_ | refine Qk ?_ | refine Ql ?_ | refine Qm ?_ | refine Qn ?_ | refine Qo ?_ | refine Qp ?_ | refine Qq ?_ | fail)
      refine SXL.know 25 true rfl (by simp; omega) ?_
      repeat (first | refine Qa ?_ | refine Qb ?_ | refine Qc ?_ | refine Qd ?_ | refine Qe ?_ | refine Qf ?_ | refine Qg ?_ | refine Qh ?_ | refine Qi ?_ | refine Qj ?_ | refine Qk ?_ | refine Ql ?_ | refine Qm ?_ | refine Qn ?_ | refine Qo ?_ | refine Qp ?_ | refine Qq ?_ | fail)
      refine SX.know 31 false rfl (by simp; omega) ?_
      repeat (first | refine Qa ?_ | refine Qb ?_ | refine Qc ?_ | refine Qd ?_ | refine Qe ?_ | refine Qf ?_ | refine Qg ?_ | refine Qh ?_ | refine Qi ?_ | refine Qj ?_ | refine Qk ?_ | refine Ql ?_ | refine Qm ?_ | refine Qn ?_ | refine Qo ?_ | refine Qp ?_ | refine Qq ?_ | fail)
      refine SXL.call rfl rfl rfl ?_
      refine (GetReply_S (xs := encRe (reS st)) inferInstance hc1 hb (by omega) (fun r n hm A2 c2 B2 d2 hc2 hd2 => callK.ret ?_))
      rw [getRe_put hw (by rw [hok]; exact hk) hm0] at hm
      simp only [Prod.mk.injEq] at hm
      obtain ⟨rfl, rfl⟩ := hm
      repeat (first | refine Qa ?_ | refine Qb ?_ | refine Qc ?_ | refine Qd ?_ | refine Qe ?_ | refine Qf ?_ | refine Qg ?_ | refine Qh ?_ | refine Qi ?_ | refine Qj ?_ | refine Qk ?_ | refine Ql ?_ | refine Qm ?_ | refine Qn ?_ | refine Qo ?_ | refine Qp ?_ | refine Qq ?_ | fail)
      refine SXL.alloc rfl rfl (fun b => ?_)
      refine SXL.addrOwn (A := A1) (Kd.int .u8) inferInstance (xs := encRe (reS st)) (by omega) (fun b3 e3 => ?_)
      subst e3
      repeat (first | refine Qa ?_ | refine Qb ?_ | refine Qc ?_ | refine Qd ?_ | refine Qe ?_ | refine Qf ?_ | refine Qg ?_ | refine Qh ?_ | refine Qi ?_ | refine Qj ?_ | refine Qk ?_ | refine Ql ?_ | refine Qm ?_ | refine Qn ?_ | refine Qo ?_ | refine Qp ?_ | refine Qq ?_ | fail)
      refine SXL.idx rfl rfl rfl rfl rfl (by omega) (by omega) rfl ?_
      refine SXL.storeElem (off := 11) rfl rfl inferInstance rfl rfl (by omega) ?_
      rw [reS_set hr.1 (by omega)]
      refine SXL.nil ?_
      refine SX.same 4 (.slice (some ⟨b3, 0, none⟩) (encFs reF (reV (reS 59) [])).length c1) rfl (by rw [hl]; rfl) ?_
      repeat (first | refine Qa ?_ | refine Qb ?_ | refine Qc ?_ | refine Qd ?_ | refine Qe ?_ | refine Qf ?_ | refine Qg ?_ | refine Qh ?_ | refine Qi ?_ | refine Qj ?_ | refine Qk ?_ | refine Ql ?_ | refine Qm ?_ | refine Qn ?_ | refine Qo ?_ | refine Qp ?_ | refine Qq ?_ | fail)
      refine SXL.call rfl rfl rfl ?_
      refine (GetReply_S (xs := encFs reF (reV (reS 59) [])) inferInstance (by show 68 ≤ c1; omega) (by decide +kernel) (by decide) (fun r n hm A3 c3 B3 d3 hc3 hd3 => callK.ret ?_))
      rw [reS_bad] at hm
      simp only [Prod.mk.injEq] at hm
      obtain ⟨rfl, rfl⟩ := hm
      repeat (first | refine Qa ?_ | refine Qb ?_ | refine Qc ?_ | refine Qd ?_ | refine Qe ?_ | refine Qf ?_ | refine Qg ?_ | refine Qh ?_ | refine Qi ?_ | refine Qj ?_ | refine Qk ?_ | refine Ql ?_ | refine Qm ?_ | refine Qn ?_ | refine Qo ?_ | refine Qp ?_ | refine Qq ?_ | fail)
      refine SXL.alloc rfl rfl (fun b4 => ?_)
      repeat (first | refine Qa ?_ | refine Qb ?_ | refine Qc ?_ | refine Qd ?_ | refine Qe ?_ | refine Qf ?_ | refine Qg ?_ | refine Qh ?_ | refine Qi ?_ | refine Qj ?_ | refine Qk ?_ | refine Ql ?_ | refine Qm ?_ | refine Qn ?_ | refine Qo ?_ | refine Qp ?_ | refine Qq ?_ | fail)
      refine SXL.know 63 true rfl (by simp [reS]) ?_
      repeat (first | refine Qa ?_ | refine Qb ?_ | refine Qc ?_ | refine Qd ?_ | refine Qe ?_ | refine Qf ?_ | refine Qg ?_ | refine Qh ?_ | refine Qi ?_ | refine Qj ?_ | refine Qk ?_ | refine Ql ?_ | refine Qm ?_ | refine Qn ?_ | refine Qo ?_ | refine Qp ?_ | refine Qq ?_ | fail)
      refine SXL.know 68 true rfl rfl ?_
      repeat (first | refine Qa ?_ | refine Qb ?_ | refine Qc ?_ | refine Qd ?_ | refine Qe ?_ | refine Qf ?_ | refine Qg ?_ | refine Qh ?_ | refine Qi ?_ | refine Qj ?_ | refine Qk ?_ | refine Ql ?_ | refine Qm ?_ | refine Qn ?_ | refine Qo ?_ | refine Qp ?_ | refine Qq ?_ | fail)
      refine SX.ret (M' := F) rfl (Evals.tmp rfl Evals.nil) ?_ inferInstance
      exact h
  · have hk' : statB st = false := by simpa using hk
    rw [if_neg hk] at hm
    simp only [Prod.mk.injEq] at hm
    obtain ⟨rfl, rfl⟩ := hm
    unfold statB at hk'
    simp only [Bool.or_eq_false_iff, Bool.and_eq_false_iff, beq_eq_false_iff_ne, decide_eq_false_iff_not] at hk'
    repeat (first | refine Qa ?_ | refine Qb ?_ | refine Qc ?_ | refine Qd ?_ | refine Qe ?_ | refine Qf ?_ | refine Qg ?_ | refine Qh ?_ | refine Qi ?_ | refine Qj ?_ | refine Qk ?_ | refine Ql ?_ | refine Qm ?_ | refine Qn ?_ | refine Qo ?_ | refine Qp ?_ | refine Qq ?_ | fail)
    refine SXL.know 22 false rfl (by simp; omega) ?_
    repeat (first | refine Qa ?_ | refine Qb ?_ | refine Qc ?_ | refine Qd ?_ | refine Qe ?_ | refine Qf ?_ | refine Qg ?_ | refine Qh ?_ | refine Qi ?_ | refine Qj ?_ | refine Qk ?_ | refine Ql ?_ | refine Qm ?_ | refine Qn ?_ | refine Qo ?_ | refine Qp ?_ | refine Qq ?_ | fail)
    refine SXL.split (s := 25) rfl (fun h25 => ?_) (fun h25 => ?_)
    · have k25 := of_decide_eq_true h25
      repeat (first | refine Qa ?_ | refine Qb ?_ | refine Qc ?_ | refine Qd ?_ | refine Qe ?_ | refine Qf ?_ | refine Qg ?_ | refine Qh ?_ | refine Qi ?_ | refine Qj ?_ | refine Qk ?_ | refine Ql ?_ | refine Qm ?_ | refine Qn ?_ | refine Qo ?_ | refine Qp ?_ | refine Qq ?_ | fail)
      refine SX.know 31 true rfl (by simp; omega) ?_
      repeat (first | refine Qa ?_ | refine Qb ?_ | refine Qc ?_ | refine Qd ?_ | refine Qe ?_ | refine Qf ?_ | refine Qg ?_ | refine Qh ?_ | refine Qi ?_ | refine Qj ?_ | refine Qk ?_ | refine Ql ?_ | refine Qm ?_ | refine Qn ?_ | refine Qo ?_ | refine Qp ?_ | refine Qq ?_ | fail)
      refine SX.ret (M' := F) rfl (Evals.tmp rfl Evals.nil) ?_ inferInstance
      exact h
    · repeat (first | refine Qa ?_ | refine Qb ?_ | refine Qc ?_ | refine Qd ?_ | refine Qe ?_ | refine Qf ?_ | refine Qg ?_ | refine Qh ?_ | refine Qi ?_ | refine Qj ?_ | refine Qk ?_ | refine Ql ?_ | refine Qm ?_ | refine Qn ?_ | refine Qo ?_ | refine Qp ?_ | refine Qq ?_ | fail)
      refine SX.ret (M' := F) rfl (Evals.tmp rfl Evals.nil) ?_ inferInstance
      exact h
end
theorem CallOps_any (op : Int) (W : World) (tg : TypeId) (hg : W.heap[0]? = some (.cells chT.toArray tg (0, 0))) (w0 : (Lit.int .u32 op).wf = true) :
    Calls Tryd.prog 7 #[.int .u32 op] W fun e w' => e = .returned (.bool true) ∧ Below W.heap.size W w' :=
  Fn.out W [.per (cellsR 0 chT tg), .per (oldR W)] (Holds.ofStart (Holds.startRow (Holds.start0 W) ⟨blk_lt hg, hg⟩)) inferInstance
    (CallOps_S (tg := tg) inferInstance (u32_of_wf _ w0).1 (u32_of_wf _ w0).2 ⟨rfl, inferInstance⟩)
theorem CallStates_any (st : Int) (W : World) (tg : TypeId) (hg : W.heap[0]? = some (.cells chT.toArray tg (0, 0))) (w0 : (Lit.int .i64 st).wf = true) :
    Calls Tryd.prog 8 #[.int .i64 st] W fun e w' => e = .returned (.bool true) ∧ Below W.heap.size W w' :=
  Fn.out W [.per (cellsR 0 chT tg), .per (oldR W)] (Holds.ofStart (Holds.startRow (Holds.start0 W) ⟨blk_lt hg, hg⟩)) inferInstance
    (CallStates_S (tg := tg) inferInstance ⟨rfl, inferInstance⟩)
end Go.Proofs.YtpbhanpblmoepaaDoor.Sx
