/- Part Y5 of the lemmas and walks of the Go functions that these statements reach; conditions: those that each theorem names. -/
import Derived.Test.YtpbhanpblmoepaaGreatJY3
import Derived.Test.YtpbhanpblmoepaaGreatJX6
section
/- Chapter 16's reference got, walked; conditions: those that each theorem names. -/
namespace Go.Proofs.YtpbhanpblmoepaaGreat.Sx
open Go.RowKit Go.Proofs.YtpbhanpblmoepaaGreat.Hm Go.Proofs.YtpbhanpblmoepaaGreatW.PrintWords Go.Proofs.YtpbhanpblmoepaaGreatW.PrintLast Go.Proofs.YtpbhanpblmoepaaGreatW.PrintMore
set_option linter.unusedVariables false
set_option linter.unusedSimpArgs false
attribute [local irreducible] SX SXL SXA St callK Post Evals

theorem cutB (s : ByteArray) (m : Nat) : bytesOf (s.extract 0 m) = (bytesOf s).take m := by
  have h := bytesOf_extract s 0 m
  rw [List.drop_zero] at h
  exact h
theorem cutB' (s : ByteArray) (m : Nat) : s.extract (0 : Int).toNat (m : Int).toNat = strOfNums ((bytesOf s).take m) := by
  rw [Int.toNat_natCast, ← cutB, strOfNums_bytesOf]
  rfl
theorem sealB {l : List Int} (hb : bytesB l = true) : bytesB (sealM l) = true := by
  have hx : 0 ≤ crcM 0 l ∧ crcM 0 l < 4294967296 := crcM_range 0 _ (by omega) (by omega) ((bytesB_iff _).1 hb)
  unfold sealM
  rw [bytesB_append, hb, bytesB_be32 _ hx.1 hx.2]
  rfl
theorem getMs_bad {b : List Int} {m : Msg} {n : Int} (h : getMs b = (m, n)) (hn : n ≠ 0) : m = Msg0 := by
  unfold getMs at h
  split at h
  · simp only [Prod.mk.injEq] at h; exact h.1.symm
  · split at h
    · simp only [Prod.mk.injEq] at h; exact h.1.symm
    · unfold finM at h
      split at h
      · simp only [Prod.mk.injEq] at h; exact h.1.symm
      · rename_i h9
        rw [h] at h9
        exact absurd hn h9
theorem getMs_e {b : List Int} {m : Msg} (hb : bytesB b = true) (h : getMs b = (m, 0)) : m.r.e.length ≤ 1000 := by
  obtain ⟨hp, hw, hn⟩ := getMs_ok hb h
  obtain ⟨r, hi, -⟩ := putMs_ok hp
  rcases innM_k hi with ⟨k, -⟩ | ⟨k, hq⟩ | ⟨k, -⟩
  · rw [← hn]; unfold normM; rw [if_pos k]; exact Nat.zero_le _
  · unfold putRe at hq
    split at hq
    · rename_i hk
      unfold okRe at hk
      simp only [Bool.and_eq_true, decide_eq_true_eq] at hk
      omega
    · simp at hq
  · rw [← hn]; unfold normM; rw [k]; exact Nat.zero_le _
theorem sameMs_self {m : Msg} (hw : m.wf) : sameMs m m = true := by
  have h1 := (sameCa_iff hw.c.d hw.c.d).2 rfl
  have h2 := (sameRe_iff hw.r.d hw.r.d).2 rfl
  have h3 := (sameCt_iff hw.t.d hw.t.d).2 rfl
  unfold sameMs
  rw [if_pos rfl]
  split
  · exact h1
  · split
    · exact h2
    · exact h3
section
variable {F R : List Thing} {K : Ending → List Thing → Prop} {A B C : Option Addr} {c c2 : Nat}
theorem RRight_S (x : ByteArray) (hx : x.size ≤ 1000000) (h : K (.returned (.bool (rightB (bytesOf x)))) F) : Fn (Tryz.prog) 24 [.string x] F K := by
  have hxl := bytesOf_length x
  unfold rightB at h
  refine Fn.enter Tryz.call24 Tryz.func24 rfl rfl rfl ?_
  repeat (first | refine Qa ?_ | refine Qb ?_ | refine Qc ?_ | refine Qd ?_ | refine Qe ?_ | refine Qf ?_ | refine Qg ?_ | refine Qh ?_ | refine Qi ?_ | refine Qj ?_ | refine Qk ?_ | refine Ql ?_ | refine Qm ?_ | refine Qn ?_ | refine Qo ?_ | refine Qp ?_ | refine Qq ?_ | fail)
  refine SXL.split (s := 6) rfl (fun h9 => ?_) (fun h9 => ?_)
  rotate_left
  · have k9 := of_decide_eq_false h9
    rw [decide_eq_false (show ¬ 4 ≤ (bytesOf x).length by omega), Bool.false_and] at h
    repeat (first | refine Qa ?_ | refine Qb ?_ | refine Qc ?_ | refine Qd ?_ | refine Qe ?_ | refine Qf ?_ | refine Qg ?_ | refine Qh ?_ | refine Qi ?_ | refine Qj ?_ | refine Qk ?_ | refine Ql ?_ | refine Qm ?_ | refine Qn ?_ | refine Qo ?_ | refine Qp ?_ | refine Qq ?_ | fail)
    refine SX.ret (M' := F) rfl (Evals.tmp rfl Evals.nil) ?_ inferInstance
    exact h
  have k9 := of_decide_eq_true h9
  obtain ⟨m, hm⟩ : ∃ m : Nat, x.size = m + 4 := ⟨x.size - 4, by omega⟩
  have hm4 : (bytesOf x).length - 4 = m := by omega
  rw [decide_eq_true (show 4 ≤ (bytesOf x).length by omega), Bool.true_and, hm4] at h
  repeat (first | refine Qa ?_ | refine Qb ?_ | refine Qc ?_ | refine Qd ?_ | refine Qe ?_ | refine Qf ?_ | refine Qg ?_ | refine Qh ?_ | refine Qi ?_ | refine Qj ?_ | refine Qk ?_ | refine Ql ?_ | refine Qm ?_ | refine Qn ?_ | refine Qo ?_ | refine Qp ?_ | refine Qq ?_ | fail)
  have hwr : IntKind.i64.wrap ((x.size : Int) - 4) = (m : Int) := by rw [IntWalk.i64_in _ (by omega)]; omega
  refine SXL.same 10 (.int .i64 (m : Int)) rfl (by rw [hwr]) ?_
  refine SXL.cutStr rfl rfl rfl rfl rfl (by omega) (by omega) (by omega) rfl ?_
  refine SXL.same 11 (.string (strOfNums ((bytesOf x).take m))) rfl (by rw [cutB']) ?_
  repeat (first | refine Qa ?_ | refine Qb ?_ | refine Qc ?_ | refine Qd ?_ | refine Qe ?_ | refine Qf ?_ | refine Qg ?_ | refine Qh ?_ | refine Qi ?_ | refine Qj ?_ | refine Qk ?_ | refine Ql ?_ | refine Qm ?_ | refine Qn ?_ | refine Qo ?_ | refine Qp ?_ | refine Qq ?_ | fail)
  refine SXL.call rfl rfl rfl ?_
  refine (RSealed_S (strOfNums ((bytesOf x).take m)) (by rw [size_strOfNums, List.length_take]; omega) (callK.ret ?_))
  have hb : bytesB ((bytesOf x).take m) = true := bytesB_take _ _ (bytesOf_range x)
  rw [bytesOf_strOfNums _ hb]
  have hst : ((strOfNums (sealM ((bytesOf x).take m))).toList == x.toList) = decide (sealM ((bytesOf x).take m) = bytesOf x) := by
    rw [Bool.eq_iff_iff, toList_iff', decide_eq_true_iff]
    constructor
    · intro h7; have h8 := congrArg bytesOf h7; rwa [bytesOf_strOfNums _ (sealB hb)] at h8
    · intro h7; rw [h7, strOfNums_bytesOf]
  change K (.returned (.bool (decide (sealM ((bytesOf x).take m) = bytesOf x)))) F at h
  rw [← hst] at h
  repeat (first | refine Qa ?_ | refine Qb ?_ | refine Qc ?_ | refine Qd ?_ | refine Qe ?_ | refine Qf ?_ | refine Qg ?_ | refine Qh ?_ | refine Qi ?_ | refine Qj ?_ | refine Qk ?_ | refine Ql ?_ | refine Qm ?_ | refine Qn ?_ | refine Qo ?_ | refine Qp ?_ | refine Qq ?_ | fail)
  refine SX.ret (M' := F) rfl (Evals.tmp rfl Evals.nil) ?_ inferInstance
  exact h

set_option maxHeartbeats 1000000 in
set_option maxRecDepth 20000 in
theorem Rword_S (x : ByteArray) (hx : x.size ≤ 4000000) (h : ∀ r n, getCt (bytesOf x) = (r, n) → K (.returned (.tuple #[.agg (rtC r).toArray, .int .i64 n])) F) : Fn (Tryz.prog) 30 [.string x] F K := by
  have hxl := bytesOf_length x
  unfold getCt getFs at h
  refine Fn.enter Tryz.call30 Tryz.func30 rfl rfl rfl ?_
  repeat (first | refine Qa ?_ | refine Qb ?_ | refine Qc ?_ | refine Qd ?_ | refine Qe ?_ | refine Qf ?_ | refine Qg ?_ | refine Qh ?_ | refine Qi ?_ | refine Qj ?_ | refine Qk ?_ | refine Ql ?_ | refine Qm ?_ | refine Qn ?_ | refine Qo ?_ | refine Qp ?_ | refine Qq ?_ | fail)
  refine SXL.alloc rfl rfl (fun q => ?_)
  repeat (first | refine Qa ?_ | refine Qb ?_ | refine Qc ?_ | refine Qd ?_ | refine Qe ?_ | refine Qf ?_ | refine Qg ?_ | refine Qh ?_ | refine Qi ?_ | refine Qj ?_ | refine Qk ?_ | refine Ql ?_ | refine Qm ?_ | refine Qn ?_ | refine Qo ?_ | refine Qp ?_ | refine Qq ?_ | fail)
  refine SXL.alloc rfl rfl (fun b => ?_)
  repeat (first | refine Qa ?_ | refine Qb ?_ | refine Qc ?_ | refine Qd ?_ | refine Qe ?_ | refine Qf ?_ | refine Qg ?_ | refine Qh ?_ | refine Qi ?_ | refine Qj ?_ | refine Qk ?_ | refine Ql ?_ | refine Qm ?_ | refine Qn ?_ | refine Qo ?_ | refine Qp ?_ | refine Qq ?_ | fail)
  refine SXL.call rfl rfl rfl ?_
  refine (Read32_S x 0 (by omega) (fun x1 y1 e1 h1 => callK.ret ?_))
  have b1 := rdM_rest (bytesOf x) 0 4 (bytesOf_range x)
  have l1 := rdM_le (bytesOf x) 0 4
  rw [h1] at b1 l1
  dsimp only at b1 l1
  repeat (first | refine Qa ?_ | refine Qb ?_ | refine Qc ?_ | refine Qd ?_ | refine Qe ?_ | refine Qf ?_ | refine Qg ?_ | refine Qh ?_ | refine Qi ?_ | refine Qj ?_ | refine Qk ?_ | refine Ql ?_ | refine Qm ?_ | refine Qn ?_ | refine Qo ?_ | refine Qp ?_ | refine Qq ?_ | fail)
  refine SXL.alloc rfl rfl (fun p => ?_)
  repeat (first | refine Qa ?_ | refine Qb ?_ | refine Qc ?_ | refine Qd ?_ | refine Qe ?_ | refine Qf ?_ | refine Qg ?_ | refine Qh ?_ | refine Qi ?_ | refine Qj ?_ | refine Qk ?_ | refine Ql ?_ | refine Qm ?_ | refine Qn ?_ | refine Qo ?_ | refine Qp ?_ | refine Qq ?_ | fail)
  refine SXL.call rfl rfl rfl ?_
  refine (Read64_S (strOfNums y1) e1 (by rw [size_strOfNums]; omega) (fun x2 y2 e2 h2 => callK.ret ?_))
  rw [bytesOf_strOfNums _ b1] at h2
  have b2 := rdM_rest y1 e1 8 b1
  have l2 := rdM_le y1 e1 8
  rw [h2] at b2 l2
  dsimp only at b2 l2
  repeat (first | refine Qa ?_ | refine Qb ?_ | refine Qc ?_ | refine Qd ?_ | refine Qe ?_ | refine Qf ?_ | refine Qg ?_ | refine Qh ?_ | refine Qi ?_ | refine Qj ?_ | refine Qk ?_ | refine Ql ?_ | refine Qm ?_ | refine Qn ?_ | refine Qo ?_ | refine Qp ?_ | refine Qq ?_ | fail)
  refine SXL.call rfl rfl rfl ?_
  refine (Read64_S (strOfNums y2) e2 (by rw [size_strOfNums]; omega) (fun x3 y3 e3 h3 => callK.ret ?_))
  rw [bytesOf_strOfNums _ b2] at h3
  have b3 := rdM_rest y2 e2 8 b2
  have l3 := rdM_le y2 e2 8
  rw [h3] at b3 l3
  dsimp only at b3 l3
  repeat (first | refine Qa ?_ | refine Qb ?_ | refine Qc ?_ | refine Qd ?_ | refine Qe ?_ | refine Qf ?_ | refine Qg ?_ | refine Qh ?_ | refine Qi ?_ | refine Qj ?_ | refine Qk ?_ | refine Ql ?_ | refine Qm ?_ | refine Qn ?_ | refine Qo ?_ | refine Qp ?_ | refine Qq ?_ | fail)
  refine SXL.call rfl rfl rfl ?_
  refine (Read32_S (strOfNums y3) e3 (by rw [size_strOfNums]; omega) (fun x4 y4 e4 h4 => callK.ret ?_))
  rw [bytesOf_strOfNums _ b3] at h4
  have b4 := rdM_rest y3 e3 4 b3
  have l4 := rdM_le y3 e3 4
  rw [h4] at b4 l4
  dsimp only at b4 l4
  repeat (first | refine Qa ?_ | refine Qb ?_ | refine Qc ?_ | refine Qd ?_ | refine Qe ?_ | refine Qf ?_ | refine Qg ?_ | refine Qh ?_ | refine Qi ?_ | refine Qj ?_ | refine Qk ?_ | refine Ql ?_ | refine Qm ?_ | refine Qn ?_ | refine Qo ?_ | refine Qp ?_ | refine Qq ?_ | fail)
  refine SXL.call rfl rfl rfl ?_
  refine (ReadOpaque_S (strOfNums y4) e4 1024 (by rw [size_strOfNums]; omega) (by decide) (by decide) (fun x5 y5 e5 h5 => callK.ret ?_))
  rw [bytesOf_strOfNums _ b4] at h5
  have b5 := opM_rest y4 e4 1024 b4
  have l5 := opM_le y4 e4 1024
  obtain ⟨d5, z5⟩ := opM_bytes b4 (by decide) h5
  rw [h5] at b5 l5
  dsimp only at b5 l5
  repeat (first | refine Qa ?_ | refine Qb ?_ | refine Qc ?_ | refine Qd ?_ | refine Qe ?_ | refine Qf ?_ | refine Qg ?_ | refine Qh ?_ | refine Qi ?_ | refine Qj ?_ | refine Qk ?_ | refine Ql ?_ | refine Qm ?_ | refine Qn ?_ | refine Qo ?_ | refine Qp ?_ | refine Qq ?_ | fail)
  have hF : rdFs ctF (bytesOf x) 0 = ([.i x1, .i x2, .i x3, .i x4, .b x5], y5, e5) := by
    simp only [rdFs, ctF, rdF, show rdM (bytesOf x) 0 4 = _ from h1, show rdM y1 e1 8 = _ from h2, show rdM y2 e2 8 = _ from h3, show rdM y3 e3 4 = _ from h4, show opM y4 e4 ((1024 : Nat) : Int) = _ from h5]
  rw [hF] at h
  dsimp only [ctOf] at h
  refine SXL.call rfl rfl rfl ?_
  refine (REnd01_S y5 e5 (callK.ret ?_))
  repeat (first | refine Qa ?_ | refine Qb ?_ | refine Qc ?_ | refine Qd ?_ | refine Qe ?_ | refine Qf ?_ | refine Qg ?_ | refine Qh ?_ | refine Qi ?_ | refine Qj ?_ | refine Qk ?_ | refine Ql ?_ | refine Qm ?_ | refine Qn ?_ | refine Qo ?_ | refine Qp ?_ | refine Qq ?_ | fail)
  refine SX.cond rfl (fun he => ?_) (fun he => ?_)
  · have he' : endM y5 e5 ≠ 0 := by simpa using he
    rw [if_pos he'] at h
    repeat (first | refine Qa ?_ | refine Qb ?_ | refine Qc ?_ | refine Qd ?_ | refine Qe ?_ | refine Qf ?_ | refine Qg ?_ | refine Qh ?_ | refine Qi ?_ | refine Qj ?_ | refine Qk ?_ | refine Ql ?_ | refine Qm ?_ | refine Qn ?_ | refine Qo ?_ | refine Qp ?_ | refine Qq ?_ | fail)
    refine SX.ret (M' := F) rfl (Evals.cell rfl inferInstance rfl (Evals.tmp rfl Evals.nil)) ?_ inferInstance
    exact h _ _ rfl
  have he' : endM y5 e5 = 0 := by simpa using he
  rw [if_neg (by rw [he']; decide)] at h
  repeat (first | refine Qa ?_ | refine Qb ?_ | refine Qc ?_ | refine Qd ?_ | refine Qe ?_ | refine Qf ?_ | refine Qg ?_ | refine Qh ?_ | refine Qi ?_ | refine Qj ?_ | refine Qk ?_ | refine Ql ?_ | refine Qm ?_ | refine Qn ?_ | refine Qo ?_ | refine Qp ?_ | refine Qq ?_ | fail)
  refine SXL.split (s := 56) rfl (fun k1 => ?_) (fun k1 => ?_)
  · have k1' := of_decide_eq_true k1
    repeat (first | refine Qa ?_ | refine Qb ?_ | refine Qc ?_ | refine Qd ?_ | refine Qe ?_ | refine Qf ?_ | refine Qg ?_ | refine Qh ?_ | refine Qi ?_ | refine Qj ?_ | refine Qk ?_ | refine Ql ?_ | refine Qm ?_ | refine Qn ?_ | refine Qo ?_ | refine Qp ?_ | refine Qq ?_ | fail)
    refine SX.ret (M' := F) rfl (Evals.cell rfl inferInstance rfl (Evals.tmp rfl Evals.nil)) ?_ inferInstance
    exact h Ctl0 11 (if_neg (by show ¬ wordB x1 = true; unfold wordB; simp; omega))
  have k1' := of_decide_eq_false k1
  repeat (first | refine Qa ?_ | refine Qb ?_ | refine Qc ?_ | refine Qd ?_ | refine Qe ?_ | refine Qf ?_ | refine Qg ?_ | refine Qh ?_ | refine Qi ?_ | refine Qj ?_ | refine Qk ?_ | refine Ql ?_ | refine Qm ?_ | refine Qn ?_ | refine Qo ?_ | refine Qp ?_ | refine Qq ?_ | fail)
  refine SX.condp rfl (fun k2 => ?_) (fun k2 => ?_)
  · repeat (first | refine Qa ?_ | refine Qb ?_ | refine Qc ?_ | refine Qd ?_ | refine Qe ?_ | refine Qf ?_ | refine Qg ?_ | refine Qh ?_ | refine Qi ?_ | refine Qj ?_ | refine Qk ?_ | refine Ql ?_ | refine Qm ?_ | refine Qn ?_ | refine Qo ?_ | refine Qp ?_ | refine Qq ?_ | fail)
    refine SX.ret (M' := F) rfl (Evals.cell rfl inferInstance rfl (Evals.tmp rfl Evals.nil)) ?_ inferInstance
    exact h Ctl0 11 (if_neg (by show ¬ wordB x1 = true; unfold wordB; simp; omega))
  · repeat (first | refine Qa ?_ | refine Qb ?_ | refine Qc ?_ | refine Qd ?_ | refine Qe ?_ | refine Qf ?_ | refine Qg ?_ | refine Qh ?_ | refine Qi ?_ | refine Qj ?_ | refine Qk ?_ | refine Ql ?_ | refine Qm ?_ | refine Qn ?_ | refine Qo ?_ | refine Qp ?_ | refine Qq ?_ | fail)
    refine SX.ret (M' := F) rfl (Evals.cell rfl inferInstance rfl (Evals.tmp rfl Evals.nil)) ?_ inferInstance
    exact h ⟨x1, x2, x3, x4, x5⟩ 0 (if_pos (by show wordB x1 = true; unfold wordB; simp; omega))
set_option maxHeartbeats 1000000 in
set_option maxRecDepth 20000 in
theorem RGet16_S (x : ByteArray) (hx : x.size ≤ 1000000) (h : ∀ r n, getMs (bytesOf x) = (r, n) → ∀ B' c2, r.r.e.length ≤ c2 → K (.returned (.tuple #[.agg (mrC r B' c2).toArray, .int .i64 n])) (.own B' (rowR kE 131 (.slice B' r.r.e.length c2) r.r.e) :: F)) : Fn (Tryz.prog) 7 [.string x] F K := by
  have hxl := bytesOf_length x
  unfold getMs at h
  refine Fn.enter Tryz.call7 Tryz.func7 rfl rfl rfl ?_
  repeat (first | refine Qa ?_ | refine Qb ?_ | refine Qc ?_ | refine Qd ?_ | refine Qe ?_ | refine Qf ?_ | refine Qg ?_ | refine Qh ?_ | refine Qi ?_ | refine Qj ?_ | refine Qk ?_ | refine Ql ?_ | refine Qm ?_ | refine Qn ?_ | refine Qo ?_ | refine Qp ?_ | refine Qq ?_ | fail)
  refine SXL.alloc rfl rfl (fun q => ?_)
  repeat (first | refine Qa ?_ | refine Qb ?_ | refine Qc ?_ | refine Qd ?_ | refine Qe ?_ | refine Qf ?_ | refine Qg ?_ | refine Qh ?_ | refine Qi ?_ | refine Qj ?_ | refine Qk ?_ | refine Ql ?_ | refine Qm ?_ | refine Qn ?_ | refine Qo ?_ | refine Qp ?_ | refine Qq ?_ | fail)
  refine SXL.call rfl rfl rfl ?_
  refine (RRight_S x hx (callK.ret ?_))
  repeat (first | refine Qa ?_ | refine Qb ?_ | refine Qc ?_ | refine Qd ?_ | refine Qe ?_ | refine Qf ?_ | refine Qg ?_ | refine Qh ?_ | refine Qi ?_ | refine Qj ?_ | refine Qk ?_ | refine Ql ?_ | refine Qm ?_ | refine Qn ?_ | refine Qo ?_ | refine Qp ?_ | refine Qq ?_ | fail)
  refine SX.cond rfl (fun hR => ?_) (fun hR => ?_)
  · have hR' : rightB (bytesOf x) = false := by simpa using hR
    rw [if_pos hR'] at h
    repeat (first | refine Qa ?_ | refine Qb ?_ | refine Qc ?_ | refine Qd ?_ | refine Qe ?_ | refine Qf ?_ | refine Qg ?_ | refine Qh ?_ | refine Qi ?_ | refine Qj ?_ | refine Qk ?_ | refine Ql ?_ | refine Qm ?_ | refine Qn ?_ | refine Qo ?_ | refine Qp ?_ | refine Qq ?_ | fail)
    refine SX.ret (M' := (.own none (rowR kE 131 (.slice none ([] : List Ent).length 0) []) :: F)) rfl (Evals.cell rfl inferInstance rfl (Evals.tmp rfl Evals.nil)) ?_ inferInstance
    exact h _ _ rfl none 0 (Nat.le_refl _)
  have hR' : rightB (bytesOf x) = true := by simpa using hR
  rw [if_neg (by rw [hR']; decide)] at h
  have h4 : 4 ≤ (bytesOf x).length := by unfold rightB at hR'; simp only [Bool.and_eq_true, decide_eq_true_eq] at hR'; exact hR'.1
  obtain ⟨m, hm⟩ : ∃ m : Nat, x.size = m + 4 := ⟨x.size - 4, by omega⟩
  have hbd : bodyM (bytesOf x) = (bytesOf x).take m := by unfold bodyM; rw [show (bytesOf x).length - 4 = m by omega]
  rw [hbd] at h
  obtain ⟨y0, hy0⟩ : ∃ y, y = (bytesOf x).take m := ⟨_, rfl⟩
  have b0 : bytesB y0 = true := by rw [hy0]; exact bytesB_take _ _ (bytesOf_range x)
  have l0 : y0.length ≤ 1000000 := by rw [hy0, List.length_take]; omega
  unfold getFs at h
  repeat (first | refine Qa ?_ | refine Qb ?_ | refine Qc ?_ | refine Qd ?_ | refine Qe ?_ | refine Qf ?_ | refine Qg ?_ | refine Qh ?_ | refine Qi ?_ | refine Qj ?_ | refine Qk ?_ | refine Ql ?_ | refine Qm ?_ | refine Qn ?_ | refine Qo ?_ | refine Qp ?_ | refine Qq ?_ | fail)
  have hwr : IntKind.i64.wrap ((x.size : Int) - 4) = (m : Int) := by rw [IntWalk.i64_in _ (by omega)]; omega
  refine SXL.same 25 (.int .i64 (m : Int)) rfl (by rw [hwr]) ?_
  refine SXL.cutStr rfl rfl rfl rfl rfl (by omega) (by omega) (by omega) rfl ?_
  refine SXL.same 26 (.string (strOfNums y0)) rfl (by rw [cutB', hy0]) ?_
  rw [← hy0] at h
  repeat (first | refine Qa ?_ | refine Qb ?_ | refine Qc ?_ | refine Qd ?_ | refine Qe ?_ | refine Qf ?_ | refine Qg ?_ | refine Qh ?_ | refine Qi ?_ | refine Qj ?_ | refine Qk ?_ | refine Ql ?_ | refine Qm ?_ | refine Qn ?_ | refine Qo ?_ | refine Qp ?_ | refine Qq ?_ | fail)
  refine SXL.call rfl rfl rfl ?_
  refine (Read32_S (strOfNums y0) 0 (by rw [size_strOfNums]; omega) (fun x1 y1 e1 h1 => callK.ret ?_))
  rw [bytesOf_strOfNums _ b0] at h1
  have b1 := rdM_rest y0 0 4 b0
  have l1 := rdM_le y0 0 4
  rw [h1] at b1 l1
  dsimp only at b1 l1
  repeat (first | refine Qa ?_ | refine Qb ?_ | refine Qc ?_ | refine Qd ?_ | refine Qe ?_ | refine Qf ?_ | refine Qg ?_ | refine Qh ?_ | refine Qi ?_ | refine Qj ?_ | refine Qk ?_ | refine Ql ?_ | refine Qm ?_ | refine Qn ?_ | refine Qo ?_ | refine Qp ?_ | refine Qq ?_ | fail)
  refine SXL.alloc rfl rfl (fun p => ?_)
  repeat (first | refine Qa ?_ | refine Qb ?_ | refine Qc ?_ | refine Qd ?_ | refine Qe ?_ | refine Qf ?_ | refine Qg ?_ | refine Qh ?_ | refine Qi ?_ | refine Qj ?_ | refine Qk ?_ | refine Ql ?_ | refine Qm ?_ | refine Qn ?_ | refine Qo ?_ | refine Qp ?_ | refine Qq ?_ | fail)
  refine SXL.call rfl rfl rfl ?_
  refine (ReadOpaque_S (strOfNums y1) e1 4096 (by rw [size_strOfNums]; omega) (by decide) (by decide) (fun x2 y2 e2 h2 => callK.ret ?_))
  rw [bytesOf_strOfNums _ b1] at h2
  have b2 := opM_rest y1 e1 4096 b1
  have l2 := opM_le y1 e1 4096
  obtain ⟨d2, z2⟩ := opM_bytes b1 (by decide) h2
  rw [h2] at b2 l2
  dsimp only at b2 l2
  repeat (first | refine Qa ?_ | refine Qb ?_ | refine Qc ?_ | refine Qd ?_ | refine Qe ?_ | refine Qf ?_ | refine Qg ?_ | refine Qh ?_ | refine Qi ?_ | refine Qj ?_ | refine Qk ?_ | refine Ql ?_ | refine Qm ?_ | refine Qn ?_ | refine Qo ?_ | refine Qp ?_ | refine Qq ?_ | fail)
  refine SXL.call rfl rfl rfl ?_
  refine (REnd01_S y2 e2 (callK.ret ?_))
  have hF : rdFs msF y0 0 = ([.i x1, .b x2], y2, e2) := by
    simp only [rdFs, msF, rdF, show rdM y0 0 4 = _ from h1, show opM y1 e1 ((4096 : Nat) : Int) = _ from h2]
  rw [hF] at h
  dsimp only [kOf] at h
  repeat (first | refine Qa ?_ | refine Qb ?_ | refine Qc ?_ | refine Qd ?_ | refine Qe ?_ | refine Qf ?_ | refine Qg ?_ | refine Qh ?_ | refine Qi ?_ | refine Qj ?_ | refine Qk ?_ | refine Ql ?_ | refine Qm ?_ | refine Qn ?_ | refine Qo ?_ | refine Qp ?_ | refine Qq ?_ | fail)
  refine SX.cond rfl (fun he => ?_) (fun he => ?_)
  · have he' : endM y2 e2 ≠ 0 := by simpa using he
    rw [if_pos he'] at h
    repeat (first | refine Qa ?_ | refine Qb ?_ | refine Qc ?_ | refine Qd ?_ | refine Qe ?_ | refine Qf ?_ | refine Qg ?_ | refine Qh ?_ | refine Qi ?_ | refine Qj ?_ | refine Qk ?_ | refine Ql ?_ | refine Qm ?_ | refine Qn ?_ | refine Qo ?_ | refine Qp ?_ | refine Qq ?_ | fail)
    refine SX.ret (M' := (.own none (rowR kE 131 (.slice none ([] : List Ent).length 0) []) :: F)) rfl (Evals.cell rfl inferInstance rfl (Evals.tmp rfl Evals.nil)) ?_ inferInstance
    exact h _ _ rfl none 0 (Nat.le_refl _)
  have he' : endM y2 e2 = 0 := by simpa using he
  rw [if_neg (by rw [he']; decide)] at h
  repeat (first | refine Qa ?_ | refine Qb ?_ | refine Qc ?_ | refine Qd ?_ | refine Qe ?_ | refine Qf ?_ | refine Qg ?_ | refine Qh ?_ | refine Qi ?_ | refine Qj ?_ | refine Qk ?_ | refine Ql ?_ | refine Qm ?_ | refine Qn ?_ | refine Qo ?_ | refine Qp ?_ | refine Qq ?_ | fail)
  refine SXL.alloc rfl rfl (fun b9 => ?_)
  repeat (first | refine Qa ?_ | refine Qb ?_ | refine Qc ?_ | refine Qd ?_ | refine Qe ?_ | refine Qf ?_ | refine Qg ?_ | refine Qh ?_ | refine Qi ?_ | refine Qj ?_ | refine Qk ?_ | refine Ql ?_ | refine Qm ?_ | refine Qn ?_ | refine Qo ?_ | refine Qp ?_ | refine Qq ?_ | fail)
  by_cases k1 : x1 = 1
  · subst k1
    repeat (first | refine Qa ?_ | refine Qb ?_ | refine Qc ?_ | refine Qd ?_ | refine Qe ?_ | refine Qf ?_ | refine Qg ?_ | refine Qh ?_ | refine Qi ?_ | refine Qj ?_ | refine Qk ?_ | refine Ql ?_ | refine Qm ?_ | refine Qn ?_ | refine Qo ?_ | refine Qp ?_ | refine Qq ?_ | fail)
    refine SXL.call rfl rfl rfl ?_
    refine (RGetCall_S (strOfNums x2) (by rw [size_strOfNums]; omega) (fun r n hg5 => callK.ret ?_))
    rw [bytesOf_strOfNums _ d2] at hg5
    rw [opnM_1 hg5] at h
    repeat (first | refine Qa ?_ | refine Qb ?_ | refine Qc ?_ | refine Qd ?_ | refine Qe ?_ | refine Qf ?_ | refine Qg ?_ | refine Qh ?_ | refine Qi ?_ | refine Qj ?_ | refine Qk ?_ | refine Ql ?_ | refine Qm ?_ | refine Qn ?_ | refine Qo ?_ | refine Qp ?_ | refine Qq ?_ | fail)
    refine SXL.alloc rfl rfl (fun b5 => ?_)
    repeat (first | refine Qa ?_ | refine Qb ?_ | refine Qc ?_ | refine Qd ?_ | refine Qe ?_ | refine Qf ?_ | refine Qg ?_ | refine Qh ?_ | refine Qi ?_ | refine Qj ?_ | refine Qk ?_ | refine Ql ?_ | refine Qm ?_ | refine Qn ?_ | refine Qo ?_ | refine Qp ?_ | refine Qq ?_ | fail)
    refine SX.cond rfl (fun hn => ?_) (fun hn => ?_)
    · have hn' : n ≠ 0 := by simpa using hn
      rw [finM_bad hn'] at h
      repeat (first | refine Qa ?_ | refine Qb ?_ | refine Qc ?_ | refine Qd ?_ | refine Qe ?_ | refine Qf ?_ | refine Qg ?_ | refine Qh ?_ | refine Qi ?_ | refine Qj ?_ | refine Qk ?_ | refine Ql ?_ | refine Qm ?_ | refine Qn ?_ | refine Qo ?_ | refine Qp ?_ | refine Qq ?_ | fail)
      refine SX.ret (M' := (.own none (rowR kE 131 (.slice none ([] : List Ent).length 0) []) :: F)) rfl (Evals.cell rfl inferInstance rfl (Evals.tmp rfl Evals.nil)) ?_ inferInstance
      exact h _ _ rfl none 0 (Nat.le_refl _)
    · obtain rfl : n = 0 := by simpa using hn
      rw [finM_ok] at h
      repeat (first | refine Qa ?_ | refine Qb ?_ | refine Qc ?_ | refine Qd ?_ | refine Qe ?_ | refine Qf ?_ | refine Qg ?_ | refine Qh ?_ | refine Qi ?_ | refine Qj ?_ | refine Qk ?_ | refine Ql ?_ | refine Qm ?_ | refine Qn ?_ | refine Qo ?_ | refine Qp ?_ | refine Qq ?_ | fail)
      refine SX.ret (M' := (.own none (rowR kE 131 (.slice none ([] : List Ent).length 0) []) :: F)) rfl (Evals.cell rfl inferInstance rfl (Evals.tmp rfl Evals.nil)) ?_ inferInstance
      exact h ⟨1, r, Re0, Ctl0⟩ 0 rfl none 0 (Nat.le_refl _)
  have k1' : (x1 == 1) = false := by simpa using k1
  by_cases k2 : x1 = 2
  · subst k2
    repeat (first | refine Qa ?_ | refine Qb ?_ | refine Qc ?_ | refine Qd ?_ | refine Qe ?_ | refine Qf ?_ | refine Qg ?_ | refine Qh ?_ | refine Qi ?_ | refine Qj ?_ | refine Qk ?_ | refine Ql ?_ | refine Qm ?_ | refine Qn ?_ | refine Qo ?_ | refine Qp ?_ | refine Qq ?_ | fail)
    refine SXL.call rfl rfl rfl ?_
    refine (RGetReply_S (strOfNums x2) (by rw [size_strOfNums]; omega) (fun r n hg5 B5 d5 hd5 => callK.ret ?_))
    rw [bytesOf_strOfNums _ d2] at hg5
    rw [opnM_2 hg5] at h
    repeat (first | refine Qa ?_ | refine Qb ?_ | refine Qc ?_ | refine Qd ?_ | refine Qe ?_ | refine Qf ?_ | refine Qg ?_ | refine Qh ?_ | refine Qi ?_ | refine Qj ?_ | refine Qk ?_ | refine Ql ?_ | refine Qm ?_ | refine Qn ?_ | refine Qo ?_ | refine Qp ?_ | refine Qq ?_ | fail)
    refine SXL.alloc rfl rfl (fun b5 => ?_)
    repeat (first | refine Qa ?_ | refine Qb ?_ | refine Qc ?_ | refine Qd ?_ | refine Qe ?_ | refine Qf ?_ | refine Qg ?_ | refine Qh ?_ | refine Qi ?_ | refine Qj ?_ | refine Qk ?_ | refine Ql ?_ | refine Qm ?_ | refine Qn ?_ | refine Qo ?_ | refine Qp ?_ | refine Qq ?_ | fail)
    refine SX.cond rfl (fun hn => ?_) (fun hn => ?_)
    · have hn' : n ≠ 0 := by simpa using hn
      rw [finM_bad hn'] at h
      repeat (first | refine Qa ?_ | refine Qb ?_ | refine Qc ?_ | refine Qd ?_ | refine Qe ?_ | refine Qf ?_ | refine Qg ?_ | refine Qh ?_ | refine Qi ?_ | refine Qj ?_ | refine Qk ?_ | refine Ql ?_ | refine Qm ?_ | refine Qn ?_ | refine Qo ?_ | refine Qp ?_ | refine Qq ?_ | fail)
      refine SX.ret (M' := (.own none (rowR kE 131 (.slice none ([] : List Ent).length 0) []) :: F)) rfl (Evals.cell rfl inferInstance rfl (Evals.tmp rfl Evals.nil)) ?_ inferInstance
      exact h _ _ rfl none 0 (Nat.le_refl _)
    · obtain rfl : n = 0 := by simpa using hn
      rw [finM_ok] at h
      repeat (first | refine Qa ?_ | refine Qb ?_ | refine Qc ?_ | refine Qd ?_ | refine Qe ?_ | refine Qf ?_ | refine Qg ?_ | refine Qh ?_ | refine Qi ?_ | refine Qj ?_ | refine Qk ?_ | refine Ql ?_ | refine Qm ?_ | refine Qn ?_ | refine Qo ?_ | refine Qp ?_ | refine Qq ?_ | fail)
      refine SX.ret (M' := (.own B5 (rowR kE 131 (.slice B5 r.e.length d5) r.e) :: F)) rfl (Evals.cell rfl inferInstance rfl (Evals.tmp rfl Evals.nil)) ?_ inferInstance
      exact h ⟨2, Ca0, r, Ctl0⟩ 0 rfl B5 d5 hd5
  by_cases k3 : x1 = 3
  · subst k3
    repeat (first | refine Qa ?_ | refine Qb ?_ | refine Qc ?_ | refine Qd ?_ | refine Qe ?_ | refine Qf ?_ | refine Qg ?_ | refine Qh ?_ | refine Qi ?_ | refine Qj ?_ | refine Qk ?_ | refine Ql ?_ | refine Qm ?_ | refine Qn ?_ | refine Qo ?_ | refine Qp ?_ | refine Qq ?_ | fail)
    refine SXL.call rfl rfl rfl ?_
    refine (Rword_S (strOfNums x2) (by rw [size_strOfNums]; omega) (fun r n hg5 => callK.ret ?_))
    rw [bytesOf_strOfNums _ d2] at hg5
    rw [opnM_3 hg5] at h
    repeat (first | refine Qa ?_ | refine Qb ?_ | refine Qc ?_ | refine Qd ?_ | refine Qe ?_ | refine Qf ?_ | refine Qg ?_ | refine Qh ?_ | refine Qi ?_ | refine Qj ?_ | refine Qk ?_ | refine Ql ?_ | refine Qm ?_ | refine Qn ?_ | refine Qo ?_ | refine Qp ?_ | refine Qq ?_ | fail)
    refine SXL.alloc rfl rfl (fun b5 => ?_)
    repeat (first | refine Qa ?_ | refine Qb ?_ | refine Qc ?_ | refine Qd ?_ | refine Qe ?_ | refine Qf ?_ | refine Qg ?_ | refine Qh ?_ | refine Qi ?_ | refine Qj ?_ | refine Qk ?_ | refine Ql ?_ | refine Qm ?_ | refine Qn ?_ | refine Qo ?_ | refine Qp ?_ | refine Qq ?_ | fail)
    refine SX.cond rfl (fun hn => ?_) (fun hn => ?_)
    · have hn' : n ≠ 0 := by simpa using hn
      rw [finM_bad hn'] at h
      repeat (first | refine Qa ?_ | refine Qb ?_ | refine Qc ?_ | refine Qd ?_ | refine Qe ?_ | refine Qf ?_ | refine Qg ?_ | refine Qh ?_ | refine Qi ?_ | refine Qj ?_ | refine Qk ?_ | refine Ql ?_ | refine Qm ?_ | refine Qn ?_ | refine Qo ?_ | refine Qp ?_ | refine Qq ?_ | fail)
      refine SX.ret (M' := (.own none (rowR kE 131 (.slice none ([] : List Ent).length 0) []) :: F)) rfl (Evals.cell rfl inferInstance rfl (Evals.tmp rfl Evals.nil)) ?_ inferInstance
      exact h _ _ rfl none 0 (Nat.le_refl _)
    · obtain rfl : n = 0 := by simpa using hn
      rw [finM_ok] at h
      repeat (first | refine Qa ?_ | refine Qb ?_ | refine Qc ?_ | refine Qd ?_ | refine Qe ?_ | refine Qf ?_ | refine Qg ?_ | refine Qh ?_ | refine Qi ?_ | refine Qj ?_ | refine Qk ?_ | refine Ql ?_ | refine Qm ?_ | refine Qn ?_ | refine Qo ?_ | refine Qp ?_ | refine Qq ?_ | fail)
      refine SX.ret (M' := (.own none (rowR kE 131 (.slice none ([] : List Ent).length 0) []) :: F)) rfl (Evals.cell rfl inferInstance rfl (Evals.tmp rfl Evals.nil)) ?_ inferInstance
      exact h ⟨3, Ca0, Re0, r⟩ 0 rfl none 0 (Nat.le_refl _)
  rw [opnM_no k1 k2 k3, finM_bad (by decide)] at h
  refine SX.cond rfl (fun hn => ?_) (fun hn => ?_)
  · exact absurd (by simpa using hn) k1
  repeat (first | refine Qa ?_ | refine Qb ?_ | refine Qc ?_ | refine Qd ?_ | refine Qe ?_ | refine Qf ?_ | refine Qg ?_ | refine Qh ?_ | refine Qi ?_ | refine Qj ?_ | refine Qk ?_ | refine Ql ?_ | refine Qm ?_ | refine Qn ?_ | refine Qo ?_ | refine Qp ?_ | refine Qq ?_ | fail)
  refine SX.cond rfl (fun hn => ?_) (fun hn => ?_)
  · exact absurd (by simpa using hn) k2
  repeat (first | refine Qa ?_ | refine Qb ?_ | refine Qc ?_ | refine Qd ?_ | refine Qe ?_ | refine Qf ?_ | refine Qg ?_ | refine Qh ?_ | refine Qi ?_ | refine Qj ?_ | refine Qk ?_ | refine Ql ?_ | refine Qm ?_ | refine Qn ?_ | refine Qo ?_ | refine Qp ?_ | refine Qq ?_ | fail)
  refine SX.cond rfl (fun hn => ?_) (fun hn => ?_)
  · exact absurd (by simpa using hn) k3
  repeat (first | refine Qa ?_ | refine Qb ?_ | refine Qc ?_ | refine Qd ?_ | refine Qe ?_ | refine Qf ?_ | refine Qg ?_ | refine Qh ?_ | refine Qi ?_ | refine Qj ?_ | refine Qk ?_ | refine Ql ?_ | refine Qm ?_ | refine Qn ?_ | refine Qo ?_ | refine Qp ?_ | refine Qq ?_ | fail)
  refine SX.ret (M' := (.own none (rowR kE 131 (.slice none ([] : List Ent).length 0) []) :: F)) rfl (Evals.cell rfl inferInstance rfl (Evals.tmp rfl Evals.nil)) ?_ inferInstance
  exact h _ _ rfl none 0 (Nat.le_refl _)
set_option maxHeartbeats 1000000 in
set_option maxRecDepth 20000 in
theorem WireGets_S {l : List Int} {sl : Bool} (hr : Ro (Kd.int .u8) A F l) (hc : l.length ≤ c) (hb : bytesB l = true) (h : K (.returned (.bool true)) F) :
    Fn (Tryz.prog) 3 [.slice A l.length c, .bool sl] F K := by
  refine Fn.enter Tryz.call3 Tryz.func3 rfl rfl rfl ?_
  repeat (first | refine Qa ?_ | refine Qb ?_ | refine Qc ?_ | refine Qd ?_ | refine Qe ?_ | refine Qf ?_ | refine Qg ?_ | refine Qh ?_ | refine Qi ?_ | refine Qj ?_ | refine Qk ?_ | refine Ql ?_ | refine Qm ?_ | refine Qn ?_ | refine Qo ?_ | refine Qp ?_ | refine Qq ?_ | fail)
  refine SXL.call rfl rfl rfl ?_
  refine (awake16_S (callK.ret ?_))
  repeat (first | refine Qa ?_ | refine Qb ?_ | refine Qc ?_ | refine Qd ?_ | refine Qe ?_ | refine Qf ?_ | refine Qg ?_ | refine Qh ?_ | refine Qi ?_ | refine Qj ?_ | refine Qk ?_ | refine Ql ?_ | refine Qm ?_ | refine Qn ?_ | refine Qo ?_ | refine Qp ?_ | refine Qq ?_ | fail)
  refine SX.condp rfl (fun hl => ?_) (fun hl => ?_)
  · repeat (first | refine Qa ?_ | refine Qb ?_ | refine Qc ?_ | refine Qd ?_ | refine Qe ?_ | refine Qf ?_ | refine Qg ?_ | refine Qh ?_ | refine Qi ?_ | refine Qj ?_ | refine Qk ?_ | refine Ql ?_ | refine Qm ?_ | refine Qn ?_ | refine Qo ?_ | refine Qp ?_ | refine Qq ?_ | fail)
    refine SX.ret (M' := F) rfl (Evals.tmp rfl Evals.nil) ?_ inferInstance
    exact h
  repeat (first | refine Qa ?_ | refine Qb ?_ | refine Qc ?_ | refine Qd ?_ | refine Qe ?_ | refine Qf ?_ | refine Qg ?_ | refine Qh ?_ | refine Qi ?_ | refine Qj ?_ | refine Qk ?_ | refine Ql ?_ | refine Qm ?_ | refine Qn ?_ | refine Qo ?_ | refine Qp ?_ | refine Qq ?_ | fail)
  refine SXL.bytesStr rfl inferInstance rfl Tryz.underlying22 Tryz.underlying5 Tryz.underlying9 rfl ?_
  repeat (first | refine Qa ?_ | refine Qb ?_ | refine Qc ?_ | refine Qd ?_ | refine Qe ?_ | refine Qf ?_ | refine Qg ?_ | refine Qh ?_ | refine Qi ?_ | refine Qj ?_ | refine Qk ?_ | refine Ql ?_ | refine Qm ?_ | refine Qn ?_ | refine Qo ?_ | refine Qp ?_ | refine Qq ?_ | fail)
  refine SX.cut (fun a M => ∃ xs : List Int, bytesB xs = true ∧ xs.length ≤ 500 ∧ a = [(4, .bool false), (6, .string (strOfNums xs))] ∧ F = M) ?_ ?_
  · refine SX.cond rfl (fun hsl => ?_) (fun hsl => ?_)
    · repeat (first | refine Qa ?_ | refine Qb ?_ | refine Qc ?_ | refine Qd ?_ | refine Qe ?_ | refine Qf ?_ | refine Qg ?_ | refine Qh ?_ | refine Qi ?_ | refine Qj ?_ | refine Qk ?_ | refine Ql ?_ | refine Qm ?_ | refine Qn ?_ | refine Qo ?_ | refine Qp ?_ | refine Qq ?_ | fail)
      refine SXL.call rfl rfl rfl ?_
      refine (RSealed_S (strOfNums l) (by rw [size_strOfNums]; omega) (callK.ret ?_))
      rw [bytesOf_strOfNums _ hb]
      repeat (first | refine Qa ?_ | refine Qb ?_ | refine Qc ?_ | refine Qd ?_ | refine Qe ?_ | refine Qf ?_ | refine Qg ?_ | refine Qh ?_ | refine Qi ?_ | refine Qj ?_ | refine Qk ?_ | refine Ql ?_ | refine Qm ?_ | refine Qn ?_ | refine Qo ?_ | refine Qp ?_ | refine Qq ?_ | fail)
      refine SX.meet ⟨sealM l, sealB hb, by unfold sealM; rw [List.length_append, be32_len']; omega, rfl, rfl⟩ (by repeat (first | exact trivial | refine ⟨rfl, ?_⟩)) inferInstance
    · repeat (first | refine Qa ?_ | refine Qb ?_ | refine Qc ?_ | refine Qd ?_ | refine Qe ?_ | refine Qf ?_ | refine Qg ?_ | refine Qh ?_ | refine Qi ?_ | refine Qj ?_ | refine Qk ?_ | refine Ql ?_ | refine Qm ?_ | refine Qn ?_ | refine Qo ?_ | refine Qp ?_ | refine Qq ?_ | fail)
      refine SX.meet ⟨l, hb, by omega, rfl, rfl⟩ (by repeat (first | exact trivial | refine ⟨rfl, ?_⟩)) inferInstance
  rintro _ _ ⟨xs, hxb, hxl, rfl, rfl⟩
  repeat (first | refine Qa ?_ | refine Qb ?_ | refine Qc ?_ | refine Qd ?_ | refine Qe ?_ | refine Qf ?_ | refine Qg ?_ | refine Qh ?_ | refine Qi ?_ | refine Qj ?_ | refine Qk ?_ | refine Ql ?_ | refine Qm ?_ | refine Qn ?_ | refine Qo ?_ | refine Qp ?_ | refine Qq ?_ | fail)
  refine SXL.strBytes rfl Tryz.underlying9 Tryz.underlying22 Tryz.underlying5 (by rw [size_strOfNums]; omega) rfl (fun A0 c0 hc0 => ?_)
  rw [bytesOf_strOfNums _ hxb] at hc0 ⊢
  repeat (first | refine Qa ?_ | refine Qb ?_ | refine Qc ?_ | refine Qd ?_ | refine Qe ?_ | refine Qf ?_ | refine Qg ?_ | refine Qh ?_ | refine Qi ?_ | refine Qj ?_ | refine Qk ?_ | refine Ql ?_ | refine Qm ?_ | refine Qn ?_ | refine Qo ?_ | refine Qp ?_ | refine Qq ?_ | fail)
  refine SXL.call rfl rfl rfl ?_
  refine (WGet_S (xs := xs) inferInstance hc0 hxb (by omega) (fun r n hm A1 a1 B1 b1 C1 c1 D1 d1 g1 g2 g3 g4 => callK.ret ?_))
  repeat (first | refine Qa ?_ | refine Qb ?_ | refine Qc ?_ | refine Qd ?_ | refine Qe ?_ | refine Qf ?_ | refine Qg ?_ | refine Qh ?_ | refine Qi ?_ | refine Qj ?_ | refine Qk ?_ | refine Ql ?_ | refine Qm ?_ | refine Qn ?_ | refine Qo ?_ | refine Qp ?_ | refine Qq ?_ | fail)
  refine SXL.alloc rfl rfl (fun p => ?_)
  repeat (first | refine Qa ?_ | refine Qb ?_ | refine Qc ?_ | refine Qd ?_ | refine Qe ?_ | refine Qf ?_ | refine Qg ?_ | refine Qh ?_ | refine Qi ?_ | refine Qj ?_ | refine Qk ?_ | refine Ql ?_ | refine Qm ?_ | refine Qn ?_ | refine Qo ?_ | refine Qp ?_ | refine Qq ?_ | fail)
  refine SXL.call rfl rfl rfl ?_
  refine (RGet16_S (strOfNums xs) (by rw [size_strOfNums]; omega) (fun r' n' hm' B2 c2 hc2 => callK.ret ?_))
  rw [bytesOf_strOfNums _ hxb, hm] at hm'
  simp only [Prod.mk.injEq] at hm'
  obtain ⟨rfl, rfl⟩ := hm'
  repeat (first | refine Qa ?_ | refine Qb ?_ | refine Qc ?_ | refine Qd ?_ | refine Qe ?_ | refine Qf ?_ | refine Qg ?_ | refine Qh ?_ | refine Qi ?_ | refine Qj ?_ | refine Qk ?_ | refine Ql ?_ | refine Qm ?_ | refine Qn ?_ | refine Qo ?_ | refine Qp ?_ | refine Qq ?_ | fail)
  refine SXL.alloc rfl rfl (fun q => ?_)
  repeat (first | refine Qa ?_ | refine Qb ?_ | refine Qc ?_ | refine Qd ?_ | refine Qe ?_ | refine Qf ?_ | refine Qg ?_ | refine Qh ?_ | refine Qi ?_ | refine Qj ?_ | refine Qk ?_ | refine Ql ?_ | refine Qm ?_ | refine Qn ?_ | refine Qo ?_ | refine Qp ?_ | refine Qq ?_ | fail)
  refine SXA.begin (.own (some ⟨q, 0, none⟩) (cellsR q (mrC r B2 c2) 52) :: .own (some ⟨p, 0, none⟩) (cellsR p (msC r A1 a1 B1 b1 C1 c1 D1 d1) 40) :: .own B2 (rowR kE 131 (.slice B2 r.r.e.length c2) r.r.e) :: .own A1 (rowR (Kd.int .u8) 5 (.slice A1 r.c.d.length a1) r.c.d) :: .own B1 (rowR (Kd.int .u8) 5 (.slice B1 r.r.d.length b1) r.r.d) :: .own C1 (rowR kE 130 (.slice C1 r.r.e.length c1) r.r.e) :: .own D1 (rowR (Kd.int .u8) 5 (.slice D1 r.t.d.length d1) r.t.d) :: F) [] ?_
  by_cases hn : n = 0
  · subst hn
    obtain ⟨hput, hw, hnorm⟩ := getMs_ok hxb hm
    have hself := sameMs_self hw
    have hel := getMs_e hxb hm
    unfold msC mrC
    (first | refine Qr 0 ?_ | refine Qs 0 ?_ | refine Qt 0 ?_ | refine Qu 0 ?_ | fail)
    (first | refine Qr 1 ?_ | refine Qs 1 ?_ | refine Qt 1 ?_ | refine Qu 1 ?_ | fail)
    (first | refine Qr 2 ?_ | refine Qs 2 ?_ | refine Qt 2 ?_ | refine Qu 2 ?_ | fail)
    (first | refine Qr 3 ?_ | refine Qs 3 ?_ | refine Qt 3 ?_ | refine Qu 3 ?_ | fail)
    (first | refine Qr 4 ?_ | refine Qs 4 ?_ | refine Qt 4 ?_ | refine Qu 4 ?_ | fail)
    (first | refine Qr 5 ?_ | refine Qs 5 ?_ | refine Qt 5 ?_ | refine Qu 5 ?_ | fail)
    (first | refine Qr 6 ?_ | refine Qs 6 ?_ | refine Qt 6 ?_ | refine Qu 6 ?_ | fail)
    (first | refine Qr 7 ?_ | refine Qs 7 ?_ | refine Qt 7 ?_ | refine Qu 7 ?_ | fail)
    (first | refine Qr 9 ?_ | refine Qs 9 ?_ | refine Qt 9 ?_ | refine Qu 9 ?_ | fail)
    refine Qw 8 ?_
    refine SXL.guard_t rfl rfl (by first | with_reducible rfl | decide) ?_
    refine SXL.call rfl rfl rfl ?_
    refine (msgOf_S (m := r) (A := A1) (B := B1) (C := C1) (D := D1) inferInstance inferInstance inferInstance inferInstance hel g3 (fun B5 d5 hd5 => callK.ret ?_))
    refine SXL.nil (SXA.next inferInstance ?_)
    refine Qw 10 ?_
    refine SXL.guard_t rfl rfl (by first | with_reducible rfl | decide) ?_
    refine SXL.call rfl rfl rfl ?_
    refine (Same16_S (a := r) (b := r) inferInstance inferInstance hd5 hc2 (by omega) (callK.ret ?_))
    rw [hself]
    refine SXL.nil (SXA.next inferInstance ?_)
    (first | refine Qr 11 ?_ | refine Qs 11 ?_ | refine Qt 11 ?_ | refine Qu 11 ?_ | fail)
    (first | refine Qr 12 ?_ | refine Qs 12 ?_ | refine Qt 12 ?_ | refine Qu 12 ?_ | fail)
    (first | refine Qr 13 ?_ | refine Qs 13 ?_ | refine Qt 13 ?_ | refine Qu 13 ?_ | fail)
    (first | refine Qr 14 ?_ | refine Qs 14 ?_ | refine Qt 14 ?_ | refine Qu 14 ?_ | fail)
    (first | refine Qr 15 ?_ | refine Qs 15 ?_ | refine Qt 15 ?_ | refine Qu 15 ?_ | fail)
    (first | refine Qr 16 ?_ | refine Qs 16 ?_ | refine Qt 16 ?_ | refine Qu 16 ?_ | fail)
    (first | refine Qr 17 ?_ | refine Qs 17 ?_ | refine Qt 17 ?_ | refine Qu 17 ?_ | fail)
    (first | refine Qr 18 ?_ | refine Qs 18 ?_ | refine Qt 18 ?_ | refine Qu 18 ?_ | fail)
    (first | refine Qr 19 ?_ | refine Qs 19 ?_ | refine Qt 19 ?_ | refine Qu 19 ?_ | fail)
    (first | refine Qr 20 ?_ | refine Qs 20 ?_ | refine Qt 20 ?_ | refine Qu 20 ?_ | fail)
    (first | refine Qr 21 ?_ | refine Qs 21 ?_ | refine Qt 21 ?_ | refine Qu 21 ?_ | fail)
    (first | refine Qr 22 ?_ | refine Qs 22 ?_ | refine Qt 22 ?_ | refine Qu 22 ?_ | fail)
    refine Qv ?_
    repeat (first | refine Qa ?_ | refine Qb ?_ | refine Qc ?_ | refine Qd ?_ | refine Qe ?_ | refine Qf ?_ | refine Qg ?_ | refine Qh ?_ | refine Qi ?_ | refine Qj ?_ | refine Qk ?_ | refine Ql ?_ | refine Qm ?_ | refine Qn ?_ | refine Qo ?_ | refine Qp ?_ | refine Qq ?_ | fail)
    refine SXL.call rfl rfl rfl ?_
    refine (WPut_S (m := r) inferInstance inferInstance inferInstance inferInstance g1 g2 g3 g4 hw (fun x2 n2 hm2 A6 c6 hc6 => callK.ret ?_))
    rw [hput] at hm2
    simp only [Prod.mk.injEq] at hm2
    obtain ⟨rfl, rfl⟩ := hm2
    repeat (first | refine Qa ?_ | refine Qb ?_ | refine Qc ?_ | refine Qd ?_ | refine Qe ?_ | refine Qf ?_ | refine Qg ?_ | refine Qh ?_ | refine Qi ?_ | refine Qj ?_ | refine Qk ?_ | refine Ql ?_ | refine Qm ?_ | refine Qn ?_ | refine Qo ?_ | refine Qp ?_ | refine Qq ?_ | fail)
    refine SXL.bytesStr rfl inferInstance rfl Tryz.underlying22 Tryz.underlying5 Tryz.underlying9 rfl ?_
    repeat (first | refine Qa ?_ | refine Qb ?_ | refine Qc ?_ | refine Qd ?_ | refine Qe ?_ | refine Qf ?_ | refine Qg ?_ | refine Qh ?_ | refine Qi ?_ | refine Qj ?_ | refine Qk ?_ | refine Ql ?_ | refine Qm ?_ | refine Qn ?_ | refine Qo ?_ | refine Qp ?_ | refine Qq ?_ | fail)
    refine SX.same 4 (.bool true) rfl (by simp) ?_
    refine SX.ret (M' := F) rfl (Evals.tmp rfl Evals.nil) ?_ inferInstance
    exact h
  · obtain rfl := getMs_bad hm hn
    have hn0 : (n == 0) = false := by simpa using hn
    (first | refine Qr 0 ?_ | refine Qs 0 ?_ | refine Qt 0 ?_ | refine Qu 0 ?_ | fail)
    (first | refine Qr 1 ?_ | refine Qs 1 ?_ | refine Qt 1 ?_ | refine Qu 1 ?_ | fail)
    (first | refine Qr 2 ?_ | refine Qs 2 ?_ | refine Qt 2 ?_ | refine Qu 2 ?_ | fail)
    (first | refine Qr 3 ?_ | refine Qs 3 ?_ | refine Qt 3 ?_ | refine Qu 3 ?_ | fail)
    refine SXA.know 38 false rfl (by simp) ?_
    (first | refine Qr 4 ?_ | refine Qs 4 ?_ | refine Qt 4 ?_ | refine Qu 4 ?_ | fail)
    (first | refine Qr 5 ?_ | refine Qs 5 ?_ | refine Qt 5 ?_ | refine Qu 5 ?_ | fail)
    (first | refine Qr 6 ?_ | refine Qs 6 ?_ | refine Qt 6 ?_ | refine Qu 6 ?_ | fail)
    refine SXA.know 41 false rfl hn0 ?_
    (first | refine Qr 7 ?_ | refine Qs 7 ?_ | refine Qt 7 ?_ | refine Qu 7 ?_ | fail)
    (first | refine Qr 8 ?_ | refine Qs 8 ?_ | refine Qt 8 ?_ | refine Qu 8 ?_ | fail)
    (first | refine Qr 9 ?_ | refine Qs 9 ?_ | refine Qt 9 ?_ | refine Qu 9 ?_ | fail)
    (first | refine Qr 10 ?_ | refine Qs 10 ?_ | refine Qt 10 ?_ | refine Qu 10 ?_ | fail)
    (first | refine Qr 11 ?_ | refine Qs 11 ?_ | refine Qt 11 ?_ | refine Qu 11 ?_ | fail)
    (first | refine Qr 12 ?_ | refine Qs 12 ?_ | refine Qt 12 ?_ | refine Qu 12 ?_ | fail)
    (first | refine Qr 13 ?_ | refine Qs 13 ?_ | refine Qt 13 ?_ | refine Qu 13 ?_ | fail)
    (first | refine Qr 14 ?_ | refine Qs 14 ?_ | refine Qt 14 ?_ | refine Qu 14 ?_ | fail)
    refine SXA.know 49 false rfl (by rfl) ?_
    (first | refine Qr 15 ?_ | refine Qs 15 ?_ | refine Qt 15 ?_ | refine Qu 15 ?_ | fail)
    (first | refine Qr 16 ?_ | refine Qs 16 ?_ | refine Qt 16 ?_ | refine Qu 16 ?_ | fail)
    (first | refine Qr 17 ?_ | refine Qs 17 ?_ | refine Qt 17 ?_ | refine Qu 17 ?_ | fail)
    refine SXA.know 52 true rfl (by show (!(n == 0)) = true; rw [hn0]; rfl) ?_
    unfold msC mrC
    (first | refine Qr 18 ?_ | refine Qs 18 ?_ | refine Qt 18 ?_ | refine Qu 18 ?_ | fail)
    (first | refine Qr 19 ?_ | refine Qs 19 ?_ | refine Qt 19 ?_ | refine Qu 19 ?_ | fail)
    (first | refine Qr 20 ?_ | refine Qs 20 ?_ | refine Qt 20 ?_ | refine Qu 20 ?_ | fail)
    (first | refine Qr 21 ?_ | refine Qs 21 ?_ | refine Qt 21 ?_ | refine Qu 21 ?_ | fail)
    (first | refine Qr 22 ?_ | refine Qs 22 ?_ | refine Qt 22 ?_ | refine Qu 22 ?_ | fail)
    refine Qv ?_
    repeat (first | refine Qa ?_ | refine Qb ?_ | refine Qc ?_ | refine Qd ?_ | refine Qe ?_ | refine Qf ?_ | refine Qg ?_ | refine Qh ?_ | refine Qi ?_ | refine Qj ?_ | refine Qk ?_ | refine Ql ?_ | refine Qm ?_ | refine Qn ?_ | refine Qo ?_ | refine Qp ?_ | refine Qq ?_ | fail)
    refine SX.know 59 true rfl (by show (!(n == 0)) = true; rw [hn0]; rfl) ?_
    repeat (first | refine Qa ?_ | refine Qb ?_ | refine Qc ?_ | refine Qd ?_ | refine Qe ?_ | refine Qf ?_ | refine Qg ?_ | refine Qh ?_ | refine Qi ?_ | refine Qj ?_ | refine Qk ?_ | refine Ql ?_ | refine Qm ?_ | refine Qn ?_ | refine Qo ?_ | refine Qp ?_ | refine Qq ?_ | fail)
    refine SX.ret (M' := F) rfl (Evals.tmp rfl Evals.nil) ?_ inferInstance
    exact h
end
end Go.Proofs.YtpbhanpblmoepaaGreat.Sx
end
section
/- Chapter 16's law WireGets, for every input; conditions: those that each theorem names. -/
namespace Go.Proofs.YtpbhanpblmoepaaGreat.Sx
open Go.RowKit Go.Proofs.YtpbhanpblmoepaaGreat.Hm Go.Proofs.YtpbhanpblmoepaaGreatW.PrintWords Go.Proofs.YtpbhanpblmoepaaGreatW.PrintLast Go.Proofs.YtpbhanpblmoepaaGreatW.PrintMore
set_option linter.unusedVariables false
set_option linter.unusedSimpArgs false
attribute [local irreducible] SX SXL SXA St callK Post Evals

theorem WireGets_any (Ab : Option Addr) (cb : Nat) (lb : List Int) (s : Bool) (W : World) (rb : Kd.C (Kd.int .u8) W Ab lb.length lb) (hb : lb.length ≤ cb) (wb : lb.length ≤ maxLen ∧ ∀ x ∈ lb, (Lit.int .u8 x).wf = true) :
    Calls Tryz.prog 3 #[.slice Ab lb.length cb, .bool s] W fun e w' => e = .returned (.bool true) ∧ Below W.heap.size W w' :=
  Fn.out W [.per (roR (Kd.int .u8) Ab lb), .per (oldR W)] (Holds.ofStart (Holds.startRow (Holds.start0 W) (Kd.C_F (Kd.heap_int _) rb))) inferInstance
    (WireGets_S Ro.here hb (bytesB_of_wf lb wb.2) ⟨rfl, inferInstance⟩)
end Go.Proofs.YtpbhanpblmoepaaGreat.Sx
end
