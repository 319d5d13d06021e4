/- Part X3 of the lemmas and walks of the Go functions that these statements reach; conditions: those that each theorem names. -/
import Derived.Test.YtpbhanpblmoepaaGreatJV5
import Derived.Test.YtpbhanpblmoepaaGreatJX2
import Derived.Test.YtpbhanpblmoepaaGreatJX1
section
/- The Go packages xdr and call, walked: bools, handles, what an op and a state may be; conditions: those that each theorem names. -/
namespace Go.Proofs.YtpbhanpblmoepaaGreat.Sx
open Go.RowKit Go.Proofs.YtpbhanpblmoepaaGreat.Hm Go.Proofs.YtpbhanpblmoepaaGreatW.PrintWords Go.Proofs.YtpbhanpblmoepaaGreatW.PrintLast Go.Proofs.YtpbhanpblmoepaaGreatW.PrintMore
set_option linter.unusedVariables false
set_option linter.unusedSimpArgs false
attribute [local irreducible] SX SXL SXA St callK Post Evals

section
variable {F R : List Thing} {K : Ending → List Thing → Prop} {p : Nat} {xs : List Int} {A : Option Addr} {c : Nat} {e : Int}
theorem WBool_S {b : Bool} (hat : At (some ⟨p, 0, none⟩) F (wrR p xs) R) (hl : xs.length ≤ 140737488355000) (h : K (.returned (.tuple #[])) (.own (some ⟨p, 0, none⟩) (wrR p (xs ++ be32 (if b = true then 1 else 0))) :: R)) :
    Fn (Tryz.prog) 72 [.pointer (some ⟨p, 0, none⟩), .bool b] F K := by
  refine Fn.enter Tryz.call72 Tryz.func72 rfl rfl rfl ?_
  repeat (first | refine Qa ?_ | refine Qb ?_ | refine Qc ?_ | refine Qd ?_ | refine Qe ?_ | refine Qf ?_ | refine Qg ?_ | refine Qh ?_ | refine Qi ?_ | refine Qj ?_ | refine Qk ?_ | refine Ql ?_ | refine Qm ?_ | refine Qn ?_ | refine Qo ?_ | refine Qp ?_ | refine Qq ?_ | fail)
  refine SX.cond rfl (fun hb => ?_) (fun hb => ?_)
  · subst hb
    repeat (first | refine Qa ?_ | refine Qb ?_ | refine Qc ?_ | refine Qd ?_ | refine Qe ?_ | refine Qf ?_ | refine Qg ?_ | refine Qh ?_ | refine Qi ?_ | refine Qj ?_ | refine Qk ?_ | refine Ql ?_ | refine Qm ?_ | refine Qn ?_ | refine Qo ?_ | refine Qp ?_ | refine Qq ?_ | fail)
    refine SXL.call rfl rfl rfl ?_
    refine (WU32_S inferInstance (by decide) (by decide) hl (callK.ret ?_))
    repeat (first | refine Qa ?_ | refine Qb ?_ | refine Qc ?_ | refine Qd ?_ | refine Qe ?_ | refine Qf ?_ | refine Qg ?_ | refine Qh ?_ | refine Qi ?_ | refine Qj ?_ | refine Qk ?_ | refine Ql ?_ | refine Qm ?_ | refine Qn ?_ | refine Qo ?_ | refine Qp ?_ | refine Qq ?_ | fail)
    refine SX.fin (M' := (.own (some ⟨p, 0, none⟩) (wrR p (xs ++ be32 1)) :: R)) rfl Evals.nil ?_ inferInstance
    exact h
  · subst hb
    repeat (first | refine Qa ?_ | refine Qb ?_ | refine Qc ?_ | refine Qd ?_ | refine Qe ?_ | refine Qf ?_ | refine Qg ?_ | refine Qh ?_ | refine Qi ?_ | refine Qj ?_ | refine Qk ?_ | refine Ql ?_ | refine Qm ?_ | refine Qn ?_ | refine Qo ?_ | refine Qp ?_ | refine Qq ?_ | fail)
    refine SXL.call rfl rfl rfl ?_
    refine (WU32_S inferInstance (by decide) (by decide) hl (callK.ret ?_))
    repeat (first | refine Qa ?_ | refine Qb ?_ | refine Qc ?_ | refine Qd ?_ | refine Qe ?_ | refine Qf ?_ | refine Qg ?_ | refine Qh ?_ | refine Qi ?_ | refine Qj ?_ | refine Qk ?_ | refine Ql ?_ | refine Qm ?_ | refine Qn ?_ | refine Qo ?_ | refine Qp ?_ | refine Qq ?_ | fail)
    refine SX.fin (M' := (.own (some ⟨p, 0, none⟩) (wrR p (xs ++ be32 0)) :: R)) rfl Evals.nil ?_ inferInstance
    exact h
theorem RBool_S [hx : Has (roR (Kd.int .u8) A xs) R] (hc : xs.length ≤ c) (hb : bytesB xs = true) (hl : xs.length ≤ 140737488355328)
    (h : ∀ z ys e2, boM xs e = (z, ys, e2) → ∀ A2 c2, ys.length ≤ c2 → K (.returned (.bool (z == 1))) (rdT p A2 ys.length c2 e2 :: .per (roR (Kd.int .u8) A2 ys) :: R)) :
    Fn (Tryz.prog) 59 [.pointer (some ⟨p, 0, none⟩)] (rdT p A xs.length c e :: R) K := by
  unfold boM at h
  refine Fn.enter Tryz.call59 Tryz.func59 rfl rfl rfl ?_
  repeat (first | refine Qa ?_ | refine Qb ?_ | refine Qc ?_ | refine Qd ?_ | refine Qe ?_ | refine Qf ?_ | refine Qg ?_ | refine Qh ?_ | refine Qi ?_ | refine Qj ?_ | refine Qk ?_ | refine Ql ?_ | refine Qm ?_ | refine Qn ?_ | refine Qo ?_ | refine Qp ?_ | refine Qq ?_ | fail)
  refine SXL.call rfl rfl rfl ?_
  refine (RU32_S hc hb hl (fun z ys e2 hz A2 c2 hc2 => callK.ret ?_))
  rw [hz] at h
  dsimp only at h
  repeat (first | refine Qa ?_ | refine Qb ?_ | refine Qc ?_ | refine Qd ?_ | refine Qe ?_ | refine Qf ?_ | refine Qg ?_ | refine Qh ?_ | refine Qi ?_ | refine Qj ?_ | refine Qk ?_ | refine Ql ?_ | refine Qm ?_ | refine Qn ?_ | refine Qo ?_ | refine Qp ?_ | refine Qq ?_ | fail)
  refine SX.condp rfl (fun h1 => ?_) (fun h1 => ?_)
  · rw [if_pos h1] at h
    repeat (first | refine Qa ?_ | refine Qb ?_ | refine Qc ?_ | refine Qd ?_ | refine Qe ?_ | refine Qf ?_ | refine Qg ?_ | refine Qh ?_ | refine Qi ?_ | refine Qj ?_ | refine Qk ?_ | refine Ql ?_ | refine Qm ?_ | refine Qn ?_ | refine Qo ?_ | refine Qp ?_ | refine Qq ?_ | fail)
    refine SXL.call rfl rfl rfl ?_
    refine (Rfail_S 11 rfl (callK.ret ?_))
    repeat (first | refine Qa ?_ | refine Qb ?_ | refine Qc ?_ | refine Qd ?_ | refine Qe ?_ | refine Qf ?_ | refine Qg ?_ | refine Qh ?_ | refine Qi ?_ | refine Qj ?_ | refine Qk ?_ | refine Ql ?_ | refine Qm ?_ | refine Qn ?_ | refine Qo ?_ | refine Qp ?_ | refine Qq ?_ | fail)
    refine SX.ret (M' := (rdT p A2 ys.length c2 (failM e2 11) :: .per (roR (Kd.int .u8) A2 ys) :: R)) rfl (Evals.tmp rfl Evals.nil) ?_ inferInstance
    exact h _ _ _ rfl A2 c2 hc2
  · rw [if_neg h1] at h
    repeat (first | refine Qa ?_ | refine Qb ?_ | refine Qc ?_ | refine Qd ?_ | refine Qe ?_ | refine Qf ?_ | refine Qg ?_ | refine Qh ?_ | refine Qi ?_ | refine Qj ?_ | refine Qk ?_ | refine Ql ?_ | refine Qm ?_ | refine Qn ?_ | refine Qo ?_ | refine Qp ?_ | refine Qq ?_ | fail)
    refine SX.ret (M' := (rdT p A2 ys.length c2 e2 :: .per (roR (Kd.int .u8) A2 ys) :: R)) rfl (Evals.tmp rfl Evals.nil) ?_ inferInstance
    exact h _ _ _ rfl A2 c2 hc2
theorem known_S {op : Int} (h : K (.returned (.bool (knownB op))) F) : Fn (Tryz.prog) 58 [.int .u32 op] F K := by
  refine Fn.enter Tryz.call58 Tryz.func58 rfl rfl rfl ?_
  repeat (first | refine Qa ?_ | refine Qb ?_ | refine Qc ?_ | refine Qd ?_ | refine Qe ?_ | refine Qf ?_ | refine Qg ?_ | refine Qh ?_ | refine Qi ?_ | refine Qj ?_ | refine Qk ?_ | refine Ql ?_ | refine Qm ?_ | refine Qn ?_ | refine Qo ?_ | refine Qp ?_ | refine Qq ?_ | fail)
  refine SXL.split (s := 5) rfl (fun h5 => ?_) (fun h5 => ?_)
  rotate_left
  · repeat (first | refine Qa ?_ | refine Qb ?_ | refine Qc ?_ | refine Qd ?_ | refine Qe ?_ | refine Qf ?_ | refine Qg ?_ | refine Qh ?_ | refine Qi ?_ | refine Qj ?_ | refine Qk ?_ | refine Ql ?_ | refine Qm ?_ | refine Qn ?_ | refine Qo ?_ | refine Qp ?_ | refine Qq ?_ | fail)
    refine SX.same 2 (.bool (knownB op)) rfl (by simp [knownB, of_decide_eq_false h5]) ?_
    refine SX.ret (M' := F) rfl (Evals.tmp rfl Evals.nil) ?_ inferInstance
    exact h
  repeat (first | refine Qa ?_ | refine Qb ?_ | refine Qc ?_ | refine Qd ?_ | refine Qe ?_ | refine Qf ?_ | refine Qg ?_ | refine Qh ?_ | refine Qi ?_ | refine Qj ?_ | refine Qk ?_ | refine Ql ?_ | refine Qm ?_ | refine Qn ?_ | refine Qo ?_ | refine Qp ?_ | refine Qq ?_ | fail)
  refine SX.same 2 (.bool (knownB op)) rfl (by simp [knownB, of_decide_eq_true h5]) ?_
  refine SX.ret (M' := F) rfl (Evals.tmp rfl Evals.nil) ?_ inferInstance
  exact h
theorem handle_S {x y : Int} (hat : At (some ⟨p, 0, none⟩) F (wrR p xs) R) (h0 : u32ok x) (h1 : u32ok y) (hl : xs.length ≤ 140737488354000) (h : K (.returned (.tuple #[])) (.own (some ⟨p, 0, none⟩) (wrR p (xs ++ be32 x ++ be32 y)) :: R)) :
    Fn (Tryz.prog) 69 [.pointer (some ⟨p, 0, none⟩), .agg #[.int .u32 x, .int .u32 y]] F K := by
  refine Fn.enter Tryz.call69 Tryz.func69 rfl rfl rfl ?_
  repeat (first | refine Qa ?_ | refine Qb ?_ | refine Qc ?_ | refine Qd ?_ | refine Qe ?_ | refine Qf ?_ | refine Qg ?_ | refine Qh ?_ | refine Qi ?_ | refine Qj ?_ | refine Qk ?_ | refine Ql ?_ | refine Qm ?_ | refine Qn ?_ | refine Qo ?_ | refine Qp ?_ | refine Qq ?_ | fail)
  refine SXL.box rfl rfl rfl (fun b => ?_)
  repeat (first | refine Qa ?_ | refine Qb ?_ | refine Qc ?_ | refine Qd ?_ | refine Qe ?_ | refine Qf ?_ | refine Qg ?_ | refine Qh ?_ | refine Qi ?_ | refine Qj ?_ | refine Qk ?_ | refine Ql ?_ | refine Qm ?_ | refine Qn ?_ | refine Qo ?_ | refine Qp ?_ | refine Qq ?_ | fail)
  refine SXL.call rfl rfl rfl ?_
  refine (WU32_S inferInstance h0.1 h0.2 (by omega) (callK.ret ?_))
  repeat (first | refine Qa ?_ | refine Qb ?_ | refine Qc ?_ | refine Qd ?_ | refine Qe ?_ | refine Qf ?_ | refine Qg ?_ | refine Qh ?_ | refine Qi ?_ | refine Qj ?_ | refine Qk ?_ | refine Ql ?_ | refine Qm ?_ | refine Qn ?_ | refine Qo ?_ | refine Qp ?_ | refine Qq ?_ | fail)
  refine SXL.call rfl rfl rfl ?_
  refine (WU32_S inferInstance h1.1 h1.2 (by simp [be32]; omega) (callK.ret ?_))
  repeat (first | refine Qa ?_ | refine Qb ?_ | refine Qc ?_ | refine Qd ?_ | refine Qe ?_ | refine Qf ?_ | refine Qg ?_ | refine Qh ?_ | refine Qi ?_ | refine Qj ?_ | refine Qk ?_ | refine Ql ?_ | refine Qm ?_ | refine Qn ?_ | refine Qo ?_ | refine Qp ?_ | refine Qq ?_ | fail)
  refine SX.fin (M' := (.own (some ⟨p, 0, none⟩) (wrR p (xs ++ be32 x ++ be32 y)) :: R)) rfl Evals.nil ?_ inferInstance
  exact h
theorem status_S {n : Int} (h : K (.returned (.bool (statB n))) F) : Fn (Tryz.prog) 61 [.int .i64 n] F K := by
  refine Fn.enter Tryz.call61 Tryz.func61 rfl rfl rfl ?_
  repeat (first | refine Qa ?_ | refine Qb ?_ | refine Qc ?_ | refine Qd ?_ | refine Qe ?_ | refine Qf ?_ | refine Qg ?_ | refine Qh ?_ | refine Qi ?_ | refine Qj ?_ | refine Qk ?_ | refine Ql ?_ | refine Qm ?_ | refine Qn ?_ | refine Qo ?_ | refine Qp ?_ | refine Qq ?_ | fail)
  refine SXL.split (s := 5) rfl (fun h5 => ?_) (fun h5 => ?_)
  · repeat (first | refine Qa ?_ | refine Qb ?_ | refine Qc ?_ | refine Qd ?_ | refine Qe ?_ | refine Qf ?_ | refine Qg ?_ | refine Qh ?_ | refine Qi ?_ | refine Qj ?_ | refine Qk ?_ | refine Ql ?_ | refine Qm ?_ | refine Qn ?_ | refine Qo ?_ | refine Qp ?_ | refine Qq ?_ | fail)
    refine SX.same 2 (.bool (statB n)) rfl (by simp [statB, h5]) ?_
    refine SX.ret (M' := F) rfl (Evals.tmp rfl Evals.nil) ?_ inferInstance
    exact h
  repeat (first | refine Qa ?_ | refine Qb ?_ | refine Qc ?_ | refine Qd ?_ | refine Qe ?_ | refine Qf ?_ | refine Qg ?_ | refine Qh ?_ | refine Qi ?_ | refine Qj ?_ | refine Qk ?_ | refine Ql ?_ | refine Qm ?_ | refine Qn ?_ | refine Qo ?_ | refine Qp ?_ | refine Qq ?_ | fail)
  refine SXL.split (s := 8) rfl (fun h8 => ?_) (fun h8 => ?_)
  · have h8' := of_decide_eq_true h8
    repeat (first | refine Qa ?_ | refine Qb ?_ | refine Qc ?_ | refine Qd ?_ | refine Qe ?_ | refine Qf ?_ | refine Qg ?_ | refine Qh ?_ | refine Qi ?_ | refine Qj ?_ | refine Qk ?_ | refine Ql ?_ | refine Qm ?_ | refine Qn ?_ | refine Qo ?_ | refine Qp ?_ | refine Qq ?_ | fail)
    refine SX.same 2 (.bool (statB n)) rfl (by simp [statB, h5, h8']) ?_
    refine SX.ret (M' := F) rfl (Evals.tmp rfl Evals.nil) ?_ inferInstance
    exact h
  · have h8' := of_decide_eq_false h8
    repeat (first | refine Qa ?_ | refine Qb ?_ | refine Qc ?_ | refine Qd ?_ | refine Qe ?_ | refine Qf ?_ | refine Qg ?_ | refine Qh ?_ | refine Qi ?_ | refine Qj ?_ | refine Qk ?_ | refine Ql ?_ | refine Qm ?_ | refine Qn ?_ | refine Qo ?_ | refine Qp ?_ | refine Qq ?_ | fail)
    refine SX.same 2 (.bool (statB n)) rfl (by simp [statB, h5, h8']) ?_
    refine SX.ret (M' := F) rfl (Evals.tmp rfl Evals.nil) ?_ inferInstance
    exact h
theorem got_S [hx : Has (roR (Kd.int .u8) A xs) R] (hc : xs.length ≤ c) (hb : bytesB xs = true) (hl : xs.length ≤ 140737488355328)
    (h : ∀ x1 y1 e1, rdM xs e 4 = (x1, y1, e1) → ∀ x2 y2 e2, rdM y1 e1 4 = (x2, y2, e2) → ∀ A2 c2, y2.length ≤ c2 → K (.returned (.agg #[.int .u32 x1, .int .u32 x2])) (rdT p A2 y2.length c2 e2 :: .per (roR (Kd.int .u8) A2 y2) :: R)) :
    Fn (Tryz.prog) 56 [.pointer (some ⟨p, 0, none⟩)] (rdT p A xs.length c e :: R) K := by
  refine Fn.enter Tryz.call56 Tryz.func56 rfl rfl rfl ?_
  repeat (first | refine Qa ?_ | refine Qb ?_ | refine Qc ?_ | refine Qd ?_ | refine Qe ?_ | refine Qf ?_ | refine Qg ?_ | refine Qh ?_ | refine Qi ?_ | refine Qj ?_ | refine Qk ?_ | refine Ql ?_ | refine Qm ?_ | refine Qn ?_ | refine Qo ?_ | refine Qp ?_ | refine Qq ?_ | fail)
  refine SXL.alloc rfl rfl (fun q => ?_)
  repeat (first | refine Qa ?_ | refine Qb ?_ | refine Qc ?_ | refine Qd ?_ | refine Qe ?_ | refine Qf ?_ | refine Qg ?_ | refine Qh ?_ | refine Qi ?_ | refine Qj ?_ | refine Qk ?_ | refine Ql ?_ | refine Qm ?_ | refine Qn ?_ | refine Qo ?_ | refine Qp ?_ | refine Qq ?_ | fail)
  refine SXL.alloc rfl rfl (fun b => ?_)
  repeat (first | refine Qa ?_ | refine Qb ?_ | refine Qc ?_ | refine Qd ?_ | refine Qe ?_ | refine Qf ?_ | refine Qg ?_ | refine Qh ?_ | refine Qi ?_ | refine Qj ?_ | refine Qk ?_ | refine Ql ?_ | refine Qm ?_ | refine Qn ?_ | refine Qo ?_ | refine Qp ?_ | refine Qq ?_ | fail)
  refine SXL.call rfl rfl rfl ?_
  refine (Fn.at_ inferInstance (RU32_S hc hb hl (fun x1 y1 e1 h1 A1 c1 hc1 => callK.ret ?_)))
  have b1 := rdM_rest xs e 4 hb
  have l1 := rdM_le xs e 4
  rw [h1] at b1 l1
  dsimp only at b1 l1
  repeat (first | refine Qa ?_ | refine Qb ?_ | refine Qc ?_ | refine Qd ?_ | refine Qe ?_ | refine Qf ?_ | refine Qg ?_ | refine Qh ?_ | refine Qi ?_ | refine Qj ?_ | refine Qk ?_ | refine Ql ?_ | refine Qm ?_ | refine Qn ?_ | refine Qo ?_ | refine Qp ?_ | refine Qq ?_ | fail)
  refine SXL.call rfl rfl rfl ?_
  refine (Fn.at_ inferInstance (RU32_S hc1 b1 (by omega) (fun x2 y2 e2 h2 A2 c2 hc2 => callK.ret ?_)))
  repeat (first | refine Qa ?_ | refine Qb ?_ | refine Qc ?_ | refine Qd ?_ | refine Qe ?_ | refine Qf ?_ | refine Qg ?_ | refine Qh ?_ | refine Qi ?_ | refine Qj ?_ | refine Qk ?_ | refine Ql ?_ | refine Qm ?_ | refine Qn ?_ | refine Qo ?_ | refine Qp ?_ | refine Qq ?_ | fail)
  refine SX.ret (M' := (rdT p A2 y2.length c2 e2 :: .per (roR (Kd.int .u8) A2 y2) :: R)) rfl (Evals.cell rfl inferInstance rfl Evals.nil) ?_ inferInstance
  exact h _ _ _ h1 _ _ _ h2 A2 c2 hc2
end
end Go.Proofs.YtpbhanpblmoepaaGreat.Sx
end
section
/- The Go package call, walked: calls put and got; conditions: those that each theorem names. -/
namespace Go.Proofs.YtpbhanpblmoepaaGreat.Sx
open Go.RowKit Go.Proofs.YtpbhanpblmoepaaGreat.Hm Go.Proofs.YtpbhanpblmoepaaGreatW.PrintWords Go.Proofs.YtpbhanpblmoepaaGreatW.PrintLast Go.Proofs.YtpbhanpblmoepaaGreatW.PrintMore
set_option linter.unusedVariables false
set_option linter.unusedSimpArgs false
attribute [local irreducible] SX SXL SXA St callK Post Evals

theorem opq_len' (l : List Int) : (opq l).length ≤ l.length + 8 := by unfold opq; simp [be32]; omega
theorem be32_len' (x : Int) : (be32 x).length = 4 := rfl
theorem be64_len' (x : Int) : (be64 x).length = 8 := rfl
theorem boM_rest (xs : List Int) (e : Int) (hb : bytesB xs = true) : bytesB (boM xs e).2.1 = true := by
  have := rdM_rest xs e 4 hb
  unfold boM
  split <;> exact this
theorem boM_le (xs : List Int) (e : Int) : (boM xs e).2.1.length ≤ xs.length := by
  have := rdM_le xs e 4
  unfold boM
  split <;> exact this
section
variable {F R : List Thing} {K : Ending → List Thing → Prop} {A : Option Addr} {c : Nat} {s : Ca}
set_option maxRecDepth 20000 in
theorem PutCall_S (hr : Ro (Kd.int .u8) A F s.d) (hc : s.d.length ≤ c) (hw : s.wf) (h : ∀ r n, putCa s = (r, n) → ∀ A' c', r.length ≤ c' → K (.returned (.tuple #[.slice A' r.length c', .int .i64 n])) (.own A' (rowR (Kd.int .u8) 5 (.slice A' r.length c') r) :: F)) :
    Fn (Tryz.prog) 36 [.agg (caC s A c).toArray] F K := by
  unfold putCa at h
  unfold caC
  refine Fn.enter Tryz.call36 Tryz.func36 rfl rfl rfl ?_
  repeat (first | refine Qa ?_ | refine Qb ?_ | refine Qc ?_ | refine Qd ?_ | refine Qe ?_ | refine Qf ?_ | refine Qg ?_ | refine Qh ?_ | refine Qi ?_ | refine Qj ?_ | refine Qk ?_ | refine Ql ?_ | refine Qm ?_ | refine Qn ?_ | refine Qo ?_ | refine Qp ?_ | refine Qq ?_ | fail)
  refine SXL.box rfl rfl rfl (fun b => ?_)
  repeat (first | refine Qa ?_ | refine Qb ?_ | refine Qc ?_ | refine Qd ?_ | refine Qe ?_ | refine Qf ?_ | refine Qg ?_ | refine Qh ?_ | refine Qi ?_ | refine Qj ?_ | refine Qk ?_ | refine Ql ?_ | refine Qm ?_ | refine Qn ?_ | refine Qo ?_ | refine Qp ?_ | refine Qq ?_ | fail)
  refine SXL.call rfl rfl rfl ?_
  refine (known_S (callK.ret ?_))
  repeat (first | refine Qa ?_ | refine Qb ?_ | refine Qc ?_ | refine Qd ?_ | refine Qe ?_ | refine Qf ?_ | refine Qg ?_ | refine Qh ?_ | refine Qi ?_ | refine Qj ?_ | refine Qk ?_ | refine Ql ?_ | refine Qm ?_ | refine Qn ?_ | refine Qo ?_ | refine Qp ?_ | refine Qq ?_ | fail)
  refine SXL.split (s := 9) rfl (fun k9 => ?_) (fun k9 => ?_)
  · rw [if_neg (by unfold okCa; simp [show knownB s.op = false by simpa using k9])] at h
    repeat (first | refine Qa ?_ | refine Qb ?_ | refine Qc ?_ | refine Qd ?_ | refine Qe ?_ | refine Qf ?_ | refine Qg ?_ | refine Qh ?_ | refine Qi ?_ | refine Qj ?_ | refine Qk ?_ | refine Ql ?_ | refine Qm ?_ | refine Qn ?_ | refine Qo ?_ | refine Qp ?_ | refine Qq ?_ | fail)
    refine SX.ret (M' := (.own none (rowR (Kd.int .u8) 5 (.slice none ([] : List Int).length 0) []) :: F)) rfl (Evals.tmp rfl (Evals.tmp rfl Evals.nil)) ?_ inferInstance
    exact h _ _ rfl none 0 (Nat.le_refl _)
  have k9' : knownB s.op = true := by simpa using k9
  repeat (first | refine Qa ?_ | refine Qb ?_ | refine Qc ?_ | refine Qd ?_ | refine Qe ?_ | refine Qf ?_ | refine Qg ?_ | refine Qh ?_ | refine Qi ?_ | refine Qj ?_ | refine Qk ?_ | refine Ql ?_ | refine Qm ?_ | refine Qn ?_ | refine Qo ?_ | refine Qp ?_ | refine Qq ?_ | fail)
  refine SXL.split (s := 15) rfl (fun k15 => ?_) (fun k15 => ?_)
  · rw [if_neg (by unfold okCa; simp [show ¬ s.name.size ≤ 64 by have := of_decide_eq_true k15; omega])] at h
    repeat (first | refine Qa ?_ | refine Qb ?_ | refine Qc ?_ | refine Qd ?_ | refine Qe ?_ | refine Qf ?_ | refine Qg ?_ | refine Qh ?_ | refine Qi ?_ | refine Qj ?_ | refine Qk ?_ | refine Ql ?_ | refine Qm ?_ | refine Qn ?_ | refine Qo ?_ | refine Qp ?_ | refine Qq ?_ | fail)
    refine SX.ret (M' := (.own none (rowR (Kd.int .u8) 5 (.slice none ([] : List Int).length 0) []) :: F)) rfl (Evals.tmp rfl (Evals.tmp rfl Evals.nil)) ?_ inferInstance
    exact h _ _ rfl none 0 (Nat.le_refl _)
  have k15' := of_decide_eq_false k15
  repeat (first | refine Qa ?_ | refine Qb ?_ | refine Qc ?_ | refine Qd ?_ | refine Qe ?_ | refine Qf ?_ | refine Qg ?_ | refine Qh ?_ | refine Qi ?_ | refine Qj ?_ | refine Qk ?_ | refine Ql ?_ | refine Qm ?_ | refine Qn ?_ | refine Qo ?_ | refine Qp ?_ | refine Qq ?_ | fail)
  refine SXL.split (s := 21) rfl (fun k21 => ?_) (fun k21 => ?_)
  · rw [if_neg (by unfold okCa; simp [show ¬ s.toName.size ≤ 64 by have := of_decide_eq_true k21; omega])] at h
    repeat (first | refine Qa ?_ | refine Qb ?_ | refine Qc ?_ | refine Qd ?_ | refine Qe ?_ | refine Qf ?_ | refine Qg ?_ | refine Qh ?_ | refine Qi ?_ | refine Qj ?_ | refine Qk ?_ | refine Ql ?_ | refine Qm ?_ | refine Qn ?_ | refine Qo ?_ | refine Qp ?_ | refine Qq ?_ | fail)
    refine SX.ret (M' := (.own none (rowR (Kd.int .u8) 5 (.slice none ([] : List Int).length 0) []) :: F)) rfl (Evals.tmp rfl (Evals.tmp rfl Evals.nil)) ?_ inferInstance
    exact h _ _ rfl none 0 (Nat.le_refl _)
  have k21' := of_decide_eq_false k21
  repeat (first | refine Qa ?_ | refine Qb ?_ | refine Qc ?_ | refine Qd ?_ | refine Qe ?_ | refine Qf ?_ | refine Qg ?_ | refine Qh ?_ | refine Qi ?_ | refine Qj ?_ | refine Qk ?_ | refine Ql ?_ | refine Qm ?_ | refine Qn ?_ | refine Qo ?_ | refine Qp ?_ | refine Qq ?_ | fail)
  refine SX.condp rfl (fun k26 => ?_) (fun k26 => ?_)
  · rw [if_neg (by unfold okCa; simp [show ¬ s.d.length ≤ 1024 by omega])] at h
    repeat (first | refine Qa ?_ | refine Qb ?_ | refine Qc ?_ | refine Qd ?_ | refine Qe ?_ | refine Qf ?_ | refine Qg ?_ | refine Qh ?_ | refine Qi ?_ | refine Qj ?_ | refine Qk ?_ | refine Ql ?_ | refine Qm ?_ | refine Qn ?_ | refine Qo ?_ | refine Qp ?_ | refine Qq ?_ | fail)
    refine SX.ret (M' := (.own none (rowR (Kd.int .u8) 5 (.slice none ([] : List Int).length 0) []) :: F)) rfl (Evals.tmp rfl (Evals.tmp rfl Evals.nil)) ?_ inferInstance
    exact h _ _ rfl none 0 (Nat.le_refl _)
  rw [if_pos (by unfold okCa; simp only [Bool.and_eq_true, decide_eq_true_eq]; exact ⟨k9', by omega, by omega, by omega⟩)] at h
  have hop : (opq s.d).length ≤ 1032 := by have := opq_len' s.d; omega
  have hon : (opq (bytesOf s.name)).length ≤ 72 := by have := opq_len' (bytesOf s.name); rw [bytesOf_length] at this; omega
  have hot : (opq (bytesOf s.toName)).length ≤ 72 := by have := opq_len' (bytesOf s.toName); rw [bytesOf_length] at this; omega
  repeat (first | refine Qa ?_ | refine Qb ?_ | refine Qc ?_ | refine Qd ?_ | refine Qe ?_ | refine Qf ?_ | refine Qg ?_ | refine Qh ?_ | refine Qi ?_ | refine Qj ?_ | refine Qk ?_ | refine Ql ?_ | refine Qm ?_ | refine Qn ?_ | refine Qo ?_ | refine Qp ?_ | refine Qq ?_ | fail)
  refine SXL.call rfl rfl rfl ?_
  refine (NewWriter_S (fun p => callK.ret ?_))
  repeat (first | refine Qa ?_ | refine Qb ?_ | refine Qc ?_ | refine Qd ?_ | refine Qe ?_ | refine Qf ?_ | refine Qg ?_ | refine Qh ?_ | refine Qi ?_ | refine Qj ?_ | refine Qk ?_ | refine Ql ?_ | refine Qm ?_ | refine Qn ?_ | refine Qo ?_ | refine Qp ?_ | refine Qq ?_ | fail)
  refine SXL.call rfl rfl rfl ?_
  refine (WU32_S inferInstance hw.client.1 hw.client.2 (by simp only [List.length_append, List.length_nil, be32_len', be64_len']; omega) (callK.ret ?_))
  repeat (first | refine Qa ?_ | refine Qb ?_ | refine Qc ?_ | refine Qd ?_ | refine Qe ?_ | refine Qf ?_ | refine Qg ?_ | refine Qh ?_ | refine Qi ?_ | refine Qj ?_ | refine Qk ?_ | refine Ql ?_ | refine Qm ?_ | refine Qn ?_ | refine Qo ?_ | refine Qp ?_ | refine Qq ?_ | fail)
  refine SXL.call rfl rfl rfl ?_
  refine (WU32_S inferInstance hw.xid.1 hw.xid.2 (by simp only [List.length_append, List.length_nil, be32_len', be64_len']; omega) (callK.ret ?_))
  repeat (first | refine Qa ?_ | refine Qb ?_ | refine Qc ?_ | refine Qd ?_ | refine Qe ?_ | refine Qf ?_ | refine Qg ?_ | refine Qh ?_ | refine Qi ?_ | refine Qj ?_ | refine Qk ?_ | refine Ql ?_ | refine Qm ?_ | refine Qn ?_ | refine Qo ?_ | refine Qp ?_ | refine Qq ?_ | fail)
  refine SXL.call rfl rfl rfl ?_
  refine (WU32_S inferInstance hw.op.1 hw.op.2 (by simp only [List.length_append, List.length_nil, be32_len', be64_len']; omega) (callK.ret ?_))
  repeat (first | refine Qa ?_ | refine Qb ?_ | refine Qc ?_ | refine Qd ?_ | refine Qe ?_ | refine Qf ?_ | refine Qg ?_ | refine Qh ?_ | refine Qi ?_ | refine Qj ?_ | refine Qk ?_ | refine Ql ?_ | refine Qm ?_ | refine Qn ?_ | refine Qo ?_ | refine Qp ?_ | refine Qq ?_ | fail)
  refine SXL.call rfl rfl rfl ?_
  refine (handle_S inferInstance hw.ai hw.ag (by simp only [List.length_append, List.length_nil, be32_len', be64_len']; omega) (callK.ret ?_))
  repeat (first | refine Qa ?_ | refine Qb ?_ | refine Qc ?_ | refine Qd ?_ | refine Qe ?_ | refine Qf ?_ | refine Qg ?_ | refine Qh ?_ | refine Qi ?_ | refine Qj ?_ | refine Qk ?_ | refine Ql ?_ | refine Qm ?_ | refine Qn ?_ | refine Qo ?_ | refine Qp ?_ | refine Qq ?_ | fail)
  refine SXL.strBytes rfl Tryz.underlying9 Tryz.underlying22 Tryz.underlying5 (by omega) rfl (fun Aname cname hcname => ?_)
  refine SXL.call rfl rfl rfl ?_
  refine (WOpaque_S (l := bytesOf s.name) inferInstance inferInstance hcname (bytesOf_range _) (by simp only [List.length_append, List.length_nil, be32_len', be64_len']; omega) (by rw [bytesOf_length]; omega) (callK.ret ?_))
  repeat (first | refine Qa ?_ | refine Qb ?_ | refine Qc ?_ | refine Qd ?_ | refine Qe ?_ | refine Qf ?_ | refine Qg ?_ | refine Qh ?_ | refine Qi ?_ | refine Qj ?_ | refine Qk ?_ | refine Ql ?_ | refine Qm ?_ | refine Qn ?_ | refine Qo ?_ | refine Qp ?_ | refine Qq ?_ | fail)
  refine SXL.call rfl rfl rfl ?_
  refine (handle_S inferInstance hw.ti hw.tg (by simp only [List.length_append, List.length_nil, be32_len', be64_len']; omega) (callK.ret ?_))
  repeat (first | refine Qa ?_ | refine Qb ?_ | refine Qc ?_ | refine Qd ?_ | refine Qe ?_ | refine Qf ?_ | refine Qg ?_ | refine Qh ?_ | refine Qi ?_ | refine Qj ?_ | refine Qk ?_ | refine Ql ?_ | refine Qm ?_ | refine Qn ?_ | refine Qo ?_ | refine Qp ?_ | refine Qq ?_ | fail)
  refine SXL.strBytes rfl Tryz.underlying9 Tryz.underlying22 Tryz.underlying5 (by omega) rfl (fun AtoName ctoName hctoName => ?_)
  refine SXL.call rfl rfl rfl ?_
  refine (WOpaque_S (l := bytesOf s.toName) inferInstance inferInstance hctoName (bytesOf_range _) (by simp only [List.length_append, List.length_nil, be32_len', be64_len']; omega) (by rw [bytesOf_length]; omega) (callK.ret ?_))
  repeat (first | refine Qa ?_ | refine Qb ?_ | refine Qc ?_ | refine Qd ?_ | refine Qe ?_ | refine Qf ?_ | refine Qg ?_ | refine Qh ?_ | refine Qi ?_ | refine Qj ?_ | refine Qk ?_ | refine Ql ?_ | refine Qm ?_ | refine Qn ?_ | refine Qo ?_ | refine Qp ?_ | refine Qq ?_ | fail)
  refine SXL.call rfl rfl rfl ?_
  refine (WU64_S inferInstance hw.off.1 hw.off.2 (by simp only [List.length_append, List.length_nil, be32_len', be64_len']; omega) (callK.ret ?_))
  repeat (first | refine Qa ?_ | refine Qb ?_ | refine Qc ?_ | refine Qd ?_ | refine Qe ?_ | refine Qf ?_ | refine Qg ?_ | refine Qh ?_ | refine Qi ?_ | refine Qj ?_ | refine Qk ?_ | refine Ql ?_ | refine Qm ?_ | refine Qn ?_ | refine Qo ?_ | refine Qp ?_ | refine Qq ?_ | fail)
  refine SXL.call rfl rfl rfl ?_
  refine (WU64_S inferInstance hw.verf.1 hw.verf.2 (by simp only [List.length_append, List.length_nil, be32_len', be64_len']; omega) (callK.ret ?_))
  repeat (first | refine Qa ?_ | refine Qb ?_ | refine Qc ?_ | refine Qd ?_ | refine Qe ?_ | refine Qf ?_ | refine Qg ?_ | refine Qh ?_ | refine Qi ?_ | refine Qj ?_ | refine Qk ?_ | refine Ql ?_ | refine Qm ?_ | refine Qn ?_ | refine Qo ?_ | refine Qp ?_ | refine Qq ?_ | fail)
  refine SXL.call rfl rfl rfl ?_
  refine (WU32_S inferInstance hw.cnt.1 hw.cnt.2 (by simp only [List.length_append, List.length_nil, be32_len', be64_len']; omega) (callK.ret ?_))
  repeat (first | refine Qa ?_ | refine Qb ?_ | refine Qc ?_ | refine Qd ?_ | refine Qe ?_ | refine Qf ?_ | refine Qg ?_ | refine Qh ?_ | refine Qi ?_ | refine Qj ?_ | refine Qk ?_ | refine Ql ?_ | refine Qm ?_ | refine Qn ?_ | refine Qo ?_ | refine Qp ?_ | refine Qq ?_ | fail)
  refine SXL.call rfl rfl rfl ?_
  refine (WU32_S inferInstance hw.mode.1 hw.mode.2 (by simp only [List.length_append, List.length_nil, be32_len', be64_len']; omega) (callK.ret ?_))
  repeat (first | refine Qa ?_ | refine Qb ?_ | refine Qc ?_ | refine Qd ?_ | refine Qe ?_ | refine Qf ?_ | refine Qg ?_ | refine Qh ?_ | refine Qi ?_ | refine Qj ?_ | refine Qk ?_ | refine Ql ?_ | refine Qm ?_ | refine Qn ?_ | refine Qo ?_ | refine Qp ?_ | refine Qq ?_ | fail)
  refine SXL.call rfl rfl rfl ?_
  refine (WOpaque_S (l := s.d) inferInstance inferInstance hc hw.d (by simp only [List.length_append, List.length_nil, be32_len', be64_len']; omega) (by omega) (callK.ret ?_))
  repeat (first | refine Qa ?_ | refine Qb ?_ | refine Qc ?_ | refine Qd ?_ | refine Qe ?_ | refine Qf ?_ | refine Qg ?_ | refine Qh ?_ | refine Qi ?_ | refine Qj ?_ | refine Qk ?_ | refine Ql ?_ | refine Qm ?_ | refine Qn ?_ | refine Qo ?_ | refine Qp ?_ | refine Qq ?_ | fail)
  rw [show [] ++ be32 s.client ++ be32 s.xid ++ be32 s.op ++ be32 s.ai ++ be32 s.ag ++ opq (bytesOf s.name) ++ be32 s.ti ++ be32 s.tg ++ opq (bytesOf s.toName) ++ be64 s.off ++ be64 s.verf ++ be32 s.cnt ++ be32 s.mode ++ opq s.d = encCa s by simp [encCa, caF, caV, encFs, encF]]
  refine SXL.call rfl rfl rfl ?_
  refine (WOut_S inferInstance (by unfold encCa caF caV; simp only [encFs, encF, List.length_append, List.length_nil, be32_len', be64_len']; omega) (fun A1 c1 hc1 => callK.ret ?_))
  repeat (first | refine Qa ?_ | refine Qb ?_ | refine Qc ?_ | refine Qd ?_ | refine Qe ?_ | refine Qf ?_ | refine Qg ?_ | refine Qh ?_ | refine Qi ?_ | refine Qj ?_ | refine Qk ?_ | refine Ql ?_ | refine Qm ?_ | refine Qn ?_ | refine Qo ?_ | refine Qp ?_ | refine Qq ?_ | fail)
  refine SX.ret (M' := (.own A1 (rowR (Kd.int .u8) 5 (.slice A1 (encCa s).length c1) (encCa s)) :: F)) rfl (Evals.tmp rfl (Evals.tmp rfl Evals.nil)) ?_ inferInstance
  exact h _ _ rfl A1 c1 hc1
set_option maxRecDepth 20000 in
theorem GetCall_S {xs : List Int} (hr : Ro (Kd.int .u8) A F xs) (hc : xs.length ≤ c) (hb : bytesB xs = true) (hl : xs.length ≤ 140737488355327) (h : ∀ r n, getCa xs = (r, n) → ∀ A' c', r.d.length ≤ c' → K (.returned (.tuple #[.agg (caC r A' c').toArray, .int .i64 n])) (.own A' (rowR (Kd.int .u8) 5 (.slice A' r.d.length c') r.d) :: F)) :
    Fn (Tryz.prog) 19 [.slice A xs.length c] F K := by
  unfold getCa getFs at h
  refine Fn.enter Tryz.call19 Tryz.func19 rfl rfl rfl ?_
  repeat (first | refine Qa ?_ | refine Qb ?_ | refine Qc ?_ | refine Qd ?_ | refine Qe ?_ | refine Qf ?_ | refine Qg ?_ | refine Qh ?_ | refine Qi ?_ | refine Qj ?_ | refine Qk ?_ | refine Ql ?_ | refine Qm ?_ | refine Qn ?_ | refine Qo ?_ | refine Qp ?_ | refine Qq ?_ | fail)
  refine SXL.alloc rfl rfl (fun q => ?_)
  repeat (first | refine Qa ?_ | refine Qb ?_ | refine Qc ?_ | refine Qd ?_ | refine Qe ?_ | refine Qf ?_ | refine Qg ?_ | refine Qh ?_ | refine Qi ?_ | refine Qj ?_ | refine Qk ?_ | refine Ql ?_ | refine Qm ?_ | refine Qn ?_ | refine Qo ?_ | refine Qp ?_ | refine Qq ?_ | fail)
  refine SXL.call rfl rfl rfl ?_
  refine (NewReader_S inferInstance hc hl (fun p A0 c0 hc0 => callK.ret ?_))
  repeat (first | refine Qa ?_ | refine Qb ?_ | refine Qc ?_ | refine Qd ?_ | refine Qe ?_ | refine Qf ?_ | refine Qg ?_ | refine Qh ?_ | refine Qi ?_ | refine Qj ?_ | refine Qk ?_ | refine Ql ?_ | refine Qm ?_ | refine Qn ?_ | refine Qo ?_ | refine Qp ?_ | refine Qq ?_ | fail)
  refine SXL.alloc rfl rfl (fun b => ?_)
  repeat (first | refine Qa ?_ | refine Qb ?_ | refine Qc ?_ | refine Qd ?_ | refine Qe ?_ | refine Qf ?_ | refine Qg ?_ | refine Qh ?_ | refine Qi ?_ | refine Qj ?_ | refine Qk ?_ | refine Ql ?_ | refine Qm ?_ | refine Qn ?_ | refine Qo ?_ | refine Qp ?_ | refine Qq ?_ | fail)
  refine SXL.call rfl rfl rfl ?_
  refine (Fn.at_ inferInstance (RU32_S hc0 hb (by omega) (fun x1 y1 e1 h1 A1 c1 hc1 => callK.ret ?_)))
  have b1 := rdM_rest xs 0 4 hb
  have l1 := rdM_le xs 0 4
  rw [h1] at b1 l1
  dsimp only at b1 l1
  repeat (first | refine Qa ?_ | refine Qb ?_ | refine Qc ?_ | refine Qd ?_ | refine Qe ?_ | refine Qf ?_ | refine Qg ?_ | refine Qh ?_ | refine Qi ?_ | refine Qj ?_ | refine Qk ?_ | refine Ql ?_ | refine Qm ?_ | refine Qn ?_ | refine Qo ?_ | refine Qp ?_ | refine Qq ?_ | fail)
  refine SXL.call rfl rfl rfl ?_
  refine (Fn.at_ inferInstance (RU32_S hc1 b1 (by omega) (fun x2 y2 e2 h2 A2 c2 hc2 => callK.ret ?_)))
  have b2 := rdM_rest y1 e1 4 b1
  have l2 := rdM_le y1 e1 4
  rw [h2] at b2 l2
  dsimp only at b2 l2
  repeat (first | refine Qa ?_ | refine Qb ?_ | refine Qc ?_ | refine Qd ?_ | refine Qe ?_ | refine Qf ?_ | refine Qg ?_ | refine Qh ?_ | refine Qi ?_ | refine Qj ?_ | refine Qk ?_ | refine Ql ?_ | refine Qm ?_ | refine Qn ?_ | refine Qo ?_ | refine Qp ?_ | refine Qq ?_ | fail)
  refine SXL.call rfl rfl rfl ?_
  refine (Fn.at_ inferInstance (RU32_S hc2 b2 (by omega) (fun x3 y3 e3 h3 A3 c3 hc3 => callK.ret ?_)))
  have b3 := rdM_rest y2 e2 4 b2
  have l3 := rdM_le y2 e2 4
  rw [h3] at b3 l3
  dsimp only at b3 l3
  repeat (first | refine Qa ?_ | refine Qb ?_ | refine Qc ?_ | refine Qd ?_ | refine Qe ?_ | refine Qf ?_ | refine Qg ?_ | refine Qh ?_ | refine Qi ?_ | refine Qj ?_ | refine Qk ?_ | refine Ql ?_ | refine Qm ?_ | refine Qn ?_ | refine Qo ?_ | refine Qp ?_ | refine Qq ?_ | fail)
  refine SXL.call rfl rfl rfl ?_
  refine (Fn.at_ inferInstance (got_S hc3 b3 (by omega) (fun x4 y4 e4 h4 x5 y5 e5 h5 A5 c5 hc5 => callK.ret ?_)))
  have b4 := rdM_rest y3 e3 4 b3
  have l4 := rdM_le y3 e3 4
  rw [h4] at b4 l4
  dsimp only at b4 l4
  have b5 := rdM_rest y4 e4 4 b4
  have l5 := rdM_le y4 e4 4
  rw [h5] at b5 l5
  dsimp only at b5 l5
  repeat (first | refine Qa ?_ | refine Qb ?_ | refine Qc ?_ | refine Qd ?_ | refine Qe ?_ | refine Qf ?_ | refine Qg ?_ | refine Qh ?_ | refine Qi ?_ | refine Qj ?_ | refine Qk ?_ | refine Ql ?_ | refine Qm ?_ | refine Qn ?_ | refine Qo ?_ | refine Qp ?_ | refine Qq ?_ | fail)
  refine SXL.call rfl rfl rfl ?_
  refine (Fn.at_ inferInstance (ROpaque_S hc5 b5 (by omega) (by decide) (by decide) (fun x6 y6 e6 h6 D6 C6 A6 c6 hC6 hc6 => callK.ret ?_)))
  have b6 := opM_rest y5 e5 64 b5
  have l6 := opM_le y5 e5 64
  obtain ⟨d6, z6⟩ := opM_bytes b5 (by decide) h6
  rw [h6] at b6 l6
  dsimp only at b6 l6
  repeat (first | refine Qa ?_ | refine Qb ?_ | refine Qc ?_ | refine Qd ?_ | refine Qe ?_ | refine Qf ?_ | refine Qg ?_ | refine Qh ?_ | refine Qi ?_ | refine Qj ?_ | refine Qk ?_ | refine Ql ?_ | refine Qm ?_ | refine Qn ?_ | refine Qo ?_ | refine Qp ?_ | refine Qq ?_ | fail)
  refine SXL.bytesStr rfl inferInstance rfl Tryz.underlying22 Tryz.underlying5 Tryz.underlying9 rfl ?_
  repeat (first | refine Qa ?_ | refine Qb ?_ | refine Qc ?_ | refine Qd ?_ | refine Qe ?_ | refine Qf ?_ | refine Qg ?_ | refine Qh ?_ | refine Qi ?_ | refine Qj ?_ | refine Qk ?_ | refine Ql ?_ | refine Qm ?_ | refine Qn ?_ | refine Qo ?_ | refine Qp ?_ | refine Qq ?_ | fail)
  refine SXL.call rfl rfl rfl ?_
  refine (Fn.at_ inferInstance (got_S hc6 b6 (by omega) (fun x7 y7 e7 h7 x8 y8 e8 h8 A8 c8 hc8 => callK.ret ?_)))
  have b7 := rdM_rest y6 e6 4 b6
  have l7 := rdM_le y6 e6 4
  rw [h7] at b7 l7
  dsimp only at b7 l7
  have b8 := rdM_rest y7 e7 4 b7
  have l8 := rdM_le y7 e7 4
  rw [h8] at b8 l8
  dsimp only at b8 l8
  repeat (first | refine Qa ?_ | refine Qb ?_ | refine Qc ?_ | refine Qd ?_ | refine Qe ?_ | refine Qf ?_ | refine Qg ?_ | refine Qh ?_ | refine Qi ?_ | refine Qj ?_ | refine Qk ?_ | refine Ql ?_ | refine Qm ?_ | refine Qn ?_ | refine Qo ?_ | refine Qp ?_ | refine Qq ?_ | fail)
  refine SXL.call rfl rfl rfl ?_
  refine (Fn.at_ inferInstance (ROpaque_S hc8 b8 (by omega) (by decide) (by decide) (fun x9 y9 e9 h9 D9 C9 A9 c9 hC9 hc9 => callK.ret ?_)))
  have b9 := opM_rest y8 e8 64 b8
  have l9 := opM_le y8 e8 64
  obtain ⟨d9, z9⟩ := opM_bytes b8 (by decide) h9
  rw [h9] at b9 l9
  dsimp only at b9 l9
  repeat (first | refine Qa ?_ | refine Qb ?_ | refine Qc ?_ | refine Qd ?_ | refine Qe ?_ | refine Qf ?_ | refine Qg ?_ | refine Qh ?_ | refine Qi ?_ | refine Qj ?_ | refine Qk ?_ | refine Ql ?_ | refine Qm ?_ | refine Qn ?_ | refine Qo ?_ | refine Qp ?_ | refine Qq ?_ | fail)
  refine SXL.bytesStr rfl inferInstance rfl Tryz.underlying22 Tryz.underlying5 Tryz.underlying9 rfl ?_
  repeat (first | refine Qa ?_ | refine Qb ?_ | refine Qc ?_ | refine Qd ?_ | refine Qe ?_ | refine Qf ?_ | refine Qg ?_ | refine Qh ?_ | refine Qi ?_ | refine Qj ?_ | refine Qk ?_ | refine Ql ?_ | refine Qm ?_ | refine Qn ?_ | refine Qo ?_ | refine Qp ?_ | refine Qq ?_ | fail)
  refine SXL.call rfl rfl rfl ?_
  refine (Fn.at_ inferInstance (RU64_S hc9 b9 (by omega) (fun x10 y10 e10 h10 A10 c10 hc10 => callK.ret ?_)))
  have b10 := rdM_rest y9 e9 8 b9
  have l10 := rdM_le y9 e9 8
  rw [h10] at b10 l10
  dsimp only at b10 l10
  repeat (first | refine Qa ?_ | refine Qb ?_ | refine Qc ?_ | refine Qd ?_ | refine Qe ?_ | refine Qf ?_ | refine Qg ?_ | refine Qh ?_ | refine Qi ?_ | refine Qj ?_ | refine Qk ?_ | refine Ql ?_ | refine Qm ?_ | refine Qn ?_ | refine Qo ?_ | refine Qp ?_ | refine Qq ?_ | fail)
  refine SXL.call rfl rfl rfl ?_
  refine (Fn.at_ inferInstance (RU64_S hc10 b10 (by omega) (fun x11 y11 e11 h11 A11 c11 hc11 => callK.ret ?_)))
  have b11 := rdM_rest y10 e10 8 b10
  have l11 := rdM_le y10 e10 8
  rw [h11] at b11 l11
  dsimp only at b11 l11
  repeat (first | refine Qa ?_ | refine Qb ?_ | refine Qc ?_ | refine Qd ?_ | refine Qe ?_ | refine Qf ?_ | refine Qg ?_ | refine Qh ?_ | refine Qi ?_ | refine Qj ?_ | refine Qk ?_ | refine Ql ?_ | refine Qm ?_ | refine Qn ?_ | refine Qo ?_ | refine Qp ?_ | refine Qq ?_ | fail)
  refine SXL.call rfl rfl rfl ?_
  refine (Fn.at_ inferInstance (RU32_S hc11 b11 (by omega) (fun x12 y12 e12 h12 A12 c12 hc12 => callK.ret ?_)))
  have b12 := rdM_rest y11 e11 4 b11
  have l12 := rdM_le y11 e11 4
  rw [h12] at b12 l12
  dsimp only at b12 l12
  repeat (first | refine Qa ?_ | refine Qb ?_ | refine Qc ?_ | refine Qd ?_ | refine Qe ?_ | refine Qf ?_ | refine Qg ?_ | refine Qh ?_ | refine Qi ?_ | refine Qj ?_ | refine Qk ?_ | refine Ql ?_ | refine Qm ?_ | refine Qn ?_ | refine Qo ?_ | refine Qp ?_ | refine Qq ?_ | fail)
  refine SXL.call rfl rfl rfl ?_
  refine (Fn.at_ inferInstance (RU32_S hc12 b12 (by omega) (fun x13 y13 e13 h13 A13 c13 hc13 => callK.ret ?_)))
  have b13 := rdM_rest y12 e12 4 b12
  have l13 := rdM_le y12 e12 4
  rw [h13] at b13 l13
  dsimp only at b13 l13
  repeat (first | refine Qa ?_ | refine Qb ?_ | refine Qc ?_ | refine Qd ?_ | refine Qe ?_ | refine Qf ?_ | refine Qg ?_ | refine Qh ?_ | refine Qi ?_ | refine Qj ?_ | refine Qk ?_ | refine Ql ?_ | refine Qm ?_ | refine Qn ?_ | refine Qo ?_ | refine Qp ?_ | refine Qq ?_ | fail)
  refine SXL.call rfl rfl rfl ?_
  refine (Fn.at_ inferInstance (ROpaque_S hc13 b13 (by omega) (by decide) (by decide) (fun x14 y14 e14 h14 D14 C14 A14 c14 hC14 hc14 => callK.ret ?_)))
  have b14 := opM_rest y13 e13 1024 b13
  have l14 := opM_le y13 e13 1024
  obtain ⟨d14, z14⟩ := opM_bytes b13 (by decide) h14
  rw [h14] at b14 l14
  dsimp only at b14 l14
  repeat (first | refine Qa ?_ | refine Qb ?_ | refine Qc ?_ | refine Qd ?_ | refine Qe ?_ | refine Qf ?_ | refine Qg ?_ | refine Qh ?_ | refine Qi ?_ | refine Qj ?_ | refine Qk ?_ | refine Ql ?_ | refine Qm ?_ | refine Qn ?_ | refine Qo ?_ | refine Qp ?_ | refine Qq ?_ | fail)
  have hF : rdFs caF xs 0 = ([.i x1, .i x2, .i x3, .i x4, .i x5, .b x6, .i x7, .i x8, .b x9, .i x10, .i x11, .i x12, .i x13, .b x14], y14, e14) := by
    simp only [rdFs, caF, rdF, show rdM xs 0 4 = _ from h1, show rdM y1 e1 4 = _ from h2, show rdM y2 e2 4 = _ from h3, show rdM y3 e3 4 = _ from h4, show rdM y4 e4 4 = _ from h5, show opM y5 e5 ((64 : Nat) : Int) = _ from h6, show rdM y6 e6 4 = _ from h7, show rdM y7 e7 4 = _ from h8, show opM y8 e8 ((64 : Nat) : Int) = _ from h9, show rdM y9 e9 8 = _ from h10, show rdM y10 e10 8 = _ from h11, show rdM y11 e11 4 = _ from h12, show rdM y12 e12 4 = _ from h13, show opM y13 e13 ((1024 : Nat) : Int) = _ from h14]
  rw [hF] at h
  dsimp only [caOf] at h
  refine SXL.call rfl rfl rfl ?_
  refine (Fn.at_ inferInstance (REnd_S (xs := y14) (callK.ret ?_)))
  repeat (first | refine Qa ?_ | refine Qb ?_ | refine Qc ?_ | refine Qd ?_ | refine Qe ?_ | refine Qf ?_ | refine Qg ?_ | refine Qh ?_ | refine Qi ?_ | refine Qj ?_ | refine Qk ?_ | refine Ql ?_ | refine Qm ?_ | refine Qn ?_ | refine Qo ?_ | refine Qp ?_ | refine Qq ?_ | fail)
  refine SX.cond rfl (fun he => ?_) (fun he => ?_)
  · have he' : endM y14 e14 ≠ 0 := by simpa using he
    rw [if_pos he'] at h
    repeat (first | refine Qa ?_ | refine Qb ?_ | refine Qc ?_ | refine Qd ?_ | refine Qe ?_ | refine Qf ?_ | refine Qg ?_ | refine Qh ?_ | refine Qi ?_ | refine Qj ?_ | refine Qk ?_ | refine Ql ?_ | refine Qm ?_ | refine Qn ?_ | refine Qo ?_ | refine Qp ?_ | refine Qq ?_ | fail)
    refine SX.ret (M' := (.own none (rowR (Kd.int .u8) 5 (.slice none ([] : List Int).length 0) []) :: F)) rfl (Evals.cell rfl inferInstance rfl (Evals.tmp rfl Evals.nil)) ?_ inferInstance
    exact h _ _ rfl none 0 (Nat.le_refl _)
  · have he' : endM y14 e14 = 0 := by simpa using he
    rw [if_neg (by rw [he']; decide)] at h
    repeat (first | refine Qa ?_ | refine Qb ?_ | refine Qc ?_ | refine Qd ?_ | refine Qe ?_ | refine Qf ?_ | refine Qg ?_ | refine Qh ?_ | refine Qi ?_ | refine Qj ?_ | refine Qk ?_ | refine Ql ?_ | refine Qm ?_ | refine Qn ?_ | refine Qo ?_ | refine Qp ?_ | refine Qq ?_ | fail)
    refine SXL.call rfl rfl rfl ?_
    refine (known_S (callK.ret ?_))
    repeat (first | refine Qa ?_ | refine Qb ?_ | refine Qc ?_ | refine Qd ?_ | refine Qe ?_ | refine Qf ?_ | refine Qg ?_ | refine Qh ?_ | refine Qi ?_ | refine Qj ?_ | refine Qk ?_ | refine Ql ?_ | refine Qm ?_ | refine Qn ?_ | refine Qo ?_ | refine Qp ?_ | refine Qq ?_ | fail)
    refine SX.cond rfl (fun hk => ?_) (fun hk => ?_)
    · have hk' : knownB x3 = false := by simpa using hk
      repeat (first | refine Qa ?_ | refine Qb ?_ | refine Qc ?_ | refine Qd ?_ | refine Qe ?_ | refine Qf ?_ | refine Qg ?_ | refine Qh ?_ | refine Qi ?_ | refine Qj ?_ | refine Qk ?_ | refine Ql ?_ | refine Qm ?_ | refine Qn ?_ | refine Qo ?_ | refine Qp ?_ | refine Qq ?_ | fail)
      refine SX.ret (M' := (.own none (rowR (Kd.int .u8) 5 (.slice none ([] : List Int).length 0) []) :: F)) rfl (Evals.cell rfl inferInstance rfl (Evals.tmp rfl Evals.nil)) ?_ inferInstance
      exact h Ca0 11 (if_neg (by rw [hk']; decide)) none 0 (Nat.le_refl _)
    · have hk' : knownB x3 = true := by simpa using hk
      repeat (first | refine Qa ?_ | refine Qb ?_ | refine Qc ?_ | refine Qd ?_ | refine Qe ?_ | refine Qf ?_ | refine Qg ?_ | refine Qh ?_ | refine Qi ?_ | refine Qj ?_ | refine Qk ?_ | refine Ql ?_ | refine Qm ?_ | refine Qn ?_ | refine Qo ?_ | refine Qp ?_ | refine Qq ?_ | fail)
      refine SX.ret (M' := (.own D14 (rowR (Kd.int .u8) 5 (.slice D14 x14.length C14) x14) :: F)) rfl (Evals.cell rfl inferInstance rfl (Evals.tmp rfl Evals.nil)) ?_ inferInstance
      exact h ⟨x1, x2, x3, x4, x5, strOfNums x6, x7, x8, strOfNums x9, x10, x11, x12, x13, x14⟩ 0 (if_pos hk') D14 C14 hC14
end
end Go.Proofs.YtpbhanpblmoepaaGreat.Sx
end
