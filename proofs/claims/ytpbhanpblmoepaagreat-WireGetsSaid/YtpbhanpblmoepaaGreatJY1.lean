/- The Go package wire, walked: messages got; conditions: those that each theorem names. -/
import Derived.Test.YtpbhanpblmoepaaGreatJX9
namespace Go.Proofs.YtpbhanpblmoepaaGreat.Sx
open Go.RowKit Go.Proofs.YtpbhanpblmoepaaGreat.Hm Go.Proofs.YtpbhanpblmoepaaGreatW.PrintWords Go.Proofs.YtpbhanpblmoepaaGreatW.PrintLast Go.Proofs.YtpbhanpblmoepaaGreatW.PrintMore
set_option linter.unusedVariables false
set_option linter.unusedSimpArgs false
attribute [local irreducible] SX SXL SXA St callK Post Evals

section
variable {F R R5 R6 R8 : List Thing} {K : Ending → List Thing → Prop} {A B C D E : Option Addr} {c : Nat}
set_option maxRecDepth 20000 in
theorem Get1_S {b5 b6 b8 : Nat} {xs : List Int} {z : Int} (hat6 : At (some ⟨b6, 0, none⟩) F (cellsR b6 [.slice A xs.length c] 22) R6) (hat5 : At (some ⟨b5, 0, none⟩) F (cellsR b5 [.int .u32 z, .int .u32 0, .int .u32 0, .int .u32 0, .int .u32 0, .int .u32 0, .string ⟨#[]⟩, .int .u32 0, .int .u32 0, .string ⟨#[]⟩, .int .u64 0, .int .u64 0, .int .u32 0, .int .u32 0, .slice none 0 0, .int .u32 0, .int .u32 0, .int .i64 0, .int .u32 0, .int .u32 0, .int .u32 0, .int .u32 0, .int .u32 0, .int .u32 0, .int .u64 0, .slice none 0 0, .slice none 0 0, .bool false, .int .u64 0, .int .u32 0, .int .u32 0, .int .u64 0, .int .u64 0, .int .u32 0, .slice none 0 0] 40) R5) (hat8 : At (some ⟨b8, 0, none⟩) R5 (cellsR b8 [.int .i64 11] 31) R8) (hr : Ro (Kd.int .u8) A F xs) (hc : xs.length ≤ c) (hb : bytesB xs = true) (hl : xs.length ≤ 140737488355327)
    (h : ∀ r n, getCa xs = (r, n) → ∀ A' c', r.d.length ≤ c' → K (.returned (.tuple #[])) (.own (some ⟨b8, 0, none⟩) (cellsR b8 [.int .i64 n] 31) :: .own (some ⟨b5, 0, none⟩) (cellsR b5 [.int .u32 z, .int .u32 r.client, .int .u32 r.xid, .int .u32 r.op, .int .u32 r.ai, .int .u32 r.ag, .string r.name, .int .u32 r.ti, .int .u32 r.tg, .string r.toName, .int .u64 r.off, .int .u64 r.verf, .int .u32 r.cnt, .int .u32 r.mode, .slice A' r.d.length c', .int .u32 0, .int .u32 0, .int .i64 0, .int .u32 0, .int .u32 0, .int .u32 0, .int .u32 0, .int .u32 0, .int .u32 0, .int .u64 0, .slice none 0 0, .slice none 0 0, .bool false, .int .u64 0, .int .u32 0, .int .u32 0, .int .u64 0, .int .u64 0, .int .u32 0, .slice none 0 0] 40) :: .own A' (rowR (Kd.int .u8) 5 (.slice A' r.d.length c') r.d) :: R8)) :
    Fn (Tryz.prog) 18 [.pointer (some ⟨b6, 0, none⟩), .pointer (some ⟨b5, 0, none⟩), .pointer (some ⟨b8, 0, none⟩)] F K := by
  refine Fn.enter Tryz.call18 Tryz.func18 rfl rfl rfl ?_
  repeat (first | refine Qa ?_ | refine Qb ?_ | refine Qc ?_ | refine Qd ?_ | refine Qe ?_ | refine Qf ?_ | refine Qg ?_ | refine Qh ?_ | refine Qi ?_ | refine Qj ?_ | refine Qk ?_ | refine Ql ?_ | refine Qm ?_ | refine Qn ?_ | refine Qo ?_ | refine Qp ?_ | refine Qq ?_ | fail)
  refine SXL.call rfl rfl rfl ?_
  refine (GetCall_S (xs := xs) inferInstance hc hb hl (fun r n hm A' c' hc' => callK.ret ?_))
  repeat (first | refine Qa ?_ | refine Qb ?_ | refine Qc ?_ | refine Qd ?_ | refine Qe ?_ | refine Qf ?_ | refine Qg ?_ | refine Qh ?_ | refine Qi ?_ | refine Qj ?_ | refine Qk ?_ | refine Ql ?_ | refine Qm ?_ | refine Qn ?_ | refine Qo ?_ | refine Qp ?_ | refine Qq ?_ | fail)
  refine SX.fin (M' := (.own (some ⟨b8, 0, none⟩) (cellsR b8 [.int .i64 n] 31) :: .own (some ⟨b5, 0, none⟩) (cellsR b5 [.int .u32 z, .int .u32 r.client, .int .u32 r.xid, .int .u32 r.op, .int .u32 r.ai, .int .u32 r.ag, .string r.name, .int .u32 r.ti, .int .u32 r.tg, .string r.toName, .int .u64 r.off, .int .u64 r.verf, .int .u32 r.cnt, .int .u32 r.mode, .slice A' r.d.length c', .int .u32 0, .int .u32 0, .int .i64 0, .int .u32 0, .int .u32 0, .int .u32 0, .int .u32 0, .int .u32 0, .int .u32 0, .int .u64 0, .slice none 0 0, .slice none 0 0, .bool false, .int .u64 0, .int .u32 0, .int .u32 0, .int .u64 0, .int .u64 0, .int .u32 0, .slice none 0 0] 40) :: .own A' (rowR (Kd.int .u8) 5 (.slice A' r.d.length c') r.d) :: R8)) rfl Evals.nil ?_ inferInstance
  exact h r n hm A' c' hc'
set_option maxRecDepth 20000 in
theorem Get2_S {b5 b6 b8 : Nat} {xs : List Int} {z : Int} (hat6 : At (some ⟨b6, 0, none⟩) F (cellsR b6 [.slice A xs.length c] 22) R6) (hat5 : At (some ⟨b5, 0, none⟩) F (cellsR b5 [.int .u32 z, .int .u32 0, .int .u32 0, .int .u32 0, .int .u32 0, .int .u32 0, .string ⟨#[]⟩, .int .u32 0, .int .u32 0, .string ⟨#[]⟩, .int .u64 0, .int .u64 0, .int .u32 0, .int .u32 0, .slice none 0 0, .int .u32 0, .int .u32 0, .int .i64 0, .int .u32 0, .int .u32 0, .int .u32 0, .int .u32 0, .int .u32 0, .int .u32 0, .int .u64 0, .slice none 0 0, .slice none 0 0, .bool false, .int .u64 0, .int .u32 0, .int .u32 0, .int .u64 0, .int .u64 0, .int .u32 0, .slice none 0 0] 40) R5) (hat8 : At (some ⟨b8, 0, none⟩) R5 (cellsR b8 [.int .i64 11] 31) R8) (hr : Ro (Kd.int .u8) A F xs) (hc : xs.length ≤ c) (hb : bytesB xs = true) (hl : xs.length ≤ 140737488355327)
    (h : ∀ r n, getRe xs = (r, n) → ∀ A' c' B' d', r.d.length ≤ c' → r.e.length ≤ d' → K (.returned (.tuple #[])) (.own (some ⟨b8, 0, none⟩) (cellsR b8 [.int .i64 n] 31) :: .own (some ⟨b5, 0, none⟩) (cellsR b5 [.int .u32 z, .int .u32 0, .int .u32 0, .int .u32 0, .int .u32 0, .int .u32 0, .string ⟨#[]⟩, .int .u32 0, .int .u32 0, .string ⟨#[]⟩, .int .u64 0, .int .u64 0, .int .u32 0, .int .u32 0, .slice none 0 0, .int .u32 r.client, .int .u32 r.xid, .int .i64 r.st, .int .u32 r.ai, .int .u32 r.ag, .int .u32 r.ak, .int .u32 r.am, .int .u32 r.al, .int .u32 r.sz, .int .u64 r.ac, .slice A' r.d.length c', .slice B' r.e.length d', .bool r.eof, .int .u64 r.verf, .int .u32 r.free, .int .u32 0, .int .u64 0, .int .u64 0, .int .u32 0, .slice none 0 0] 40) :: .own A' (rowR (Kd.int .u8) 5 (.slice A' r.d.length c') r.d) :: .own B' (rowR kE 130 (.slice B' r.e.length d') r.e) :: R8)) :
    Fn (Tryz.prog) 20 [.pointer (some ⟨b6, 0, none⟩), .pointer (some ⟨b5, 0, none⟩), .pointer (some ⟨b8, 0, none⟩)] F K := by
  refine Fn.enter Tryz.call20 Tryz.func20 rfl rfl rfl ?_
  repeat (first | refine Qa ?_ | refine Qb ?_ | refine Qc ?_ | refine Qd ?_ | refine Qe ?_ | refine Qf ?_ | refine Qg ?_ | refine Qh ?_ | refine Qi ?_ | refine Qj ?_ | refine Qk ?_ | refine Ql ?_ | refine Qm ?_ | refine Qn ?_ | refine Qo ?_ | refine Qp ?_ | refine Qq ?_ | fail)
  refine SXL.call rfl rfl rfl ?_
  refine (GetReply_S (xs := xs) inferInstance hc hb hl (fun r n hm A' c' B' d' hc' hd' => callK.ret ?_))
  repeat (first | refine Qa ?_ | refine Qb ?_ | refine Qc ?_ | refine Qd ?_ | refine Qe ?_ | refine Qf ?_ | refine Qg ?_ | refine Qh ?_ | refine Qi ?_ | refine Qj ?_ | refine Qk ?_ | refine Ql ?_ | refine Qm ?_ | refine Qn ?_ | refine Qo ?_ | refine Qp ?_ | refine Qq ?_ | fail)
  refine SX.fin (M' := (.own (some ⟨b8, 0, none⟩) (cellsR b8 [.int .i64 n] 31) :: .own (some ⟨b5, 0, none⟩) (cellsR b5 [.int .u32 z, .int .u32 0, .int .u32 0, .int .u32 0, .int .u32 0, .int .u32 0, .string ⟨#[]⟩, .int .u32 0, .int .u32 0, .string ⟨#[]⟩, .int .u64 0, .int .u64 0, .int .u32 0, .int .u32 0, .slice none 0 0, .int .u32 r.client, .int .u32 r.xid, .int .i64 r.st, .int .u32 r.ai, .int .u32 r.ag, .int .u32 r.ak, .int .u32 r.am, .int .u32 r.al, .int .u32 r.sz, .int .u64 r.ac, .slice A' r.d.length c', .slice B' r.e.length d', .bool r.eof, .int .u64 r.verf, .int .u32 r.free, .int .u32 0, .int .u64 0, .int .u64 0, .int .u32 0, .slice none 0 0] 40) :: .own A' (rowR (Kd.int .u8) 5 (.slice A' r.d.length c') r.d) :: .own B' (rowR kE 130 (.slice B' r.e.length d') r.e) :: R8)) rfl Evals.nil ?_ inferInstance
  exact h r n hm A' c' B' d' hc' hd'
set_option maxRecDepth 20000 in
theorem Get3_S {b5 b6 b8 : Nat} {xs : List Int} {z : Int} (hat6 : At (some ⟨b6, 0, none⟩) F (cellsR b6 [.slice A xs.length c] 22) R6) (hat5 : At (some ⟨b5, 0, none⟩) F (cellsR b5 [.int .u32 z, .int .u32 0, .int .u32 0, .int .u32 0, .int .u32 0, .int .u32 0, .string ⟨#[]⟩, .int .u32 0, .int .u32 0, .string ⟨#[]⟩, .int .u64 0, .int .u64 0, .int .u32 0, .int .u32 0, .slice none 0 0, .int .u32 0, .int .u32 0, .int .i64 0, .int .u32 0, .int .u32 0, .int .u32 0, .int .u32 0, .int .u32 0, .int .u32 0, .int .u64 0, .slice none 0 0, .slice none 0 0, .bool false, .int .u64 0, .int .u32 0, .int .u32 0, .int .u64 0, .int .u64 0, .int .u32 0, .slice none 0 0] 40) R5) (hat8 : At (some ⟨b8, 0, none⟩) R5 (cellsR b8 [.int .i64 11] 31) R8) (hr : Ro (Kd.int .u8) A F xs) (hc : xs.length ≤ c) (hb : bytesB xs = true) (hl : xs.length ≤ 140737488355327)
    (h : ∀ r n, getCt xs = (r, n) → ∀ A' c', r.d.length ≤ c' → K (.returned (.tuple #[])) (.own (some ⟨b8, 0, none⟩) (cellsR b8 [.int .i64 n] 31) :: .own (some ⟨b5, 0, none⟩) (cellsR b5 [.int .u32 z, .int .u32 0, .int .u32 0, .int .u32 0, .int .u32 0, .int .u32 0, .string ⟨#[]⟩, .int .u32 0, .int .u32 0, .string ⟨#[]⟩, .int .u64 0, .int .u64 0, .int .u32 0, .int .u32 0, .slice none 0 0, .int .u32 0, .int .u32 0, .int .i64 0, .int .u32 0, .int .u32 0, .int .u32 0, .int .u32 0, .int .u32 0, .int .u32 0, .int .u64 0, .slice none 0 0, .slice none 0 0, .bool false, .int .u64 0, .int .u32 0, .int .u32 r.k, .int .u64 r.ep, .int .u64 r.sq, .int .u32 r.pl, .slice A' r.d.length c'] 40) :: .own A' (rowR (Kd.int .u8) 5 (.slice A' r.d.length c') r.d) :: R8)) :
    Fn (Tryz.prog) 22 [.pointer (some ⟨b6, 0, none⟩), .pointer (some ⟨b5, 0, none⟩), .pointer (some ⟨b8, 0, none⟩)] F K := by
  refine Fn.enter Tryz.call22 Tryz.func22 rfl rfl rfl ?_
  repeat (first | refine Qa ?_ | refine Qb ?_ | refine Qc ?_ | refine Qd ?_ | refine Qe ?_ | refine Qf ?_ | refine Qg ?_ | refine Qh ?_ | refine Qi ?_ | refine Qj ?_ | refine Qk ?_ | refine Ql ?_ | refine Qm ?_ | refine Qn ?_ | refine Qo ?_ | refine Qp ?_ | refine Qq ?_ | fail)
  refine SXL.call rfl rfl rfl ?_
  refine (getCtl_S (xs := xs) inferInstance hc hb hl (fun r n hm A' c' hc' => callK.ret ?_))
  repeat (first | refine Qa ?_ | refine Qb ?_ | refine Qc ?_ | refine Qd ?_ | refine Qe ?_ | refine Qf ?_ | refine Qg ?_ | refine Qh ?_ | refine Qi ?_ | refine Qj ?_ | refine Qk ?_ | refine Ql ?_ | refine Qm ?_ | refine Qn ?_ | refine Qo ?_ | refine Qp ?_ | refine Qq ?_ | fail)
  refine SX.fin (M' := (.own (some ⟨b8, 0, none⟩) (cellsR b8 [.int .i64 n] 31) :: .own (some ⟨b5, 0, none⟩) (cellsR b5 [.int .u32 z, .int .u32 0, .int .u32 0, .int .u32 0, .int .u32 0, .int .u32 0, .string ⟨#[]⟩, .int .u32 0, .int .u32 0, .string ⟨#[]⟩, .int .u64 0, .int .u64 0, .int .u32 0, .int .u32 0, .slice none 0 0, .int .u32 0, .int .u32 0, .int .i64 0, .int .u32 0, .int .u32 0, .int .u32 0, .int .u32 0, .int .u32 0, .int .u32 0, .int .u64 0, .slice none 0 0, .slice none 0 0, .bool false, .int .u64 0, .int .u32 0, .int .u32 r.k, .int .u64 r.ep, .int .u64 r.sq, .int .u32 r.pl, .slice A' r.d.length c'] 40) :: .own A' (rowR (Kd.int .u8) 5 (.slice A' r.d.length c') r.d) :: R8)) rfl Evals.nil ?_ inferInstance
  exact h r n hm A' c' hc'
set_option maxHeartbeats 1000000 in
set_option maxRecDepth 20000 in
theorem WGet_S {xs : List Int} (hr : Ro (Kd.int .u8) A F xs) (hc : xs.length ≤ c) (hb : bytesB xs = true) (hl : xs.length ≤ 1000000) (h : ∀ r n, getMs xs = (r, n) → ∀ A1 a1 B1 b1 C1 c1 D1 d1, r.c.d.length ≤ a1 → r.r.d.length ≤ b1 → r.r.e.length ≤ c1 → r.t.d.length ≤ d1 → K (.returned (.tuple #[.agg (msC r A1 a1 B1 b1 C1 c1 D1 d1).toArray, .int .i64 n])) (.own A1 (rowR (Kd.int .u8) 5 (.slice A1 r.c.d.length a1) r.c.d) :: .own B1 (rowR (Kd.int .u8) 5 (.slice B1 r.r.d.length b1) r.r.d) :: .own C1 (rowR kE 130 (.slice C1 r.r.e.length c1) r.r.e) :: .own D1 (rowR (Kd.int .u8) 5 (.slice D1 r.t.d.length d1) r.t.d) :: F)) : Fn (Tryz.prog) 6 [.slice A xs.length c] F K := by
  unfold getMs at h
  refine Fn.enter Tryz.call6 Tryz.func6 rfl rfl rfl ?_
  repeat (first | refine Qa ?_ | refine Qb ?_ | refine Qc ?_ | refine Qd ?_ | refine Qe ?_ | refine Qf ?_ | refine Qg ?_ | refine Qh ?_ | refine Qi ?_ | refine Qj ?_ | refine Qk ?_ | refine Ql ?_ | refine Qm ?_ | refine Qn ?_ | refine Qo ?_ | refine Qp ?_ | refine Qq ?_ | fail)
  refine SXL.alloc rfl rfl (fun q => ?_)
  repeat (first | refine Qa ?_ | refine Qb ?_ | refine Qc ?_ | refine Qd ?_ | refine Qe ?_ | refine Qf ?_ | refine Qg ?_ | refine Qh ?_ | refine Qi ?_ | refine Qj ?_ | refine Qk ?_ | refine Ql ?_ | refine Qm ?_ | refine Qn ?_ | refine Qo ?_ | refine Qp ?_ | refine Qq ?_ | fail)
  refine SXL.call rfl rfl rfl ?_
  refine (Right_S inferInstance hc hb (by omega) (callK.ret ?_))
  repeat (first | refine Qa ?_ | refine Qb ?_ | refine Qc ?_ | refine Qd ?_ | refine Qe ?_ | refine Qf ?_ | refine Qg ?_ | refine Qh ?_ | refine Qi ?_ | refine Qj ?_ | refine Qk ?_ | refine Ql ?_ | refine Qm ?_ | refine Qn ?_ | refine Qo ?_ | refine Qp ?_ | refine Qq ?_ | fail)
  refine SX.cond rfl (fun hR => ?_) (fun hR => ?_)
  · have hR' : rightB xs = false := by simpa using hR
    rw [if_pos hR'] at h
    repeat (first | refine Qa ?_ | refine Qb ?_ | refine Qc ?_ | refine Qd ?_ | refine Qe ?_ | refine Qf ?_ | refine Qg ?_ | refine Qh ?_ | refine Qi ?_ | refine Qj ?_ | refine Qk ?_ | refine Ql ?_ | refine Qm ?_ | refine Qn ?_ | refine Qo ?_ | refine Qp ?_ | refine Qq ?_ | fail)
    refine SX.ret (M' := (.own none (rowR (Kd.int .u8) 5 (.slice none ([] : List Int).length 0) []) :: .own none (rowR (Kd.int .u8) 5 (.slice none ([] : List Int).length 0) []) :: .own none (rowR kE 130 (.slice none ([] : List Ent).length 0) []) :: .own none (rowR (Kd.int .u8) 5 (.slice none ([] : List Int).length 0) []) :: F)) rfl (Evals.cell rfl inferInstance rfl (Evals.tmp rfl Evals.nil)) ?_ inferInstance
    exact h _ _ rfl none 0 none 0 none 0 none 0 (Nat.le_refl _) (Nat.le_refl _) (Nat.le_refl _) (Nat.le_refl _)
  have hR' : rightB xs = true := by simpa using hR
  rw [if_neg (by rw [hR']; decide)] at h
  have h4 : 4 ≤ xs.length := by unfold rightB at hR'; simp only [Bool.and_eq_true, decide_eq_true_eq] at hR'; exact hR'.1
  obtain ⟨m, hm⟩ : ∃ m : Nat, xs.length = m + 4 := ⟨xs.length - 4, by omega⟩
  have hbd : bodyM xs = xs.take m := by unfold bodyM; rw [show xs.length - 4 = m by omega]
  have hml : (xs.take m).length = m := by rw [List.length_take]; omega
  have hmb : bytesB (xs.take m) = true := bytesB_take _ _ hb
  rw [hbd] at h
  unfold getFs at h
  repeat (first | refine Qa ?_ | refine Qb ?_ | refine Qc ?_ | refine Qd ?_ | refine Qe ?_ | refine Qf ?_ | refine Qg ?_ | refine Qh ?_ | refine Qi ?_ | refine Qj ?_ | refine Qk ?_ | refine Ql ?_ | refine Qm ?_ | refine Qn ?_ | refine Qo ?_ | refine Qp ?_ | refine Qq ?_ | fail)
  refine SXL.same 19 (.int .i64 (m : Int)) rfl (by rw [IntWalk.i64_in _ (by omega)]; congr 1; omega) ?_
  refine SXL.cut rfl rfl rfl rfl rfl rfl hc (by omega) (by omega) (by omega) rfl ?_
  refine SXL.same 20 (.slice A (xs.take m).length c) rfl (by rw [cut0, hml]; simp) ?_
  repeat (first | refine Qa ?_ | refine Qb ?_ | refine Qc ?_ | refine Qd ?_ | refine Qe ?_ | refine Qf ?_ | refine Qg ?_ | refine Qh ?_ | refine Qi ?_ | refine Qj ?_ | refine Qk ?_ | refine Ql ?_ | refine Qm ?_ | refine Qn ?_ | refine Qo ?_ | refine Qp ?_ | refine Qq ?_ | fail)
  refine SXL.call rfl rfl rfl ?_
  refine (NewReader_S (xs := xs.take m) (Ro.take m inferInstance) (by omega) (by omega) (fun p A0 c0 hc0 => callK.ret ?_))
  repeat (first | refine Qa ?_ | refine Qb ?_ | refine Qc ?_ | refine Qd ?_ | refine Qe ?_ | refine Qf ?_ | refine Qg ?_ | refine Qh ?_ | refine Qi ?_ | refine Qj ?_ | refine Qk ?_ | refine Ql ?_ | refine Qm ?_ | refine Qn ?_ | refine Qo ?_ | refine Qp ?_ | refine Qq ?_ | fail)
  refine SXL.call rfl rfl rfl ?_
  refine (Fn.at_ inferInstance (RU32_S hc0 hmb (by omega) (fun x1 y1 e1 h1 A1 c1 hc1 => callK.ret ?_)))
  have b1 := rdM_rest (xs.take m) 0 4 hmb
  have l1 := rdM_le (xs.take m) 0 4
  rw [h1] at b1 l1
  dsimp only at b1 l1
  repeat (first | refine Qa ?_ | refine Qb ?_ | refine Qc ?_ | refine Qd ?_ | refine Qe ?_ | refine Qf ?_ | refine Qg ?_ | refine Qh ?_ | refine Qi ?_ | refine Qj ?_ | refine Qk ?_ | refine Ql ?_ | refine Qm ?_ | refine Qn ?_ | refine Qo ?_ | refine Qp ?_ | refine Qq ?_ | fail)
  refine SXL.alloc rfl rfl (fun b5 => ?_)
  repeat (first | refine Qa ?_ | refine Qb ?_ | refine Qc ?_ | refine Qd ?_ | refine Qe ?_ | refine Qf ?_ | refine Qg ?_ | refine Qh ?_ | refine Qi ?_ | refine Qj ?_ | refine Qk ?_ | refine Ql ?_ | refine Qm ?_ | refine Qn ?_ | refine Qo ?_ | refine Qp ?_ | refine Qq ?_ | fail)
  refine SXL.call rfl rfl rfl ?_
  refine (Fn.at_ inferInstance (ROpaque_S hc1 b1 (by omega) (by decide) (by decide) (fun x2 y2 e2 h2 D2 C2 A2 c2 hC2 hc2 => callK.ret ?_)))
  have b2 := opM_rest y1 e1 4096 b1
  have l2 := opM_le y1 e1 4096
  obtain ⟨d2, z2⟩ := opM_bytes b1 (by decide) h2
  rw [h2] at b2 l2
  dsimp only at b2 l2
  repeat (first | refine Qa ?_ | refine Qb ?_ | refine Qc ?_ | refine Qd ?_ | refine Qe ?_ | refine Qf ?_ | refine Qg ?_ | refine Qh ?_ | refine Qi ?_ | refine Qj ?_ | refine Qk ?_ | refine Ql ?_ | refine Qm ?_ | refine Qn ?_ | refine Qo ?_ | refine Qp ?_ | refine Qq ?_ | fail)
  refine SXL.alloc rfl rfl (fun b6 => ?_)
  repeat (first | refine Qa ?_ | refine Qb ?_ | refine Qc ?_ | refine Qd ?_ | refine Qe ?_ | refine Qf ?_ | refine Qg ?_ | refine Qh ?_ | refine Qi ?_ | refine Qj ?_ | refine Qk ?_ | refine Ql ?_ | refine Qm ?_ | refine Qn ?_ | refine Qo ?_ | refine Qp ?_ | refine Qq ?_ | fail)
  refine SXL.call rfl rfl rfl ?_
  refine (Fn.at_ inferInstance (REnd_S (xs := y2) (callK.ret ?_)))
  have hF : rdFs msF (xs.take m) 0 = ([.i x1, .b x2], y2, e2) := by
    simp only [rdFs, msF, rdF, show rdM (xs.take m) 0 4 = _ from h1, show opM y1 e1 ((4096 : Nat) : Int) = _ from h2]
  rw [hF] at h
  dsimp only [kOf] at h
  repeat (first | refine Qa ?_ | refine Qb ?_ | refine Qc ?_ | refine Qd ?_ | refine Qe ?_ | refine Qf ?_ | refine Qg ?_ | refine Qh ?_ | refine Qi ?_ | refine Qj ?_ | refine Qk ?_ | refine Ql ?_ | refine Qm ?_ | refine Qn ?_ | refine Qo ?_ | refine Qp ?_ | refine Qq ?_ | fail)
  refine SX.cond rfl (fun he => ?_) (fun he => ?_)
  · have he' : endM y2 e2 ≠ 0 := by simpa using he
    rw [if_pos he'] at h
    repeat (first | refine Qa ?_ | refine Qb ?_ | refine Qc ?_ | refine Qd ?_ | refine Qe ?_ | refine Qf ?_ | refine Qg ?_ | refine Qh ?_ | refine Qi ?_ | refine Qj ?_ | refine Qk ?_ | refine Ql ?_ | refine Qm ?_ | refine Qn ?_ | refine Qo ?_ | refine Qp ?_ | refine Qq ?_ | fail)
    refine SX.ret (M' := (.own none (rowR (Kd.int .u8) 5 (.slice none ([] : List Int).length 0) []) :: .own none (rowR (Kd.int .u8) 5 (.slice none ([] : List Int).length 0) []) :: .own none (rowR kE 130 (.slice none ([] : List Ent).length 0) []) :: .own none (rowR (Kd.int .u8) 5 (.slice none ([] : List Int).length 0) []) :: F)) rfl (Evals.cell rfl inferInstance rfl (Evals.tmp rfl Evals.nil)) ?_ inferInstance
    exact h _ _ rfl none 0 none 0 none 0 none 0 (Nat.le_refl _) (Nat.le_refl _) (Nat.le_refl _) (Nat.le_refl _)
  have he' : endM y2 e2 = 0 := by simpa using he
  rw [if_neg (by rw [he']; decide)] at h
  repeat (first | refine Qa ?_ | refine Qb ?_ | refine Qc ?_ | refine Qd ?_ | refine Qe ?_ | refine Qf ?_ | refine Qg ?_ | refine Qh ?_ | refine Qi ?_ | refine Qj ?_ | refine Qk ?_ | refine Ql ?_ | refine Qm ?_ | refine Qn ?_ | refine Qo ?_ | refine Qp ?_ | refine Qq ?_ | fail)
  refine SXL.alloc rfl rfl (fun b8 => ?_)
  repeat (first | refine Qa ?_ | refine Qb ?_ | refine Qc ?_ | refine Qd ?_ | refine Qe ?_ | refine Qf ?_ | refine Qg ?_ | refine Qh ?_ | refine Qi ?_ | refine Qj ?_ | refine Qk ?_ | refine Ql ?_ | refine Qm ?_ | refine Qn ?_ | refine Qo ?_ | refine Qp ?_ | refine Qq ?_ | fail)
  refine SXL.mkMap rfl (fun g => ?_)
  repeat (first | refine Qa ?_ | refine Qb ?_ | refine Qc ?_ | refine Qd ?_ | refine Qe ?_ | refine Qf ?_ | refine Qg ?_ | refine Qh ?_ | refine Qi ?_ | refine Qj ?_ | refine Qk ?_ | refine Ql ?_ | refine Qm ?_ | refine Qn ?_ | refine Qo ?_ | refine Qp ?_ | refine Qq ?_ | fail)
  refine SXL.insert rfl rfl rfl inferInstance Tryz.underlying74 Tryz.underlying25 rfl ?_
  repeat (first | refine Qa ?_ | refine Qb ?_ | refine Qc ?_ | refine Qd ?_ | refine Qe ?_ | refine Qf ?_ | refine Qg ?_ | refine Qh ?_ | refine Qi ?_ | refine Qj ?_ | refine Qk ?_ | refine Ql ?_ | refine Qm ?_ | refine Qn ?_ | refine Qo ?_ | refine Qp ?_ | refine Qq ?_ | fail)
  refine SXL.insert rfl rfl rfl inferInstance Tryz.underlying74 Tryz.underlying25 rfl ?_
  repeat (first | refine Qa ?_ | refine Qb ?_ | refine Qc ?_ | refine Qd ?_ | refine Qe ?_ | refine Qf ?_ | refine Qg ?_ | refine Qh ?_ | refine Qi ?_ | refine Qj ?_ | refine Qk ?_ | refine Ql ?_ | refine Qm ?_ | refine Qn ?_ | refine Qo ?_ | refine Qp ?_ | refine Qq ?_ | fail)
  refine SXL.insert rfl rfl rfl inferInstance Tryz.underlying74 Tryz.underlying25 rfl ?_
  repeat (first | refine Qa ?_ | refine Qb ?_ | refine Qc ?_ | refine Qd ?_ | refine Qe ?_ | refine Qf ?_ | refine Qg ?_ | refine Qh ?_ | refine Qi ?_ | refine Qj ?_ | refine Qk ?_ | refine Ql ?_ | refine Qm ?_ | refine Qn ?_ | refine Qo ?_ | refine Qp ?_ | refine Qq ?_ | fail)
  by_cases k1 : x1 = 1
  · subst k1
    refine SXL.lookup (r := some (0, .func (.func 18) #[] #[.pointer (some ⟨b6, 0, none⟩), .pointer (some ⟨b5, 0, none⟩), .pointer (some ⟨b8, 0, none⟩)])) (bb := true) (vv := .func (.func 18) #[] #[.pointer (some ⟨b6, 0, none⟩), .pointer (some ⟨b5, 0, none⟩), .pointer (some ⟨b8, 0, none⟩)]) rfl rfl inferInstance Tryz.underlying74 Tryz.underlying25 rfl rfl rfl rfl rfl ?_
    repeat (first | refine Qa ?_ | refine Qb ?_ | refine Qc ?_ | refine Qd ?_ | refine Qe ?_ | refine Qf ?_ | refine Qg ?_ | refine Qh ?_ | refine Qi ?_ | refine Qj ?_ | refine Qk ?_ | refine Ql ?_ | refine Qm ?_ | refine Qn ?_ | refine Qo ?_ | refine Qp ?_ | refine Qq ?_ | fail)
    refine SXL.callAny (d := some 47) rfl rfl rfl rfl ?_
    refine (Get1_S (xs := x2) inferInstance inferInstance inferInstance inferInstance hC2 d2 (by omega) (fun r n hg5 A9 c9 hc9 => callK.ret ?_))
    rw [opnM_1 hg5] at h
    repeat (first | refine Qa ?_ | refine Qb ?_ | refine Qc ?_ | refine Qd ?_ | refine Qe ?_ | refine Qf ?_ | refine Qg ?_ | refine Qh ?_ | refine Qi ?_ | refine Qj ?_ | refine Qk ?_ | refine Ql ?_ | refine Qm ?_ | refine Qn ?_ | refine Qo ?_ | refine Qp ?_ | refine Qq ?_ | fail)
    refine SX.cond rfl (fun hn => ?_) (fun hn => ?_)
    · have hn' : n ≠ 0 := by simpa using hn
      rw [finM_bad hn'] at h
      repeat (first | refine Qa ?_ | refine Qb ?_ | refine Qc ?_ | refine Qd ?_ | refine Qe ?_ | refine Qf ?_ | refine Qg ?_ | refine Qh ?_ | refine Qi ?_ | refine Qj ?_ | refine Qk ?_ | refine Ql ?_ | refine Qm ?_ | refine Qn ?_ | refine Qo ?_ | refine Qp ?_ | refine Qq ?_ | fail)
      refine SXA.begin [.own (some ⟨b8, 0, none⟩) (cellsR b8 [.int .i64 n] 31), .own (some ⟨q, 0, none⟩) (cellsR q [.int .u32 0, .int .u32 0, .int .u32 0, .int .u32 0, .int .u32 0, .int .u32 0, .string ⟨#[]⟩, .int .u32 0, .int .u32 0, .string ⟨#[]⟩, .int .u64 0, .int .u64 0, .int .u32 0, .int .u32 0, .slice none 0 0, .int .u32 0, .int .u32 0, .int .i64 0, .int .u32 0, .int .u32 0, .int .u32 0, .int .u32 0, .int .u32 0, .int .u32 0, .int .u64 0, .slice none 0 0, .slice none 0 0, .bool false, .int .u64 0, .int .u32 0, .int .u32 0, .int .u64 0, .int .u64 0, .int .u32 0, .slice none 0 0] 40)] [] ?_
      (first | refine Qr 0 ?_ | refine Qs 0 ?_ | refine Qt 0 ?_ | refine Qu 0 ?_ | fail)
      (first | refine Qr 1 ?_ | refine Qs 1 ?_ | refine Qt 1 ?_ | refine Qu 1 ?_ | fail)
      (first | refine Qr 2 ?_ | refine Qs 2 ?_ | refine Qt 2 ?_ | refine Qu 2 ?_ | fail)
      (first | refine Qr 3 ?_ | refine Qs 3 ?_ | refine Qt 3 ?_ | refine Qu 3 ?_ | fail)
      refine Qv ?_
      repeat (first | refine Qa ?_ | refine Qb ?_ | refine Qc ?_ | refine Qd ?_ | refine Qe ?_ | refine Qf ?_ | refine Qg ?_ | refine Qh ?_ | refine Qi ?_ | refine Qj ?_ | refine Qk ?_ | refine Ql ?_ | refine Qm ?_ | refine Qn ?_ | refine Qo ?_ | refine Qp ?_ | refine Qq ?_ | fail)
      refine SX.ret (M' := (.own none (rowR (Kd.int .u8) 5 (.slice none ([] : List Int).length 0) []) :: .own none (rowR (Kd.int .u8) 5 (.slice none ([] : List Int).length 0) []) :: .own none (rowR kE 130 (.slice none ([] : List Ent).length 0) []) :: .own none (rowR (Kd.int .u8) 5 (.slice none ([] : List Int).length 0) []) :: F)) rfl (Evals.cell rfl inferInstance rfl (Evals.tmp rfl Evals.nil)) ?_ inferInstance
      exact h _ _ rfl none 0 none 0 none 0 none 0 (Nat.le_refl _) (Nat.le_refl _) (Nat.le_refl _) (Nat.le_refl _)
    · obtain rfl : n = 0 := by simpa using hn
      rw [finM_ok] at h
      repeat (first | refine Qa ?_ | refine Qb ?_ | refine Qc ?_ | refine Qd ?_ | refine Qe ?_ | refine Qf ?_ | refine Qg ?_ | refine Qh ?_ | refine Qi ?_ | refine Qj ?_ | refine Qk ?_ | refine Ql ?_ | refine Qm ?_ | refine Qn ?_ | refine Qo ?_ | refine Qp ?_ | refine Qq ?_ | fail)
      refine SX.ret (M' := (.own A9 (rowR (Kd.int .u8) 5 (.slice A9 r.d.length c9) r.d) :: .own none (rowR (Kd.int .u8) 5 (.slice none ([] : List Int).length 0) []) :: .own none (rowR kE 130 (.slice none ([] : List Ent).length 0) []) :: .own none (rowR (Kd.int .u8) 5 (.slice none ([] : List Int).length 0) []) :: F)) rfl (Evals.cell rfl inferInstance rfl (Evals.tmp rfl Evals.nil)) ?_ inferInstance
      exact h ⟨1, r, Re0, Ctl0⟩ 0 rfl A9 c9 none 0 none 0 none 0 hc9 (Nat.le_refl _) (Nat.le_refl _) (Nat.le_refl _)
  by_cases k2 : x1 = 2
  · subst k2
    refine SXL.lookup (r := some (1, .func (.func 20) #[] #[.pointer (some ⟨b6, 0, none⟩), .pointer (some ⟨b5, 0, none⟩), .pointer (some ⟨b8, 0, none⟩)])) (bb := true) (vv := .func (.func 20) #[] #[.pointer (some ⟨b6, 0, none⟩), .pointer (some ⟨b5, 0, none⟩), .pointer (some ⟨b8, 0, none⟩)]) rfl rfl inferInstance Tryz.underlying74 Tryz.underlying25 rfl rfl rfl rfl rfl ?_
    repeat (first | refine Qa ?_ | refine Qb ?_ | refine Qc ?_ | refine Qd ?_ | refine Qe ?_ | refine Qf ?_ | refine Qg ?_ | refine Qh ?_ | refine Qi ?_ | refine Qj ?_ | refine Qk ?_ | refine Ql ?_ | refine Qm ?_ | refine Qn ?_ | refine Qo ?_ | refine Qp ?_ | refine Qq ?_ | fail)
    refine SXL.callAny (d := some 47) rfl rfl rfl rfl ?_
    refine (Get2_S (xs := x2) inferInstance inferInstance inferInstance inferInstance hC2 d2 (by omega) (fun r n hg5 A9 c9 B9 d9 hc9 hd9 => callK.ret ?_))
    rw [opnM_2 hg5] at h
    repeat (first | refine Qa ?_ | refine Qb ?_ | refine Qc ?_ | refine Qd ?_ | refine Qe ?_ | refine Qf ?_ | refine Qg ?_ | refine Qh ?_ | refine Qi ?_ | refine Qj ?_ | refine Qk ?_ | refine Ql ?_ | refine Qm ?_ | refine Qn ?_ | refine Qo ?_ | refine Qp ?_ | refine Qq ?_ | fail)
    refine SX.cond rfl (fun hn => ?_) (fun hn => ?_)
    · have hn' : n ≠ 0 := by simpa using hn
      rw [finM_bad hn'] at h
      repeat (first | refine Qa ?_ | refine Qb ?_ | refine Qc ?_ | refine Qd ?_ | refine Qe ?_ | refine Qf ?_ | refine Qg ?_ | refine Qh ?_ | refine Qi ?_ | refine Qj ?_ | refine Qk ?_ | refine Ql ?_ | refine Qm ?_ | refine Qn ?_ | refine Qo ?_ | refine Qp ?_ | refine Qq ?_ | fail)
      refine SXA.begin [.own (some ⟨b8, 0, none⟩) (cellsR b8 [.int .i64 n] 31), .own (some ⟨q, 0, none⟩) (cellsR q [.int .u32 0, .int .u32 0, .int .u32 0, .int .u32 0, .int .u32 0, .int .u32 0, .string ⟨#[]⟩, .int .u32 0, .int .u32 0, .string ⟨#[]⟩, .int .u64 0, .int .u64 0, .int .u32 0, .int .u32 0, .slice none 0 0, .int .u32 0, .int .u32 0, .int .i64 0, .int .u32 0, .int .u32 0, .int .u32 0, .int .u32 0, .int .u32 0, .int .u32 0, .int .u64 0, .slice none 0 0, .slice none 0 0, .bool false, .int .u64 0, .int .u32 0, .int .u32 0, .int .u64 0, .int .u64 0, .int .u32 0, .slice none 0 0] 40)] [] ?_
      (first | refine Qr 0 ?_ | refine Qs 0 ?_ | refine Qt 0 ?_ | refine Qu 0 ?_ | fail)
      (first | refine Qr 1 ?_ | refine Qs 1 ?_ | refine Qt 1 ?_ | refine Qu 1 ?_ | fail)
      (first | refine Qr 2 ?_ | refine Qs 2 ?_ | refine Qt 2 ?_ | refine Qu 2 ?_ | fail)
      (first | refine Qr 3 ?_ | refine Qs 3 ?_ | refine Qt 3 ?_ | refine Qu 3 ?_ | fail)
      refine Qv ?_
      repeat (first | refine Qa ?_ | refine Qb ?_ | refine Qc ?_ | refine Qd ?_ | refine Qe ?_ | refine Qf ?_ | refine Qg ?_ | refine Qh ?_ | refine Qi ?_ | refine Qj ?_ | refine Qk ?_ | refine Ql ?_ | refine Qm ?_ | refine Qn ?_ | refine Qo ?_ | refine Qp ?_ | refine Qq ?_ | fail)
      refine SX.ret (M' := (.own none (rowR (Kd.int .u8) 5 (.slice none ([] : List Int).length 0) []) :: .own none (rowR (Kd.int .u8) 5 (.slice none ([] : List Int).length 0) []) :: .own none (rowR kE 130 (.slice none ([] : List Ent).length 0) []) :: .own none (rowR (Kd.int .u8) 5 (.slice none ([] : List Int).length 0) []) :: F)) rfl (Evals.cell rfl inferInstance rfl (Evals.tmp rfl Evals.nil)) ?_ inferInstance
      exact h _ _ rfl none 0 none 0 none 0 none 0 (Nat.le_refl _) (Nat.le_refl _) (Nat.le_refl _) (Nat.le_refl _)
    · obtain rfl : n = 0 := by simpa using hn
      rw [finM_ok] at h
      repeat (first | refine Qa ?_ | refine Qb ?_ | refine Qc ?_ | refine Qd ?_ | refine Qe ?_ | refine Qf ?_ | refine Qg ?_ | refine Qh ?_ | refine Qi ?_ | refine Qj ?_ | refine Qk ?_ | refine Ql ?_ | refine Qm ?_ | refine Qn ?_ | refine Qo ?_ | refine Qp ?_ | refine Qq ?_ | fail)
      refine SX.ret (M' := (.own none (rowR (Kd.int .u8) 5 (.slice none ([] : List Int).length 0) []) :: .own A9 (rowR (Kd.int .u8) 5 (.slice A9 r.d.length c9) r.d) :: .own B9 (rowR kE 130 (.slice B9 r.e.length d9) r.e) :: .own none (rowR (Kd.int .u8) 5 (.slice none ([] : List Int).length 0) []) :: F)) rfl (Evals.cell rfl inferInstance rfl (Evals.tmp rfl Evals.nil)) ?_ inferInstance
      exact h ⟨2, Ca0, r, Ctl0⟩ 0 rfl none 0 A9 c9 B9 d9 none 0 (Nat.le_refl _) hc9 hd9 (Nat.le_refl _)
  by_cases k3 : x1 = 3
  · subst k3
    refine SXL.lookup (r := some (2, .func (.func 22) #[] #[.pointer (some ⟨b6, 0, none⟩), .pointer (some ⟨b5, 0, none⟩), .pointer (some ⟨b8, 0, none⟩)])) (bb := true) (vv := .func (.func 22) #[] #[.pointer (some ⟨b6, 0, none⟩), .pointer (some ⟨b5, 0, none⟩), .pointer (some ⟨b8, 0, none⟩)]) rfl rfl inferInstance Tryz.underlying74 Tryz.underlying25 rfl rfl rfl rfl rfl ?_
    repeat (first | refine Qa ?_ | refine Qb ?_ | refine Qc ?_ | refine Qd ?_ | refine Qe ?_ | refine Qf ?_ | refine Qg ?_ | refine Qh ?_ | refine Qi ?_ | refine Qj ?_ | refine Qk ?_ | refine Ql ?_ | refine Qm ?_ | refine Qn ?_ | refine Qo ?_ | refine Qp ?_ | refine Qq ?_ | fail)
    refine SXL.callAny (d := some 47) rfl rfl rfl rfl ?_
    refine (Get3_S (xs := x2) inferInstance inferInstance inferInstance inferInstance hC2 d2 (by omega) (fun r n hg5 A9 c9 hc9 => callK.ret ?_))
    rw [opnM_3 hg5] at h
    repeat (first | refine Qa ?_ | refine Qb ?_ | refine Qc ?_ | refine Qd ?_ | refine Qe ?_ | refine Qf ?_ | refine Qg ?_ | refine Qh ?_ | refine Qi ?_ | refine Qj ?_ | refine Qk ?_ | refine Ql ?_ | refine Qm ?_ | refine Qn ?_ | refine Qo ?_ | refine Qp ?_ | refine Qq ?_ | fail)
    refine SX.cond rfl (fun hn => ?_) (fun hn => ?_)
    · have hn' : n ≠ 0 := by simpa using hn
      rw [finM_bad hn'] at h
      repeat (first | refine Qa ?_ | refine Qb ?_ | refine Qc ?_ | refine Qd ?_ | refine Qe ?_ | refine Qf ?_ | refine Qg ?_ | refine Qh ?_ | refine Qi ?_ | refine Qj ?_ | refine Qk ?_ | refine Ql ?_ | refine Qm ?_ | refine Qn ?_ | refine Qo ?_ | refine Qp ?_ | refine Qq ?_ | fail)
      refine SXA.begin [.own (some ⟨b8, 0, none⟩) (cellsR b8 [.int .i64 n] 31), .own (some ⟨q, 0, none⟩) (cellsR q [.int .u32 0, .int .u32 0, .int .u32 0, .int .u32 0, .int .u32 0, .int .u32 0, .string ⟨#[]⟩, .int .u32 0, .int .u32 0, .string ⟨#[]⟩, .int .u64 0, .int .u64 0, .int .u32 0, .int .u32 0, .slice none 0 0, .int .u32 0, .int .u32 0, .int .i64 0, .int .u32 0, .int .u32 0, .int .u32 0, .int .u32 0, .int .u32 0, .int .u32 0, .int .u64 0, .slice none 0 0, .slice none 0 0, .bool false, .int .u64 0, .int .u32 0, .int .u32 0, .int .u64 0, .int .u64 0, .int .u32 0, .slice none 0 0] 40)] [] ?_
      (first | refine Qr 0 ?_ | refine Qs 0 ?_ | refine Qt 0 ?_ | refine Qu 0 ?_ | fail)
      (first | refine Qr 1 ?_ | refine Qs 1 ?_ | refine Qt 1 ?_ | refine Qu 1 ?_ | fail)
      (first | refine Qr 2 ?_ | refine Qs 2 ?_ | refine Qt 2 ?_ | refine Qu 2 ?_ | fail)
      (first | refine Qr 3 ?_ | refine Qs 3 ?_ | refine Qt 3 ?_ | refine Qu 3 ?_ | fail)
      refine Qv ?_
      repeat (first | refine Qa ?_ | refine Qb ?_ | refine Qc ?_ | refine Qd ?_ | refine Qe ?_ | refine Qf ?_ | refine Qg ?_ | refine Qh ?_ | refine Qi ?_ | refine Qj ?_ | refine Qk ?_ | refine Ql ?_ | refine Qm ?_ | refine Qn ?_ | refine Qo ?_ | refine Qp ?_ | refine Qq ?_ | fail)
      refine SX.ret (M' := (.own none (rowR (Kd.int .u8) 5 (.slice none ([] : List Int).length 0) []) :: .own none (rowR (Kd.int .u8) 5 (.slice none ([] : List Int).length 0) []) :: .own none (rowR kE 130 (.slice none ([] : List Ent).length 0) []) :: .own none (rowR (Kd.int .u8) 5 (.slice none ([] : List Int).length 0) []) :: F)) rfl (Evals.cell rfl inferInstance rfl (Evals.tmp rfl Evals.nil)) ?_ inferInstance
      exact h _ _ rfl none 0 none 0 none 0 none 0 (Nat.le_refl _) (Nat.le_refl _) (Nat.le_refl _) (Nat.le_refl _)
    · obtain rfl : n = 0 := by simpa using hn
      rw [finM_ok] at h
      repeat (first | refine Qa ?_ | refine Qb ?_ | refine Qc ?_ | refine Qd ?_ | refine Qe ?_ | refine Qf ?_ | refine Qg ?_ | refine Qh ?_ | refine Qi ?_ | refine Qj ?_ | refine Qk ?_ | refine Ql ?_ | refine Qm ?_ | refine Qn ?_ | refine Qo ?_ | refine Qp ?_ | refine Qq ?_ | fail)
      refine SX.ret (M' := (.own none (rowR (Kd.int .u8) 5 (.slice none ([] : List Int).length 0) []) :: .own none (rowR (Kd.int .u8) 5 (.slice none ([] : List Int).length 0) []) :: .own none (rowR kE 130 (.slice none ([] : List Ent).length 0) []) :: .own A9 (rowR (Kd.int .u8) 5 (.slice A9 r.d.length c9) r.d) :: F)) rfl (Evals.cell rfl inferInstance rfl (Evals.tmp rfl Evals.nil)) ?_ inferInstance
      exact h ⟨3, Ca0, Re0, r⟩ 0 rfl none 0 none 0 none 0 A9 c9 (Nat.le_refl _) (Nat.le_refl _) (Nat.le_refl _) hc9
  refine SXL.lookup (r := none) (bb := false) rfl rfl inferInstance Tryz.underlying74 Tryz.underlying25 rfl rfl rfl (by
    simp only [Instr.findNow, Instr.sameNow, List.nil_append, List.cons_append, if_true]
    simp only [beq_eq_false_iff_ne.2 k1, beq_eq_false_iff_ne.2 k2, beq_eq_false_iff_ne.2 k3]) rfl ?_
  rw [opnM_no k1 k2 k3, finM_bad (by decide)] at h
  repeat (first | refine Qa ?_ | refine Qb ?_ | refine Qc ?_ | refine Qd ?_ | refine Qe ?_ | refine Qf ?_ | refine Qg ?_ | refine Qh ?_ | refine Qi ?_ | refine Qj ?_ | refine Qk ?_ | refine Ql ?_ | refine Qm ?_ | refine Qn ?_ | refine Qo ?_ | refine Qp ?_ | refine Qq ?_ | fail)
  refine SXA.begin [.own (some ⟨b8, 0, none⟩) (cellsR b8 [.int .i64 11] 31), .own (some ⟨q, 0, none⟩) (cellsR q [.int .u32 0, .int .u32 0, .int .u32 0, .int .u32 0, .int .u32 0, .int .u32 0, .string ⟨#[]⟩, .int .u32 0, .int .u32 0, .string ⟨#[]⟩, .int .u64 0, .int .u64 0, .int .u32 0, .int .u32 0, .slice none 0 0, .int .u32 0, .int .u32 0, .int .i64 0, .int .u32 0, .int .u32 0, .int .u32 0, .int .u32 0, .int .u32 0, .int .u32 0, .int .u64 0, .slice none 0 0, .slice none 0 0, .bool false, .int .u64 0, .int .u32 0, .int .u32 0, .int .u64 0, .int .u64 0, .int .u32 0, .slice none 0 0] 40)] [] ?_
  (first | refine Qr 0 ?_ | refine Qs 0 ?_ | refine Qt 0 ?_ | refine Qu 0 ?_ | fail)
  (first | refine Qr 1 ?_ | refine Qs 1 ?_ | refine Qt 1 ?_ | refine Qu 1 ?_ | fail)
  (first | refine Qr 2 ?_ | refine Qs 2 ?_ | refine Qt 2 ?_ | refine Qu 2 ?_ | fail)
  (first | refine Qr 3 ?_ | refine Qs 3 ?_ | refine Qt 3 ?_ | refine Qu 3 ?_ | fail)
  refine Qv ?_
  repeat (first | refine Qa ?_ | refine Qb ?_ | refine Qc ?_ | refine Qd ?_ | refine Qe ?_ | refine Qf ?_ | refine Qg ?_ | refine Qh ?_ | refine Qi ?_ | refine Qj ?_ | refine Qk ?_ | refine Ql ?_ | refine Qm ?_ | refine Qn ?_ | refine Qo ?_ | refine Qp ?_ | refine Qq ?_ | fail)
  refine SX.ret (M' := (.own none (rowR (Kd.int .u8) 5 (.slice none ([] : List Int).length 0) []) :: .own none (rowR (Kd.int .u8) 5 (.slice none ([] : List Int).length 0) []) :: .own none (rowR kE 130 (.slice none ([] : List Ent).length 0) []) :: .own none (rowR (Kd.int .u8) 5 (.slice none ([] : List Int).length 0) []) :: F)) rfl (Evals.cell rfl inferInstance rfl (Evals.tmp rfl Evals.nil)) ?_ inferInstance
  exact h _ _ rfl none 0 none 0 none 0 none 0 (Nat.le_refl _) (Nat.le_refl _) (Nat.le_refl _) (Nat.le_refl _)
end
end Go.Proofs.YtpbhanpblmoepaaGreat.Sx
