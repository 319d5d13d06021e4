/- Part Z2 of the lemmas and walks of the Go functions that these statements reach; conditions: those that each theorem names. -/
import Derived.Test.YtgjajalneknagaaJZ1
section
/- The Go package client: Handle, Tick, Open, Place, walked; conditions: those that each theorem names. -/
namespace Go.Proofs.Ytgjajalneknagaa.Sx
open Go.RowKit Go.Proofs.Ytgjajalneknagaa.Hm Go.Proofs.YtgjajalneknagaaW.PrintWords Go.Proofs.YtgjajalneknagaaW.PrintLast Go.Proofs.YtgjajalneknagaaW.PrintMore
set_option linter.unusedVariables false
set_option linter.unusedSimpArgs false
attribute [local irreducible] SX SXL SXA St callK Post Evals

section
variable {F R : List Thing} {K : Ending → List Thing → Prop} {A B C D A1 A2 A3 A4 : Option Addr} {b d c a1 a2 a3 a4 : Nat} {s : Cl}
theorem ClHandle_S {m : Msg} {from' : Int} (hat : At (some ⟨b, 0, none⟩) F (cellsR b (clC s D d) 91) R) (hr : Ro (Kd.int .u8) D R s.c.d) (hd : s.c.d.length ≤ d) (hl : s.c.d.length ≤ 1000000) (hf : u32ok m.r.free)
    (h1 : fitsB s m = false → K (.returned (.tuple #[.agg (reC Re0 none 0 none 0).toArray, .bool false, .slice none 0 0])) (.own (some ⟨b, 0, none⟩) (cellsR b (clC s D d) 91) :: R))
    (h2 : fitsB s m = true → m.r.st ≠ 71 → K (.returned (.tuple #[.agg (reC m.r A2 a2 A3 a3).toArray, .bool true, .slice none 0 0])) (.own (some ⟨b, 0, none⟩) (cellsR b (clC (shut s) D d) 91) :: R))
    (h3 : fitsB s m = true → m.r.st = 71 → 16 ≤ m.r.free → K (.returned (.tuple #[.agg (reC Re0 none 0 none 0).toArray, .bool false, .slice none 0 0])) (.own (some ⟨b, 0, none⟩) (cellsR b (clC s D d) 91) :: R))
    (h4 : fitsB s m = true → m.r.st = 71 → m.r.free < 16 → ∀ g A' a', s.c.d.length ≤ a' → K (.returned (.tuple #[.agg (reC Re0 none 0 none 0).toArray, .bool false, .slice (some ⟨g, 0, none⟩) 1 1]))
      (.own (some ⟨g, 0, none⟩) (cellsR g (ouC m.r.free s.c A' a') 82) :: .own A' (rowR (Kd.int .u8) 5 (.slice A' s.c.d.length a') s.c.d) :: .own (some ⟨b, 0, none⟩) (cellsR b (clC (moved s m.r.free) D d) 91) :: R)) :
    Fn (Try.prog) 15 [.pointer (some ⟨b, 0, none⟩), .int .i64 from', .agg (msC m A1 a1 A2 a2 A3 a3 A4 a4).toArray] F K := by
  refine Fn.at_ hat ?_
  have hwf : IntKind.i64.wrap m.r.free = m.r.free := IntWalk.i64_in _ (by have := hf.1; have := hf.2; omega)
  unfold clC msC
  refine Fn.enter Try.call15 Try.func15 rfl rfl rfl ?_
  repeat (first | refine Qa ?_ | refine Qb ?_ | refine Qc ?_ | refine Qd ?_ | refine Qe ?_ | refine Qf ?_ | refine Qg ?_ | refine Qh ?_ | refine Qi ?_ | refine Qj ?_ | refine Qk ?_ | refine Ql ?_ | refine Qm ?_ | refine Qn ?_ | refine Qo ?_ | refine Qp ?_ | refine Qq ?_ | fail)
  refine SXL.box rfl rfl rfl (fun q => ?_)
  repeat (first | refine Qa ?_ | refine Qb ?_ | refine Qc ?_ | refine Qd ?_ | refine Qe ?_ | refine Qf ?_ | refine Qg ?_ | refine Qh ?_ | refine Qi ?_ | refine Qj ?_ | refine Qk ?_ | refine Ql ?_ | refine Qm ?_ | refine Qn ?_ | refine Qo ?_ | refine Qp ?_ | refine Qq ?_ | fail)
  refine SXL.alloc rfl rfl (fun z => ?_)
  repeat (first | refine Qa ?_ | refine Qb ?_ | refine Qc ?_ | refine Qd ?_ | refine Qe ?_ | refine Qf ?_ | refine Qg ?_ | refine Qh ?_ | refine Qi ?_ | refine Qj ?_ | refine Qk ?_ | refine Ql ?_ | refine Qm ?_ | refine Qn ?_ | refine Qo ?_ | refine Qp ?_ | refine Qq ?_ | fail)
  refine SXL.alloc rfl rfl (fun y => ?_)
  repeat (first | refine Qa ?_ | refine Qb ?_ | refine Qc ?_ | refine Qd ?_ | refine Qe ?_ | refine Qf ?_ | refine Qg ?_ | refine Qh ?_ | refine Qi ?_ | refine Qj ?_ | refine Qk ?_ | refine Ql ?_ | refine Qm ?_ | refine Qn ?_ | refine Qo ?_ | refine Qp ?_ | refine Qq ?_ | fail)
  refine SXA.begin (.own (some ⟨y, 0, none⟩) (cellsR y (reC m.r A2 a2 A3 a3) 45) :: .own (some ⟨q, 0, none⟩) (cellsR q (msC m A1 a1 A2 a2 A3 a3 A4 a4) 49) :: .own (some ⟨b, 0, none⟩) (cellsR b (clC s D d) 91) :: R) [] ?_
  unfold clC msC reC
  (first | refine Qr 0 ?_ | refine Qs 0 ?_ | refine Qt 0 ?_ | refine Qu 0 ?_ | fail)
  (first | refine Qr 1 ?_ | refine Qs 1 ?_ | refine Qt 1 ?_ | refine Qu 1 ?_ | fail)
  (first | refine Qr 2 ?_ | refine Qs 2 ?_ | refine Qt 2 ?_ | refine Qu 2 ?_ | fail)
  (first | refine Qr 3 ?_ | refine Qs 3 ?_ | refine Qt 3 ?_ | refine Qu 3 ?_ | fail)
  (first | refine Qr 4 ?_ | refine Qs 4 ?_ | refine Qt 4 ?_ | refine Qu 4 ?_ | fail)
  (first | refine Qr 5 ?_ | refine Qs 5 ?_ | refine Qt 5 ?_ | refine Qu 5 ?_ | fail)
  (first | refine Qr 6 ?_ | refine Qs 6 ?_ | refine Qt 6 ?_ | refine Qu 6 ?_ | fail)
  (first | refine Qr 7 ?_ | refine Qs 7 ?_ | refine Qt 7 ?_ | refine Qu 7 ?_ | fail)
  (first | refine Qr 8 ?_ | refine Qs 8 ?_ | refine Qt 8 ?_ | refine Qu 8 ?_ | fail)
  (first | refine Qr 9 ?_ | refine Qs 9 ?_ | refine Qt 9 ?_ | refine Qu 9 ?_ | fail)
  refine SXA.split 22 rfl (fun e1 => ?_) (fun e1 => ?_)
  · skip
    (first | refine Qr 10 ?_ | refine Qs 10 ?_ | refine Qt 10 ?_ | refine Qu 10 ?_ | fail)
    (first | refine Qr 11 ?_ | refine Qs 11 ?_ | refine Qt 11 ?_ | refine Qu 11 ?_ | fail)
    (first | refine Qr 12 ?_ | refine Qs 12 ?_ | refine Qt 12 ?_ | refine Qu 12 ?_ | fail)
    (first | refine Qr 13 ?_ | refine Qs 13 ?_ | refine Qt 13 ?_ | refine Qu 13 ?_ | fail)
    (first | refine Qr 14 ?_ | refine Qs 14 ?_ | refine Qt 14 ?_ | refine Qu 14 ?_ | fail)
    (first | refine Qr 15 ?_ | refine Qs 15 ?_ | refine Qt 15 ?_ | refine Qu 15 ?_ | fail)
    (first | refine Qr 16 ?_ | refine Qs 16 ?_ | refine Qt 16 ?_ | refine Qu 16 ?_ | fail)
    (first | refine Qr 17 ?_ | refine Qs 17 ?_ | refine Qt 17 ?_ | refine Qu 17 ?_ | fail)
    (first | refine Qr 18 ?_ | refine Qs 18 ?_ | refine Qt 18 ?_ | refine Qu 18 ?_ | fail)
    (first | refine Qr 19 ?_ | refine Qs 19 ?_ | refine Qt 19 ?_ | refine Qu 19 ?_ | fail)
    (first | refine Qr 20 ?_ | refine Qs 20 ?_ | refine Qt 20 ?_ | refine Qu 20 ?_ | fail)
    (first | refine Qr 21 ?_ | refine Qs 21 ?_ | refine Qt 21 ?_ | refine Qu 21 ?_ | fail)
    (first | refine Qr 22 ?_ | refine Qs 22 ?_ | refine Qt 22 ?_ | refine Qu 22 ?_ | fail)
    (first | refine Qr 23 ?_ | refine Qs 23 ?_ | refine Qt 23 ?_ | refine Qu 23 ?_ | fail)
    (first | refine Qr 24 ?_ | refine Qs 24 ?_ | refine Qt 24 ?_ | refine Qu 24 ?_ | fail)
    (first | refine Qr 25 ?_ | refine Qs 25 ?_ | refine Qt 25 ?_ | refine Qu 25 ?_ | fail)
    (first | refine Qr 26 ?_ | refine Qs 26 ?_ | refine Qt 26 ?_ | refine Qu 26 ?_ | fail)
    (first | refine Qr 27 ?_ | refine Qs 27 ?_ | refine Qt 27 ?_ | refine Qu 27 ?_ | fail)
    (first | refine Qr 28 ?_ | refine Qs 28 ?_ | refine Qt 28 ?_ | refine Qu 28 ?_ | fail)
    (first | refine Qr 29 ?_ | refine Qs 29 ?_ | refine Qt 29 ?_ | refine Qu 29 ?_ | fail)
    (first | refine Qr 30 ?_ | refine Qs 30 ?_ | refine Qt 30 ?_ | refine Qu 30 ?_ | fail)
    (first | refine Qr 31 ?_ | refine Qs 31 ?_ | refine Qt 31 ?_ | refine Qu 31 ?_ | fail)
    (first | refine Qr 32 ?_ | refine Qs 32 ?_ | refine Qt 32 ?_ | refine Qu 32 ?_ | fail)
    refine Qv ?_
    repeat (first | refine Qa ?_ | refine Qb ?_ | refine Qc ?_ | refine Qd ?_ | refine Qe ?_ | refine Qf ?_ | refine Qg ?_ | refine Qh ?_ | refine Qi ?_ | refine Qj ?_ | refine Qk ?_ | refine Ql ?_ | refine Qm ?_ | refine Qn ?_ | refine Qo ?_ | refine Qp ?_ | refine Qq ?_ | fail)
    refine SX.ret (M' := (.own (some ⟨b, 0, none⟩) (cellsR b (clC s D d) 91) :: R)) rfl (Evals.cell rfl inferInstance rfl (Evals.tmp rfl (Evals.tmp rfl Evals.nil))) ?_ inferInstance
    refine h1 ?_
    unfold fitsB
    simp only [bne_iff_ne, ne_eq, Bool.not_eq_true', Bool.not_eq_false', bne_eq_false_iff_eq] at e1
    simp [e1]
  (first | refine Qr 10 ?_ | refine Qs 10 ?_ | refine Qt 10 ?_ | refine Qu 10 ?_ | fail)
  (first | refine Qr 11 ?_ | refine Qs 11 ?_ | refine Qt 11 ?_ | refine Qu 11 ?_ | fail)
  (first | refine Qr 12 ?_ | refine Qs 12 ?_ | refine Qt 12 ?_ | refine Qu 12 ?_ | fail)
  (first | refine Qr 13 ?_ | refine Qs 13 ?_ | refine Qt 13 ?_ | refine Qu 13 ?_ | fail)
  (first | refine Qr 14 ?_ | refine Qs 14 ?_ | refine Qt 14 ?_ | refine Qu 14 ?_ | fail)
  refine SXA.split 27 rfl (fun e2 => ?_) (fun e2 => ?_)
  · skip
    (first | refine Qr 15 ?_ | refine Qs 15 ?_ | refine Qt 15 ?_ | refine Qu 15 ?_ | fail)
    (first | refine Qr 16 ?_ | refine Qs 16 ?_ | refine Qt 16 ?_ | refine Qu 16 ?_ | fail)
    (first | refine Qr 17 ?_ | refine Qs 17 ?_ | refine Qt 17 ?_ | refine Qu 17 ?_ | fail)
    (first | refine Qr 18 ?_ | refine Qs 18 ?_ | refine Qt 18 ?_ | refine Qu 18 ?_ | fail)
    (first | refine Qr 19 ?_ | refine Qs 19 ?_ | refine Qt 19 ?_ | refine Qu 19 ?_ | fail)
    (first | refine Qr 20 ?_ | refine Qs 20 ?_ | refine Qt 20 ?_ | refine Qu 20 ?_ | fail)
    (first | refine Qr 21 ?_ | refine Qs 21 ?_ | refine Qt 21 ?_ | refine Qu 21 ?_ | fail)
    (first | refine Qr 22 ?_ | refine Qs 22 ?_ | refine Qt 22 ?_ | refine Qu 22 ?_ | fail)
    (first | refine Qr 23 ?_ | refine Qs 23 ?_ | refine Qt 23 ?_ | refine Qu 23 ?_ | fail)
    (first | refine Qr 24 ?_ | refine Qs 24 ?_ | refine Qt 24 ?_ | refine Qu 24 ?_ | fail)
    (first | refine Qr 25 ?_ | refine Qs 25 ?_ | refine Qt 25 ?_ | refine Qu 25 ?_ | fail)
    (first | refine Qr 26 ?_ | refine Qs 26 ?_ | refine Qt 26 ?_ | refine Qu 26 ?_ | fail)
    (first | refine Qr 27 ?_ | refine Qs 27 ?_ | refine Qt 27 ?_ | refine Qu 27 ?_ | fail)
    (first | refine Qr 28 ?_ | refine Qs 28 ?_ | refine Qt 28 ?_ | refine Qu 28 ?_ | fail)
    (first | refine Qr 29 ?_ | refine Qs 29 ?_ | refine Qt 29 ?_ | refine Qu 29 ?_ | fail)
    (first | refine Qr 30 ?_ | refine Qs 30 ?_ | refine Qt 30 ?_ | refine Qu 30 ?_ | fail)
    (first | refine Qr 31 ?_ | refine Qs 31 ?_ | refine Qt 31 ?_ | refine Qu 31 ?_ | fail)
    (first | refine Qr 32 ?_ | refine Qs 32 ?_ | refine Qt 32 ?_ | refine Qu 32 ?_ | fail)
    refine Qv ?_
    repeat (first | refine Qa ?_ | refine Qb ?_ | refine Qc ?_ | refine Qd ?_ | refine Qe ?_ | refine Qf ?_ | refine Qg ?_ | refine Qh ?_ | refine Qi ?_ | refine Qj ?_ | refine Qk ?_ | refine Ql ?_ | refine Qm ?_ | refine Qn ?_ | refine Qo ?_ | refine Qp ?_ | refine Qq ?_ | fail)
    refine SX.ret (M' := (.own (some ⟨b, 0, none⟩) (cellsR b (clC s D d) 91) :: R)) rfl (Evals.cell rfl inferInstance rfl (Evals.tmp rfl (Evals.tmp rfl Evals.nil))) ?_ inferInstance
    refine h1 ?_
    unfold fitsB
    simp only [bne_iff_ne, ne_eq, Bool.not_eq_true', Bool.not_eq_false', bne_eq_false_iff_eq] at e1 e2
    simp [e1, e2]
  (first | refine Qr 15 ?_ | refine Qs 15 ?_ | refine Qt 15 ?_ | refine Qu 15 ?_ | fail)
  (first | refine Qr 16 ?_ | refine Qs 16 ?_ | refine Qt 16 ?_ | refine Qu 16 ?_ | fail)
  (first | refine Qr 17 ?_ | refine Qs 17 ?_ | refine Qt 17 ?_ | refine Qu 17 ?_ | fail)
  (first | refine Qr 18 ?_ | refine Qs 18 ?_ | refine Qt 18 ?_ | refine Qu 18 ?_ | fail)
  (first | refine Qr 19 ?_ | refine Qs 19 ?_ | refine Qt 19 ?_ | refine Qu 19 ?_ | fail)
  (first | refine Qr 20 ?_ | refine Qs 20 ?_ | refine Qt 20 ?_ | refine Qu 20 ?_ | fail)
  (first | refine Qr 21 ?_ | refine Qs 21 ?_ | refine Qt 21 ?_ | refine Qu 21 ?_ | fail)
  (first | refine Qr 22 ?_ | refine Qs 22 ?_ | refine Qt 22 ?_ | refine Qu 22 ?_ | fail)
  (first | refine Qr 23 ?_ | refine Qs 23 ?_ | refine Qt 23 ?_ | refine Qu 23 ?_ | fail)
  refine SXA.split 36 rfl (fun e3 => ?_) (fun e3 => ?_)
  · skip
    (first | refine Qr 24 ?_ | refine Qs 24 ?_ | refine Qt 24 ?_ | refine Qu 24 ?_ | fail)
    (first | refine Qr 25 ?_ | refine Qs 25 ?_ | refine Qt 25 ?_ | refine Qu 25 ?_ | fail)
    (first | refine Qr 26 ?_ | refine Qs 26 ?_ | refine Qt 26 ?_ | refine Qu 26 ?_ | fail)
    (first | refine Qr 27 ?_ | refine Qs 27 ?_ | refine Qt 27 ?_ | refine Qu 27 ?_ | fail)
    (first | refine Qr 28 ?_ | refine Qs 28 ?_ | refine Qt 28 ?_ | refine Qu 28 ?_ | fail)
    (first | refine Qr 29 ?_ | refine Qs 29 ?_ | refine Qt 29 ?_ | refine Qu 29 ?_ | fail)
    (first | refine Qr 30 ?_ | refine Qs 30 ?_ | refine Qt 30 ?_ | refine Qu 30 ?_ | fail)
    (first | refine Qr 31 ?_ | refine Qs 31 ?_ | refine Qt 31 ?_ | refine Qu 31 ?_ | fail)
    (first | refine Qr 32 ?_ | refine Qs 32 ?_ | refine Qt 32 ?_ | refine Qu 32 ?_ | fail)
    refine Qv ?_
    repeat (first | refine Qa ?_ | refine Qb ?_ | refine Qc ?_ | refine Qd ?_ | refine Qe ?_ | refine Qf ?_ | refine Qg ?_ | refine Qh ?_ | refine Qi ?_ | refine Qj ?_ | refine Qk ?_ | refine Ql ?_ | refine Qm ?_ | refine Qn ?_ | refine Qo ?_ | refine Qp ?_ | refine Qq ?_ | fail)
    refine SX.ret (M' := (.own (some ⟨b, 0, none⟩) (cellsR b (clC s D d) 91) :: R)) rfl (Evals.cell rfl inferInstance rfl (Evals.tmp rfl (Evals.tmp rfl Evals.nil))) ?_ inferInstance
    refine h1 ?_
    unfold fitsB
    simp only [bne_iff_ne, ne_eq, Bool.not_eq_true', Bool.not_eq_false', bne_eq_false_iff_eq] at e1 e2 e3
    simp [e1, e2, e3]
  (first | refine Qr 24 ?_ | refine Qs 24 ?_ | refine Qt 24 ?_ | refine Qu 24 ?_ | fail)
  (first | refine Qr 25 ?_ | refine Qs 25 ?_ | refine Qt 25 ?_ | refine Qu 25 ?_ | fail)
  (first | refine Qr 26 ?_ | refine Qs 26 ?_ | refine Qt 26 ?_ | refine Qu 26 ?_ | fail)
  (first | refine Qr 27 ?_ | refine Qs 27 ?_ | refine Qt 27 ?_ | refine Qu 27 ?_ | fail)
  (first | refine Qr 28 ?_ | refine Qs 28 ?_ | refine Qt 28 ?_ | refine Qu 28 ?_ | fail)
  (first | refine Qr 29 ?_ | refine Qs 29 ?_ | refine Qt 29 ?_ | refine Qu 29 ?_ | fail)
  (first | refine Qr 30 ?_ | refine Qs 30 ?_ | refine Qt 30 ?_ | refine Qu 30 ?_ | fail)
  (first | refine Qr 31 ?_ | refine Qs 31 ?_ | refine Qt 31 ?_ | refine Qu 31 ?_ | fail)
  (first | refine Qr 32 ?_ | refine Qs 32 ?_ | refine Qt 32 ?_ | refine Qu 32 ?_ | fail)
  refine Qv ?_
  refine SX.cond rfl (fun e4 => ?_) (fun e4 => ?_)
  · repeat (first | refine Qa ?_ | refine Qb ?_ | refine Qc ?_ | refine Qd ?_ | refine Qe ?_ | refine Qf ?_ | refine Qg ?_ | refine Qh ?_ | refine Qi ?_ | refine Qj ?_ | refine Qk ?_ | refine Ql ?_ | refine Qm ?_ | refine Qn ?_ | refine Qo ?_ | refine Qp ?_ | refine Qq ?_ | fail)
    refine SX.ret (M' := (.own (some ⟨b, 0, none⟩) (cellsR b (clC s D d) 91) :: R)) rfl (Evals.cell rfl inferInstance rfl (Evals.tmp rfl (Evals.tmp rfl Evals.nil))) ?_ inferInstance
    refine h1 ?_
    unfold fitsB
    simp only [bne_iff_ne, ne_eq, Bool.not_eq_true', Bool.not_eq_false', bne_eq_false_iff_eq] at e1 e2 e3 e4
    simp [e1, e2, e3, e4]
  have hfit : fitsB s m = true := by
    unfold fitsB
    simp only [bne_iff_ne, ne_eq, Bool.not_eq_true', Bool.not_eq_false', bne_eq_false_iff_eq] at e1 e2 e3 e4
    simp [e1, e2, e3, e4]
  repeat (first | refine Qa ?_ | refine Qb ?_ | refine Qc ?_ | refine Qd ?_ | refine Qe ?_ | refine Qf ?_ | refine Qg ?_ | refine Qh ?_ | refine Qi ?_ | refine Qj ?_ | refine Qk ?_ | refine Ql ?_ | refine Qm ?_ | refine Qn ?_ | refine Qo ?_ | refine Qp ?_ | refine Qq ?_ | fail)
  refine SX.cond rfl (fun e5 => ?_) (fun e5 => ?_)
  · have hst : m.r.st ≠ 71 := by simpa using e5
    repeat (first | refine Qa ?_ | refine Qb ?_ | refine Qc ?_ | refine Qd ?_ | refine Qe ?_ | refine Qf ?_ | refine Qg ?_ | refine Qh ?_ | refine Qi ?_ | refine Qj ?_ | refine Qk ?_ | refine Ql ?_ | refine Qm ?_ | refine Qn ?_ | refine Qo ?_ | refine Qp ?_ | refine Qq ?_ | fail)
    refine SX.ret (M' := (.own (some ⟨b, 0, none⟩) (cellsR b (clC (shut s) D d) 91) :: R)) rfl (Evals.cell rfl inferInstance rfl (Evals.tmp rfl (Evals.tmp rfl Evals.nil))) ?_ inferInstance
    exact h2 hfit hst
  have hst : m.r.st = 71 := by simpa using e5
  repeat (first | refine Qa ?_ | refine Qb ?_ | refine Qc ?_ | refine Qd ?_ | refine Qe ?_ | refine Qf ?_ | refine Qg ?_ | refine Qh ?_ | refine Qi ?_ | refine Qj ?_ | refine Qk ?_ | refine Ql ?_ | refine Qm ?_ | refine Qn ?_ | refine Qo ?_ | refine Qp ?_ | refine Qq ?_ | fail)
  refine SX.condp rfl (fun e6 => ?_) (fun e6 => ?_)
  · repeat (first | refine Qa ?_ | refine Qb ?_ | refine Qc ?_ | refine Qd ?_ | refine Qe ?_ | refine Qf ?_ | refine Qg ?_ | refine Qh ?_ | refine Qi ?_ | refine Qj ?_ | refine Qk ?_ | refine Ql ?_ | refine Qm ?_ | refine Qn ?_ | refine Qo ?_ | refine Qp ?_ | refine Qq ?_ | fail)
    refine SX.ret (M' := (.own (some ⟨b, 0, none⟩) (cellsR b (clC s D d) 91) :: R)) rfl (Evals.cell rfl inferInstance rfl (Evals.tmp rfl (Evals.tmp rfl Evals.nil))) ?_ inferInstance
    exact h3 hfit hst e6
  repeat (first | refine Qa ?_ | refine Qb ?_ | refine Qc ?_ | refine Qd ?_ | refine Qe ?_ | refine Qf ?_ | refine Qg ?_ | refine Qh ?_ | refine Qi ?_ | refine Qj ?_ | refine Qk ?_ | refine Ql ?_ | refine Qm ?_ | refine Qn ?_ | refine Qo ?_ | refine Qp ?_ | refine Qq ?_ | fail)
  rw [hwf]
  refine SXL.call rfl rfl rfl ?_
  refine (again_S (s := ⟨s.pa, s.le, s.id, m.r.free, s.last, s.op, s.c⟩) (D := D) (d := d) (n := 1) inferInstance (callK.ret ?_))
  repeat (first | refine Qa ?_ | refine Qb ?_ | refine Qc ?_ | refine Qd ?_ | refine Qe ?_ | refine Qf ?_ | refine Qg ?_ | refine Qh ?_ | refine Qi ?_ | refine Qj ?_ | refine Qk ?_ | refine Ql ?_ | refine Qm ?_ | refine Qn ?_ | refine Qo ?_ | refine Qp ?_ | refine Qq ?_ | fail)
  refine SXL.call rfl rfl rfl ?_
  refine (asks_S (s := moved s m.r.free) (D := D) (d := d) inferInstance inferInstance hd hl (fun g A' a' ha' => callK.ret ?_))
  repeat (first | refine Qa ?_ | refine Qb ?_ | refine Qc ?_ | refine Qd ?_ | refine Qe ?_ | refine Qf ?_ | refine Qg ?_ | refine Qh ?_ | refine Qi ?_ | refine Qj ?_ | refine Qk ?_ | refine Ql ?_ | refine Qm ?_ | refine Qn ?_ | refine Qo ?_ | refine Qp ?_ | refine Qq ?_ | fail)
  refine SX.ret (M' := (.own (some ⟨g, 0, none⟩) (cellsR g (ouC m.r.free s.c A' a') 82) :: .own A' (rowR (Kd.int .u8) 5 (.slice A' s.c.d.length a') s.c.d) :: .own (some ⟨b, 0, none⟩) (cellsR b (clC (moved s m.r.free) D d) 91) :: R)) rfl (Evals.cell rfl inferInstance rfl (Evals.tmp rfl (Evals.tmp rfl Evals.nil))) ?_ inferInstance
  exact h4 hfit hst (by omega) g A' a' ha'
theorem Tick_S (hat : At (some ⟨b, 0, none⟩) F (cellsR b (clC s D d) 91) R) (hr : Ro (Kd.int .u8) D R s.c.d) (hd : s.c.d.length ≤ d) (hl : s.c.d.length ≤ 1000000) (hw : s.op = true → (1 ≤ s.pa ∧ s.pa ≤ 8) ∧ (1 ≤ s.le ∧ s.le ≤ 8))
    (h1 : s.op = false → K (.returned (.slice none 0 0)) (.own (some ⟨b, 0, none⟩) (cellsR b (clC s D d) 91) :: R))
    (h2 : s.op = true → 1 < s.le → K (.returned (.slice none 0 0)) (.own (some ⟨b, 0, none⟩) (cellsR b (clC (waits s) D d) 91) :: R))
    (h3 : s.op = true → s.le ≤ 1 → ∀ g A' a', s.c.d.length ≤ a' → K (.returned (.slice (some ⟨g, 0, none⟩) 1 1))
      (.own (some ⟨g, 0, none⟩) (cellsR g (ouC s.pl s.c A' a') 82) :: .own A' (rowR (Kd.int .u8) 5 (.slice A' s.c.d.length a') s.c.d) :: .own (some ⟨b, 0, none⟩) (cellsR b (clC (again s) D d) 91) :: R)) :
    Fn (Try.prog) 20 [.pointer (some ⟨b, 0, none⟩)] F K := by
  refine Fn.at_ hat ?_
  unfold clC
  refine Fn.enter Try.call20 Try.func20 rfl rfl rfl ?_
  repeat (first | refine Qa ?_ | refine Qb ?_ | refine Qc ?_ | refine Qd ?_ | refine Qe ?_ | refine Qf ?_ | refine Qg ?_ | refine Qh ?_ | refine Qi ?_ | refine Qj ?_ | refine Qk ?_ | refine Ql ?_ | refine Qm ?_ | refine Qn ?_ | refine Qo ?_ | refine Qp ?_ | refine Qq ?_ | fail)
  refine SXL.split (s := 12) rfl (fun e1 => ?_) (fun e1 => ?_)
  · repeat (first | refine Qa ?_ | refine Qb ?_ | refine Qc ?_ | refine Qd ?_ | refine Qe ?_ | refine Qf ?_ | refine Qg ?_ | refine Qh ?_ | refine Qi ?_ | refine Qj ?_ | refine Qk ?_ | refine Ql ?_ | refine Qm ?_ | refine Qn ?_ | refine Qo ?_ | refine Qp ?_ | refine Qq ?_ | fail)
    refine SX.ret (M' := (.own (some ⟨b, 0, none⟩) (cellsR b (clC s D d) 91) :: R)) rfl (Evals.tmp rfl Evals.nil) ?_ inferInstance
    exact h1 (by simpa using e1)
  have ho : s.op = true := by simpa using e1
  repeat (first | refine Qa ?_ | refine Qb ?_ | refine Qc ?_ | refine Qd ?_ | refine Qe ?_ | refine Qf ?_ | refine Qg ?_ | refine Qh ?_ | refine Qi ?_ | refine Qj ?_ | refine Qk ?_ | refine Ql ?_ | refine Qm ?_ | refine Qn ?_ | refine Qo ?_ | refine Qp ?_ | refine Qq ?_ | fail)
  refine SXL.call rfl rfl rfl ?_
  refine (over_S (s := s) (D := D) (d := d) inferInstance (hw ho).1 (hw ho).2 (fun hle => callK.ret ?_) (fun hle => callK.ret ?_))
  · repeat (first | refine Qa ?_ | refine Qb ?_ | refine Qc ?_ | refine Qd ?_ | refine Qe ?_ | refine Qf ?_ | refine Qg ?_ | refine Qh ?_ | refine Qi ?_ | refine Qj ?_ | refine Qk ?_ | refine Ql ?_ | refine Qm ?_ | refine Qn ?_ | refine Qo ?_ | refine Qp ?_ | refine Qq ?_ | fail)
    refine SX.ret (M' := (.own (some ⟨b, 0, none⟩) (cellsR b (clC (waits s) D d) 91) :: R)) rfl (Evals.tmp rfl Evals.nil) ?_ inferInstance
    exact h2 ho hle
  · repeat (first | refine Qa ?_ | refine Qb ?_ | refine Qc ?_ | refine Qd ?_ | refine Qe ?_ | refine Qf ?_ | refine Qg ?_ | refine Qh ?_ | refine Qi ?_ | refine Qj ?_ | refine Qk ?_ | refine Ql ?_ | refine Qm ?_ | refine Qn ?_ | refine Qo ?_ | refine Qp ?_ | refine Qq ?_ | fail)
    refine SXL.call rfl rfl rfl ?_
    refine (asks_S (s := again s) (D := D) (d := d) inferInstance inferInstance hd hl (fun g A' a' ha' => callK.ret ?_))
    repeat (first | refine Qa ?_ | refine Qb ?_ | refine Qc ?_ | refine Qd ?_ | refine Qe ?_ | refine Qf ?_ | refine Qg ?_ | refine Qh ?_ | refine Qi ?_ | refine Qj ?_ | refine Qk ?_ | refine Ql ?_ | refine Qm ?_ | refine Qn ?_ | refine Qo ?_ | refine Qp ?_ | refine Qq ?_ | fail)
    refine SX.ret (M' := (.own (some ⟨g, 0, none⟩) (cellsR g (ouC s.pl s.c A' a') 82) :: .own A' (rowR (Kd.int .u8) 5 (.slice A' s.c.d.length a') s.c.d) :: .own (some ⟨b, 0, none⟩) (cellsR b (clC (again s) D d) 91) :: R)) rfl (Evals.tmp rfl Evals.nil) ?_ inferInstance
    exact h3 ho hle g A' a' ha'
theorem Open_S (hat : At (some ⟨b, 0, none⟩) F (cellsR b (clC s D d) 91) R)
    (h1 : s.op = false → K (.returned (.tuple #[.agg (caC Ca0 none 0).toArray, .bool false])) F)
    (h2 : s.op = true → K (.returned (.tuple #[.agg (caC s.c D d).toArray, .bool true])) F) :
    Fn (Try.prog) 22 [.pointer (some ⟨b, 0, none⟩)] F K := by
  unfold clC at hat
  refine Fn.enter Try.call22 Try.func22 rfl rfl rfl ?_
  repeat (first | refine Qa ?_ | refine Qb ?_ | refine Qc ?_ | refine Qd ?_ | refine Qe ?_ | refine Qf ?_ | refine Qg ?_ | refine Qh ?_ | refine Qi ?_ | refine Qj ?_ | refine Qk ?_ | refine Ql ?_ | refine Qm ?_ | refine Qn ?_ | refine Qo ?_ | refine Qp ?_ | refine Qq ?_ | fail)
  refine SXL.alloc rfl rfl (fun z => ?_)
  repeat (first | refine Qa ?_ | refine Qb ?_ | refine Qc ?_ | refine Qd ?_ | refine Qe ?_ | refine Qf ?_ | refine Qg ?_ | refine Qh ?_ | refine Qi ?_ | refine Qj ?_ | refine Qk ?_ | refine Ql ?_ | refine Qm ?_ | refine Qn ?_ | refine Qo ?_ | refine Qp ?_ | refine Qq ?_ | fail)
  refine SX.cond rfl (fun e1 => ?_) (fun e1 => ?_)
  · repeat (first | refine Qa ?_ | refine Qb ?_ | refine Qc ?_ | refine Qd ?_ | refine Qe ?_ | refine Qf ?_ | refine Qg ?_ | refine Qh ?_ | refine Qi ?_ | refine Qj ?_ | refine Qk ?_ | refine Ql ?_ | refine Qm ?_ | refine Qn ?_ | refine Qo ?_ | refine Qp ?_ | refine Qq ?_ | fail)
    refine SX.ret (M' := F) rfl (Evals.cell rfl inferInstance rfl (Evals.tmp rfl Evals.nil)) ?_ inferInstance
    exact h1 (by simpa using e1)
  · repeat (first | refine Qa ?_ | refine Qb ?_ | refine Qc ?_ | refine Qd ?_ | refine Qe ?_ | refine Qf ?_ | refine Qg ?_ | refine Qh ?_ | refine Qi ?_ | refine Qj ?_ | refine Qk ?_ | refine Ql ?_ | refine Qm ?_ | refine Qn ?_ | refine Qo ?_ | refine Qp ?_ | refine Qq ?_ | fail)
    refine SX.ret (M' := F) rfl (Evals.cell rfl inferInstance rfl (Evals.tmp rfl Evals.nil)) ?_ inferInstance
    exact h2 (by simpa using e1)
theorem Place_S (hat : At (some ⟨b, 0, none⟩) F (cellsR b (clC s D d) 91) R) (h : K (.returned (.int .i64 s.pl)) F) :
    Fn (Try.prog) 23 [.pointer (some ⟨b, 0, none⟩)] F K := by
  unfold clC at hat
  refine Fn.enter Try.call23 Try.func23 rfl rfl rfl ?_
  repeat (first | refine Qa ?_ | refine Qb ?_ | refine Qc ?_ | refine Qd ?_ | refine Qe ?_ | refine Qf ?_ | refine Qg ?_ | refine Qh ?_ | refine Qi ?_ | refine Qj ?_ | refine Qk ?_ | refine Ql ?_ | refine Qm ?_ | refine Qn ?_ | refine Qo ?_ | refine Qp ?_ | refine Qq ?_ | fail)
  refine SX.ret (M' := F) rfl (Evals.tmp rfl Evals.nil) ?_ inferInstance
  exact h
end
end Go.Proofs.Ytgjajalneknagaa.Sx
end
section
/- Chapter 21: the chapter's example, walked; conditions: those that each theorem names. -/
namespace Go.Proofs.Ytgjajalneknagaa.Sx
open Go.RowKit Go.Proofs.Ytgjajalneknagaa.Hm Go.Proofs.YtgjajalneknagaaW.PrintWords Go.Proofs.YtgjajalneknagaaW.PrintLast Go.Proofs.YtgjajalneknagaaW.PrintMore
set_option linter.unusedVariables false
set_option linter.unusedSimpArgs false
attribute [local irreducible] SX SXL SXA St callK Post Evals

section
variable {F R : List Thing} {K : Ending → List Thing → Prop} {A B C D A1 A2 A3 A4 : Option Addr} {b d c a1 a2 a3 a4 : Nat} {s : Cl}
/-- A call by its op, and its name. -/
abbrev caOf (op : Int) (name : ByteArray) : Ca := ⟨0, 0, op, 0, 0, name, 0, 0, ⟨#[]⟩, 0, 0, 0, 0, []⟩
/-- A client whose call isn't told after ticks. -/
abbrev tickC (s : Cl) (x : Ca) (P L : Int) : Cl := ⟨P, L, s.id, s.pl, (s.last + 1) % 4294967296, true, asked s x⟩
abbrev tellM (id xid st verf free : Int) : Msg := ⟨2, ⟨0, 0, 0, 0, 0, ⟨#[]⟩, 0, 0, ⟨#[]⟩, 0, 0, 0, 0, []⟩, ⟨id, xid, st, 0, 0, 0, 0, 0, 0, 0, [], [], false, verf, free⟩, ⟨0, 0, 0, 0, []⟩⟩
def sumT : Nat → Int
  | 0 => 0
  | k + 1 => sumT k + (if dueT (k + 1) then ((k + 1 : Nat) : Int) else 0)
theorem sumT_le : ∀ k : Fin 24, 0 ≤ sumT k ∧ sumT k ≤ 600 := by decide
theorem u32_0 : u32ok 0 := ⟨by decide, by decide⟩
theorem u64_0 : u64ok 0 := ⟨by decide, by decide⟩
theorem caOf_wf {op : Int} {name : ByteArray} (h : u32ok op) : (caOf op name).wf :=
  ⟨u32_0, u32_0, h, u32_0, u32_0, u32_0, u32_0, u64_0, u64_0, u32_0, u32_0, rfl⟩
theorem okCa_asked {s : Cl} {x : Ca} : okCa (asked s x) = okCa x := rfl
theorem putMs_asked {s : Cl} {x : Ca} (h : okCa x = true) : (putMs ⟨1, asked s x, Re0, Ctl0⟩).2 = 0 := by
  have h2 : putCa (asked s x) = (encCa (asked s x), 0) := by unfold putCa; rw [okCa_asked, if_pos h]
  have h3 : innM ⟨1, asked s x, Re0, Ctl0⟩ = (encCa (asked s x), 0) := by unfold innM; rw [if_pos rfl, h2]
  unfold putMs
  rw [h3, if_neg (by simp)]
theorem BeginOk_S {x : Ca} {a : Nat} (hat : At (some ⟨b, 0, none⟩) F (cellsR b (clC s D d) 91) R) (hx : Ro (Kd.int .u8) A R x.d) (ha : x.d.length ≤ a) (hi : u32ok s.id) (hla : u32ok s.last) (hw : x.wf) (ho : s.op = false) (hk : okCa x = true)
    (h3 : ∀ g A1 a1 A2 a2, x.d.length ≤ a1 → x.d.length ≤ a2 → K (.returned (.tuple #[.int .u32 ((s.last + 1) % 4294967296), .slice (some ⟨g, 0, none⟩) 1 1, .int .i64 0]))
      (.own (some ⟨g, 0, none⟩) (cellsR g (ouC s.pl (asked s x) A2 a2) 82) :: .own A2 (rowR (Kd.int .u8) 5 (.slice A2 x.d.length a2) x.d) :: .own (some ⟨b, 0, none⟩) (cellsR b (clC (begunC s x) A1 a1) 91) :: .own A1 (rowR (Kd.int .u8) 5 (.slice A1 x.d.length a1) x.d) :: R)) :
    Fn (Try.prog) 11 [.pointer (some ⟨b, 0, none⟩), .agg (caC x A a).toArray] F K :=
  Begin_S hat hx ha (by have h5 := hk; unfold okCa at h5; simp only [Bool.and_eq_true, decide_eq_true_eq] at h5; omega) hi hla hw (fun h => absurd (ho.symm.trans h) (by decide)) (fun _ r n hm hn => absurd (by have h6 := putMs_asked (s := s) hk; rw [hm] at h6; exact h6) hn) (fun _ r hm g A1 a1 A2 a2 h1 h2 => h3 g A1 a1 A2 a2 h1 h2)
set_option maxRecDepth 20000 in
theorem awake21_S (h : K (.returned (.bool true)) F) : Fn (Try.prog) 8 [] F K := by
  refine Fn.enter Try.call8 Try.func8 rfl rfl rfl ?_
  repeat (first | refine Qa ?_ | refine Qb ?_ | refine Qc ?_ | refine Qd ?_ | refine Qe ?_ | refine Qf ?_ | refine Qg ?_ | refine Qh ?_ | refine Qi ?_ | refine Qj ?_ | refine Qk ?_ | refine Ql ?_ | refine Qm ?_ | refine Qn ?_ | refine Qo ?_ | refine Qp ?_ | refine Qq ?_ | fail)
  refine SXL.call rfl rfl rfl ?_
  refine (New_S (fun hk => absurd hk (by decide)) (fun hk p => callK.ret ?_))
  repeat (first | refine Qa ?_ | refine Qb ?_ | refine Qc ?_ | refine Qd ?_ | refine Qe ?_ | refine Qf ?_ | refine Qg ?_ | refine Qh ?_ | refine Qi ?_ | refine Qj ?_ | refine Qk ?_ | refine Ql ?_ | refine Qm ?_ | refine Qn ?_ | refine Qo ?_ | refine Qp ?_ | refine Qq ?_ | fail)
  refine SXL.call rfl rfl rfl ?_
  refine (BeginOk_S (b := p) (D := none) (d := 0) (s := clN 2 0) (x := caOf 2 ⟨#[]⟩) (A := none) (a := 0) inferInstance inferInstance (Nat.le_refl _) ⟨by decide, by decide⟩ ⟨by decide, by decide⟩ (caOf_wf ⟨by decide, by decide⟩) rfl (by decide) (fun g B1 b1 B2 b2 hb1 hb2 => callK.ret ?_))
  repeat (first | refine Qa ?_ | refine Qb ?_ | refine Qc ?_ | refine Qd ?_ | refine Qe ?_ | refine Qf ?_ | refine Qg ?_ | refine Qh ?_ | refine Qi ?_ | refine Qj ?_ | refine Qk ?_ | refine Ql ?_ | refine Qm ?_ | refine Qn ?_ | refine Qo ?_ | refine Qp ?_ | refine Qq ?_ | fail)
  refine SX.same 3 (.int .u32 1) rfl rfl ?_
  refine SX.loop (fun z a M => ∃ (k : Nat) (P L n : Int), k + z = 23 ∧ P = paT k ∧ L = leT k ∧ n = sumT k ∧
      a = [(1, .pointer (some ⟨p, 0, none⟩)), (3, .int .u32 1), (4, .slice (some ⟨g, 0, none⟩) 1 1), (5, .int .i64 0), (6, .int .i64 n), (7, .int .i64 ((k + 1 : Nat) : Int))] ∧
      .own (some ⟨g, 0, none⟩) (cellsR g (ouC 0 (asked (clN 2 0) (caOf 2 ⟨#[]⟩)) B2 b2) 82) :: .own (some ⟨p, 0, none⟩) (cellsR p (clC (tickC (clN 2 0) (caOf 2 ⟨#[]⟩) P L) B1 b1) 91) :: .own B1 (rowR (Kd.int .u8) 5 (.slice B1 (caOf 2 ⟨#[]⟩).d.length b1) (caOf 2 ⟨#[]⟩).d) :: F = M)
    23 ⟨0, 1, 1, 0, rfl, rfl, rfl, rfl, rfl, rfl⟩ (by repeat (first | exact trivial | refine ⟨rfl, ?_⟩)) inferInstance ?_
  rintro z _ _ ⟨k, P, L, n, hz, hP, hL, hn, rfl, rfl⟩
  repeat (first | refine Qa ?_ | refine Qb ?_ | refine Qc ?_ | refine Qd ?_ | refine Qe ?_ | refine Qf ?_ | refine Qg ?_ | refine Qh ?_ | refine Qi ?_ | refine Qj ?_ | refine Qk ?_ | refine Ql ?_ | refine Qm ?_ | refine Qn ?_ | refine Qo ?_ | refine Qp ?_ | refine Qq ?_ | fail)
  refine SX.condp rfl (fun hk => ?_) (fun hk => ?_)
  · have hk' : k < 23 := by omega
    have hs1 := sumT_le ⟨k, by omega⟩
    have hs : 0 ≤ sumT k ∧ sumT k ≤ 600 := hs1
    repeat (first | refine Qa ?_ | refine Qb ?_ | refine Qc ?_ | refine Qd ?_ | refine Qe ?_ | refine Qf ?_ | refine Qg ?_ | refine Qh ?_ | refine Qi ?_ | refine Qj ?_ | refine Qk ?_ | refine Ql ?_ | refine Qm ?_ | refine Qn ?_ | refine Qo ?_ | refine Qp ?_ | refine Qq ?_ | fail)
    refine SXL.call rfl rfl rfl ?_
    refine (Tick_S (b := p) (s := tickC (clN 2 0) (caOf 2 ⟨#[]⟩) P L) (D := B1) (d := b1) inferInstance inferInstance hb1 (Nat.zero_le _) (fun _ => ⟨by rw [hP]; exact paT_le k, by rw [hL]; exact leT_le k⟩) (fun ho => by cases ho) (fun _ hle => callK.ret ?_) (fun _ hle g' A' a' ha' => callK.ret ?_))
    · have hle' : ¬ leT k ≤ 1 := by
        have h1 : (1 : Int) < L := hle
        omega
      repeat (first | refine Qa ?_ | refine Qb ?_ | refine Qc ?_ | refine Qd ?_ | refine Qe ?_ | refine Qf ?_ | refine Qg ?_ | refine Qh ?_ | refine Qi ?_ | refine Qj ?_ | refine Qk ?_ | refine Ql ?_ | refine Qm ?_ | refine Qn ?_ | refine Qo ?_ | refine Qp ?_ | refine Qq ?_ | fail)
      refine SX.same 7 (.int .i64 ((k + 1 + 1 : Nat) : Int)) rfl (by simp (disch := omega) only [IntWalk.i64_in, IntWalk.u8_in, IntWalk.u32_in, IntWalk.u64_in, IntWalk.rem_in, Int.natCast_add, Int.natCast_one]) ?_
      refine SX.again (z - 1) (by omega) ⟨k + 1, P, L - 1, n, by omega, by rw [hP]; exact (paT_not hle').1.symm, by rw [hL]; exact (paT_not hle').2.symm, ?_, rfl, rfl⟩ (by repeat (first | exact trivial | refine ⟨rfl, ?_⟩)) inferInstance
      rw [hn]
      show sumT k = sumT k + _
      rw [due_iff, decide_eq_false hle']
      simp
    · have hle' : leT k ≤ 1 := by
        have h1 : L ≤ (1 : Int) := hle
        omega
      repeat (first | refine Qa ?_ | refine Qb ?_ | refine Qc ?_ | refine Qd ?_ | refine Qe ?_ | refine Qf ?_ | refine Qg ?_ | refine Qh ?_ | refine Qi ?_ | refine Qj ?_ | refine Qk ?_ | refine Ql ?_ | refine Qm ?_ | refine Qn ?_ | refine Qo ?_ | refine Qp ?_ | refine Qq ?_ | fail)
      refine SX.same 6 (.int .i64 (n + ((k + 1 : Nat) : Int))) rfl (by simp (disch := omega) only [IntWalk.i64_in, IntWalk.u8_in, IntWalk.u32_in, IntWalk.u64_in, IntWalk.rem_in, Int.natCast_add, Int.natCast_one]) ?_
      refine SX.same 7 (.int .i64 ((k + 1 + 1 : Nat) : Int)) rfl (by simp (disch := omega) only [IntWalk.i64_in, IntWalk.u8_in, IntWalk.u32_in, IntWalk.u64_in, IntWalk.rem_in, Int.natCast_add, Int.natCast_one]) ?_
      refine SX.again (z - 1) (by omega) ⟨k + 1, more8 P, more8 P, n + ((k + 1 : Nat) : Int), by omega, by rw [hP]; exact (paT_due hle').1.symm, by rw [hP]; exact (paT_due hle').2.symm, ?_, rfl, rfl⟩ (by repeat (first | exact trivial | refine ⟨rfl, ?_⟩)) inferInstance
      rw [hn]
      show sumT k + _ = sumT k + _
      rw [due_iff, decide_eq_true hle']
      simp
  · have hk' : k = 23 := by omega
    subst hk'
    obtain rfl : n = 49 := hn
    repeat (first | refine Qa ?_ | refine Qb ?_ | refine Qc ?_ | refine Qd ?_ | refine Qe ?_ | refine Qf ?_ | refine Qg ?_ | refine Qh ?_ | refine Qi ?_ | refine Qj ?_ | refine Qk ?_ | refine Ql ?_ | refine Qm ?_ | refine Qn ?_ | refine Qo ?_ | refine Qp ?_ | refine Qq ?_ | fail)
    refine SXL.call rfl rfl rfl ?_
    refine (ClHandle_S (b := p) (s := tickC (clN 2 0) (caOf 2 ⟨#[]⟩) P L) (D := B1) (d := b1) (m := tellM 2 1 71 0 1) (A1 := none) (a1 := 0) (A2 := none) (a2 := 0) (A3 := none) (a3 := 0) (A4 := none) (a4 := 0) inferInstance inferInstance hb1 (Nat.zero_le _) ⟨by decide, by decide⟩ (fun hf => Bool.noConfusion (show true = false from hf)) (fun _ hs => absurd rfl hs) (fun _ _ hf => absurd hf (show ¬ (16 : Int) ≤ 1 by decide)) (fun _ _ _ g3 B3 b3 hb3 => callK.ret ?_))
    repeat (first | refine Qa ?_ | refine Qb ?_ | refine Qc ?_ | refine Qd ?_ | refine Qe ?_ | refine Qf ?_ | refine Qg ?_ | refine Qh ?_ | refine Qi ?_ | refine Qj ?_ | refine Qk ?_ | refine Ql ?_ | refine Qm ?_ | refine Qn ?_ | refine Qo ?_ | refine Qp ?_ | refine Qq ?_ | fail)
    refine SXL.alloc rfl rfl (fun z1 => ?_)
    repeat (first | refine Qa ?_ | refine Qb ?_ | refine Qc ?_ | refine Qd ?_ | refine Qe ?_ | refine Qf ?_ | refine Qg ?_ | refine Qh ?_ | refine Qi ?_ | refine Qj ?_ | refine Qk ?_ | refine Ql ?_ | refine Qm ?_ | refine Qn ?_ | refine Qo ?_ | refine Qp ?_ | refine Qq ?_ | fail)
    refine SXL.call rfl rfl rfl ?_
    refine (ClHandle_S (b := p) (s := moved (tickC (clN 2 0) (caOf 2 ⟨#[]⟩) P L) 1) (D := B1) (d := b1) (m := tellM 2 1 0 9 0) (A1 := none) (a1 := 0) (A2 := none) (a2 := 0) (A3 := none) (a3 := 0) (A4 := none) (a4 := 0) inferInstance inferInstance hb1 (Nat.zero_le _) ⟨by decide, by decide⟩ (fun hf => Bool.noConfusion (show true = false from hf)) (fun _ hs => callK.ret ?_) (fun _ hf _ => absurd hf (show ¬ (0 : Int) = 71 by decide)) (fun _ hf _ => absurd hf (show ¬ (0 : Int) = 71 by decide)))
    repeat (first | refine Qa ?_ | refine Qb ?_ | refine Qc ?_ | refine Qd ?_ | refine Qe ?_ | refine Qf ?_ | refine Qg ?_ | refine Qh ?_ | refine Qi ?_ | refine Qj ?_ | refine Qk ?_ | refine Ql ?_ | refine Qm ?_ | refine Qn ?_ | refine Qo ?_ | refine Qp ?_ | refine Qq ?_ | fail)
    refine SXL.alloc rfl rfl (fun z2 => ?_)
    repeat (first | refine Qa ?_ | refine Qb ?_ | refine Qc ?_ | refine Qd ?_ | refine Qe ?_ | refine Qf ?_ | refine Qg ?_ | refine Qh ?_ | refine Qi ?_ | refine Qj ?_ | refine Qk ?_ | refine Ql ?_ | refine Qm ?_ | refine Qn ?_ | refine Qo ?_ | refine Qp ?_ | refine Qq ?_ | fail)
    refine SXL.call rfl rfl rfl ?_
    refine (Open_S (b := p) (s := shut (moved (tickC (clN 2 0) (caOf 2 ⟨#[]⟩) P L) 1)) (D := B1) (d := b1) inferInstance (fun ho => callK.ret ?_) (fun ho => by cases ho))
    repeat (first | refine Qa ?_ | refine Qb ?_ | refine Qc ?_ | refine Qd ?_ | refine Qe ?_ | refine Qf ?_ | refine Qg ?_ | refine Qh ?_ | refine Qi ?_ | refine Qj ?_ | refine Qk ?_ | refine Ql ?_ | refine Qm ?_ | refine Qn ?_ | refine Qo ?_ | refine Qp ?_ | refine Qq ?_ | fail)
    refine SXL.alloc rfl rfl (fun z3 => ?_)
    repeat (first | refine Qa ?_ | refine Qb ?_ | refine Qc ?_ | refine Qd ?_ | refine Qe ?_ | refine Qf ?_ | refine Qg ?_ | refine Qh ?_ | refine Qi ?_ | refine Qj ?_ | refine Qk ?_ | refine Ql ?_ | refine Qm ?_ | refine Qn ?_ | refine Qo ?_ | refine Qp ?_ | refine Qq ?_ | fail)
    refine SXL.idx rfl rfl rfl rfl rfl (by omega) (by omega) rfl ?_
    repeat (first | refine Qa ?_ | refine Qb ?_ | refine Qc ?_ | refine Qd ?_ | refine Qe ?_ | refine Qf ?_ | refine Qg ?_ | refine Qh ?_ | refine Qi ?_ | refine Qj ?_ | refine Qk ?_ | refine Ql ?_ | refine Qm ?_ | refine Qn ?_ | refine Qo ?_ | refine Qp ?_ | refine Qq ?_ | fail)
    refine SXL.idx rfl rfl rfl rfl rfl (by omega) (by omega) rfl ?_
    repeat (first | refine Qa ?_ | refine Qb ?_ | refine Qc ?_ | refine Qd ?_ | refine Qe ?_ | refine Qf ?_ | refine Qg ?_ | refine Qh ?_ | refine Qi ?_ | refine Qj ?_ | refine Qk ?_ | refine Ql ?_ | refine Qm ?_ | refine Qn ?_ | refine Qo ?_ | refine Qp ?_ | refine Qq ?_ | fail)
    refine SXL.idx rfl rfl rfl rfl rfl (by omega) (by omega) rfl ?_
    repeat (first | refine Qa ?_ | refine Qb ?_ | refine Qc ?_ | refine Qd ?_ | refine Qe ?_ | refine Qf ?_ | refine Qg ?_ | refine Qh ?_ | refine Qi ?_ | refine Qj ?_ | refine Qk ?_ | refine Ql ?_ | refine Qm ?_ | refine Qn ?_ | refine Qo ?_ | refine Qp ?_ | refine Qq ?_ | fail)
    refine SXL.call rfl rfl rfl ?_
    refine (Place_S (b := p) (s := shut (moved (tickC (clN 2 0) (caOf 2 ⟨#[]⟩) P L) 1)) (D := B1) (d := b1) inferInstance (callK.ret ?_))
    repeat (first | refine Qa ?_ | refine Qb ?_ | refine Qc ?_ | refine Qd ?_ | refine Qe ?_ | refine Qf ?_ | refine Qg ?_ | refine Qh ?_ | refine Qi ?_ | refine Qj ?_ | refine Qk ?_ | refine Ql ?_ | refine Qm ?_ | refine Qn ?_ | refine Qo ?_ | refine Qp ?_ | refine Qq ?_ | fail)
    refine SX.ret (M' := F) rfl (Evals.tmp rfl Evals.nil) ?_ inferInstance
    exact h
end
end Go.Proofs.Ytgjajalneknagaa.Sx
end
