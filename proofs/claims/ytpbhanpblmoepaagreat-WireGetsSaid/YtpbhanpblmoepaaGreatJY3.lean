/- Chapter 16's laws WirePuts and WireUnlike, walked, and the chapter's example; conditions: those that each theorem names. -/
import Derived.Test.YtpbhanpblmoepaaGreatJY2
namespace Go.Proofs.YtpbhanpblmoepaaGreat.Sx
open Go.RowKit Go.Proofs.YtpbhanpblmoepaaGreat.Hm Go.Proofs.YtpbhanpblmoepaaGreatW.PrintWords Go.Proofs.YtpbhanpblmoepaaGreatW.PrintLast Go.Proofs.YtpbhanpblmoepaaGreatW.PrintMore
set_option linter.unusedVariables false
set_option linter.unusedSimpArgs false
attribute [local irreducible] SX SXL SXA St callK Post Evals

theorem Ca0_wf : Ca0.wf := (getCa_wf (b := []) rfl (show getCa [] = (Ca0, 10) from by kernel_rfl)).1
theorem Re0_wf : Re0.wf := (getRe_wf (b := []) rfl (show getRe [] = (Re0, 10) from by kernel_rfl)).1
def ct6 : Ctl := ⟨6, 1, 2, 0, []⟩
def m06 : Msg := ⟨3, Ca0, Re0, ct6⟩
theorem ct6_wf : ct6.wf := ⟨⟨by decide, by decide⟩, ⟨by decide, by decide⟩, ⟨by decide, by decide⟩, ⟨by decide, by decide⟩, rfl⟩
theorem m06_wf : m06.wf := ⟨⟨by decide, by decide⟩, Ca0_wf, Re0_wf, ct6_wf⟩
section
variable {F R : List Thing} {K : Ending → List Thing → Prop} {A B C D A' B' C' D' : Option Addr} {a1 a2 a3 a4 b1 b2 b3 b4 : Nat}
set_option maxRecDepth 20000 in
theorem awake16_S (h : K (.returned (.bool true)) F) : Fn (Tryz.prog) 4 [] F K := by
  have hp : putMs m06 = (encMs 3 (encCt ct6), 0) := by kernel_rfl
  have hl : (encMs 3 (encCt ct6)).length = 40 := by decide +kernel
  have h3 : (encMs 3 (encCt ct6))[3]? = some 3 := by decide +kernel
  have hb : bytesB (encMs 3 (encCt ct6)) = true := by decide +kernel
  have hg := getMs_put m06_wf hp
  rw [show normM m06 = m06 from rfl] at hg
  refine Fn.enter Tryz.call4 Tryz.func4 rfl rfl rfl ?_
  repeat (first | refine Qa ?_ | refine Qb ?_ | refine Qc ?_ | refine Qd ?_ | refine Qe ?_ | refine Qf ?_ | refine Qg ?_ | refine Qh ?_ | refine Qi ?_ | refine Qj ?_ | refine Qk ?_ | refine Ql ?_ | refine Qm ?_ | refine Qn ?_ | refine Qo ?_ | refine Qp ?_ | refine Qq ?_ | fail)
  refine SXL.call rfl rfl rfl ?_
  refine (WPut_S (m := m06) (A := none) (B := none) (C := none) (D := none) (a1 := 0) (a2 := 0) (a3 := 0) (a4 := 0) inferInstance inferInstance inferInstance inferInstance (Nat.le_refl _) (Nat.le_refl _) (Nat.le_refl _) (Nat.le_refl _) m06_wf (fun r n hm A1 c1 hc1 => callK.ret ?_))
  rw [hp] at hm
  simp only [Prod.mk.injEq] at hm
  obtain ⟨rfl, rfl⟩ := hm
  repeat (first | refine Qa ?_ | refine Qb ?_ | refine Qc ?_ | refine Qd ?_ | refine Qe ?_ | refine Qf ?_ | refine Qg ?_ | refine Qh ?_ | refine Qi ?_ | refine Qj ?_ | refine Qk ?_ | refine Ql ?_ | refine Qm ?_ | refine Qn ?_ | refine Qo ?_ | refine Qp ?_ | refine Qq ?_ | fail)
  refine SXL.call rfl rfl rfl ?_
  refine (WGet_S inferInstance hc1 hb (by omega) (fun r n hm A2 x2 B2 y2 C2 z2 D2 u2 g1 g2 g3 g4 => callK.ret ?_))
  rw [hg] at hm
  simp only [Prod.mk.injEq] at hm
  obtain ⟨rfl, rfl⟩ := hm
  repeat (first | refine Qa ?_ | refine Qb ?_ | refine Qc ?_ | refine Qd ?_ | refine Qe ?_ | refine Qf ?_ | refine Qg ?_ | refine Qh ?_ | refine Qi ?_ | refine Qj ?_ | refine Qk ?_ | refine Ql ?_ | refine Qm ?_ | refine Qn ?_ | refine Qo ?_ | refine Qp ?_ | refine Qq ?_ | fail)
  refine SXL.alloc rfl rfl (fun q => ?_)
  repeat (first | refine Qa ?_ | refine Qb ?_ | refine Qc ?_ | refine Qd ?_ | refine Qe ?_ | refine Qf ?_ | refine Qg ?_ | refine Qh ?_ | refine Qi ?_ | refine Qj ?_ | refine Qk ?_ | refine Ql ?_ | refine Qm ?_ | refine Qn ?_ | refine Qo ?_ | refine Qp ?_ | refine Qq ?_ | fail)
  refine SXL.know 21 true rfl (by rw [hl]; rfl) ?_
  refine SXL.addr (A := A1) (Kd.int .u8) (by decide) (xs := encMs 3 (encCt ct6)) (by omega) (fun b3 o3 e3 => ?_)
  subst e3
  repeat (first | refine Qa ?_ | refine Qb ?_ | refine Qc ?_ | refine Qd ?_ | refine Qe ?_ | refine Qf ?_ | refine Qg ?_ | refine Qh ?_ | refine Qi ?_ | refine Qj ?_ | refine Qk ?_ | refine Ql ?_ | refine Qm ?_ | refine Qn ?_ | refine Qo ?_ | refine Qp ?_ | refine Qq ?_ | fail)
  refine SXL.idx rfl rfl rfl rfl rfl (by omega) (by omega) rfl ?_
  repeat (first | refine Qa ?_ | refine Qb ?_ | refine Qc ?_ | refine Qd ?_ | refine Qe ?_ | refine Qf ?_ | refine Qg ?_ | refine Qh ?_ | refine Qi ?_ | refine Qj ?_ | refine Qk ?_ | refine Ql ?_ | refine Qm ?_ | refine Qn ?_ | refine Qo ?_ | refine Qp ?_ | refine Qq ?_ | fail)
  refine SXL.loadRow (Kd.int .u8) rfl rfl inferInstance (by exact h3) rfl rfl ?_
  repeat (first | refine Qa ?_ | refine Qb ?_ | refine Qc ?_ | refine Qd ?_ | refine Qe ?_ | refine Qf ?_ | refine Qg ?_ | refine Qh ?_ | refine Qi ?_ | refine Qj ?_ | refine Qk ?_ | refine Ql ?_ | refine Qm ?_ | refine Qn ?_ | refine Qo ?_ | refine Qp ?_ | refine Qq ?_ | fail)
  refine SX.ret (M' := F) rfl (Evals.tmp rfl Evals.nil) ?_ inferInstance
  exact h
end
end Go.Proofs.YtpbhanpblmoepaaGreat.Sx
