/- Part N8 of the lemmas and walks of the Go functions that these statements reach; conditions: those that each theorem names. -/
import Derived.Test.YtanemmcddgkpdaaGreatJN7
section
/- Chapter 13: a file made by a number, pure; conditions: those that each theorem names. -/
namespace Go.Proofs.YtanemmcddgkpdaaGreat.Hm
open Go.RowKit Go.Proofs.YtanemmcddgkpdaaGreatW.PrintWords Go.Proofs.YtanemmcddgkpdaaGreatW.PrintLast Go.Proofs.YtanemmcddgkpdaaGreatW.PrintMore
set_option linter.unusedVariables false
set_option linter.unusedSimpArgs false

/-- A call by the root's handle, with a number. -/
abbrev cx (name : ByteArray) (cnt v : Int) : Ca := ⟨0, 0, 6, 0, 1, name, 0, 0, ⟨#[]⟩, 0, v, cnt, 0, []⟩
theorem cx_wf {name : ByteArray} {cnt v : Int} (h1 : u32ok cnt) (h2 : u64ok v) : (cx name cnt v).wf :=
  ⟨u32_0, u32_0, ⟨by show (0:Int) ≤ 6; decide, by show (6:Int) < 4294967296; decide⟩, u32_0, ⟨by show (0:Int) ≤ 1; decide, by show (1:Int) < 4294967296; decide⟩, u32_0, u32_0, u64_0, h2, h1, u32_0, rfl⟩
theorem doT_op {t : Th} {c : Ca} (h1 : mayT t.l = true) (h2 : 1 ≤ c.op) (h3 : c.op ≤ 16) : doT t c = match opE t (toldR c) c with | .ok p => p | .error e => (t, { toldR c with st := e }) := by
  unfold doT
  rw [decide_eq_true h2, decide_eq_true h3, h1]
  rfl
noncomputable def ex1 (v : Int) : Th × Re := doT (formT 20) (cx ⟨#[102]⟩ 1 v)
noncomputable def ex2 (v o : Int) : Th × Re := doT (ex1 v).1 (cx ⟨#[102]⟩ 1 o)
noncomputable def ex3 (v : Int) : Th × Re := doT (ex1 v).1 (cx ⟨#[102]⟩ 2 0)
noncomputable def ex4 (v : Int) : Th × Re := doT (ex1 v).1 (cx ⟨#[102]⟩ 0 0)
noncomputable def ex5 (v how : Int) : Th × Re := doT (ex1 v).1 (cx ⟨#[104]⟩ how 0)
theorem ex1_may (v : Int) : mayT (ex1 v).1.l = true := by kernel_rfl
theorem ex1_st (v : Int) : (ex1 v).2.st = 0 := by kernel_rfl
theorem ex1_ai (v : Int) : (ex1 v).2.ai = 1 := by kernel_rfl
theorem ex1_ag (v : Int) : (ex1 v).2.ag = 1 := by kernel_rfl
theorem ex1_ch (v : Int) : (ex1 v).1.ch = 2 := by kernel_rfl
theorem ex2_E (v o : Int) : opE (ex1 v).1 (toldR (cx ⟨#[102]⟩ 1 o)) (cx ⟨#[102]⟩ 1 o) = (needE (o != 0 && v == o) 61 >>= fun _ => .ok ((ex1 v).1, tellS (atT (ex1 v).1 1) (toldR (cx ⟨#[102]⟩ 1 o)))) := by kernel_rfl
theorem op6 {name : ByteArray} {cnt v : Int} : 1 ≤ (cx name cnt v).op := by show (1:Int) ≤ 6; decide
theorem op6' {name : ByteArray} {cnt v : Int} : (cx name cnt v).op ≤ 16 := by show (6:Int) ≤ 16; decide
theorem ex2_te {v : Int} (h : v ≠ 0) : ex2 v v = ((ex1 v).1, tellS (atT (ex1 v).1 1) (toldR (cx ⟨#[102]⟩ 1 v))) := by
  unfold ex2
  rw [doT_op (ex1_may v) op6 op6', ex2_E, show (v != 0 && v == v) = true by simp [h], needT, okE]
theorem ex2_fe {v o : Int} (h : ¬ (o ≠ 0 ∧ v = o)) : ex2 v o = ((ex1 v).1, { toldR (cx ⟨#[102]⟩ 1 o) with st := 61 }) := by
  unfold ex2
  rw [doT_op (ex1_may v) op6 op6', ex2_E, show (o != 0 && v == o) = false by simpa using h, needF, erE]
theorem tl_st (v : Int) : (tellS (atT (ex1 v).1 1) (toldR (cx ⟨#[102]⟩ 1 v))).st = 0 := by kernel_rfl
theorem tl_ai (v : Int) : (tellS (atT (ex1 v).1 1) (toldR (cx ⟨#[102]⟩ 1 v))).ai = 1 := by kernel_rfl
theorem tl_ag (v : Int) : (tellS (atT (ex1 v).1 1) (toldR (cx ⟨#[102]⟩ 1 v))).ag = 1 := by kernel_rfl
theorem ex2_st {v : Int} (h : v ≠ 0) : (ex2 v v).2.st = 0 := by simp only [ex2_te h, tl_st]
theorem ex2_ai {v : Int} (h : v ≠ 0) : (ex2 v v).2.ai = 1 := by simp only [ex2_te h, tl_ai]
theorem ex2_ag {v : Int} (h : v ≠ 0) : (ex2 v v).2.ag = 1 := by simp only [ex2_te h, tl_ag]
theorem ex2_ch {v : Int} (h : v ≠ 0) : (ex2 v v).1.ch = 2 := by simp only [ex2_te h, ex1_ch]
theorem ex2_fst {v o : Int} (h : ¬ (o ≠ 0 ∧ v = o)) : (ex2 v o).2.st = 61 := by rw [ex2_fe h]
theorem ex2_fch {v o : Int} (h : ¬ (o ≠ 0 ∧ v = o)) : (ex2 v o).1.ch = 2 := by simp only [ex2_fe h, ex1_ch]
theorem ex3_st (v : Int) : (ex3 v).2.st = 61 := by kernel_rfl
theorem ex4_st (v : Int) : (ex4 v).2.st = 0 := by kernel_rfl
theorem ex4_ai (v : Int) : (ex4 v).2.ai = 1 := by kernel_rfl
theorem ex4_ag (v : Int) : (ex4 v).2.ag = 1 := by kernel_rfl
theorem fo_r (v : Int) : folderE (ex1 v).1 0 1 = .ok 0 := by kernel_rfl
theorem na_h : namedE ⟨#[104]⟩ = .ok () := by kernel_rfl
theorem ex5_E {v how : Int} (h : ¬ how ≤ 2) : createE (ex1 v).1 (toldR (cx ⟨#[104]⟩ how 0)) (cx ⟨#[104]⟩ how 0) = .error 64 := by
  unfold createE
  dsimp only
  rw [fo_r, okE, na_h, okE, decide_eq_false h, needF, erE]
theorem op_6 (t : Th) (r : Re) (name : ByteArray) (cnt v : Int) : opE t r (cx name cnt v) = createE t r (cx name cnt v) := rfl
theorem ex5_f {v how : Int} (h : ¬ how ≤ 2) : (ex5 v how).2.st = 64 := by
  unfold ex5
  rw [doT_op (ex1_may v) op6 op6', op_6, ex5_E h]
theorem ex5_0 (v : Int) : (ex5 v 0).2.st = 0 := by kernel_rfl
theorem ex5_1 (v : Int) : (ex5 v 1).2.st = 0 := by kernel_rfl
theorem ex5_2 (v : Int) : (ex5 v 2).2.st = 0 := by kernel_rfl
theorem ex5_t {v how : Int} (h0 : 0 ≤ how) (h : how ≤ 2) : (ex5 v how).2.st = 0 := by
  have h3 : how = 0 ∨ how = 1 ∨ how = 2 := by omega
  rcases h3 with h4 | h4 | h4
  · rw [h4]; exact ex5_0 v
  · rw [h4]; exact ex5_1 v
  · rw [h4]; exact ex5_2 v
end Go.Proofs.YtanemmcddgkpdaaGreat.Hm
end
section
/- Chapter 13: a file that is made by a number is told again by it, walked; conditions: those that each theorem names. -/
namespace Go.Proofs.YtanemmcddgkpdaaGreat.Sx
open Go.RowKit Go.Proofs.YtanemmcddgkpdaaGreat.Hm Go.Proofs.YtanemmcddgkpdaaGreatW.PrintWords Go.Proofs.YtanemmcddgkpdaaGreatW.PrintLast Go.Proofs.YtanemmcddgkpdaaGreatW.PrintMore
set_option linter.unusedVariables false
set_option linter.unusedSimpArgs false
attribute [local irreducible] SX SXL SXA St callK Post Evals

attribute [local irreducible] doT ex1 ex2 ex3 ex4 ex5
instance eqH13 : EqT Tryz.prog 35 := ⟨by kernel_rfl, by kernel_rfl, by kernel_rfl⟩
section
variable {F : List Thing} {K : Ending → List Thing → Prop} {v o how : Int}
theorem OpsExclusive_S (hv : u64ok v) (ho : u64ok o) (hh : u32ok how) (h : K (.returned (.bool true)) F) : Fn (Tryz.prog) 10 [.int .u64 v, .int .u64 o, .int .u32 how] F K := by
  refine Fn.enter Tryz.call10 Tryz.func10 rfl rfl rfl ?_
  repeat (first | refine Qa ?_ | refine Qb ?_ | refine Qc ?_ | refine Qd ?_ | refine Qe ?_ | refine Qf ?_ | refine Qg ?_ | refine Qh ?_ | refine Qi ?_ | refine Qj ?_ | refine Qk ?_ | refine Ql ?_ | refine Qm ?_ | refine Qn ?_ | refine Qo ?_ | refine Qp ?_ | refine Qq ?_ | fail)
  refine SXL.call rfl rfl rfl ?_
  refine (awake13_S (callK.ret ?_))
  repeat (first | refine Qa ?_ | refine Qb ?_ | refine Qc ?_ | refine Qd ?_ | refine Qe ?_ | refine Qf ?_ | refine Qg ?_ | refine Qh ?_ | refine Qi ?_ | refine Qj ?_ | refine Qk ?_ | refine Ql ?_ | refine Qm ?_ | refine Qn ?_ | refine Qo ?_ | refine Qp ?_ | refine Qq ?_ | fail)
  refine SXL.call rfl rfl rfl ?_
  refine (Format_S (room := 20) (fun b0 cap0 hcap0 => callK.ret ?_))
  have m0 : (formT 20).mid := formT_mid ⟨by decide, by decide⟩
  repeat (first | refine Qa ?_ | refine Qb ?_ | refine Qc ?_ | refine Qd ?_ | refine Qe ?_ | refine Qf ?_ | refine Qg ?_ | refine Qh ?_ | refine Qi ?_ | refine Qj ?_ | refine Qk ?_ | refine Ql ?_ | refine Qm ?_ | refine Qn ?_ | refine Qo ?_ | refine Qp ?_ | refine Qq ?_ | fail)
  refine SXL.call rfl rfl rfl ?_
  refine (Do_S (t := formT 20) (ps := nonesP 24) (c := cx ⟨#[102]⟩ 1 v) (Ac := none) (cc := 0) inferInstance inferInstance m0 rfl hcap0 (cx_wf ⟨by decide, by decide⟩ hv) (Nat.zero_le _) (Nat.le_refl _) inferInstance (fun _ _ => ⟨createE, create_S, fun t r => rfl⟩) (fun t1 r1 b1 cap1 ps1 Ad1 cd1 Ae1 ce1 he1 hcap1 hps1 m1 hd1 hx1 => callK.ret ?_))
  obtain ⟨e1, f1⟩ : t1 = (ex1 v).1 ∧ r1 = (ex1 v).2 := by unfold ex1; rw [he1]; exact ⟨rfl, rfl⟩
  clear he1
  subst e1; subst f1
  repeat (first | refine Qa ?_ | refine Qb ?_ | refine Qc ?_ | refine Qd ?_ | refine Qe ?_ | refine Qf ?_ | refine Qg ?_ | refine Qh ?_ | refine Qi ?_ | refine Qj ?_ | refine Qk ?_ | refine Ql ?_ | refine Qm ?_ | refine Qn ?_ | refine Qo ?_ | refine Qp ?_ | refine Qq ?_ | fail)
  refine SXL.alloc rfl rfl (fun p1 => ?_)
  repeat (first | refine Qa ?_ | refine Qb ?_ | refine Qc ?_ | refine Qd ?_ | refine Qe ?_ | refine Qf ?_ | refine Qg ?_ | refine Qh ?_ | refine Qi ?_ | refine Qj ?_ | refine Qk ?_ | refine Ql ?_ | refine Qm ?_ | refine Qn ?_ | refine Qo ?_ | refine Qp ?_ | refine Qq ?_ | fail)
  refine SXL.alloc rfl rfl (fun q1 => ?_)
  repeat (first | refine Qa ?_ | refine Qb ?_ | refine Qc ?_ | refine Qd ?_ | refine Qe ?_ | refine Qf ?_ | refine Qg ?_ | refine Qh ?_ | refine Qi ?_ | refine Qj ?_ | refine Qk ?_ | refine Ql ?_ | refine Qm ?_ | refine Qn ?_ | refine Qo ?_ | refine Qp ?_ | refine Qq ?_ | fail)
  refine SXL.call rfl rfl rfl ?_
  refine (Do_S (t := (ex1 v).1) (ps := ps1) (c := cx ⟨#[102]⟩ 1 o) (Ac := none) (cc := 0) inferInstance inferInstance m1 hps1 hcap1 (cx_wf ⟨by decide, by decide⟩ ho) (Nat.zero_le _) (Nat.le_refl _) inferInstance (fun _ _ => ⟨createE, create_S, fun t r => rfl⟩) (fun t2 r2 b2 cap2 ps2 Ad2 cd2 Ae2 ce2 he2 hcap2 hps2 m2 hd2 hx2 => callK.ret ?_))
  obtain ⟨e2, f2⟩ : t2 = (ex2 v o).1 ∧ r2 = (ex2 v o).2 := by unfold ex2; rw [he2]; exact ⟨rfl, rfl⟩
  clear he2
  subst e2; subst f2
  repeat (first | refine Qa ?_ | refine Qb ?_ | refine Qc ?_ | refine Qd ?_ | refine Qe ?_ | refine Qf ?_ | refine Qg ?_ | refine Qh ?_ | refine Qi ?_ | refine Qj ?_ | refine Qk ?_ | refine Ql ?_ | refine Qm ?_ | refine Qn ?_ | refine Qo ?_ | refine Qp ?_ | refine Qq ?_ | fail)
  refine SXL.alloc rfl rfl (fun p2 => ?_)
  repeat (first | refine Qa ?_ | refine Qb ?_ | refine Qc ?_ | refine Qd ?_ | refine Qe ?_ | refine Qf ?_ | refine Qg ?_ | refine Qh ?_ | refine Qi ?_ | refine Qj ?_ | refine Qk ?_ | refine Ql ?_ | refine Qm ?_ | refine Qn ?_ | refine Qo ?_ | refine Qp ?_ | refine Qq ?_ | fail)
  refine SXL.alloc rfl rfl (fun q2 => ?_)
  repeat (first | refine Qa ?_ | refine Qb ?_ | refine Qc ?_ | refine Qd ?_ | refine Qe ?_ | refine Qf ?_ | refine Qg ?_ | refine Qh ?_ | refine Qi ?_ | refine Qj ?_ | refine Qk ?_ | refine Ql ?_ | refine Qm ?_ | refine Qn ?_ | refine Qo ?_ | refine Qp ?_ | refine Qq ?_ | fail)
  refine SXL.call rfl rfl rfl ?_
  refine (Do_S (t := (ex1 v).1) (ps := ps1) (c := cx ⟨#[102]⟩ 2 0) (Ac := none) (cc := 0) inferInstance inferInstance m1 hps1 hcap1 (cx_wf ⟨by decide, by decide⟩ u64_0) (Nat.zero_le _) (Nat.le_refl _) inferInstance (fun _ _ => ⟨createE, create_S, fun t r => rfl⟩) (fun t3 r3 b3 cap3 ps3 Ad3 cd3 Ae3 ce3 he3 hcap3 hps3 m3 hd3 hx3 => callK.ret ?_))
  obtain ⟨e3, f3⟩ : t3 = (ex3 v).1 ∧ r3 = (ex3 v).2 := by unfold ex3; rw [he3]; exact ⟨rfl, rfl⟩
  clear he3
  subst e3; subst f3
  repeat (first | refine Qa ?_ | refine Qb ?_ | refine Qc ?_ | refine Qd ?_ | refine Qe ?_ | refine Qf ?_ | refine Qg ?_ | refine Qh ?_ | refine Qi ?_ | refine Qj ?_ | refine Qk ?_ | refine Ql ?_ | refine Qm ?_ | refine Qn ?_ | refine Qo ?_ | refine Qp ?_ | refine Qq ?_ | fail)
  refine SXL.alloc rfl rfl (fun p3 => ?_)
  repeat (first | refine Qa ?_ | refine Qb ?_ | refine Qc ?_ | refine Qd ?_ | refine Qe ?_ | refine Qf ?_ | refine Qg ?_ | refine Qh ?_ | refine Qi ?_ | refine Qj ?_ | refine Qk ?_ | refine Ql ?_ | refine Qm ?_ | refine Qn ?_ | refine Qo ?_ | refine Qp ?_ | refine Qq ?_ | fail)
  refine SXL.alloc rfl rfl (fun q3 => ?_)
  repeat (first | refine Qa ?_ | refine Qb ?_ | refine Qc ?_ | refine Qd ?_ | refine Qe ?_ | refine Qf ?_ | refine Qg ?_ | refine Qh ?_ | refine Qi ?_ | refine Qj ?_ | refine Qk ?_ | refine Ql ?_ | refine Qm ?_ | refine Qn ?_ | refine Qo ?_ | refine Qp ?_ | refine Qq ?_ | fail)
  refine SXL.call rfl rfl rfl ?_
  refine (Do_S (t := (ex1 v).1) (ps := ps1) (c := cx ⟨#[102]⟩ 0 0) (Ac := none) (cc := 0) inferInstance inferInstance m1 hps1 hcap1 (cx_wf u32_0 u64_0) (Nat.zero_le _) (Nat.le_refl _) inferInstance (fun _ _ => ⟨createE, create_S, fun t r => rfl⟩) (fun t4 r4 b4 cap4 ps4 Ad4 cd4 Ae4 ce4 he4 hcap4 hps4 m4 hd4 hx4 => callK.ret ?_))
  obtain ⟨e4, f4⟩ : t4 = (ex4 v).1 ∧ r4 = (ex4 v).2 := by unfold ex4; rw [he4]; exact ⟨rfl, rfl⟩
  clear he4
  subst e4; subst f4
  repeat (first | refine Qa ?_ | refine Qb ?_ | refine Qc ?_ | refine Qd ?_ | refine Qe ?_ | refine Qf ?_ | refine Qg ?_ | refine Qh ?_ | refine Qi ?_ | refine Qj ?_ | refine Qk ?_ | refine Ql ?_ | refine Qm ?_ | refine Qn ?_ | refine Qo ?_ | refine Qp ?_ | refine Qq ?_ | fail)
  refine SXL.alloc rfl rfl (fun p4 => ?_)
  repeat (first | refine Qa ?_ | refine Qb ?_ | refine Qc ?_ | refine Qd ?_ | refine Qe ?_ | refine Qf ?_ | refine Qg ?_ | refine Qh ?_ | refine Qi ?_ | refine Qj ?_ | refine Qk ?_ | refine Ql ?_ | refine Qm ?_ | refine Qn ?_ | refine Qo ?_ | refine Qp ?_ | refine Qq ?_ | fail)
  refine SXL.alloc rfl rfl (fun q4 => ?_)
  repeat (first | refine Qa ?_ | refine Qb ?_ | refine Qc ?_ | refine Qd ?_ | refine Qe ?_ | refine Qf ?_ | refine Qg ?_ | refine Qh ?_ | refine Qi ?_ | refine Qj ?_ | refine Qk ?_ | refine Ql ?_ | refine Qm ?_ | refine Qn ?_ | refine Qo ?_ | refine Qp ?_ | refine Qq ?_ | fail)
  refine SXL.call rfl rfl rfl ?_
  refine (Do_S (t := (ex1 v).1) (ps := ps1) (c := cx ⟨#[104]⟩ how 0) (Ac := none) (cc := 0) inferInstance inferInstance m1 hps1 hcap1 (cx_wf hh u64_0) (Nat.zero_le _) (Nat.le_refl _) inferInstance (fun _ _ => ⟨createE, create_S, fun t r => rfl⟩) (fun t5 r5 b5 cap5 ps5 Ad5 cd5 Ae5 ce5 he5 hcap5 hps5 m5 hd5 hx5 => callK.ret ?_))
  obtain ⟨e5, f5⟩ : t5 = (ex5 v how).1 ∧ r5 = (ex5 v how).2 := by unfold ex5; rw [he5]; exact ⟨rfl, rfl⟩
  clear he5
  subst e5; subst f5
  repeat (first | refine Qa ?_ | refine Qb ?_ | refine Qc ?_ | refine Qd ?_ | refine Qe ?_ | refine Qf ?_ | refine Qg ?_ | refine Qh ?_ | refine Qi ?_ | refine Qj ?_ | refine Qk ?_ | refine Ql ?_ | refine Qm ?_ | refine Qn ?_ | refine Qo ?_ | refine Qp ?_ | refine Qq ?_ | fail)
  refine SXL.alloc rfl rfl (fun p5 => ?_)
  repeat (first | refine Qa ?_ | refine Qb ?_ | refine Qc ?_ | refine Qd ?_ | refine Qe ?_ | refine Qf ?_ | refine Qg ?_ | refine Qh ?_ | refine Qi ?_ | refine Qj ?_ | refine Qk ?_ | refine Ql ?_ | refine Qm ?_ | refine Qn ?_ | refine Qo ?_ | refine Qp ?_ | refine Qq ?_ | fail)
  refine SXL.alloc rfl rfl (fun q5 => ?_)
  repeat (first | refine Qa ?_ | refine Qb ?_ | refine Qc ?_ | refine Qd ?_ | refine Qe ?_ | refine Qf ?_ | refine Qg ?_ | refine Qh ?_ | refine Qi ?_ | refine Qj ?_ | refine Qk ?_ | refine Ql ?_ | refine Qm ?_ | refine Qn ?_ | refine Qo ?_ | refine Qp ?_ | refine Qq ?_ | fail)
  rw [ex1_st v, ex1_ai v, ex1_ag v, ex1_ch v, ex3_st v, ex4_st v, ex4_ai v, ex4_ag v]
  by_cases hvo : v = o
  · subst hvo
    by_cases hz : v = 0
    · subst hz
      have hz : ¬ ((0:Int) ≠ 0 ∧ (0:Int) = 0) := by simp
      rw [ex2_fst hz, ex2_fch hz]
      repeat (first | refine Qa ?_ | refine Qb ?_ | refine Qc ?_ | refine Qd ?_ | refine Qe ?_ | refine Qf ?_ | refine Qg ?_ | refine Qh ?_ | refine Qi ?_ | refine Qj ?_ | refine Qk ?_ | refine Ql ?_ | refine Qm ?_ | refine Qn ?_ | refine Qo ?_ | refine Qp ?_ | refine Qq ?_ | fail)
      repeat (first | refine Qa ?_ | refine Qb ?_ | refine Qc ?_ | refine Qd ?_ | refine Qe ?_ | refine Qf ?_ | refine Qg ?_ | refine Qh ?_ | refine Qi ?_ | refine Qj ?_ | refine Qk ?_ | refine Ql ?_ | refine Qm ?_ | refine Qn ?_ | refine Qo ?_ | refine Qp ?_ | refine Qq ?_ | fail)
      refine SXL.eqAgg rfl rfl inferInstance rfl rfl rfl rfl ?_
      repeat (first | refine Qa ?_ | refine Qb ?_ | refine Qc ?_ | refine Qd ?_ | refine Qe ?_ | refine Qf ?_ | refine Qg ?_ | refine Qh ?_ | refine Qi ?_ | refine Qj ?_ | refine Qk ?_ | refine Ql ?_ | refine Qm ?_ | refine Qn ?_ | refine Qo ?_ | refine Qp ?_ | refine Qq ?_ | fail)
      by_cases hle : how ≤ 2
      · rw [ex5_t hh.1 hle]
        repeat (first | refine Qa ?_ | refine Qb ?_ | refine Qc ?_ | refine Qd ?_ | refine Qe ?_ | refine Qf ?_ | refine Qg ?_ | refine Qh ?_ | refine Qi ?_ | refine Qj ?_ | refine Qk ?_ | refine Ql ?_ | refine Qm ?_ | refine Qn ?_ | refine Qo ?_ | refine Qp ?_ | refine Qq ?_ | fail)
        refine SXL.know 128 true rfl (by simp [hle]) ?_
        repeat (first | refine Qa ?_ | refine Qb ?_ | refine Qc ?_ | refine Qd ?_ | refine Qe ?_ | refine Qf ?_ | refine Qg ?_ | refine Qh ?_ | refine Qi ?_ | refine Qj ?_ | refine Qk ?_ | refine Ql ?_ | refine Qm ?_ | refine Qn ?_ | refine Qo ?_ | refine Qp ?_ | refine Qq ?_ | fail)
        refine SXL.know 131 true rfl (by simp [hle]) ?_
        repeat (first | refine Qa ?_ | refine Qb ?_ | refine Qc ?_ | refine Qd ?_ | refine Qe ?_ | refine Qf ?_ | refine Qg ?_ | refine Qh ?_ | refine Qi ?_ | refine Qj ?_ | refine Qk ?_ | refine Ql ?_ | refine Qm ?_ | refine Qn ?_ | refine Qo ?_ | refine Qp ?_ | refine Qq ?_ | fail)
        refine SX.ret (M' := F) rfl (Evals.tmp rfl Evals.nil) ?_ inferInstance
        exact h
      · rw [ex5_f hle]
        repeat (first | refine Qa ?_ | refine Qb ?_ | refine Qc ?_ | refine Qd ?_ | refine Qe ?_ | refine Qf ?_ | refine Qg ?_ | refine Qh ?_ | refine Qi ?_ | refine Qj ?_ | refine Qk ?_ | refine Ql ?_ | refine Qm ?_ | refine Qn ?_ | refine Qo ?_ | refine Qp ?_ | refine Qq ?_ | fail)
        refine SXL.know 128 true rfl (by simp [hle]) ?_
        repeat (first | refine Qa ?_ | refine Qb ?_ | refine Qc ?_ | refine Qd ?_ | refine Qe ?_ | refine Qf ?_ | refine Qg ?_ | refine Qh ?_ | refine Qi ?_ | refine Qj ?_ | refine Qk ?_ | refine Ql ?_ | refine Qm ?_ | refine Qn ?_ | refine Qo ?_ | refine Qp ?_ | refine Qq ?_ | fail)
        refine SXL.know 131 false rfl (by simp [hle]) ?_
        repeat (first | refine Qa ?_ | refine Qb ?_ | refine Qc ?_ | refine Qd ?_ | refine Qe ?_ | refine Qf ?_ | refine Qg ?_ | refine Qh ?_ | refine Qi ?_ | refine Qj ?_ | refine Qk ?_ | refine Ql ?_ | refine Qm ?_ | refine Qn ?_ | refine Qo ?_ | refine Qp ?_ | refine Qq ?_ | fail)
        refine SX.ret (M' := F) rfl (Evals.tmp rfl Evals.nil) ?_ inferInstance
        exact h
    · skip
      rw [ex2_st hz, ex2_ai hz, ex2_ag hz, ex2_ch hz]
      repeat (first | refine Qa ?_ | refine Qb ?_ | refine Qc ?_ | refine Qd ?_ | refine Qe ?_ | refine Qf ?_ | refine Qg ?_ | refine Qh ?_ | refine Qi ?_ | refine Qj ?_ | refine Qk ?_ | refine Ql ?_ | refine Qm ?_ | refine Qn ?_ | refine Qo ?_ | refine Qp ?_ | refine Qq ?_ | fail)
      refine SXL.know 63 true rfl (by simp) ?_
      refine Qm ?_
      refine Qa ?_
      refine Qm ?_
      refine Qa ?_
      refine Qa ?_
      refine Qa ?_
      refine SXL.know 18 true rfl (by simp [hz]) ?_
      repeat (first | refine Qa ?_ | refine Qb ?_ | refine Qc ?_ | refine Qd ?_ | refine Qe ?_ | refine Qf ?_ | refine Qg ?_ | refine Qh ?_ | refine Qi ?_ | refine Qj ?_ | refine Qk ?_ | refine Ql ?_ | refine Qm ?_ | refine Qn ?_ | refine Qo ?_ | refine Qp ?_ | refine Qq ?_ | fail)
      refine SXL.eqAgg rfl rfl inferInstance rfl rfl rfl rfl ?_
      repeat (first | refine Qa ?_ | refine Qb ?_ | refine Qc ?_ | refine Qd ?_ | refine Qe ?_ | refine Qf ?_ | refine Qg ?_ | refine Qh ?_ | refine Qi ?_ | refine Qj ?_ | refine Qk ?_ | refine Ql ?_ | refine Qm ?_ | refine Qn ?_ | refine Qo ?_ | refine Qp ?_ | refine Qq ?_ | fail)
      refine SXL.eqAgg rfl rfl inferInstance rfl rfl rfl rfl ?_
      repeat (first | refine Qa ?_ | refine Qb ?_ | refine Qc ?_ | refine Qd ?_ | refine Qe ?_ | refine Qf ?_ | refine Qg ?_ | refine Qh ?_ | refine Qi ?_ | refine Qj ?_ | refine Qk ?_ | refine Ql ?_ | refine Qm ?_ | refine Qn ?_ | refine Qo ?_ | refine Qp ?_ | refine Qq ?_ | fail)
      by_cases hle : how ≤ 2
      · rw [ex5_t hh.1 hle]
        repeat (first | refine Qa ?_ | refine Qb ?_ | refine Qc ?_ | refine Qd ?_ | refine Qe ?_ | refine Qf ?_ | refine Qg ?_ | refine Qh ?_ | refine Qi ?_ | refine Qj ?_ | refine Qk ?_ | refine Ql ?_ | refine Qm ?_ | refine Qn ?_ | refine Qo ?_ | refine Qp ?_ | refine Qq ?_ | fail)
        refine SXL.know 128 true rfl (by simp [hle]) ?_
        repeat (first | refine Qa ?_ | refine Qb ?_ | refine Qc ?_ | refine Qd ?_ | refine Qe ?_ | refine Qf ?_ | refine Qg ?_ | refine Qh ?_ | refine Qi ?_ | refine Qj ?_ | refine Qk ?_ | refine Ql ?_ | refine Qm ?_ | refine Qn ?_ | refine Qo ?_ | refine Qp ?_ | refine Qq ?_ | fail)
        refine SXL.know 131 true rfl (by simp [hle]) ?_
        repeat (first | refine Qa ?_ | refine Qb ?_ | refine Qc ?_ | refine Qd ?_ | refine Qe ?_ | refine Qf ?_ | refine Qg ?_ | refine Qh ?_ | refine Qi ?_ | refine Qj ?_ | refine Qk ?_ | refine Ql ?_ | refine Qm ?_ | refine Qn ?_ | refine Qo ?_ | refine Qp ?_ | refine Qq ?_ | fail)
        refine SX.ret (M' := F) rfl (Evals.tmp rfl Evals.nil) ?_ inferInstance
        exact h
      · rw [ex5_f hle]
        repeat (first | refine Qa ?_ | refine Qb ?_ | refine Qc ?_ | refine Qd ?_ | refine Qe ?_ | refine Qf ?_ | refine Qg ?_ | refine Qh ?_ | refine Qi ?_ | refine Qj ?_ | refine Qk ?_ | refine Ql ?_ | refine Qm ?_ | refine Qn ?_ | refine Qo ?_ | refine Qp ?_ | refine Qq ?_ | fail)
        refine SXL.know 128 true rfl (by simp [hle]) ?_
        repeat (first | refine Qa ?_ | refine Qb ?_ | refine Qc ?_ | refine Qd ?_ | refine Qe ?_ | refine Qf ?_ | refine Qg ?_ | refine Qh ?_ | refine Qi ?_ | refine Qj ?_ | refine Qk ?_ | refine Ql ?_ | refine Qm ?_ | refine Qn ?_ | refine Qo ?_ | refine Qp ?_ | refine Qq ?_ | fail)
        refine SXL.know 131 false rfl (by simp [hle]) ?_
        repeat (first | refine Qa ?_ | refine Qb ?_ | refine Qc ?_ | refine Qd ?_ | refine Qe ?_ | refine Qf ?_ | refine Qg ?_ | refine Qh ?_ | refine Qi ?_ | refine Qj ?_ | refine Qk ?_ | refine Ql ?_ | refine Qm ?_ | refine Qn ?_ | refine Qo ?_ | refine Qp ?_ | refine Qq ?_ | fail)
        refine SX.ret (M' := F) rfl (Evals.tmp rfl Evals.nil) ?_ inferInstance
        exact h
  · have hne := hvo
    have hz : ¬ (o ≠ 0 ∧ v = o) := fun h9 => hvo h9.2
    rw [ex2_fst hz, ex2_fch hz]
    repeat (first | refine Qa ?_ | refine Qb ?_ | refine Qc ?_ | refine Qd ?_ | refine Qe ?_ | refine Qf ?_ | refine Qg ?_ | refine Qh ?_ | refine Qi ?_ | refine Qj ?_ | refine Qk ?_ | refine Ql ?_ | refine Qm ?_ | refine Qn ?_ | refine Qo ?_ | refine Qp ?_ | refine Qq ?_ | fail)
    refine SXL.know 63 false rfl (by simp [hne]) ?_
    repeat (first | refine Qa ?_ | refine Qb ?_ | refine Qc ?_ | refine Qd ?_ | refine Qe ?_ | refine Qf ?_ | refine Qg ?_ | refine Qh ?_ | refine Qi ?_ | refine Qj ?_ | refine Qk ?_ | refine Ql ?_ | refine Qm ?_ | refine Qn ?_ | refine Qo ?_ | refine Qp ?_ | refine Qq ?_ | fail)
    refine SXL.eqAgg rfl rfl inferInstance rfl rfl rfl rfl ?_
    repeat (first | refine Qa ?_ | refine Qb ?_ | refine Qc ?_ | refine Qd ?_ | refine Qe ?_ | refine Qf ?_ | refine Qg ?_ | refine Qh ?_ | refine Qi ?_ | refine Qj ?_ | refine Qk ?_ | refine Ql ?_ | refine Qm ?_ | refine Qn ?_ | refine Qo ?_ | refine Qp ?_ | refine Qq ?_ | fail)
    by_cases hle : how ≤ 2
    · rw [ex5_t hh.1 hle]
      repeat (first | refine Qa ?_ | refine Qb ?_ | refine Qc ?_ | refine Qd ?_ | refine Qe ?_ | refine Qf ?_ | refine Qg ?_ | refine Qh ?_ | refine Qi ?_ | refine Qj ?_ | refine Qk ?_ | refine Ql ?_ | refine Qm ?_ | refine Qn ?_ | refine Qo ?_ | refine Qp ?_ | refine Qq ?_ | fail)
      refine SXL.know 128 true rfl (by simp [hle]) ?_
      repeat (first | refine Qa ?_ | refine Qb ?_ | refine Qc ?_ | refine Qd ?_ | refine Qe ?_ | refine Qf ?_ | refine Qg ?_ | refine Qh ?_ | refine Qi ?_ | refine Qj ?_ | refine Qk ?_ | refine Ql ?_ | refine Qm ?_ | refine Qn ?_ | refine Qo ?_ | refine Qp ?_ | refine Qq ?_ | fail)
      refine SXL.know 131 true rfl (by simp [hle]) ?_
      repeat (first | refine Qa ?_ | refine Qb ?_ | refine Qc ?_ | refine Qd ?_ | refine Qe ?_ | refine Qf ?_ | refine Qg ?_ | refine Qh ?_ | refine Qi ?_ | refine Qj ?_ | refine Qk ?_ | refine Ql ?_ | refine Qm ?_ | refine Qn ?_ | refine Qo ?_ | refine Qp ?_ | refine Qq ?_ | fail)
      refine SX.ret (M' := F) rfl (Evals.tmp rfl Evals.nil) ?_ inferInstance
      exact h
    · rw [ex5_f hle]
      repeat (first | refine Qa ?_ | refine Qb ?_ | refine Qc ?_ | refine Qd ?_ | refine Qe ?_ | refine Qf ?_ | refine Qg ?_ | refine Qh ?_ | refine Qi ?_ | refine Qj ?_ | refine Qk ?_ | refine Ql ?_ | refine Qm ?_ | refine Qn ?_ | refine Qo ?_ | refine Qp ?_ | refine Qq ?_ | fail)
      refine SXL.know 128 true rfl (by simp [hle]) ?_
      repeat (first | refine Qa ?_ | refine Qb ?_ | refine Qc ?_ | refine Qd ?_ | refine Qe ?_ | refine Qf ?_ | refine Qg ?_ | refine Qh ?_ | refine Qi ?_ | refine Qj ?_ | refine Qk ?_ | refine Ql ?_ | refine Qm ?_ | refine Qn ?_ | refine Qo ?_ | refine Qp ?_ | refine Qq ?_ | fail)
      refine SXL.know 131 false rfl (by simp [hle]) ?_
      repeat (first | refine Qa ?_ | refine Qb ?_ | refine Qc ?_ | refine Qd ?_ | refine Qe ?_ | refine Qf ?_ | refine Qg ?_ | refine Qh ?_ | refine Qi ?_ | refine Qj ?_ | refine Qk ?_ | refine Ql ?_ | refine Qm ?_ | refine Qn ?_ | refine Qo ?_ | refine Qp ?_ | refine Qq ?_ | fail)
      refine SX.ret (M' := F) rfl (Evals.tmp rfl Evals.nil) ?_ inferInstance
      exact h
end
theorem OpsExclusive_any (v : Int) (o : Int) (h : Int) (W : World) (wv : (Lit.int .u64 v).wf = true) (wo : (Lit.int .u64 o).wf = true) (wh : (Lit.int .u32 h).wf = true) :
    Calls Tryz.prog 10 #[.int .u64 v, .int .u64 o, .int .u32 h] W fun e w' => e = .returned (.bool true) ∧ Below W.heap.size W w' :=
  Fn.out W [.per (oldR W)] (Holds.ofStart (Holds.start0 W)) inferInstance
    (OpsExclusive_S (u64_of_wf _ wv) (u64_of_wf _ wo) (u32_of_wf _ wh) ⟨rfl, inferInstance⟩)
end Go.Proofs.YtanemmcddgkpdaaGreat.Sx
end
