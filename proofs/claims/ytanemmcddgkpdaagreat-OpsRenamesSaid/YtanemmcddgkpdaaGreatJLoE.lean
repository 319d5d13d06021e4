/- Chapter 13: a thing that is renamed is there under the new name alone, walked; conditions: those that each theorem names. -/
import Derived.Test.YtanemmcddgkpdaaGreatJEx
import Derived.Test.YtanemmcddgkpdaaGreatJN0
import Derived.Test.YtanemmcddgkpdaaGreatJN7
namespace Go.Proofs.YtanemmcddgkpdaaGreat.Sx
open Go.RowKit Go.Proofs.YtanemmcddgkpdaaGreat.Hm Go.Proofs.YtanemmcddgkpdaaGreatW.PrintWords Go.Proofs.YtanemmcddgkpdaaGreatW.PrintLast Go.Proofs.YtanemmcddgkpdaaGreatW.PrintMore
set_option linter.unusedVariables false
set_option linter.unusedSimpArgs false
attribute [local irreducible] SX SXL SXA St callK Post Evals

attribute [local irreducible] doT r1 r2 r3 r3T r4 nm
instance eqHr13 : EqT Tryz.prog 35 := ⟨by kernel_rfl, by kernel_rfl, by kernel_rfl⟩
section
variable {F : List Thing} {K : Ending → List Thing → Prop} {p q : Int} {th : Bool}
set_option maxRecDepth 20000 in
set_option maxHeartbeats 4000000 in
theorem OpsRenames_S (h0 : 0 ≤ p) (h1 : p < 256) (h2 : 0 ≤ q) (h3 : q < 256) (h : K (.returned (.bool true)) F) : Fn (Tryz.prog) 7 [.int .u8 p, .int .u8 q, .bool th] F K := by
  obtain ⟨a, ha⟩ : ∃ a : Nat, a = (p % 4).toNat := ⟨_, rfl⟩
  obtain ⟨b, hb⟩ : ∃ b : Nat, b = (q % 4).toNat := ⟨_, rfl⟩
  have ha4 : a < 4 := by omega
  have hb4 : b < 4 := by omega
  have hpa : p.tmod 4 = (a : Int) := by rw [Int.tmod_eq_emod_of_nonneg h0]; omega
  have hqb : q.tmod 4 = (b : Int) := by rw [Int.tmod_eq_emod_of_nonneg h2]; omega
  have hna : ((a : Int).toNat % 12) = a := by omega
  have hnb : ((b : Int).toNat % 12) = b := by omega
  have hnm := nm_eq ha4 hb4
  obtain ⟨fa1, fa2, -⟩ := chR_st (chR_all (bt := false) ha4 hb4 (fun h => by cases h))
  refine Fn.enter Tryz.call7 Tryz.func7 rfl rfl rfl ?_
  repeat (first | refine Qa ?_ | refine Qb ?_ | refine Qc ?_ | refine Qd ?_ | refine Qe ?_ | refine Qf ?_ | refine Qg ?_ | refine Qh ?_ | refine Qi ?_ | refine Qj ?_ | refine Qk ?_ | refine Ql ?_ | refine Qm ?_ | refine Qn ?_ | refine Qo ?_ | refine Qp ?_ | refine Qq ?_ | fail)
  refine SXL.call rfl rfl rfl ?_
  refine (awake13_S (callK.ret ?_))
  repeat (first | refine Qa ?_ | refine Qb ?_ | refine Qc ?_ | refine Qd ?_ | refine Qe ?_ | refine Qf ?_ | refine Qg ?_ | refine Qh ?_ | refine Qi ?_ | refine Qj ?_ | refine Qk ?_ | refine Ql ?_ | refine Qm ?_ | refine Qn ?_ | refine Qo ?_ | refine Qp ?_ | refine Qq ?_ | fail)
  rw [hpa]
  refine SXL.call rfl rfl rfl ?_
  refine (named13_S (k := (a : Int)) (by omega) (by omega) (callK.ret ?_))
  rw [hna]
  repeat (first | refine Qa ?_ | refine Qb ?_ | refine Qc ?_ | refine Qd ?_ | refine Qe ?_ | refine Qf ?_ | refine Qg ?_ | refine Qh ?_ | refine Qi ?_ | refine Qj ?_ | refine Qk ?_ | refine Ql ?_ | refine Qm ?_ | refine Qn ?_ | refine Qo ?_ | refine Qp ?_ | refine Qq ?_ | fail)
  rw [hqb]
  refine SXL.call rfl rfl rfl ?_
  refine (named13_S (k := (b : Int)) (by omega) (by omega) (callK.ret ?_))
  rw [hnb]
  repeat (first | refine Qa ?_ | refine Qb ?_ | refine Qc ?_ | refine Qd ?_ | refine Qe ?_ | refine Qf ?_ | refine Qg ?_ | refine Qh ?_ | refine Qi ?_ | refine Qj ?_ | refine Qk ?_ | refine Ql ?_ | refine Qm ?_ | refine Qn ?_ | refine Qo ?_ | refine Qp ?_ | refine Qq ?_ | fail)
  refine SXL.call rfl rfl rfl ?_
  refine (Format_S (room := 20) (fun b0 cap0 hcap0 => callK.ret ?_))
  have m0 : (formT 20).mid := formT_mid ⟨by decide, by decide⟩
  repeat (first | refine Qa ?_ | refine Qb ?_ | refine Qc ?_ | refine Qd ?_ | refine Qe ?_ | refine Qf ?_ | refine Qg ?_ | refine Qh ?_ | refine Qi ?_ | refine Qj ?_ | refine Qk ?_ | refine Ql ?_ | refine Qm ?_ | refine Qn ?_ | refine Qo ?_ | refine Qp ?_ | refine Qq ?_ | fail)
  refine SXL.call rfl rfl rfl ?_
  refine (Do_S (t := formT 20) (ps := nonesP 24) (c := ca 6 0 1 (nm a) 0 0 []) (Ac := none) (cc := 0) inferInstance inferInstance m0 rfl hcap0 (ca_wf ⟨by decide, by decide⟩ u32_0 ⟨by decide, by decide⟩ u32_0 u64_0 rfl) (Nat.zero_le _) (Nat.le_refl _) inferInstance (fun _ _ => ⟨createE, create_S, fun t r => rfl⟩) (fun t1 r1_ b1 cap1 ps1 Ad1 cd1 Ae1 ce1 he1 hcap1 hps1 m1 hd1 hx1 => callK.ret ?_))
  obtain ⟨e1, f1⟩ : t1 = (r1 a).1 ∧ r1_ = (r1 a).2 := by unfold r1; rw [he1]; exact ⟨rfl, rfl⟩
  clear he1
  subst e1; subst f1
  repeat (first | refine Qa ?_ | refine Qb ?_ | refine Qc ?_ | refine Qd ?_ | refine Qe ?_ | refine Qf ?_ | refine Qg ?_ | refine Qh ?_ | refine Qi ?_ | refine Qj ?_ | refine Qk ?_ | refine Ql ?_ | refine Qm ?_ | refine Qn ?_ | refine Qo ?_ | refine Qp ?_ | refine Qq ?_ | fail)
  refine SXL.alloc rfl rfl (fun p10 => ?_)
  repeat (first | refine Qa ?_ | refine Qb ?_ | refine Qc ?_ | refine Qd ?_ | refine Qe ?_ | refine Qf ?_ | refine Qg ?_ | refine Qh ?_ | refine Qi ?_ | refine Qj ?_ | refine Qk ?_ | refine Ql ?_ | refine Qm ?_ | refine Qn ?_ | refine Qo ?_ | refine Qp ?_ | refine Qq ?_ | fail)
  refine SXL.alloc rfl rfl (fun p11 => ?_)
  repeat (first | refine Qa ?_ | refine Qb ?_ | refine Qc ?_ | refine Qd ?_ | refine Qe ?_ | refine Qf ?_ | refine Qg ?_ | refine Qh ?_ | refine Qi ?_ | refine Qj ?_ | refine Qk ?_ | refine Ql ?_ | refine Qm ?_ | refine Qn ?_ | refine Qo ?_ | refine Qp ?_ | refine Qq ?_ | fail)
  rw [fa1, fa2]
  repeat (first | refine Qa ?_ | refine Qb ?_ | refine Qc ?_ | refine Qd ?_ | refine Qe ?_ | refine Qf ?_ | refine Qg ?_ | refine Qh ?_ | refine Qi ?_ | refine Qj ?_ | refine Qk ?_ | refine Ql ?_ | refine Qm ?_ | refine Qn ?_ | refine Qo ?_ | refine Qp ?_ | refine Qq ?_ | fail)
  refine SXL.lit rfl rfl (fun g => ?_)
  refine SXL.litBytes [111, 110, 101] rfl inferInstance rfl Tryz.underlying38 Tryz.underlying5 (by simp) rfl ?_
  repeat (first | refine Qa ?_ | refine Qb ?_ | refine Qc ?_ | refine Qd ?_ | refine Qe ?_ | refine Qf ?_ | refine Qg ?_ | refine Qh ?_ | refine Qi ?_ | refine Qj ?_ | refine Qk ?_ | refine Ql ?_ | refine Qm ?_ | refine Qn ?_ | refine Qo ?_ | refine Qp ?_ | refine Qq ?_ | fail)
  refine SXL.call rfl rfl rfl ?_
  refine (Do_S (t := (r1 a).1) (ps := ps1) (c := ca 5 1 1 ⟨#[]⟩ 0 0 [111, 110, 101]) (Ac := some ⟨g, 0, none⟩) (cc := 3) inferInstance inferInstance m1 hps1 hcap1 (ca_wf ⟨by decide, by decide⟩ ⟨by decide, by decide⟩ ⟨by decide, by decide⟩ u32_0 u64_0 rfl) (by show 3 ≤ 4000000000; decide) (Nat.le_refl _) inferInstance (fun _ _ => ⟨writeE, write_S, fun t r => rfl⟩) (fun t2 r2_ b2 cap2 ps2 Ad2 cd2 Ae2 ce2 he2 hcap2 hps2 m2 hd2 hx2 => callK.ret ?_))
  obtain rfl : t2 = (r2 a).1 := by unfold r2; rw [he2]
  clear he2
  repeat (first | refine Qa ?_ | refine Qb ?_ | refine Qc ?_ | refine Qd ?_ | refine Qe ?_ | refine Qf ?_ | refine Qg ?_ | refine Qh ?_ | refine Qi ?_ | refine Qj ?_ | refine Qk ?_ | refine Ql ?_ | refine Qm ?_ | refine Qn ?_ | refine Qo ?_ | refine Qp ?_ | refine Qq ?_ | fail)
  refine SXL.alloc rfl rfl (fun p12 => ?_)
  repeat (first | refine Qa ?_ | refine Qb ?_ | refine Qc ?_ | refine Qd ?_ | refine Qe ?_ | refine Qf ?_ | refine Qg ?_ | refine Qh ?_ | refine Qi ?_ | refine Qj ?_ | refine Qk ?_ | refine Ql ?_ | refine Qm ?_ | refine Qn ?_ | refine Qo ?_ | refine Qp ?_ | refine Qq ?_ | fail)
  by_cases hab : a = b
  · have hab2 := hab
    subst hab
    cases th
    · skip
      repeat (first | refine Qa ?_ | refine Qb ?_ | refine Qc ?_ | refine Qd ?_ | refine Qe ?_ | refine Qf ?_ | refine Qg ?_ | refine Qh ?_ | refine Qi ?_ | refine Qj ?_ | refine Qk ?_ | refine Ql ?_ | refine Qm ?_ | refine Qn ?_ | refine Qo ?_ | refine Qp ?_ | refine Qq ?_ | fail)
      obtain ⟨-, -, g3', g4, g5, g6, g7, g8, g9, g10, g11⟩ := chR_st (chR_all (bt := false) ha4 hb4 (fun h => by cases h))
      rw [r3T_f] at g4
      repeat (first | refine Qa ?_ | refine Qb ?_ | refine Qc ?_ | refine Qd ?_ | refine Qe ?_ | refine Qf ?_ | refine Qg ?_ | refine Qh ?_ | refine Qi ?_ | refine Qj ?_ | refine Qk ?_ | refine Ql ?_ | refine Qm ?_ | refine Qn ?_ | refine Qo ?_ | refine Qp ?_ | refine Qq ?_ | fail)
      refine SXL.call rfl rfl rfl ?_
      refine (Do_T (t := (r2 a).1) (ps := ps2) (c := rc (nm a) (nm a)) (Ac := none) (cc := 0) inferInstance inferInstance m2 hps2 hcap2 rc_wf (Nat.zero_le _) (Nat.le_refl _) inferInstance (fun _ _ => ⟨renameE, rename_A (filB_ok g4), rfl⟩) (fun t4 r4_ b4 cap4 ps4 Ad4 cd4 Ae4 ce4 he4 hcap4 hps4 m4 hd4 hx4 => callK.ret ?_))
      obtain ⟨e4, f4⟩ : t4 = (r4 a a false).1 ∧ r4_ = (r4 a a false).2 := by rw [r4_def, r3T_f, he4]; exact ⟨rfl, rfl⟩
      clear he4
      subst e4; subst f4
      repeat (first | refine Qa ?_ | refine Qb ?_ | refine Qc ?_ | refine Qd ?_ | refine Qe ?_ | refine Qf ?_ | refine Qg ?_ | refine Qh ?_ | refine Qi ?_ | refine Qj ?_ | refine Qk ?_ | refine Ql ?_ | refine Qm ?_ | refine Qn ?_ | refine Qo ?_ | refine Qp ?_ | refine Qq ?_ | fail)
      refine SXL.alloc rfl rfl (fun p13 => ?_)
      repeat (first | refine Qa ?_ | refine Qb ?_ | refine Qc ?_ | refine Qd ?_ | refine Qe ?_ | refine Qf ?_ | refine Qg ?_ | refine Qh ?_ | refine Qi ?_ | refine Qj ?_ | refine Qk ?_ | refine Ql ?_ | refine Qm ?_ | refine Qn ?_ | refine Qo ?_ | refine Qp ?_ | refine Qq ?_ | fail)
      refine SXL.call rfl rfl rfl ?_
      refine (Do_S (t := (r4 a a false).1) (ps := ps4) (c := ca 1 0 1 (nm a) 0 0 []) (Ac := none) (cc := 0) inferInstance inferInstance m4 hps4 hcap4 (ca_wf ⟨by decide, by decide⟩ u32_0 ⟨by decide, by decide⟩ u32_0 u64_0 rfl) (Nat.zero_le _) (Nat.le_refl _) inferInstance (fun _ _ => ⟨lookupE, lookup_S, fun t r => rfl⟩) (fun t5 r5 b5 cap5 ps5 Ad5 cd5 Ae5 ce5 he5 hcap5 hps5 m5 hd5 hx5 => callK.ret ?_))
      rw [he5] at g6 g7 g8
      clear he5
      dsimp only at g6 g7 g8
      repeat (first | refine Qa ?_ | refine Qb ?_ | refine Qc ?_ | refine Qd ?_ | refine Qe ?_ | refine Qf ?_ | refine Qg ?_ | refine Qh ?_ | refine Qi ?_ | refine Qj ?_ | refine Qk ?_ | refine Ql ?_ | refine Qm ?_ | refine Qn ?_ | refine Qo ?_ | refine Qp ?_ | refine Qq ?_ | fail)
      refine SXL.alloc rfl rfl (fun p14 => ?_)
      repeat (first | refine Qa ?_ | refine Qb ?_ | refine Qc ?_ | refine Qd ?_ | refine Qe ?_ | refine Qf ?_ | refine Qg ?_ | refine Qh ?_ | refine Qi ?_ | refine Qj ?_ | refine Qk ?_ | refine Ql ?_ | refine Qm ?_ | refine Qn ?_ | refine Qo ?_ | refine Qp ?_ | refine Qq ?_ | fail)
      refine SXL.alloc rfl rfl (fun p15 => ?_)
      repeat (first | refine Qa ?_ | refine Qb ?_ | refine Qc ?_ | refine Qd ?_ | refine Qe ?_ | refine Qf ?_ | refine Qg ?_ | refine Qh ?_ | refine Qi ?_ | refine Qj ?_ | refine Qk ?_ | refine Ql ?_ | refine Qm ?_ | refine Qn ?_ | refine Qo ?_ | refine Qp ?_ | refine Qq ?_ | fail)
      refine SXL.call rfl rfl rfl ?_
      refine (Do_S (t := (r4 a a false).1) (ps := ps4) (c := ca 1 0 1 (nm a) 0 0 []) (Ac := none) (cc := 0) inferInstance inferInstance m4 hps4 hcap4 (ca_wf ⟨by decide, by decide⟩ u32_0 ⟨by decide, by decide⟩ u32_0 u64_0 rfl) (Nat.zero_le _) (Nat.le_refl _) inferInstance (fun _ _ => ⟨lookupE, lookup_S, fun t r => rfl⟩) (fun t6 r6 b6 cap6 ps6 Ad6 cd6 Ae6 ce6 he6 hcap6 hps6 m6 hd6 hx6 => callK.ret ?_))
      rw [he6] at g9
      clear he6
      dsimp only at g9
      repeat (first | refine Qa ?_ | refine Qb ?_ | refine Qc ?_ | refine Qd ?_ | refine Qe ?_ | refine Qf ?_ | refine Qg ?_ | refine Qh ?_ | refine Qi ?_ | refine Qj ?_ | refine Qk ?_ | refine Ql ?_ | refine Qm ?_ | refine Qn ?_ | refine Qo ?_ | refine Qp ?_ | refine Qq ?_ | fail)
      refine SXL.alloc rfl rfl (fun p16 => ?_)
      repeat (first | refine Qa ?_ | refine Qb ?_ | refine Qc ?_ | refine Qd ?_ | refine Qe ?_ | refine Qf ?_ | refine Qg ?_ | refine Qh ?_ | refine Qi ?_ | refine Qj ?_ | refine Qk ?_ | refine Ql ?_ | refine Qm ?_ | refine Qn ?_ | refine Qo ?_ | refine Qp ?_ | refine Qq ?_ | fail)
      refine SXL.alloc rfl rfl (fun p17 => ?_)
      repeat (first | refine Qa ?_ | refine Qb ?_ | refine Qc ?_ | refine Qd ?_ | refine Qe ?_ | refine Qf ?_ | refine Qg ?_ | refine Qh ?_ | refine Qi ?_ | refine Qj ?_ | refine Qk ?_ | refine Ql ?_ | refine Qm ?_ | refine Qn ?_ | refine Qo ?_ | refine Qp ?_ | refine Qq ?_ | fail)
      refine SXL.call rfl rfl rfl ?_
      refine (Do_S (t := (r4 a a false).1) (ps := ps4) (c := ca 4 1 1 ⟨#[]⟩ 9 0 []) (Ac := none) (cc := 0) inferInstance inferInstance m4 hps4 hcap4 (ca_wf ⟨by decide, by decide⟩ ⟨by decide, by decide⟩ ⟨by decide, by decide⟩ ⟨by decide, by decide⟩ u64_0 rfl) (Nat.zero_le _) (Nat.le_refl _) inferInstance (fun _ _ => ⟨readE, read_S, fun t r => rfl⟩) (fun t7 r7 b7 cap7 ps7 Ad7 cd7 Ae7 ce7 he7 hcap7 hps7 m7 hd7 hx7 => callK.ret ?_))
      rw [he7] at g10
      clear he7
      dsimp only at g10
      repeat (first | refine Qa ?_ | refine Qb ?_ | refine Qc ?_ | refine Qd ?_ | refine Qe ?_ | refine Qf ?_ | refine Qg ?_ | refine Qh ?_ | refine Qi ?_ | refine Qj ?_ | refine Qk ?_ | refine Ql ?_ | refine Qm ?_ | refine Qn ?_ | refine Qo ?_ | refine Qp ?_ | refine Qq ?_ | fail)
      refine SXL.alloc rfl rfl (fun p18 => ?_)
      repeat (first | refine Qa ?_ | refine Qb ?_ | refine Qc ?_ | refine Qd ?_ | refine Qe ?_ | refine Qf ?_ | refine Qg ?_ | refine Qh ?_ | refine Qi ?_ | refine Qj ?_ | refine Qk ?_ | refine Ql ?_ | refine Qm ?_ | refine Qn ?_ | refine Qo ?_ | refine Qp ?_ | refine Qq ?_ | fail)
      refine SXL.alloc rfl rfl (fun p19 => ?_)
      repeat (first | refine Qa ?_ | refine Qb ?_ | refine Qc ?_ | refine Qd ?_ | refine Qe ?_ | refine Qf ?_ | refine Qg ?_ | refine Qh ?_ | refine Qi ?_ | refine Qj ?_ | refine Qk ?_ | refine Ql ?_ | refine Qm ?_ | refine Qn ?_ | refine Qo ?_ | refine Qp ?_ | refine Qq ?_ | fail)
      rw [g5, g6, g7, g8]
      repeat (first | refine Qa ?_ | refine Qb ?_ | refine Qc ?_ | refine Qd ?_ | refine Qe ?_ | refine Qf ?_ | refine Qg ?_ | refine Qh ?_ | refine Qi ?_ | refine Qj ?_ | refine Qk ?_ | refine Ql ?_ | refine Qm ?_ | refine Qn ?_ | refine Qo ?_ | refine Qp ?_ | refine Qq ?_ | fail)
      refine SXL.neAgg rfl rfl inferInstance rfl rfl rfl rfl ?_
      repeat (first | refine Qa ?_ | refine Qb ?_ | refine Qc ?_ | refine Qd ?_ | refine Qe ?_ | refine Qf ?_ | refine Qg ?_ | refine Qh ?_ | refine Qi ?_ | refine Qj ?_ | refine Qk ?_ | refine Ql ?_ | refine Qm ?_ | refine Qn ?_ | refine Qo ?_ | refine Qp ?_ | refine Qq ?_ | fail)
      refine SXL.bytesStr rfl inferInstance rfl Tryz.underlying38 Tryz.underlying5 Tryz.underlying9 rfl ?_
      rw [g10]
      repeat (first | refine Qa ?_ | refine Qb ?_ | refine Qc ?_ | refine Qd ?_ | refine Qe ?_ | refine Qf ?_ | refine Qg ?_ | refine Qh ?_ | refine Qi ?_ | refine Qj ?_ | refine Qk ?_ | refine Ql ?_ | refine Qm ?_ | refine Qn ?_ | refine Qo ?_ | refine Qp ?_ | refine Qq ?_ | fail)
      refine SXL.know 118 false rfl (by decide +kernel) ?_
      repeat (first | refine Qa ?_ | refine Qb ?_ | refine Qc ?_ | refine Qd ?_ | refine Qe ?_ | refine Qf ?_ | refine Qg ?_ | refine Qh ?_ | refine Qi ?_ | refine Qj ?_ | refine Qk ?_ | refine Ql ?_ | refine Qm ?_ | refine Qn ?_ | refine Qo ?_ | refine Qp ?_ | refine Qq ?_ | fail)
      refine SX.know 126 false rfl (by rw [g9, hnm]; simp) ?_
      repeat (first | refine Qa ?_ | refine Qb ?_ | refine Qc ?_ | refine Qd ?_ | refine Qe ?_ | refine Qf ?_ | refine Qg ?_ | refine Qh ?_ | refine Qi ?_ | refine Qj ?_ | refine Qk ?_ | refine Ql ?_ | refine Qm ?_ | refine Qn ?_ | refine Qo ?_ | refine Qp ?_ | refine Qq ?_ | fail)
      refine SX.ret (M' := F) rfl (Evals.tmp rfl Evals.nil) ?_ inferInstance
      exact h
    · skip
      repeat (first | refine Qa ?_ | refine Qb ?_ | refine Qc ?_ | refine Qd ?_ | refine Qe ?_ | refine Qf ?_ | refine Qg ?_ | refine Qh ?_ | refine Qi ?_ | refine Qj ?_ | refine Qk ?_ | refine Ql ?_ | refine Qm ?_ | refine Qn ?_ | refine Qo ?_ | refine Qp ?_ | refine Qq ?_ | fail)
      refine SX.know 54 false rfl (by rw [hnm]; simp) ?_
      repeat (first | refine Qa ?_ | refine Qb ?_ | refine Qc ?_ | refine Qd ?_ | refine Qe ?_ | refine Qf ?_ | refine Qg ?_ | refine Qh ?_ | refine Qi ?_ | refine Qj ?_ | refine Qk ?_ | refine Ql ?_ | refine Qm ?_ | refine Qn ?_ | refine Qo ?_ | refine Qp ?_ | refine Qq ?_ | fail)
      obtain ⟨-, -, g3', g4, g5, g6, g7, g8, g9, g10, g11⟩ := chR_st (chR_all (bt := false) ha4 hb4 (fun h => by cases h))
      rw [r3T_f] at g4
      repeat (first | refine Qa ?_ | refine Qb ?_ | refine Qc ?_ | refine Qd ?_ | refine Qe ?_ | refine Qf ?_ | refine Qg ?_ | refine Qh ?_ | refine Qi ?_ | refine Qj ?_ | refine Qk ?_ | refine Ql ?_ | refine Qm ?_ | refine Qn ?_ | refine Qo ?_ | refine Qp ?_ | refine Qq ?_ | fail)
      refine SXL.call rfl rfl rfl ?_
      refine (Do_T (t := (r2 a).1) (ps := ps2) (c := rc (nm a) (nm a)) (Ac := none) (cc := 0) inferInstance inferInstance m2 hps2 hcap2 rc_wf (Nat.zero_le _) (Nat.le_refl _) inferInstance (fun _ _ => ⟨renameE, rename_A (filB_ok g4), rfl⟩) (fun t4 r4_ b4 cap4 ps4 Ad4 cd4 Ae4 ce4 he4 hcap4 hps4 m4 hd4 hx4 => callK.ret ?_))
      obtain ⟨e4, f4⟩ : t4 = (r4 a a false).1 ∧ r4_ = (r4 a a false).2 := by rw [r4_def, r3T_f, he4]; exact ⟨rfl, rfl⟩
      clear he4
      subst e4; subst f4
      repeat (first | refine Qa ?_ | refine Qb ?_ | refine Qc ?_ | refine Qd ?_ | refine Qe ?_ | refine Qf ?_ | refine Qg ?_ | refine Qh ?_ | refine Qi ?_ | refine Qj ?_ | refine Qk ?_ | refine Ql ?_ | refine Qm ?_ | refine Qn ?_ | refine Qo ?_ | refine Qp ?_ | refine Qq ?_ | fail)
      refine SXL.alloc rfl rfl (fun p13 => ?_)
      repeat (first | refine Qa ?_ | refine Qb ?_ | refine Qc ?_ | refine Qd ?_ | refine Qe ?_ | refine Qf ?_ | refine Qg ?_ | refine Qh ?_ | refine Qi ?_ | refine Qj ?_ | refine Qk ?_ | refine Ql ?_ | refine Qm ?_ | refine Qn ?_ | refine Qo ?_ | refine Qp ?_ | refine Qq ?_ | fail)
      refine SXL.call rfl rfl rfl ?_
      refine (Do_S (t := (r4 a a false).1) (ps := ps4) (c := ca 1 0 1 (nm a) 0 0 []) (Ac := none) (cc := 0) inferInstance inferInstance m4 hps4 hcap4 (ca_wf ⟨by decide, by decide⟩ u32_0 ⟨by decide, by decide⟩ u32_0 u64_0 rfl) (Nat.zero_le _) (Nat.le_refl _) inferInstance (fun _ _ => ⟨lookupE, lookup_S, fun t r => rfl⟩) (fun t5 r5 b5 cap5 ps5 Ad5 cd5 Ae5 ce5 he5 hcap5 hps5 m5 hd5 hx5 => callK.ret ?_))
      rw [he5] at g6 g7 g8
      clear he5
      dsimp only at g6 g7 g8
      repeat (first | refine Qa ?_ | refine Qb ?_ | refine Qc ?_ | refine Qd ?_ | refine Qe ?_ | refine Qf ?_ | refine Qg ?_ | refine Qh ?_ | refine Qi ?_ | refine Qj ?_ | refine Qk ?_ | refine Ql ?_ | refine Qm ?_ | refine Qn ?_ | refine Qo ?_ | refine Qp ?_ | refine Qq ?_ | fail)
      refine SXL.alloc rfl rfl (fun p14 => ?_)
      repeat (first | refine Qa ?_ | refine Qb ?_ | refine Qc ?_ | refine Qd ?_ | refine Qe ?_ | refine Qf ?_ | refine Qg ?_ | refine Qh ?_ | refine Qi ?_ | refine Qj ?_ | refine Qk ?_ | refine Ql ?_ | refine Qm ?_ | refine Qn ?_ | refine Qo ?_ | refine Qp ?_ | refine Qq ?_ | fail)
      refine SXL.alloc rfl rfl (fun p15 => ?_)
      repeat (first | refine Qa ?_ | refine Qb ?_ | refine Qc ?_ | refine Qd ?_ | refine Qe ?_ | refine Qf ?_ | refine Qg ?_ | refine Qh ?_ | refine Qi ?_ | refine Qj ?_ | refine Qk ?_ | refine Ql ?_ | refine Qm ?_ | refine Qn ?_ | refine Qo ?_ | refine Qp ?_ | refine Qq ?_ | fail)
      refine SXL.call rfl rfl rfl ?_
      refine (Do_S (t := (r4 a a false).1) (ps := ps4) (c := ca 1 0 1 (nm a) 0 0 []) (Ac := none) (cc := 0) inferInstance inferInstance m4 hps4 hcap4 (ca_wf ⟨by decide, by decide⟩ u32_0 ⟨by decide, by decide⟩ u32_0 u64_0 rfl) (Nat.zero_le _) (Nat.le_refl _) inferInstance (fun _ _ => ⟨lookupE, lookup_S, fun t r => rfl⟩) (fun t6 r6 b6 cap6 ps6 Ad6 cd6 Ae6 ce6 he6 hcap6 hps6 m6 hd6 hx6 => callK.ret ?_))
      rw [he6] at g9
      clear he6
      dsimp only at g9
      repeat (first | refine Qa ?_ | refine Qb ?_ | refine Qc ?_ | refine Qd ?_ | refine Qe ?_ | refine Qf ?_ | refine Qg ?_ | refine Qh ?_ | refine Qi ?_ | refine Qj ?_ | refine Qk ?_ | refine Ql ?_ | refine Qm ?_ | refine Qn ?_ | refine Qo ?_ | refine Qp ?_ | refine Qq ?_ | fail)
      refine SXL.alloc rfl rfl (fun p16 => ?_)
      repeat (first | refine Qa ?_ | refine Qb ?_ | refine Qc ?_ | refine Qd ?_ | refine Qe ?_ | refine Qf ?_ | refine Qg ?_ | refine Qh ?_ | refine Qi ?_ | refine Qj ?_ | refine Qk ?_ | refine Ql ?_ | refine Qm ?_ | refine Qn ?_ | refine Qo ?_ | refine Qp ?_ | refine Qq ?_ | fail)
      refine SXL.alloc rfl rfl (fun p17 => ?_)
      repeat (first | refine Qa ?_ | refine Qb ?_ | refine Qc ?_ | refine Qd ?_ | refine Qe ?_ | refine Qf ?_ | refine Qg ?_ | refine Qh ?_ | refine Qi ?_ | refine Qj ?_ | refine Qk ?_ | refine Ql ?_ | refine Qm ?_ | refine Qn ?_ | refine Qo ?_ | refine Qp ?_ | refine Qq ?_ | fail)
      refine SXL.call rfl rfl rfl ?_
      refine (Do_S (t := (r4 a a false).1) (ps := ps4) (c := ca 4 1 1 ⟨#[]⟩ 9 0 []) (Ac := none) (cc := 0) inferInstance inferInstance m4 hps4 hcap4 (ca_wf ⟨by decide, by decide⟩ ⟨by decide, by decide⟩ ⟨by decide, by decide⟩ ⟨by decide, by decide⟩ u64_0 rfl) (Nat.zero_le _) (Nat.le_refl _) inferInstance (fun _ _ => ⟨readE, read_S, fun t r => rfl⟩) (fun t7 r7 b7 cap7 ps7 Ad7 cd7 Ae7 ce7 he7 hcap7 hps7 m7 hd7 hx7 => callK.ret ?_))
      rw [he7] at g10
      clear he7
      dsimp only at g10
      repeat (first | refine Qa ?_ | refine Qb ?_ | refine Qc ?_ | refine Qd ?_ | refine Qe ?_ | refine Qf ?_ | refine Qg ?_ | refine Qh ?_ | refine Qi ?_ | refine Qj ?_ | refine Qk ?_ | refine Ql ?_ | refine Qm ?_ | refine Qn ?_ | refine Qo ?_ | refine Qp ?_ | refine Qq ?_ | fail)
      refine SXL.alloc rfl rfl (fun p18 => ?_)
      repeat (first | refine Qa ?_ | refine Qb ?_ | refine Qc ?_ | refine Qd ?_ | refine Qe ?_ | refine Qf ?_ | refine Qg ?_ | refine Qh ?_ | refine Qi ?_ | refine Qj ?_ | refine Qk ?_ | refine Ql ?_ | refine Qm ?_ | refine Qn ?_ | refine Qo ?_ | refine Qp ?_ | refine Qq ?_ | fail)
      refine SXL.alloc rfl rfl (fun p19 => ?_)
      repeat (first | refine Qa ?_ | refine Qb ?_ | refine Qc ?_ | refine Qd ?_ | refine Qe ?_ | refine Qf ?_ | refine Qg ?_ | refine Qh ?_ | refine Qi ?_ | refine Qj ?_ | refine Qk ?_ | refine Ql ?_ | refine Qm ?_ | refine Qn ?_ | refine Qo ?_ | refine Qp ?_ | refine Qq ?_ | fail)
      rw [g5, g6, g7, g8]
      repeat (first | refine Qa ?_ | refine Qb ?_ | refine Qc ?_ | refine Qd ?_ | refine Qe ?_ | refine Qf ?_ | refine Qg ?_ | refine Qh ?_ | refine Qi ?_ | refine Qj ?_ | refine Qk ?_ | refine Ql ?_ | refine Qm ?_ | refine Qn ?_ | refine Qo ?_ | refine Qp ?_ | refine Qq ?_ | fail)
      refine SXL.neAgg rfl rfl inferInstance rfl rfl rfl rfl ?_
      repeat (first | refine Qa ?_ | refine Qb ?_ | refine Qc ?_ | refine Qd ?_ | refine Qe ?_ | refine Qf ?_ | refine Qg ?_ | refine Qh ?_ | refine Qi ?_ | refine Qj ?_ | refine Qk ?_ | refine Ql ?_ | refine Qm ?_ | refine Qn ?_ | refine Qo ?_ | refine Qp ?_ | refine Qq ?_ | fail)
      refine SXL.bytesStr rfl inferInstance rfl Tryz.underlying38 Tryz.underlying5 Tryz.underlying9 rfl ?_
      rw [g10]
      repeat (first | refine Qa ?_ | refine Qb ?_ | refine Qc ?_ | refine Qd ?_ | refine Qe ?_ | refine Qf ?_ | refine Qg ?_ | refine Qh ?_ | refine Qi ?_ | refine Qj ?_ | refine Qk ?_ | refine Ql ?_ | refine Qm ?_ | refine Qn ?_ | refine Qo ?_ | refine Qp ?_ | refine Qq ?_ | fail)
      refine SXL.know 118 false rfl (by decide +kernel) ?_
      repeat (first | refine Qa ?_ | refine Qb ?_ | refine Qc ?_ | refine Qd ?_ | refine Qe ?_ | refine Qf ?_ | refine Qg ?_ | refine Qh ?_ | refine Qi ?_ | refine Qj ?_ | refine Qk ?_ | refine Ql ?_ | refine Qm ?_ | refine Qn ?_ | refine Qo ?_ | refine Qp ?_ | refine Qq ?_ | fail)
      refine SX.know 126 false rfl (by rw [g9, hnm]; simp) ?_
      repeat (first | refine Qa ?_ | refine Qb ?_ | refine Qc ?_ | refine Qd ?_ | refine Qe ?_ | refine Qf ?_ | refine Qg ?_ | refine Qh ?_ | refine Qi ?_ | refine Qj ?_ | refine Qk ?_ | refine Ql ?_ | refine Qm ?_ | refine Qn ?_ | refine Qo ?_ | refine Qp ?_ | refine Qq ?_ | fail)
      refine SX.know 133 true rfl (by rw [hnm]; simp) ?_
      repeat (first | refine Qa ?_ | refine Qb ?_ | refine Qc ?_ | refine Qd ?_ | refine Qe ?_ | refine Qf ?_ | refine Qg ?_ | refine Qh ?_ | refine Qi ?_ | refine Qj ?_ | refine Qk ?_ | refine Ql ?_ | refine Qm ?_ | refine Qn ?_ | refine Qo ?_ | refine Qp ?_ | refine Qq ?_ | fail)
      refine SX.ret (M' := F) rfl (Evals.tmp rfl Evals.nil) ?_ inferInstance
      exact h
  · cases th
    · skip
      repeat (first | refine Qa ?_ | refine Qb ?_ | refine Qc ?_ | refine Qd ?_ | refine Qe ?_ | refine Qf ?_ | refine Qg ?_ | refine Qh ?_ | refine Qi ?_ | refine Qj ?_ | refine Qk ?_ | refine Ql ?_ | refine Qm ?_ | refine Qn ?_ | refine Qo ?_ | refine Qp ?_ | refine Qq ?_ | fail)
      obtain ⟨-, -, g3', g4, g5, g6, g7, g8, g9, g10, g11⟩ := chR_st (chR_all (bt := false) ha4 hb4 (fun h => by cases h))
      rw [r3T_f] at g4
      repeat (first | refine Qa ?_ | refine Qb ?_ | refine Qc ?_ | refine Qd ?_ | refine Qe ?_ | refine Qf ?_ | refine Qg ?_ | refine Qh ?_ | refine Qi ?_ | refine Qj ?_ | refine Qk ?_ | refine Ql ?_ | refine Qm ?_ | refine Qn ?_ | refine Qo ?_ | refine Qp ?_ | refine Qq ?_ | fail)
      refine SXL.call rfl rfl rfl ?_
      refine (Do_T (t := (r2 a).1) (ps := ps2) (c := rc (nm a) (nm b)) (Ac := none) (cc := 0) inferInstance inferInstance m2 hps2 hcap2 rc_wf (Nat.zero_le _) (Nat.le_refl _) inferInstance (fun _ _ => ⟨renameE, rename_A (filB_ok g4), rfl⟩) (fun t4 r4_ b4 cap4 ps4 Ad4 cd4 Ae4 ce4 he4 hcap4 hps4 m4 hd4 hx4 => callK.ret ?_))
      obtain ⟨e4, f4⟩ : t4 = (r4 a b false).1 ∧ r4_ = (r4 a b false).2 := by rw [r4_def, r3T_f, he4]; exact ⟨rfl, rfl⟩
      clear he4
      subst e4; subst f4
      repeat (first | refine Qa ?_ | refine Qb ?_ | refine Qc ?_ | refine Qd ?_ | refine Qe ?_ | refine Qf ?_ | refine Qg ?_ | refine Qh ?_ | refine Qi ?_ | refine Qj ?_ | refine Qk ?_ | refine Ql ?_ | refine Qm ?_ | refine Qn ?_ | refine Qo ?_ | refine Qp ?_ | refine Qq ?_ | fail)
      refine SXL.alloc rfl rfl (fun p13 => ?_)
      repeat (first | refine Qa ?_ | refine Qb ?_ | refine Qc ?_ | refine Qd ?_ | refine Qe ?_ | refine Qf ?_ | refine Qg ?_ | refine Qh ?_ | refine Qi ?_ | refine Qj ?_ | refine Qk ?_ | refine Ql ?_ | refine Qm ?_ | refine Qn ?_ | refine Qo ?_ | refine Qp ?_ | refine Qq ?_ | fail)
      refine SXL.call rfl rfl rfl ?_
      refine (Do_S (t := (r4 a b false).1) (ps := ps4) (c := ca 1 0 1 (nm b) 0 0 []) (Ac := none) (cc := 0) inferInstance inferInstance m4 hps4 hcap4 (ca_wf ⟨by decide, by decide⟩ u32_0 ⟨by decide, by decide⟩ u32_0 u64_0 rfl) (Nat.zero_le _) (Nat.le_refl _) inferInstance (fun _ _ => ⟨lookupE, lookup_S, fun t r => rfl⟩) (fun t5 r5 b5 cap5 ps5 Ad5 cd5 Ae5 ce5 he5 hcap5 hps5 m5 hd5 hx5 => callK.ret ?_))
      rw [he5] at g6 g7 g8
      clear he5
      dsimp only at g6 g7 g8
      repeat (first | refine Qa ?_ | refine Qb ?_ | refine Qc ?_ | refine Qd ?_ | refine Qe ?_ | refine Qf ?_ | refine Qg ?_ | refine Qh ?_ | refine Qi ?_ | refine Qj ?_ | refine Qk ?_ | refine Ql ?_ | refine Qm ?_ | refine Qn ?_ | refine Qo ?_ | refine Qp ?_ | refine Qq ?_ | fail)
      refine SXL.alloc rfl rfl (fun p14 => ?_)
      repeat (first | refine Qa ?_ | refine Qb ?_ | refine Qc ?_ | refine Qd ?_ | refine Qe ?_ | refine Qf ?_ | refine Qg ?_ | refine Qh ?_ | refine Qi ?_ | refine Qj ?_ | refine Qk ?_ | refine Ql ?_ | refine Qm ?_ | refine Qn ?_ | refine Qo ?_ | refine Qp ?_ | refine Qq ?_ | fail)
      refine SXL.alloc rfl rfl (fun p15 => ?_)
      repeat (first | refine Qa ?_ | refine Qb ?_ | refine Qc ?_ | refine Qd ?_ | refine Qe ?_ | refine Qf ?_ | refine Qg ?_ | refine Qh ?_ | refine Qi ?_ | refine Qj ?_ | refine Qk ?_ | refine Ql ?_ | refine Qm ?_ | refine Qn ?_ | refine Qo ?_ | refine Qp ?_ | refine Qq ?_ | fail)
      refine SXL.call rfl rfl rfl ?_
      refine (Do_S (t := (r4 a b false).1) (ps := ps4) (c := ca 1 0 1 (nm a) 0 0 []) (Ac := none) (cc := 0) inferInstance inferInstance m4 hps4 hcap4 (ca_wf ⟨by decide, by decide⟩ u32_0 ⟨by decide, by decide⟩ u32_0 u64_0 rfl) (Nat.zero_le _) (Nat.le_refl _) inferInstance (fun _ _ => ⟨lookupE, lookup_S, fun t r => rfl⟩) (fun t6 r6 b6 cap6 ps6 Ad6 cd6 Ae6 ce6 he6 hcap6 hps6 m6 hd6 hx6 => callK.ret ?_))
      rw [he6] at g9
      clear he6
      dsimp only at g9
      repeat (first | refine Qa ?_ | refine Qb ?_ | refine Qc ?_ | refine Qd ?_ | refine Qe ?_ | refine Qf ?_ | refine Qg ?_ | refine Qh ?_ | refine Qi ?_ | refine Qj ?_ | refine Qk ?_ | refine Ql ?_ | refine Qm ?_ | refine Qn ?_ | refine Qo ?_ | refine Qp ?_ | refine Qq ?_ | fail)
      refine SXL.alloc rfl rfl (fun p16 => ?_)
      repeat (first | refine Qa ?_ | refine Qb ?_ | refine Qc ?_ | refine Qd ?_ | refine Qe ?_ | refine Qf ?_ | refine Qg ?_ | refine Qh ?_ | refine Qi ?_ | refine Qj ?_ | refine Qk ?_ | refine Ql ?_ | refine Qm ?_ | refine Qn ?_ | refine Qo ?_ | refine Qp ?_ | refine Qq ?_ | fail)
      refine SXL.alloc rfl rfl (fun p17 => ?_)
      repeat (first | refine Qa ?_ | refine Qb ?_ | refine Qc ?_ | refine Qd ?_ | refine Qe ?_ | refine Qf ?_ | refine Qg ?_ | refine Qh ?_ | refine Qi ?_ | refine Qj ?_ | refine Qk ?_ | refine Ql ?_ | refine Qm ?_ | refine Qn ?_ | refine Qo ?_ | refine Qp ?_ | refine Qq ?_ | fail)
      refine SXL.call rfl rfl rfl ?_
      refine (Do_S (t := (r4 a b false).1) (ps := ps4) (c := ca 4 1 1 ⟨#[]⟩ 9 0 []) (Ac := none) (cc := 0) inferInstance inferInstance m4 hps4 hcap4 (ca_wf ⟨by decide, by decide⟩ ⟨by decide, by decide⟩ ⟨by decide, by decide⟩ ⟨by decide, by decide⟩ u64_0 rfl) (Nat.zero_le _) (Nat.le_refl _) inferInstance (fun _ _ => ⟨readE, read_S, fun t r => rfl⟩) (fun t7 r7 b7 cap7 ps7 Ad7 cd7 Ae7 ce7 he7 hcap7 hps7 m7 hd7 hx7 => callK.ret ?_))
      rw [he7] at g10
      clear he7
      dsimp only at g10
      repeat (first | refine Qa ?_ | refine Qb ?_ | refine Qc ?_ | refine Qd ?_ | refine Qe ?_ | refine Qf ?_ | refine Qg ?_ | refine Qh ?_ | refine Qi ?_ | refine Qj ?_ | refine Qk ?_ | refine Ql ?_ | refine Qm ?_ | refine Qn ?_ | refine Qo ?_ | refine Qp ?_ | refine Qq ?_ | fail)
      refine SXL.alloc rfl rfl (fun p18 => ?_)
      repeat (first | refine Qa ?_ | refine Qb ?_ | refine Qc ?_ | refine Qd ?_ | refine Qe ?_ | refine Qf ?_ | refine Qg ?_ | refine Qh ?_ | refine Qi ?_ | refine Qj ?_ | refine Qk ?_ | refine Ql ?_ | refine Qm ?_ | refine Qn ?_ | refine Qo ?_ | refine Qp ?_ | refine Qq ?_ | fail)
      refine SXL.alloc rfl rfl (fun p19 => ?_)
      repeat (first | refine Qa ?_ | refine Qb ?_ | refine Qc ?_ | refine Qd ?_ | refine Qe ?_ | refine Qf ?_ | refine Qg ?_ | refine Qh ?_ | refine Qi ?_ | refine Qj ?_ | refine Qk ?_ | refine Ql ?_ | refine Qm ?_ | refine Qn ?_ | refine Qo ?_ | refine Qp ?_ | refine Qq ?_ | fail)
      rw [g5, g6, g7, g8]
      repeat (first | refine Qa ?_ | refine Qb ?_ | refine Qc ?_ | refine Qd ?_ | refine Qe ?_ | refine Qf ?_ | refine Qg ?_ | refine Qh ?_ | refine Qi ?_ | refine Qj ?_ | refine Qk ?_ | refine Ql ?_ | refine Qm ?_ | refine Qn ?_ | refine Qo ?_ | refine Qp ?_ | refine Qq ?_ | fail)
      refine SXL.neAgg rfl rfl inferInstance rfl rfl rfl rfl ?_
      repeat (first | refine Qa ?_ | refine Qb ?_ | refine Qc ?_ | refine Qd ?_ | refine Qe ?_ | refine Qf ?_ | refine Qg ?_ | refine Qh ?_ | refine Qi ?_ | refine Qj ?_ | refine Qk ?_ | refine Ql ?_ | refine Qm ?_ | refine Qn ?_ | refine Qo ?_ | refine Qp ?_ | refine Qq ?_ | fail)
      refine SXL.bytesStr rfl inferInstance rfl Tryz.underlying38 Tryz.underlying5 Tryz.underlying9 rfl ?_
      rw [g10]
      repeat (first | refine Qa ?_ | refine Qb ?_ | refine Qc ?_ | refine Qd ?_ | refine Qe ?_ | refine Qf ?_ | refine Qg ?_ | refine Qh ?_ | refine Qi ?_ | refine Qj ?_ | refine Qk ?_ | refine Ql ?_ | refine Qm ?_ | refine Qn ?_ | refine Qo ?_ | refine Qp ?_ | refine Qq ?_ | fail)
      refine SXL.know 118 false rfl (by decide +kernel) ?_
      repeat (first | refine Qa ?_ | refine Qb ?_ | refine Qc ?_ | refine Qd ?_ | refine Qe ?_ | refine Qf ?_ | refine Qg ?_ | refine Qh ?_ | refine Qi ?_ | refine Qj ?_ | refine Qk ?_ | refine Ql ?_ | refine Qm ?_ | refine Qn ?_ | refine Qo ?_ | refine Qp ?_ | refine Qq ?_ | fail)
      refine SX.know 126 false rfl (by rw [g9, hnm]; simp) ?_
      repeat (first | refine Qa ?_ | refine Qb ?_ | refine Qc ?_ | refine Qd ?_ | refine Qe ?_ | refine Qf ?_ | refine Qg ?_ | refine Qh ?_ | refine Qi ?_ | refine Qj ?_ | refine Qk ?_ | refine Ql ?_ | refine Qm ?_ | refine Qn ?_ | refine Qo ?_ | refine Qp ?_ | refine Qq ?_ | fail)
      refine SX.ret (M' := F) rfl (Evals.tmp rfl Evals.nil) ?_ inferInstance
      exact h
    · skip
      repeat (first | refine Qa ?_ | refine Qb ?_ | refine Qc ?_ | refine Qd ?_ | refine Qe ?_ | refine Qf ?_ | refine Qg ?_ | refine Qh ?_ | refine Qi ?_ | refine Qj ?_ | refine Qk ?_ | refine Ql ?_ | refine Qm ?_ | refine Qn ?_ | refine Qo ?_ | refine Qp ?_ | refine Qq ?_ | fail)
      obtain ⟨-, -, g3, -⟩ := chR_st (chR_all (bt := true) ha4 hb4 (fun _ => hab))
      obtain ⟨g3a, g3b⟩ := g3 rfl
      refine SX.know 54 true rfl (by rw [hnm]; simpa using hab) ?_
      repeat (first | refine Qa ?_ | refine Qb ?_ | refine Qc ?_ | refine Qd ?_ | refine Qe ?_ | refine Qf ?_ | refine Qg ?_ | refine Qh ?_ | refine Qi ?_ | refine Qj ?_ | refine Qk ?_ | refine Ql ?_ | refine Qm ?_ | refine Qn ?_ | refine Qo ?_ | refine Qp ?_ | refine Qq ?_ | fail)
      refine SXL.call rfl rfl rfl ?_
      refine (Do_S (t := (r2 a).1) (ps := ps2) (c := ca 6 0 1 (nm b) 0 0 []) (Ac := none) (cc := 0) inferInstance inferInstance m2 hps2 hcap2 (ca_wf ⟨by decide, by decide⟩ u32_0 ⟨by decide, by decide⟩ u32_0 u64_0 rfl) (Nat.zero_le _) (Nat.le_refl _) inferInstance (fun _ _ => ⟨createE, create_S, fun t r => rfl⟩) (fun t3 r3_ b3 cap3 ps3 Ad3 cd3 Ae3 ce3 he3 hcap3 hps3 m3 hd3 hx3 => callK.ret ?_))
      obtain ⟨e3, f3⟩ : t3 = (r3 a b).1 ∧ r3_ = (r3 a b).2 := by unfold r3; rw [he3]; exact ⟨rfl, rfl⟩
      clear he3
      subst e3; subst f3
      repeat (first | refine Qa ?_ | refine Qb ?_ | refine Qc ?_ | refine Qd ?_ | refine Qe ?_ | refine Qf ?_ | refine Qg ?_ | refine Qh ?_ | refine Qi ?_ | refine Qj ?_ | refine Qk ?_ | refine Ql ?_ | refine Qm ?_ | refine Qn ?_ | refine Qo ?_ | refine Qp ?_ | refine Qq ?_ | fail)
      rw [g3a, g3b]
      obtain ⟨-, -, g3', g4, g5, g6, g7, g8, g9, g10, g11⟩ := chR_st (chR_all (bt := true) ha4 hb4 (fun _ => hab))
      rw [r3T_t] at g4
      repeat (first | refine Qa ?_ | refine Qb ?_ | refine Qc ?_ | refine Qd ?_ | refine Qe ?_ | refine Qf ?_ | refine Qg ?_ | refine Qh ?_ | refine Qi ?_ | refine Qj ?_ | refine Qk ?_ | refine Ql ?_ | refine Qm ?_ | refine Qn ?_ | refine Qo ?_ | refine Qp ?_ | refine Qq ?_ | fail)
      refine SXL.call rfl rfl rfl ?_
      refine (Do_T (t := (r3 a b).1) (ps := ps3) (c := rc (nm a) (nm b)) (Ac := none) (cc := 0) inferInstance inferInstance m3 hps3 hcap3 rc_wf (Nat.zero_le _) (Nat.le_refl _) inferInstance (fun _ _ => ⟨renameE, rename_A (filB_ok g4), rfl⟩) (fun t4 r4_ b4 cap4 ps4 Ad4 cd4 Ae4 ce4 he4 hcap4 hps4 m4 hd4 hx4 => callK.ret ?_))
      obtain ⟨e4, f4⟩ : t4 = (r4 a b true).1 ∧ r4_ = (r4 a b true).2 := by rw [r4_def, r3T_t, he4]; exact ⟨rfl, rfl⟩
      clear he4
      subst e4; subst f4
      repeat (first | refine Qa ?_ | refine Qb ?_ | refine Qc ?_ | refine Qd ?_ | refine Qe ?_ | refine Qf ?_ | refine Qg ?_ | refine Qh ?_ | refine Qi ?_ | refine Qj ?_ | refine Qk ?_ | refine Ql ?_ | refine Qm ?_ | refine Qn ?_ | refine Qo ?_ | refine Qp ?_ | refine Qq ?_ | fail)
      refine SXL.alloc rfl rfl (fun p13 => ?_)
      repeat (first | refine Qa ?_ | refine Qb ?_ | refine Qc ?_ | refine Qd ?_ | refine Qe ?_ | refine Qf ?_ | refine Qg ?_ | refine Qh ?_ | refine Qi ?_ | refine Qj ?_ | refine Qk ?_ | refine Ql ?_ | refine Qm ?_ | refine Qn ?_ | refine Qo ?_ | refine Qp ?_ | refine Qq ?_ | fail)
      refine SXL.call rfl rfl rfl ?_
      refine (Do_S (t := (r4 a b true).1) (ps := ps4) (c := ca 1 0 1 (nm b) 0 0 []) (Ac := none) (cc := 0) inferInstance inferInstance m4 hps4 hcap4 (ca_wf ⟨by decide, by decide⟩ u32_0 ⟨by decide, by decide⟩ u32_0 u64_0 rfl) (Nat.zero_le _) (Nat.le_refl _) inferInstance (fun _ _ => ⟨lookupE, lookup_S, fun t r => rfl⟩) (fun t5 r5 b5 cap5 ps5 Ad5 cd5 Ae5 ce5 he5 hcap5 hps5 m5 hd5 hx5 => callK.ret ?_))
      rw [he5] at g6 g7 g8
      clear he5
      dsimp only at g6 g7 g8
      repeat (first | refine Qa ?_ | refine Qb ?_ | refine Qc ?_ | refine Qd ?_ | refine Qe ?_ | refine Qf ?_ | refine Qg ?_ | refine Qh ?_ | refine Qi ?_ | refine Qj ?_ | refine Qk ?_ | refine Ql ?_ | refine Qm ?_ | refine Qn ?_ | refine Qo ?_ | refine Qp ?_ | refine Qq ?_ | fail)
      refine SXL.alloc rfl rfl (fun p14 => ?_)
      repeat (first | refine Qa ?_ | refine Qb ?_ | refine Qc ?_ | refine Qd ?_ | refine Qe ?_ | refine Qf ?_ | refine Qg ?_ | refine Qh ?_ | refine Qi ?_ | refine Qj ?_ | refine Qk ?_ | refine Ql ?_ | refine Qm ?_ | refine Qn ?_ | refine Qo ?_ | refine Qp ?_ | refine Qq ?_ | fail)
      refine SXL.alloc rfl rfl (fun p15 => ?_)
      repeat (first | refine Qa ?_ | refine Qb ?_ | refine Qc ?_ | refine Qd ?_ | refine Qe ?_ | refine Qf ?_ | refine Qg ?_ | refine Qh ?_ | refine Qi ?_ | refine Qj ?_ | refine Qk ?_ | refine Ql ?_ | refine Qm ?_ | refine Qn ?_ | refine Qo ?_ | refine Qp ?_ | refine Qq ?_ | fail)
      refine SXL.call rfl rfl rfl ?_
      refine (Do_S (t := (r4 a b true).1) (ps := ps4) (c := ca 1 0 1 (nm a) 0 0 []) (Ac := none) (cc := 0) inferInstance inferInstance m4 hps4 hcap4 (ca_wf ⟨by decide, by decide⟩ u32_0 ⟨by decide, by decide⟩ u32_0 u64_0 rfl) (Nat.zero_le _) (Nat.le_refl _) inferInstance (fun _ _ => ⟨lookupE, lookup_S, fun t r => rfl⟩) (fun t6 r6 b6 cap6 ps6 Ad6 cd6 Ae6 ce6 he6 hcap6 hps6 m6 hd6 hx6 => callK.ret ?_))
      rw [he6] at g9
      clear he6
      dsimp only at g9
      repeat (first | refine Qa ?_ | refine Qb ?_ | refine Qc ?_ | refine Qd ?_ | refine Qe ?_ | refine Qf ?_ | refine Qg ?_ | refine Qh ?_ | refine Qi ?_ | refine Qj ?_ | refine Qk ?_ | refine Ql ?_ | refine Qm ?_ | refine Qn ?_ | refine Qo ?_ | refine Qp ?_ | refine Qq ?_ | fail)
      refine SXL.alloc rfl rfl (fun p16 => ?_)
      repeat (first | refine Qa ?_ | refine Qb ?_ | refine Qc ?_ | refine Qd ?_ | refine Qe ?_ | refine Qf ?_ | refine Qg ?_ | refine Qh ?_ | refine Qi ?_ | refine Qj ?_ | refine Qk ?_ | refine Ql ?_ | refine Qm ?_ | refine Qn ?_ | refine Qo ?_ | refine Qp ?_ | refine Qq ?_ | fail)
      refine SXL.alloc rfl rfl (fun p17 => ?_)
      repeat (first | refine Qa ?_ | refine Qb ?_ | refine Qc ?_ | refine Qd ?_ | refine Qe ?_ | refine Qf ?_ | refine Qg ?_ | refine Qh ?_ | refine Qi ?_ | refine Qj ?_ | refine Qk ?_ | refine Ql ?_ | refine Qm ?_ | refine Qn ?_ | refine Qo ?_ | refine Qp ?_ | refine Qq ?_ | fail)
      refine SXL.call rfl rfl rfl ?_
      refine (Do_S (t := (r4 a b true).1) (ps := ps4) (c := ca 4 1 1 ⟨#[]⟩ 9 0 []) (Ac := none) (cc := 0) inferInstance inferInstance m4 hps4 hcap4 (ca_wf ⟨by decide, by decide⟩ ⟨by decide, by decide⟩ ⟨by decide, by decide⟩ ⟨by decide, by decide⟩ u64_0 rfl) (Nat.zero_le _) (Nat.le_refl _) inferInstance (fun _ _ => ⟨readE, read_S, fun t r => rfl⟩) (fun t7 r7 b7 cap7 ps7 Ad7 cd7 Ae7 ce7 he7 hcap7 hps7 m7 hd7 hx7 => callK.ret ?_))
      rw [he7] at g10
      clear he7
      dsimp only at g10
      repeat (first | refine Qa ?_ | refine Qb ?_ | refine Qc ?_ | refine Qd ?_ | refine Qe ?_ | refine Qf ?_ | refine Qg ?_ | refine Qh ?_ | refine Qi ?_ | refine Qj ?_ | refine Qk ?_ | refine Ql ?_ | refine Qm ?_ | refine Qn ?_ | refine Qo ?_ | refine Qp ?_ | refine Qq ?_ | fail)
      refine SXL.alloc rfl rfl (fun p18 => ?_)
      repeat (first | refine Qa ?_ | refine Qb ?_ | refine Qc ?_ | refine Qd ?_ | refine Qe ?_ | refine Qf ?_ | refine Qg ?_ | refine Qh ?_ | refine Qi ?_ | refine Qj ?_ | refine Qk ?_ | refine Ql ?_ | refine Qm ?_ | refine Qn ?_ | refine Qo ?_ | refine Qp ?_ | refine Qq ?_ | fail)
      refine SXL.alloc rfl rfl (fun p19 => ?_)
      repeat (first | refine Qa ?_ | refine Qb ?_ | refine Qc ?_ | refine Qd ?_ | refine Qe ?_ | refine Qf ?_ | refine Qg ?_ | refine Qh ?_ | refine Qi ?_ | refine Qj ?_ | refine Qk ?_ | refine Ql ?_ | refine Qm ?_ | refine Qn ?_ | refine Qo ?_ | refine Qp ?_ | refine Qq ?_ | fail)
      rw [g5, g6, g7, g8]
      repeat (first | refine Qa ?_ | refine Qb ?_ | refine Qc ?_ | refine Qd ?_ | refine Qe ?_ | refine Qf ?_ | refine Qg ?_ | refine Qh ?_ | refine Qi ?_ | refine Qj ?_ | refine Qk ?_ | refine Ql ?_ | refine Qm ?_ | refine Qn ?_ | refine Qo ?_ | refine Qp ?_ | refine Qq ?_ | fail)
      refine SXL.neAgg rfl rfl inferInstance rfl rfl rfl rfl ?_
      repeat (first | refine Qa ?_ | refine Qb ?_ | refine Qc ?_ | refine Qd ?_ | refine Qe ?_ | refine Qf ?_ | refine Qg ?_ | refine Qh ?_ | refine Qi ?_ | refine Qj ?_ | refine Qk ?_ | refine Ql ?_ | refine Qm ?_ | refine Qn ?_ | refine Qo ?_ | refine Qp ?_ | refine Qq ?_ | fail)
      refine SXL.bytesStr rfl inferInstance rfl Tryz.underlying38 Tryz.underlying5 Tryz.underlying9 rfl ?_
      rw [g10]
      repeat (first | refine Qa ?_ | refine Qb ?_ | refine Qc ?_ | refine Qd ?_ | refine Qe ?_ | refine Qf ?_ | refine Qg ?_ | refine Qh ?_ | refine Qi ?_ | refine Qj ?_ | refine Qk ?_ | refine Ql ?_ | refine Qm ?_ | refine Qn ?_ | refine Qo ?_ | refine Qp ?_ | refine Qq ?_ | fail)
      refine SXL.know 118 false rfl (by decide +kernel) ?_
      repeat (first | refine Qa ?_ | refine Qb ?_ | refine Qc ?_ | refine Qd ?_ | refine Qe ?_ | refine Qf ?_ | refine Qg ?_ | refine Qh ?_ | refine Qi ?_ | refine Qj ?_ | refine Qk ?_ | refine Ql ?_ | refine Qm ?_ | refine Qn ?_ | refine Qo ?_ | refine Qp ?_ | refine Qq ?_ | fail)
      refine SX.know 126 false rfl (by rw [g9, hnm]; simp) ?_
      repeat (first | refine Qa ?_ | refine Qb ?_ | refine Qc ?_ | refine Qd ?_ | refine Qe ?_ | refine Qf ?_ | refine Qg ?_ | refine Qh ?_ | refine Qi ?_ | refine Qj ?_ | refine Qk ?_ | refine Ql ?_ | refine Qm ?_ | refine Qn ?_ | refine Qo ?_ | refine Qp ?_ | refine Qq ?_ | fail)
      refine SX.know 133 false rfl (by rw [hnm]; simpa using hab) ?_
      repeat (first | refine Qa ?_ | refine Qb ?_ | refine Qc ?_ | refine Qd ?_ | refine Qe ?_ | refine Qf ?_ | refine Qg ?_ | refine Qh ?_ | refine Qi ?_ | refine Qj ?_ | refine Qk ?_ | refine Ql ?_ | refine Qm ?_ | refine Qn ?_ | refine Qo ?_ | refine Qp ?_ | refine Qq ?_ | fail)
      refine SXL.call rfl rfl rfl ?_
      refine (Do_S (t := (r4 a b true).1) (ps := ps4) (c := ca 2 2 1 ⟨#[]⟩ 0 0 []) (Ac := none) (cc := 0) inferInstance inferInstance m4 hps4 hcap4 (ca_wf ⟨by decide, by decide⟩ ⟨by decide, by decide⟩ ⟨by decide, by decide⟩ u32_0 u64_0 rfl) (Nat.zero_le _) (Nat.le_refl _) inferInstance (fun _ _ => ⟨getattrE, getattr_S, fun t r => rfl⟩) (fun t8 r8 b8 cap8 ps8 Ad8 cd8 Ae8 ce8 he8 hcap8 hps8 m8 hd8 hx8 => callK.ret ?_))
      have g12 := g11 rfl
      rw [he8] at g12
      clear he8
      dsimp only at g12
      repeat (first | refine Qa ?_ | refine Qb ?_ | refine Qc ?_ | refine Qd ?_ | refine Qe ?_ | refine Qf ?_ | refine Qg ?_ | refine Qh ?_ | refine Qi ?_ | refine Qj ?_ | refine Qk ?_ | refine Ql ?_ | refine Qm ?_ | refine Qn ?_ | refine Qo ?_ | refine Qp ?_ | refine Qq ?_ | fail)
      refine SXL.alloc rfl rfl (fun p20 => ?_)
      repeat (first | refine Qa ?_ | refine Qb ?_ | refine Qc ?_ | refine Qd ?_ | refine Qe ?_ | refine Qf ?_ | refine Qg ?_ | refine Qh ?_ | refine Qi ?_ | refine Qj ?_ | refine Qk ?_ | refine Ql ?_ | refine Qm ?_ | refine Qn ?_ | refine Qo ?_ | refine Qp ?_ | refine Qq ?_ | fail)
      refine SXL.alloc rfl rfl (fun p21 => ?_)
      repeat (first | refine Qa ?_ | refine Qb ?_ | refine Qc ?_ | refine Qd ?_ | refine Qe ?_ | refine Qf ?_ | refine Qg ?_ | refine Qh ?_ | refine Qi ?_ | refine Qj ?_ | refine Qk ?_ | refine Ql ?_ | refine Qm ?_ | refine Qn ?_ | refine Qo ?_ | refine Qp ?_ | refine Qq ?_ | fail)
      rw [g12]
      repeat (first | refine Qa ?_ | refine Qb ?_ | refine Qc ?_ | refine Qd ?_ | refine Qe ?_ | refine Qf ?_ | refine Qg ?_ | refine Qh ?_ | refine Qi ?_ | refine Qj ?_ | refine Qk ?_ | refine Ql ?_ | refine Qm ?_ | refine Qn ?_ | refine Qo ?_ | refine Qp ?_ | refine Qq ?_ | fail)
      refine SX.ret (M' := F) rfl (Evals.tmp rfl Evals.nil) ?_ inferInstance
      exact h
end
theorem OpsRenames_any (p : Int) (q : Int) (th : Bool) (W : World) (wp : (Lit.int .u8 p).wf = true) (wq : (Lit.int .u8 q).wf = true) :
    Calls Tryz.prog 7 #[.int .u8 p, .int .u8 q, .bool th] W fun e w' => e = .returned (.bool true) ∧ Below W.heap.size W w' :=
  Fn.out W [.per (oldR W)] (Holds.ofStart (Holds.start0 W)) inferInstance
    (OpsRenames_S (u8_of_wf _ wp).1 (u8_of_wf _ wp).2 (u8_of_wf _ wq).1 (u8_of_wf _ wq).2 ⟨rfl, inferInstance⟩)
end Go.Proofs.YtanemmcddgkpdaaGreat.Sx
