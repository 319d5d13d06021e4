/- Chapter 13: a directory is removed as one, when it is empty, walked; conditions: those that each theorem names. -/
import Derived.Test.YtanemmcddgkpdaaGreatJN9
import Derived.Test.YtanemmcddgkpdaaGreatJN6
namespace Go.Proofs.YtanemmcddgkpdaaGreat.Sx
open Go.RowKit Go.Proofs.YtanemmcddgkpdaaGreat.Hm Go.Proofs.YtanemmcddgkpdaaGreatW.PrintWords Go.Proofs.YtanemmcddgkpdaaGreatW.PrintLast Go.Proofs.YtanemmcddgkpdaaGreatW.PrintMore
set_option linter.unusedVariables false
set_option linter.unusedSimpArgs false
attribute [local irreducible] SX SXL SXA St callK Post Evals

attribute [local irreducible] doT dm dT dE dU
theorem dop_u (lk : Bool) : IntKind.u32.wrap (dop lk) = dop lk := by cases lk <;> rfl
theorem dop_ok (lk : Bool) : u32ok (dop lk) := by cases lk <;> exact ⟨by decide, by decide⟩
theorem dop_K (lk : Bool) (k : Nat) : OpK (ca (dop lk) 1 1 (nm k) 0 0 [120]) := by
  cases lk
  · exact ⟨createE, create_S, fun t r => rfl⟩
  · exact ⟨symlinkE, symlink_S, fun t r => rfl⟩
section
variable {F : List Thing} {K : Ending → List Thing → Prop} {q : Int} {lk : Bool}
set_option maxRecDepth 20000 in
set_option maxHeartbeats 4000000 in
theorem OpsDirs_S (h0 : 0 ≤ q) (h1 : q < 256) (h : K (.returned (.bool true)) F) : Fn (Tryz.prog) 11 [.int .u8 q, .bool lk] F K := by
  obtain ⟨n, hn⟩ : ∃ n : Nat, n = (q % 4).toNat := ⟨_, rfl⟩
  have hn4 : n < 4 := by omega
  have hqn : q % 4 = (n : Int) := by omega
  obtain ⟨fa, fb, fx, fc, fd, fu⟩ := okD_st (okD_all lk hn4)
  have hqt : IntKind.i64.wrap (q.tmod 4) = (n : Int) := by rw [Int.tmod_eq_emod_of_nonneg h0, IntWalk.i64_in _ (by omega), hqn]
  refine Fn.enter Tryz.call11 Tryz.func11 rfl rfl rfl ?_
  repeat (first | refine Qa ?_ | refine Qb ?_ | refine Qc ?_ | refine Qd ?_ | refine Qe ?_ | refine Qf ?_ | refine Qg ?_ | refine Qh ?_ | refine Qi ?_ | refine Qj ?_ | refine Qk ?_ | refine Ql ?_ | refine Qm ?_ | refine Qn ?_ | refine Qo ?_ | refine Qp ?_ | refine Qq ?_ | fail)
  refine SXL.call rfl rfl rfl ?_
  refine (awake13_S (callK.ret ?_))
  repeat (first | refine Qa ?_ | refine Qb ?_ | refine Qc ?_ | refine Qd ?_ | refine Qe ?_ | refine Qf ?_ | refine Qg ?_ | refine Qh ?_ | refine Qi ?_ | refine Qj ?_ | refine Qk ?_ | refine Ql ?_ | refine Qm ?_ | refine Qn ?_ | refine Qo ?_ | refine Qp ?_ | refine Qq ?_ | fail)
  rw [hqt]
  repeat (first | refine Qa ?_ | refine Qb ?_ | refine Qc ?_ | refine Qd ?_ | refine Qe ?_ | refine Qf ?_ | refine Qg ?_ | refine Qh ?_ | refine Qi ?_ | refine Qj ?_ | refine Qk ?_ | refine Ql ?_ | refine Qm ?_ | refine Qn ?_ | refine Qo ?_ | refine Qp ?_ | refine Qq ?_ | fail)
  refine SXL.call rfl rfl rfl ?_
  refine (Format_S (room := 20) (fun b0 cap0 hcap0 => callK.ret ?_))
  have m0 : (formT 20).mid := formT_mid ⟨by decide, by decide⟩
  repeat (first | refine Qa ?_ | refine Qb ?_ | refine Qc ?_ | refine Qd ?_ | refine Qe ?_ | refine Qf ?_ | refine Qg ?_ | refine Qh ?_ | refine Qi ?_ | refine Qj ?_ | refine Qk ?_ | refine Ql ?_ | refine Qm ?_ | refine Qn ?_ | refine Qo ?_ | refine Qp ?_ | refine Qq ?_ | fail)
  refine SXL.call rfl rfl rfl ?_
  refine (Do_S (t := formT 20) (ps := nonesP 24) (c := ca 7 0 1 ⟨#[100]⟩ 0 0 []) (Ac := none) (cc := 0) inferInstance inferInstance m0 rfl hcap0 (ca_wf ⟨by decide, by decide⟩ u32_0 ⟨by decide, by decide⟩ u32_0 u64_0 rfl) (Nat.zero_le _) (Nat.le_refl _) inferInstance (fun _ _ => ⟨mkdirE, mkdir_S, fun t r => rfl⟩) (fun t1 r1 b1 cap1 ps1 Ad1 cd1 Ae1 ce1 he1 hcap1 hps1 m1 hd1 hx1 => callK.ret ?_))
  obtain ⟨e1, f1⟩ : t1 = dm.1 ∧ r1 = dm.2 := by unfold dm; rw [he1]; exact ⟨rfl, rfl⟩
  clear he1
  subst e1; subst f1
  repeat (first | refine Qa ?_ | refine Qb ?_ | refine Qc ?_ | refine Qd ?_ | refine Qe ?_ | refine Qf ?_ | refine Qg ?_ | refine Qh ?_ | refine Qi ?_ | refine Qj ?_ | refine Qk ?_ | refine Ql ?_ | refine Qm ?_ | refine Qn ?_ | refine Qo ?_ | refine Qp ?_ | refine Qq ?_ | fail)
  refine SXL.alloc rfl rfl (fun p7 => ?_)
  repeat (first | refine Qa ?_ | refine Qb ?_ | refine Qc ?_ | refine Qd ?_ | refine Qe ?_ | refine Qf ?_ | refine Qg ?_ | refine Qh ?_ | refine Qi ?_ | refine Qj ?_ | refine Qk ?_ | refine Ql ?_ | refine Qm ?_ | refine Qn ?_ | refine Qo ?_ | refine Qp ?_ | refine Qq ?_ | fail)
  refine SXL.alloc rfl rfl (fun p8 => ?_)
  repeat (first | refine Qa ?_ | refine Qb ?_ | refine Qc ?_ | refine Qd ?_ | refine Qe ?_ | refine Qf ?_ | refine Qg ?_ | refine Qh ?_ | refine Qi ?_ | refine Qj ?_ | refine Qk ?_ | refine Ql ?_ | refine Qm ?_ | refine Qn ?_ | refine Qo ?_ | refine Qp ?_ | refine Qq ?_ | fail)
  rw [dm_ai, dm_ag]
  obtain ⟨rd, hrd⟩ : ∃ rd : Re, rd = { dm.2 with ai := 1, ag := 1 } := ⟨_, rfl⟩
  refine SX.cut (fun a' M' => a' = [(6, .int .i64 n), (7, .pointer (some ⟨p7, 0, none⟩)), (8, .pointer (some ⟨p8, 0, none⟩)), (9, .int .i64 (dop lk))] ∧ (.own (some ⟨p7, 0, none⟩) (cellsR p7 (thC (some ⟨b1, 0, none⟩) 24 cap1 (dm.1).ch (dm.1).room) 27) :: .own (some ⟨p8, 0, none⟩) (cellsR p8 (reK { dm.2 with ai := 1, ag := 1 } Ad1 cd1 Ae1 ce1) 49) :: thP b1 (dm.1).l ps1 :: .per (datR (dm.1).l ps1) :: F) = M') ?_ ?_
  · cases lk
    · repeat (first | refine Qa ?_ | refine Qb ?_ | refine Qc ?_ | refine Qd ?_ | refine Qe ?_ | refine Qf ?_ | refine Qg ?_ | refine Qh ?_ | refine Qi ?_ | refine Qj ?_ | refine Qk ?_ | refine Ql ?_ | refine Qm ?_ | refine Qn ?_ | refine Qo ?_ | refine Qp ?_ | refine Qq ?_ | fail)
      refine SX.meet ⟨rfl, rfl⟩ (by repeat (first | exact trivial | refine ⟨rfl, ?_⟩)) inferInstance
    · repeat (first | refine Qa ?_ | refine Qb ?_ | refine Qc ?_ | refine Qd ?_ | refine Qe ?_ | refine Qf ?_ | refine Qg ?_ | refine Qh ?_ | refine Qi ?_ | refine Qj ?_ | refine Qk ?_ | refine Ql ?_ | refine Qm ?_ | refine Qn ?_ | refine Qo ?_ | refine Qp ?_ | refine Qq ?_ | fail)
      refine SX.meet ⟨rfl, rfl⟩ (by repeat (first | exact trivial | refine ⟨rfl, ?_⟩)) inferInstance
  rintro _ _ ⟨rfl, rfl⟩
  repeat (first | refine Qa ?_ | refine Qb ?_ | refine Qc ?_ | refine Qd ?_ | refine Qe ?_ | refine Qf ?_ | refine Qg ?_ | refine Qh ?_ | refine Qi ?_ | refine Qj ?_ | refine Qk ?_ | refine Ql ?_ | refine Qm ?_ | refine Qn ?_ | refine Qo ?_ | refine Qp ?_ | refine Qq ?_ | fail)
  refine SX.loop (fun z a M => ∃ (k b cap : Nat) (ps : List Pl), k + z = n ∧ 24 ≤ cap ∧ ps.length = 24 ∧ (dT lk k).mid ∧ a = [(6, .int .i64 n), (7, .pointer (some ⟨p7, 0, none⟩)), (8, .pointer (some ⟨p8, 0, none⟩)), (9, .int .i64 (dop lk)), (10, .int .i64 k)] ∧ (.own (some ⟨p7, 0, none⟩) (cellsR p7 (thC (some ⟨b, 0, none⟩) 24 cap (dT lk k).ch (dT lk k).room) 27) :: .own (some ⟨p8, 0, none⟩) (cellsR p8 (reK { dm.2 with ai := 1, ag := 1 } Ad1 cd1 Ae1 ce1) 49) :: thP b (dT lk k).l ps :: .per (datR (dT lk k).l ps) :: F) = M)
    n ⟨0, b1, cap1, ps1, by omega, hcap1, hps1, by rw [dT_zero]; exact m1, rfl, rfl⟩ (by repeat (first | exact trivial | refine ⟨rfl, ?_⟩)) (by rw [dT_zero]; infer_instance) ?_
  rintro z _ _ ⟨k, b, cap, ps, hz, hcap, hps, hm, rfl, rfl⟩
  repeat (first | refine Qa ?_ | refine Qb ?_ | refine Qc ?_ | refine Qd ?_ | refine Qe ?_ | refine Qf ?_ | refine Qg ?_ | refine Qh ?_ | refine Qi ?_ | refine Qj ?_ | refine Qk ?_ | refine Ql ?_ | refine Qm ?_ | refine Qn ?_ | refine Qo ?_ | refine Qp ?_ | refine Qq ?_ | fail)
  refine SX.condp rfl (fun hi => ?_) (fun hi => ?_)
  · have hkn : k < n := by omega
    have hnm : ((k : Int).toNat % 12) = k := by omega
    have hku : IntKind.u8.wrap (k : Int) = (k : Int) := IntWalk.u8_in _ (by omega)
    repeat (first | refine Qf ?_ | refine Qg ?_ | refine Qh ?_ | refine Qi ?_ | refine Qj ?_ | refine Qk ?_ | refine Ql ?_ | fail)
    refine SX.cut (fun a' M' => ∃ (b cap : Nat) (ps : List Pl), 24 ≤ cap ∧ ps.length = 24 ∧ (dT lk (k + 1)).mid ∧ a' = [(6, .int .i64 n), (7, .pointer (some ⟨p7, 0, none⟩)), (8, .pointer (some ⟨p8, 0, none⟩)), (9, .int .i64 (dop lk)), (10, .int .i64 k)] ∧ (.own (some ⟨p7, 0, none⟩) (cellsR p7 (thC (some ⟨b, 0, none⟩) 24 cap (dT lk (k + 1)).ch (dT lk (k + 1)).room) 27) :: .own (some ⟨p8, 0, none⟩) (cellsR p8 (reK { dm.2 with ai := 1, ag := 1 } Ad1 cd1 Ae1 ce1) 49) :: thP b (dT lk (k + 1)).l ps :: .per (datR (dT lk (k + 1)).l ps) :: F) = M') ?_ ?_
    · refine SXA.begin (.own (some ⟨p7, 0, none⟩) (cellsR p7 (thC (some ⟨b, 0, none⟩) 24 cap (dT lk k).ch (dT lk k).room) 27) :: .own (some ⟨p8, 0, none⟩) (cellsR p8 (reK { dm.2 with ai := 1, ag := 1 } Ad1 cd1 Ae1 ce1) 49) :: thP b (dT lk k).l ps :: .per (datR (dT lk k).l ps) :: F) [15] ?_
      (first | refine Qr 0 ?_ | refine Qs 0 ?_ | refine Qxa 0 ?_ | refine Qya 0 ?_ | refine Qt 0 ?_ | refine Qu 0 ?_ | fail)
      (first | refine Qr 1 ?_ | refine Qs 1 ?_ | refine Qxa 1 ?_ | refine Qya 1 ?_ | refine Qt 1 ?_ | refine Qu 1 ?_ | fail)
      (first | refine Qr 3 ?_ | refine Qs 3 ?_ | refine Qxa 3 ?_ | refine Qya 3 ?_ | refine Qt 3 ?_ | refine Qu 3 ?_ | fail)
      (first | refine Qr 5 ?_ | refine Qs 5 ?_ | refine Qxa 5 ?_ | refine Qya 5 ?_ | refine Qt 5 ?_ | refine Qu 5 ?_ | fail)
      (first | refine Qr 2 ?_ | refine Qs 2 ?_ | refine Qxa 2 ?_ | refine Qya 2 ?_ | refine Qt 2 ?_ | refine Qu 2 ?_ | fail)
      rw [dop_u]
      (first | refine Qr 4 ?_ | refine Qs 4 ?_ | refine Qxa 4 ?_ | refine Qya 4 ?_ | refine Qt 4 ?_ | refine Qu 4 ?_ | fail)
      (first | refine Qr 6 ?_ | refine Qs 6 ?_ | refine Qxa 6 ?_ | refine Qya 6 ?_ | refine Qt 6 ?_ | refine Qu 6 ?_ | fail)
      rw [hku]
      refine SXA.all [7, 8] (by decide +kernel) (Each.cons rfl ?_ (Each.cons rfl ?_ Each.nil))
      · skip
        refine SXL.call rfl rfl rfl ?_
        refine (named13_S (k := (k : Int)) (by omega) (by omega) (callK.ret ?_))
        rw [hnm]
        refine SXL.nil (SXA.next inferInstance ?_)
        refine Qw 8 ?_
        refine SXL.lit rfl rfl (fun g => ?_)
        refine SXL.nil (SXA.next inferInstance ?_)
        refine Qw 9 ?_
        refine SXL.litBytes [120] rfl inferInstance rfl Tryz.underlying38 Tryz.underlying5 (by simp) rfl ?_
        refine SXL.nil (SXA.next inferInstance ?_)
        (first | refine Qr 10 ?_ | refine Qs 10 ?_ | refine Qxa 10 ?_ | refine Qya 10 ?_ | refine Qt 10 ?_ | refine Qu 10 ?_ | fail)
        refine Qw 11 ?_
        refine SXL.call rfl rfl rfl ?_
        refine (Do_S (t := dT lk k) (ps := ps) (c := ca (dop lk) 1 1 (nm k) 0 0 [120]) (Ac := some ⟨g, 0, none⟩) (cc := 1) inferInstance inferInstance hm hps hcap (ca_wf (dop_ok lk) ⟨by decide, by decide⟩ ⟨by decide, by decide⟩ u32_0 u64_0 rfl) (by show 1 ≤ 4000000000; decide) (Nat.le_refl _) inferInstance (fun _ _ => dop_K lk k) (fun t2 r2 b2 cap2 ps2 Ad2 cd2 Ae2 ce2 he2 hcap2 hps2 m2 hd2 hx2 => callK.ret ?_))
        obtain rfl : t2 = dT lk (k + 1) := by rw [dT_succ, he2]
        clear he2
        refine SXL.nil (SXA.next inferInstance ?_)
        (first | refine Qr 12 ?_ | refine Qs 12 ?_ | refine Qxa 12 ?_ | refine Qya 12 ?_ | refine Qt 12 ?_ | refine Qu 12 ?_ | fail)
        (first | refine Qr 13 ?_ | refine Qs 13 ?_ | refine Qxa 13 ?_ | refine Qya 13 ?_ | refine Qt 13 ?_ | refine Qu 13 ?_ | fail)
        (first | refine Qr 14 ?_ | refine Qs 14 ?_ | refine Qxa 14 ?_ | refine Qya 14 ?_ | refine Qt 14 ?_ | refine Qu 14 ?_ | fail)
        refine Qw 15 ?_
        refine Qc ?_
        refine SXL.nil (SXA.nextLast rfl ?_)
        refine Qv ?_
        refine SX.meet ⟨b2, cap2, ps2, hcap2, hps2, m2, rfl, rfl⟩ (by repeat (first | exact trivial | refine ⟨rfl, ?_⟩)) inferInstance
      · skip
        refine SXL.lit rfl rfl (fun g => ?_)
        refine SXL.nil (SXA.next inferInstance ?_)
        refine SXA.all [7, 9] (by decide +kernel) (Each.cons rfl ?_ (Each.cons rfl ?_ Each.nil))
        · skip
          refine SXL.call rfl rfl rfl ?_
          refine (named13_S (k := (k : Int)) (by omega) (by omega) (callK.ret ?_))
          rw [hnm]
          refine SXL.nil (SXA.next inferInstance ?_)
          refine Qw 9 ?_
          refine SXL.litBytes [120] rfl inferInstance rfl Tryz.underlying38 Tryz.underlying5 (by simp) rfl ?_
          refine SXL.nil (SXA.next inferInstance ?_)
          (first | refine Qr 10 ?_ | refine Qs 10 ?_ | refine Qxa 10 ?_ | refine Qya 10 ?_ | refine Qt 10 ?_ | refine Qu 10 ?_ | fail)
          refine Qw 11 ?_
          refine SXL.call rfl rfl rfl ?_
          refine (Do_S (t := dT lk k) (ps := ps) (c := ca (dop lk) 1 1 (nm k) 0 0 [120]) (Ac := some ⟨g, 0, none⟩) (cc := 1) inferInstance inferInstance hm hps hcap (ca_wf (dop_ok lk) ⟨by decide, by decide⟩ ⟨by decide, by decide⟩ u32_0 u64_0 rfl) (by show 1 ≤ 4000000000; decide) (Nat.le_refl _) inferInstance (fun _ _ => dop_K lk k) (fun t2 r2 b2 cap2 ps2 Ad2 cd2 Ae2 ce2 he2 hcap2 hps2 m2 hd2 hx2 => callK.ret ?_))
          obtain rfl : t2 = dT lk (k + 1) := by rw [dT_succ, he2]
          clear he2
          refine SXL.nil (SXA.next inferInstance ?_)
          (first | refine Qr 12 ?_ | refine Qs 12 ?_ | refine Qxa 12 ?_ | refine Qya 12 ?_ | refine Qt 12 ?_ | refine Qu 12 ?_ | fail)
          (first | refine Qr 13 ?_ | refine Qs 13 ?_ | refine Qxa 13 ?_ | refine Qya 13 ?_ | refine Qt 13 ?_ | refine Qu 13 ?_ | fail)
          (first | refine Qr 14 ?_ | refine Qs 14 ?_ | refine Qxa 14 ?_ | refine Qya 14 ?_ | refine Qt 14 ?_ | refine Qu 14 ?_ | fail)
          refine Qw 15 ?_
          refine Qc ?_
          refine SXL.nil (SXA.nextLast rfl ?_)
          refine Qv ?_
          refine SX.meet ⟨b2, cap2, ps2, hcap2, hps2, m2, rfl, rfl⟩ (by repeat (first | exact trivial | refine ⟨rfl, ?_⟩)) inferInstance
        · skip
          refine SXL.litBytes [120] rfl inferInstance rfl Tryz.underlying38 Tryz.underlying5 (by simp) rfl ?_
          refine SXL.nil (SXA.next inferInstance ?_)
          refine Qw 7 ?_
          refine SXL.call rfl rfl rfl ?_
          refine (named13_S (k := (k : Int)) (by omega) (by omega) (callK.ret ?_))
          rw [hnm]
          refine SXL.nil (SXA.next inferInstance ?_)
          (first | refine Qr 10 ?_ | refine Qs 10 ?_ | refine Qxa 10 ?_ | refine Qya 10 ?_ | refine Qt 10 ?_ | refine Qu 10 ?_ | fail)
          refine Qw 11 ?_
          refine SXL.call rfl rfl rfl ?_
          refine (Do_S (t := dT lk k) (ps := ps) (c := ca (dop lk) 1 1 (nm k) 0 0 [120]) (Ac := some ⟨g, 0, none⟩) (cc := 1) inferInstance inferInstance hm hps hcap (ca_wf (dop_ok lk) ⟨by decide, by decide⟩ ⟨by decide, by decide⟩ u32_0 u64_0 rfl) (by show 1 ≤ 4000000000; decide) (Nat.le_refl _) inferInstance (fun _ _ => dop_K lk k) (fun t2 r2 b2 cap2 ps2 Ad2 cd2 Ae2 ce2 he2 hcap2 hps2 m2 hd2 hx2 => callK.ret ?_))
          obtain rfl : t2 = dT lk (k + 1) := by rw [dT_succ, he2]
          clear he2
          refine SXL.nil (SXA.next inferInstance ?_)
          (first | refine Qr 12 ?_ | refine Qs 12 ?_ | refine Qxa 12 ?_ | refine Qya 12 ?_ | refine Qt 12 ?_ | refine Qu 12 ?_ | fail)
          (first | refine Qr 13 ?_ | refine Qs 13 ?_ | refine Qxa 13 ?_ | refine Qya 13 ?_ | refine Qt 13 ?_ | refine Qu 13 ?_ | fail)
          (first | refine Qr 14 ?_ | refine Qs 14 ?_ | refine Qxa 14 ?_ | refine Qya 14 ?_ | refine Qt 14 ?_ | refine Qu 14 ?_ | fail)
          refine Qw 15 ?_
          refine Qc ?_
          refine SXL.nil (SXA.nextLast rfl ?_)
          refine Qv ?_
          refine SX.meet ⟨b2, cap2, ps2, hcap2, hps2, m2, rfl, rfl⟩ (by repeat (first | exact trivial | refine ⟨rfl, ?_⟩)) inferInstance
    rintro _ _ ⟨b3, cap3, ps3, hcap3, hps3, m3, rfl, rfl⟩
    repeat (first | refine Qa ?_ | refine Qb ?_ | refine Qc ?_ | refine Qd ?_ | refine Qe ?_ | refine Qf ?_ | refine Qg ?_ | refine Qh ?_ | refine Qi ?_ | refine Qj ?_ | refine Qk ?_ | refine Ql ?_ | refine Qm ?_ | refine Qn ?_ | refine Qo ?_ | refine Qp ?_ | refine Qq ?_ | fail)
    refine SX.same 10 (.int .i64 ((k + 1 : Nat) : Int)) rfl (by simp (disch := omega) only [IntWalk.i64_in, IntWalk.u8_in, IntWalk.u32_in, IntWalk.u64_in, IntWalk.rem_in, Int.natCast_add, Int.natCast_one]) ?_
    refine SX.again (z - 1) (by omega) ⟨k + 1, b3, cap3, ps3, by omega, hcap3, hps3, m3, rfl, rfl⟩ (by repeat (first | exact trivial | refine ⟨rfl, ?_⟩)) inferInstance
  have hkn : k = n := by omega
  subst hkn
  repeat (first | refine Qa ?_ | refine Qb ?_ | refine Qc ?_ | refine Qd ?_ | refine Qe ?_ | refine Qf ?_ | refine Qg ?_ | refine Qh ?_ | refine Qi ?_ | refine Qj ?_ | refine Qk ?_ | refine Ql ?_ | refine Qm ?_ | refine Qn ?_ | refine Qo ?_ | refine Qp ?_ | refine Qq ?_ | fail)
  refine SXL.call rfl rfl rfl ?_
  refine (Do_S (t := dT lk k) (ps := ps) (c := ca 10 0 1 ⟨#[100]⟩ 0 0 []) (Ac := none) (cc := 0) inferInstance inferInstance hm hps hcap (ca_wf ⟨by decide, by decide⟩ u32_0 ⟨by decide, by decide⟩ u32_0 u64_0 rfl) (Nat.zero_le _) (Nat.le_refl _) inferInstance (fun _ _ => ⟨removeE, remove_S, fun t r => rfl⟩) (fun t4 r4 b4 cap4 ps4 Ad4 cd4 Ae4 ce4 he4 hcap4 hps4 m4 hd4 hx4 => callK.ret ?_))
  have hs4 : r4.st = 63 := by have h9 := fa; rw [he4] at h9; exact h9
  repeat (first | refine Qa ?_ | refine Qb ?_ | refine Qc ?_ | refine Qd ?_ | refine Qe ?_ | refine Qf ?_ | refine Qg ?_ | refine Qh ?_ | refine Qi ?_ | refine Qj ?_ | refine Qk ?_ | refine Ql ?_ | refine Qm ?_ | refine Qn ?_ | refine Qo ?_ | refine Qp ?_ | refine Qq ?_ | fail)
  refine SXL.alloc rfl rfl (fun p11 => ?_)
  repeat (first | refine Qa ?_ | refine Qb ?_ | refine Qc ?_ | refine Qd ?_ | refine Qe ?_ | refine Qf ?_ | refine Qg ?_ | refine Qh ?_ | refine Qi ?_ | refine Qj ?_ | refine Qk ?_ | refine Ql ?_ | refine Qm ?_ | refine Qn ?_ | refine Qo ?_ | refine Qp ?_ | refine Qq ?_ | fail)
  refine SXL.alloc rfl rfl (fun p12 => ?_)
  repeat (first | refine Qa ?_ | refine Qb ?_ | refine Qc ?_ | refine Qd ?_ | refine Qe ?_ | refine Qf ?_ | refine Qg ?_ | refine Qh ?_ | refine Qi ?_ | refine Qj ?_ | refine Qk ?_ | refine Ql ?_ | refine Qm ?_ | refine Qn ?_ | refine Qo ?_ | refine Qp ?_ | refine Qq ?_ | fail)
  refine SXL.call rfl rfl rfl ?_
  refine (Do_S (t := dT lk k) (ps := ps) (c := ca 11 0 1 ⟨#[100]⟩ 0 0 []) (Ac := none) (cc := 0) inferInstance inferInstance hm hps hcap (ca_wf ⟨by decide, by decide⟩ u32_0 ⟨by decide, by decide⟩ u32_0 u64_0 rfl) (Nat.zero_le _) (Nat.le_refl _) inferInstance (fun _ _ => ⟨rmdirE, rmdir_S, fun t r => rfl⟩) (fun t5 r5 b5 cap5 ps5 Ad5 cd5 Ae5 ce5 he5 hcap5 hps5 m5 hd5 hx5 => callK.ret ?_))
  have hs5 : r5.st = if k = 0 then 0 else 68 := by have h9 := fb; rw [he5] at h9; exact h9
  repeat (first | refine Qa ?_ | refine Qb ?_ | refine Qc ?_ | refine Qd ?_ | refine Qe ?_ | refine Qf ?_ | refine Qg ?_ | refine Qh ?_ | refine Qi ?_ | refine Qj ?_ | refine Qk ?_ | refine Ql ?_ | refine Qm ?_ | refine Qn ?_ | refine Qo ?_ | refine Qp ?_ | refine Qq ?_ | fail)
  refine SXL.alloc rfl rfl (fun p13 => ?_)
  repeat (first | refine Qa ?_ | refine Qb ?_ | refine Qc ?_ | refine Qd ?_ | refine Qe ?_ | refine Qf ?_ | refine Qg ?_ | refine Qh ?_ | refine Qi ?_ | refine Qj ?_ | refine Qk ?_ | refine Ql ?_ | refine Qm ?_ | refine Qn ?_ | refine Qo ?_ | refine Qp ?_ | refine Qq ?_ | fail)
  refine SXL.alloc rfl rfl (fun p14 => ?_)
  repeat (first | refine Qa ?_ | refine Qb ?_ | refine Qc ?_ | refine Qd ?_ | refine Qe ?_ | refine Qf ?_ | refine Qg ?_ | refine Qh ?_ | refine Qi ?_ | refine Qj ?_ | refine Qk ?_ | refine Ql ?_ | refine Qm ?_ | refine Qn ?_ | refine Qo ?_ | refine Qp ?_ | refine Qq ?_ | fail)
  rw [hs4]
  rcases Nat.eq_zero_or_pos k with hk0 | hk0
  · subst hk0
    rw [if_pos rfl] at hs5
    rw [hs5]
    repeat (first | refine Qa ?_ | refine Qb ?_ | refine Qc ?_ | refine Qd ?_ | refine Qe ?_ | refine Qf ?_ | refine Qg ?_ | refine Qh ?_ | refine Qi ?_ | refine Qj ?_ | refine Qk ?_ | refine Ql ?_ | refine Qm ?_ | refine Qn ?_ | refine Qo ?_ | refine Qp ?_ | refine Qq ?_ | fail)
    refine SX.loop (fun z a M => ∃ (i b cap : Nat) (ps : List Pl), i + z = 0 ∧ 24 ≤ cap ∧ ps.length = 24 ∧ (dE lk 0 i).mid ∧ a = [(6, .int .i64 (0 : Nat)), (7, .pointer (some ⟨p7, 0, none⟩)), (8, .pointer (some ⟨p8, 0, none⟩)), (15, .int .i64 i)] ∧ (.own (some ⟨p7, 0, none⟩) (cellsR p7 (thC (some ⟨b, 0, none⟩) 24 cap (dE lk 0 i).ch (dE lk 0 i).room) 27) :: .own (some ⟨p8, 0, none⟩) (cellsR p8 (reK { dm.2 with ai := 1, ag := 1 } Ad1 cd1 Ae1 ce1) 49) :: thP b (dE lk 0 i).l ps :: .per (datR (dE lk 0 i).l ps) :: F) = M)
      0 ⟨0, b, cap, ps, by omega, hcap, hps, by rw [dE_zero]; exact hm, rfl, rfl⟩ (by repeat (first | exact trivial | refine ⟨rfl, ?_⟩)) (by rw [dE_zero]; infer_instance) ?_
    rintro z _ _ ⟨i, b, cap, ps, hz, hcap, hps, hm, rfl, rfl⟩
    repeat (first | refine Qa ?_ | refine Qb ?_ | refine Qc ?_ | refine Qd ?_ | refine Qe ?_ | refine Qf ?_ | refine Qg ?_ | refine Qh ?_ | refine Qi ?_ | refine Qj ?_ | refine Qk ?_ | refine Ql ?_ | refine Qm ?_ | refine Qn ?_ | refine Qo ?_ | refine Qp ?_ | refine Qq ?_ | fail)
    refine SX.condp rfl (fun hi => ?_) (fun hi => ?_)
    · exact absurd hi (by omega)
    have hik : i = 0 := by omega
    subst hik
    repeat (first | refine Qa ?_ | refine Qb ?_ | refine Qc ?_ | refine Qd ?_ | refine Qe ?_ | refine Qf ?_ | refine Qg ?_ | refine Qh ?_ | refine Qi ?_ | refine Qj ?_ | refine Qk ?_ | refine Ql ?_ | refine Qm ?_ | refine Qn ?_ | refine Qo ?_ | refine Qp ?_ | refine Qq ?_ | fail)
    refine SXL.call rfl rfl rfl ?_
    refine (Do_S (t := dE lk 0 0) (ps := ps) (c := ca 11 0 1 ⟨#[100]⟩ 0 0 []) (Ac := none) (cc := 0) inferInstance inferInstance hm hps hcap (ca_wf ⟨by decide, by decide⟩ u32_0 ⟨by decide, by decide⟩ u32_0 u64_0 rfl) (Nat.zero_le _) (Nat.le_refl _) inferInstance (fun _ _ => ⟨rmdirE, rmdir_S, fun t r => rfl⟩) (fun t8 r8 b8 cap8 ps8 Ad8 cd8 Ae8 ce8 he8 hcap8 hps8 m8 hd8 hx8 => callK.ret ?_))
    obtain ⟨rfl, rfl⟩ : t8 = (dU lk 0).1 ∧ r8 = (dU lk 0).2 := by rw [dU_def, he8]; exact ⟨rfl, rfl⟩
    clear he8
    repeat (first | refine Qa ?_ | refine Qb ?_ | refine Qc ?_ | refine Qd ?_ | refine Qe ?_ | refine Qf ?_ | refine Qg ?_ | refine Qh ?_ | refine Qi ?_ | refine Qj ?_ | refine Qk ?_ | refine Ql ?_ | refine Qm ?_ | refine Qn ?_ | refine Qo ?_ | refine Qp ?_ | refine Qq ?_ | fail)
    refine SXL.alloc rfl rfl (fun p20 => ?_)
    repeat (first | refine Qa ?_ | refine Qb ?_ | refine Qc ?_ | refine Qd ?_ | refine Qe ?_ | refine Qf ?_ | refine Qg ?_ | refine Qh ?_ | refine Qi ?_ | refine Qj ?_ | refine Qk ?_ | refine Ql ?_ | refine Qm ?_ | refine Qn ?_ | refine Qo ?_ | refine Qp ?_ | refine Qq ?_ | fail)
    refine SXL.alloc rfl rfl (fun p21 => ?_)
    repeat (first | refine Qa ?_ | refine Qb ?_ | refine Qc ?_ | refine Qd ?_ | refine Qe ?_ | refine Qf ?_ | refine Qg ?_ | refine Qh ?_ | refine Qi ?_ | refine Qj ?_ | refine Qk ?_ | refine Ql ?_ | refine Qm ?_ | refine Qn ?_ | refine Qo ?_ | refine Qp ?_ | refine Qq ?_ | fail)
    rw [fc]
    refine SXL.call rfl rfl rfl ?_
    refine (Do_S (t := (dU lk 0).1) (ps := ps8) (c := ca 1 1 1 ⟨#[97]⟩ 0 0 []) (Ac := none) (cc := 0) inferInstance inferInstance m8 hps8 hcap8 (ca_wf ⟨by decide, by decide⟩ ⟨by decide, by decide⟩ ⟨by decide, by decide⟩ u32_0 u64_0 rfl) (Nat.zero_le _) (Nat.le_refl _) inferInstance (fun _ _ => ⟨lookupE, lookup_S, fun t r => rfl⟩) (fun t9 r9 b9 cap9 ps9 Ad9 cd9 Ae9 ce9 he9 hcap9 hps9 m9 hd9 hx9 => callK.ret ?_))
    have hs9 : r9.st = 69 := by have h9 := fd; rw [he9] at h9; exact h9
    repeat (first | refine Qa ?_ | refine Qb ?_ | refine Qc ?_ | refine Qd ?_ | refine Qe ?_ | refine Qf ?_ | refine Qg ?_ | refine Qh ?_ | refine Qi ?_ | refine Qj ?_ | refine Qk ?_ | refine Ql ?_ | refine Qm ?_ | refine Qn ?_ | refine Qo ?_ | refine Qp ?_ | refine Qq ?_ | fail)
    refine SXL.alloc rfl rfl (fun p22 => ?_)
    repeat (first | refine Qa ?_ | refine Qb ?_ | refine Qc ?_ | refine Qd ?_ | refine Qe ?_ | refine Qf ?_ | refine Qg ?_ | refine Qh ?_ | refine Qi ?_ | refine Qj ?_ | refine Qk ?_ | refine Ql ?_ | refine Qm ?_ | refine Qn ?_ | refine Qo ?_ | refine Qp ?_ | refine Qq ?_ | fail)
    refine SXL.alloc rfl rfl (fun p23 => ?_)
    repeat (first | refine Qa ?_ | refine Qb ?_ | refine Qc ?_ | refine Qd ?_ | refine Qe ?_ | refine Qf ?_ | refine Qg ?_ | refine Qh ?_ | refine Qi ?_ | refine Qj ?_ | refine Qk ?_ | refine Ql ?_ | refine Qm ?_ | refine Qn ?_ | refine Qo ?_ | refine Qp ?_ | refine Qq ?_ | fail)
    rw [hs9]
    repeat (first | refine Qa ?_ | refine Qb ?_ | refine Qc ?_ | refine Qd ?_ | refine Qe ?_ | refine Qf ?_ | refine Qg ?_ | refine Qh ?_ | refine Qi ?_ | refine Qj ?_ | refine Qk ?_ | refine Ql ?_ | refine Qm ?_ | refine Qn ?_ | refine Qo ?_ | refine Qp ?_ | refine Qq ?_ | fail)
    refine SXL.call rfl rfl rfl ?_
    refine (Used_P (ts := (dU lk 0).1.l) (ps := ps8) inferInstance m8.n hps8 hcap8 m8.m (callK.ret ?_))
    rw [fu]
    repeat (first | refine Qa ?_ | refine Qb ?_ | refine Qc ?_ | refine Qd ?_ | refine Qe ?_ | refine Qf ?_ | refine Qg ?_ | refine Qh ?_ | refine Qi ?_ | refine Qj ?_ | refine Qk ?_ | refine Ql ?_ | refine Qm ?_ | refine Qn ?_ | refine Qo ?_ | refine Qp ?_ | refine Qq ?_ | fail)
    refine SX.ret (M' := F) rfl (Evals.tmp rfl Evals.nil) ?_ inferInstance
    exact h
  · rw [if_neg (by omega)] at hs5
    rw [hs5]
    repeat (first | refine Qa ?_ | refine Qb ?_ | refine Qc ?_ | refine Qd ?_ | refine Qe ?_ | refine Qf ?_ | refine Qg ?_ | refine Qh ?_ | refine Qi ?_ | refine Qj ?_ | refine Qk ?_ | refine Ql ?_ | refine Qm ?_ | refine Qn ?_ | refine Qo ?_ | refine Qp ?_ | refine Qq ?_ | fail)
    refine SXL.know 83 false rfl (by simp; omega) ?_
    repeat (first | refine Qa ?_ | refine Qb ?_ | refine Qc ?_ | refine Qd ?_ | refine Qe ?_ | refine Qf ?_ | refine Qg ?_ | refine Qh ?_ | refine Qi ?_ | refine Qj ?_ | refine Qk ?_ | refine Ql ?_ | refine Qm ?_ | refine Qn ?_ | refine Qo ?_ | refine Qp ?_ | refine Qq ?_ | fail)
    refine SXL.know 86 true rfl (by simp; omega) ?_
    repeat (first | refine Qa ?_ | refine Qb ?_ | refine Qc ?_ | refine Qd ?_ | refine Qe ?_ | refine Qf ?_ | refine Qg ?_ | refine Qh ?_ | refine Qi ?_ | refine Qj ?_ | refine Qk ?_ | refine Ql ?_ | refine Qm ?_ | refine Qn ?_ | refine Qo ?_ | refine Qp ?_ | refine Qq ?_ | fail)
    refine SX.loop (fun z a M => ∃ (i b cap : Nat) (ps : List Pl), i + z = k ∧ 24 ≤ cap ∧ ps.length = 24 ∧ (dE lk k i).mid ∧ a = [(6, .int .i64 k), (7, .pointer (some ⟨p7, 0, none⟩)), (8, .pointer (some ⟨p8, 0, none⟩)), (15, .int .i64 i)] ∧ (.own (some ⟨p7, 0, none⟩) (cellsR p7 (thC (some ⟨b, 0, none⟩) 24 cap (dE lk k i).ch (dE lk k i).room) 27) :: .own (some ⟨p8, 0, none⟩) (cellsR p8 (reK { dm.2 with ai := 1, ag := 1 } Ad1 cd1 Ae1 ce1) 49) :: thP b (dE lk k i).l ps :: .per (datR (dE lk k i).l ps) :: F) = M)
      k ⟨0, b, cap, ps, by omega, hcap, hps, by rw [dE_zero]; exact hm, rfl, rfl⟩ (by repeat (first | exact trivial | refine ⟨rfl, ?_⟩)) (by rw [dE_zero]; infer_instance) ?_
    rintro z _ _ ⟨i, b, cap, ps, hz, hcap, hps, hm, rfl, rfl⟩
    repeat (first | refine Qa ?_ | refine Qb ?_ | refine Qc ?_ | refine Qd ?_ | refine Qe ?_ | refine Qf ?_ | refine Qg ?_ | refine Qh ?_ | refine Qi ?_ | refine Qj ?_ | refine Qk ?_ | refine Ql ?_ | refine Qm ?_ | refine Qn ?_ | refine Qo ?_ | refine Qp ?_ | refine Qq ?_ | fail)
    refine SX.condp rfl (fun hi => ?_) (fun hi => ?_)
    · have hik : i < k := by omega
      obtain ⟨fxi, fyi⟩ := fx i hik
      have hnm : ((i : Int).toNat % 12) = i := by omega
      have hku : IntKind.u8.wrap (i : Int) = (i : Int) := IntWalk.u8_in _ (by omega)
      repeat (first | refine Qf ?_ | refine Qg ?_ | refine Qh ?_ | refine Qi ?_ | refine Qj ?_ | refine Qk ?_ | refine Ql ?_ | fail)
      refine SX.cut (fun a' M' => ∃ (g16 g17 : Nat) (t6 : Th) (b6 cap6 : Nat) (r6 : Re) (Ad6 : Option Addr) (cd6 : Nat) (Ae6 : Option Addr) (ce6 : Nat), r6.st = 62 ∧ a' = [(6, .int .i64 k), (7, .pointer (some ⟨p7, 0, none⟩)), (8, .pointer (some ⟨p8, 0, none⟩)), (15, .int .i64 i), (16, .pointer (some ⟨g16, 0, none⟩)), (17, .pointer (some ⟨g17, 0, none⟩))] ∧ (.own (some ⟨g16, 0, none⟩) (cellsR g16 (thC (some ⟨b6, 0, none⟩) 24 cap6 t6.ch t6.room) 27) :: .own (some ⟨g17, 0, none⟩) (cellsR g17 (reK r6 Ad6 cd6 Ae6 ce6) 49) :: .own (some ⟨p7, 0, none⟩) (cellsR p7 (thC (some ⟨b, 0, none⟩) 24 cap (dE lk k i).ch (dE lk k i).room) 27) :: .own (some ⟨p8, 0, none⟩) (cellsR p8 (reK { dm.2 with ai := 1, ag := 1 } Ad1 cd1 Ae1 ce1) 49) :: thP b (dE lk k i).l ps :: .per (datR (dE lk k i).l ps) :: F) = M') ?_ ?_
      · refine SXA.begin (.own (some ⟨p7, 0, none⟩) (cellsR p7 (thC (some ⟨b, 0, none⟩) 24 cap (dE lk k i).ch (dE lk k i).room) 27) :: .own (some ⟨p8, 0, none⟩) (cellsR p8 (reK { dm.2 with ai := 1, ag := 1 } Ad1 cd1 Ae1 ce1) 49) :: thP b (dE lk k i).l ps :: .per (datR (dE lk k i).l ps) :: F) [13, 14] ?_
        (first | refine Qr 0 ?_ | refine Qs 0 ?_ | refine Qxa 0 ?_ | refine Qya 0 ?_ | refine Qt 0 ?_ | refine Qu 0 ?_ | fail)
        (first | refine Qr 1 ?_ | refine Qs 1 ?_ | refine Qxa 1 ?_ | refine Qya 1 ?_ | refine Qt 1 ?_ | refine Qu 1 ?_ | fail)
        (first | refine Qr 3 ?_ | refine Qs 3 ?_ | refine Qxa 3 ?_ | refine Qya 3 ?_ | refine Qt 3 ?_ | refine Qu 3 ?_ | fail)
        (first | refine Qr 2 ?_ | refine Qs 2 ?_ | refine Qxa 2 ?_ | refine Qya 2 ?_ | refine Qt 2 ?_ | refine Qu 2 ?_ | fail)
        (first | refine Qr 4 ?_ | refine Qs 4 ?_ | refine Qxa 4 ?_ | refine Qya 4 ?_ | refine Qt 4 ?_ | refine Qu 4 ?_ | fail)
        rw [hku]
        refine SXA.all [5, 11, 12] (by decide +kernel) (Each.cons rfl ?_ (Each.cons rfl ?_ (Each.cons rfl ?_ Each.nil)))
        · skip
          refine SXL.call rfl rfl rfl ?_
          refine (named13_S (k := (i : Int)) (by omega) (by omega) (callK.ret ?_))
          rw [hnm]
          refine SXL.nil (SXA.next inferInstance ?_)
          (first | refine Qr 6 ?_ | refine Qs 6 ?_ | refine Qxa 6 ?_ | refine Qya 6 ?_ | refine Qt 6 ?_ | refine Qu 6 ?_ | fail)
          refine SXA.all [7, 11, 12] (by decide +kernel) (Each.cons rfl ?_ (Each.cons rfl ?_ (Each.cons rfl ?_ Each.nil)))
          · skip
            refine SXL.call rfl rfl rfl ?_
            refine (Do_S (t := dE lk k i) (ps := ps) (c := ca 11 1 1 (nm i) 0 0 []) (Ac := none) (cc := 0) inferInstance inferInstance hm hps hcap (ca_wf ⟨by decide, by decide⟩ ⟨by decide, by decide⟩ ⟨by decide, by decide⟩ u32_0 u64_0 rfl) (Nat.zero_le _) (Nat.le_refl _) inferInstance (fun _ _ => ⟨rmdirE, rmdir_S, fun t r => rfl⟩) (fun t6 r6 b6 cap6 ps6 Ad6 cd6 Ae6 ce6 he6 hcap6 hps6 m6 hd6 hx6 => callK.ret ?_))
            have hs6 : r6.st = 62 := by have h9 := fxi; rw [he6] at h9; exact h9
            refine SXL.nil (SXA.next inferInstance ?_)
            (first | refine Qr 8 ?_ | refine Qs 8 ?_ | refine Qxa 8 ?_ | refine Qya 8 ?_ | refine Qt 8 ?_ | refine Qu 8 ?_ | fail)
            (first | refine Qr 9 ?_ | refine Qs 9 ?_ | refine Qxa 9 ?_ | refine Qya 9 ?_ | refine Qt 9 ?_ | refine Qu 9 ?_ | fail)
            (first | refine Qr 10 ?_ | refine Qs 10 ?_ | refine Qxa 10 ?_ | refine Qya 10 ?_ | refine Qt 10 ?_ | refine Qu 10 ?_ | fail)
            refine SXA.all [11, 12] (by decide +kernel) (Each.cons rfl ?_ (Each.cons rfl ?_ Each.nil))
            · skip
              refine SXL.alloc rfl rfl (fun g16 => ?_)
              refine SXL.nil (SXA.next inferInstance ?_)
              refine Qw 12 ?_
              refine SXL.alloc rfl rfl (fun g17 => ?_)
              refine SXL.nil (SXA.next inferInstance ?_)
              refine Qw 13 ?_
              refine Qc ?_
              refine SXL.nil (SXA.nextLast rfl ?_)
              refine Qw 14 ?_
              refine Qc ?_
              refine SXL.nil (SXA.nextLast rfl ?_)
              refine Qv ?_
              refine SX.meet ⟨g16, g17, t6, b6, cap6, r6, Ad6, cd6, Ae6, ce6, hs6, rfl, rfl⟩ (by repeat (first | exact trivial | refine ⟨rfl, ?_⟩)) inferInstance
            · skip
              refine SXL.alloc rfl rfl (fun g17 => ?_)
              refine SXL.nil (SXA.next inferInstance ?_)
              refine Qw 11 ?_
              refine SXL.alloc rfl rfl (fun g16 => ?_)
              refine SXL.nil (SXA.next inferInstance ?_)
              refine Qw 13 ?_
              refine Qc ?_
              refine SXL.nil (SXA.nextLast rfl ?_)
              refine Qw 14 ?_
              refine Qc ?_
              refine SXL.nil (SXA.nextLast rfl ?_)
              refine Qv ?_
              refine SX.meet ⟨g16, g17, t6, b6, cap6, r6, Ad6, cd6, Ae6, ce6, hs6, rfl, rfl⟩ (by repeat (first | exact trivial | refine ⟨rfl, ?_⟩)) inferInstance
          · skip
            refine SXL.alloc rfl rfl (fun g16 => ?_)
            refine SXL.nil (SXA.next inferInstance ?_)
            refine SXA.all [7, 12] (by decide +kernel) (Each.cons rfl ?_ (Each.cons rfl ?_ Each.nil))
            · skip
              refine SXL.call rfl rfl rfl ?_
              refine (Do_S (t := dE lk k i) (ps := ps) (c := ca 11 1 1 (nm i) 0 0 []) (Ac := none) (cc := 0) inferInstance inferInstance hm hps hcap (ca_wf ⟨by decide, by decide⟩ ⟨by decide, by decide⟩ ⟨by decide, by decide⟩ u32_0 u64_0 rfl) (Nat.zero_le _) (Nat.le_refl _) inferInstance (fun _ _ => ⟨rmdirE, rmdir_S, fun t r => rfl⟩) (fun t6 r6 b6 cap6 ps6 Ad6 cd6 Ae6 ce6 he6 hcap6 hps6 m6 hd6 hx6 => callK.ret ?_))
              have hs6 : r6.st = 62 := by have h9 := fxi; rw [he6] at h9; exact h9
              refine SXL.nil (SXA.next inferInstance ?_)
              (first | refine Qr 8 ?_ | refine Qs 8 ?_ | refine Qxa 8 ?_ | refine Qya 8 ?_ | refine Qt 8 ?_ | refine Qu 8 ?_ | fail)
              (first | refine Qr 9 ?_ | refine Qs 9 ?_ | refine Qxa 9 ?_ | refine Qya 9 ?_ | refine Qt 9 ?_ | refine Qu 9 ?_ | fail)
              (first | refine Qr 10 ?_ | refine Qs 10 ?_ | refine Qxa 10 ?_ | refine Qya 10 ?_ | refine Qt 10 ?_ | refine Qu 10 ?_ | fail)
              refine Qw 12 ?_
              refine SXL.alloc rfl rfl (fun g17 => ?_)
              refine SXL.nil (SXA.next inferInstance ?_)
              refine Qw 13 ?_
              refine Qc ?_
              refine SXL.nil (SXA.nextLast rfl ?_)
              refine Qw 14 ?_
              refine Qc ?_
              refine SXL.nil (SXA.nextLast rfl ?_)
              refine Qv ?_
              refine SX.meet ⟨g16, g17, t6, b6, cap6, r6, Ad6, cd6, Ae6, ce6, hs6, rfl, rfl⟩ (by repeat (first | exact trivial | refine ⟨rfl, ?_⟩)) inferInstance
            · skip
              refine SXL.alloc rfl rfl (fun g17 => ?_)
              refine SXL.nil (SXA.next inferInstance ?_)
              refine Qw 7 ?_
              refine SXL.call rfl rfl rfl ?_
              refine (Do_S (t := dE lk k i) (ps := ps) (c := ca 11 1 1 (nm i) 0 0 []) (Ac := none) (cc := 0) inferInstance inferInstance hm hps hcap (ca_wf ⟨by decide, by decide⟩ ⟨by decide, by decide⟩ ⟨by decide, by decide⟩ u32_0 u64_0 rfl) (Nat.zero_le _) (Nat.le_refl _) inferInstance (fun _ _ => ⟨rmdirE, rmdir_S, fun t r => rfl⟩) (fun t6 r6 b6 cap6 ps6 Ad6 cd6 Ae6 ce6 he6 hcap6 hps6 m6 hd6 hx6 => callK.ret ?_))
              have hs6 : r6.st = 62 := by have h9 := fxi; rw [he6] at h9; exact h9
              refine SXL.nil (SXA.next inferInstance ?_)
              (first | refine Qr 8 ?_ | refine Qs 8 ?_ | refine Qxa 8 ?_ | refine Qya 8 ?_ | refine Qt 8 ?_ | refine Qu 8 ?_ | fail)
              (first | refine Qr 9 ?_ | refine Qs 9 ?_ | refine Qxa 9 ?_ | refine Qya 9 ?_ | refine Qt 9 ?_ | refine Qu 9 ?_ | fail)
              (first | refine Qr 10 ?_ | refine Qs 10 ?_ | refine Qxa 10 ?_ | refine Qya 10 ?_ | refine Qt 10 ?_ | refine Qu 10 ?_ | fail)
              refine Qw 13 ?_
              refine Qc ?_
              refine SXL.nil (SXA.nextLast rfl ?_)
              refine Qw 14 ?_
              refine Qc ?_
              refine SXL.nil (SXA.nextLast rfl ?_)
              refine Qv ?_
              refine SX.meet ⟨g16, g17, t6, b6, cap6, r6, Ad6, cd6, Ae6, ce6, hs6, rfl, rfl⟩ (by repeat (first | exact trivial | refine ⟨rfl, ?_⟩)) inferInstance
          · skip
            refine SXL.alloc rfl rfl (fun g17 => ?_)
            refine SXL.nil (SXA.next inferInstance ?_)
            refine SXA.all [7, 11] (by decide +kernel) (Each.cons rfl ?_ (Each.cons rfl ?_ Each.nil))
            · skip
              refine SXL.call rfl rfl rfl ?_
              refine (Do_S (t := dE lk k i) (ps := ps) (c := ca 11 1 1 (nm i) 0 0 []) (Ac := none) (cc := 0) inferInstance inferInstance hm hps hcap (ca_wf ⟨by decide, by decide⟩ ⟨by decide, by decide⟩ ⟨by decide, by decide⟩ u32_0 u64_0 rfl) (Nat.zero_le _) (Nat.le_refl _) inferInstance (fun _ _ => ⟨rmdirE, rmdir_S, fun t r => rfl⟩) (fun t6 r6 b6 cap6 ps6 Ad6 cd6 Ae6 ce6 he6 hcap6 hps6 m6 hd6 hx6 => callK.ret ?_))
              have hs6 : r6.st = 62 := by have h9 := fxi; rw [he6] at h9; exact h9
              refine SXL.nil (SXA.next inferInstance ?_)
              (first | refine Qr 8 ?_ | refine Qs 8 ?_ | refine Qxa 8 ?_ | refine Qya 8 ?_ | refine Qt 8 ?_ | refine Qu 8 ?_ | fail)
              (first | refine Qr 9 ?_ | refine Qs 9 ?_ | refine Qxa 9 ?_ | refine Qya 9 ?_ | refine Qt 9 ?_ | refine Qu 9 ?_ | fail)
              (first | refine Qr 10 ?_ | refine Qs 10 ?_ | refine Qxa 10 ?_ | refine Qya 10 ?_ | refine Qt 10 ?_ | refine Qu 10 ?_ | fail)
              refine Qw 11 ?_
              refine SXL.alloc rfl rfl (fun g16 => ?_)
              refine SXL.nil (SXA.next inferInstance ?_)
              refine Qw 13 ?_
              refine Qc ?_
              refine SXL.nil (SXA.nextLast rfl ?_)
              refine Qw 14 ?_
              refine Qc ?_
              refine SXL.nil (SXA.nextLast rfl ?_)
              refine Qv ?_
              refine SX.meet ⟨g16, g17, t6, b6, cap6, r6, Ad6, cd6, Ae6, ce6, hs6, rfl, rfl⟩ (by repeat (first | exact trivial | refine ⟨rfl, ?_⟩)) inferInstance
            · skip
              refine SXL.alloc rfl rfl (fun g16 => ?_)
              refine SXL.nil (SXA.next inferInstance ?_)
              refine Qw 7 ?_
              refine SXL.call rfl rfl rfl ?_
              refine (Do_S (t := dE lk k i) (ps := ps) (c := ca 11 1 1 (nm i) 0 0 []) (Ac := none) (cc := 0) inferInstance inferInstance hm hps hcap (ca_wf ⟨by decide, by decide⟩ ⟨by decide, by decide⟩ ⟨by decide, by decide⟩ u32_0 u64_0 rfl) (Nat.zero_le _) (Nat.le_refl _) inferInstance (fun _ _ => ⟨rmdirE, rmdir_S, fun t r => rfl⟩) (fun t6 r6 b6 cap6 ps6 Ad6 cd6 Ae6 ce6 he6 hcap6 hps6 m6 hd6 hx6 => callK.ret ?_))
              have hs6 : r6.st = 62 := by have h9 := fxi; rw [he6] at h9; exact h9
              refine SXL.nil (SXA.next inferInstance ?_)
              (first | refine Qr 8 ?_ | refine Qs 8 ?_ | refine Qxa 8 ?_ | refine Qya 8 ?_ | refine Qt 8 ?_ | refine Qu 8 ?_ | fail)
              (first | refine Qr 9 ?_ | refine Qs 9 ?_ | refine Qxa 9 ?_ | refine Qya 9 ?_ | refine Qt 9 ?_ | refine Qu 9 ?_ | fail)
              (first | refine Qr 10 ?_ | refine Qs 10 ?_ | refine Qxa 10 ?_ | refine Qya 10 ?_ | refine Qt 10 ?_ | refine Qu 10 ?_ | fail)
              refine Qw 13 ?_
              refine Qc ?_
              refine SXL.nil (SXA.nextLast rfl ?_)
              refine Qw 14 ?_
              refine Qc ?_
              refine SXL.nil (SXA.nextLast rfl ?_)
              refine Qv ?_
              refine SX.meet ⟨g16, g17, t6, b6, cap6, r6, Ad6, cd6, Ae6, ce6, hs6, rfl, rfl⟩ (by repeat (first | exact trivial | refine ⟨rfl, ?_⟩)) inferInstance
        · skip
          refine SXL.alloc rfl rfl (fun g16 => ?_)
          refine SXL.nil (SXA.next inferInstance ?_)
          refine SXA.all [5, 12] (by decide +kernel) (Each.cons rfl ?_ (Each.cons rfl ?_ Each.nil))
          · skip
            refine SXL.call rfl rfl rfl ?_
            refine (named13_S (k := (i : Int)) (by omega) (by omega) (callK.ret ?_))
            rw [hnm]
            refine SXL.nil (SXA.next inferInstance ?_)
            (first | refine Qr 6 ?_ | refine Qs 6 ?_ | refine Qxa 6 ?_ | refine Qya 6 ?_ | refine Qt 6 ?_ | refine Qu 6 ?_ | fail)
            refine SXA.all [7, 12] (by decide +kernel) (Each.cons rfl ?_ (Each.cons rfl ?_ Each.nil))
            · skip
              refine SXL.call rfl rfl rfl ?_
              refine (Do_S (t := dE lk k i) (ps := ps) (c := ca 11 1 1 (nm i) 0 0 []) (Ac := none) (cc := 0) inferInstance inferInstance hm hps hcap (ca_wf ⟨by decide, by decide⟩ ⟨by decide, by decide⟩ ⟨by decide, by decide⟩ u32_0 u64_0 rfl) (Nat.zero_le _) (Nat.le_refl _) inferInstance (fun _ _ => ⟨rmdirE, rmdir_S, fun t r => rfl⟩) (fun t6 r6 b6 cap6 ps6 Ad6 cd6 Ae6 ce6 he6 hcap6 hps6 m6 hd6 hx6 => callK.ret ?_))
              have hs6 : r6.st = 62 := by have h9 := fxi; rw [he6] at h9; exact h9
              refine SXL.nil (SXA.next inferInstance ?_)
              (first | refine Qr 8 ?_ | refine Qs 8 ?_ | refine Qxa 8 ?_ | refine Qya 8 ?_ | refine Qt 8 ?_ | refine Qu 8 ?_ | fail)
              (first | refine Qr 9 ?_ | refine Qs 9 ?_ | refine Qxa 9 ?_ | refine Qya 9 ?_ | refine Qt 9 ?_ | refine Qu 9 ?_ | fail)
              (first | refine Qr 10 ?_ | refine Qs 10 ?_ | refine Qxa 10 ?_ | refine Qya 10 ?_ | refine Qt 10 ?_ | refine Qu 10 ?_ | fail)
              refine Qw 12 ?_
              refine SXL.alloc rfl rfl (fun g17 => ?_)
              refine SXL.nil (SXA.next inferInstance ?_)
              refine Qw 13 ?_
              refine Qc ?_
              refine SXL.nil (SXA.nextLast rfl ?_)
              refine Qw 14 ?_
              refine Qc ?_
              refine SXL.nil (SXA.nextLast rfl ?_)
              refine Qv ?_
              refine SX.meet ⟨g16, g17, t6, b6, cap6, r6, Ad6, cd6, Ae6, ce6, hs6, rfl, rfl⟩ (by repeat (first | exact trivial | refine ⟨rfl, ?_⟩)) inferInstance
            · skip
              refine SXL.alloc rfl rfl (fun g17 => ?_)
              refine SXL.nil (SXA.next inferInstance ?_)
              refine Qw 7 ?_
              refine SXL.call rfl rfl rfl ?_
              refine (Do_S (t := dE lk k i) (ps := ps) (c := ca 11 1 1 (nm i) 0 0 []) (Ac := none) (cc := 0) inferInstance inferInstance hm hps hcap (ca_wf ⟨by decide, by decide⟩ ⟨by decide, by decide⟩ ⟨by decide, by decide⟩ u32_0 u64_0 rfl) (Nat.zero_le _) (Nat.le_refl _) inferInstance (fun _ _ => ⟨rmdirE, rmdir_S, fun t r => rfl⟩) (fun t6 r6 b6 cap6 ps6 Ad6 cd6 Ae6 ce6 he6 hcap6 hps6 m6 hd6 hx6 => callK.ret ?_))
              have hs6 : r6.st = 62 := by have h9 := fxi; rw [he6] at h9; exact h9
              refine SXL.nil (SXA.next inferInstance ?_)
              (first | refine Qr 8 ?_ | refine Qs 8 ?_ | refine Qxa 8 ?_ | refine Qya 8 ?_ | refine Qt 8 ?_ | refine Qu 8 ?_ | fail)
              (first | refine Qr 9 ?_ | refine Qs 9 ?_ | refine Qxa 9 ?_ | refine Qya 9 ?_ | refine Qt 9 ?_ | refine Qu 9 ?_ | fail)
              (first | refine Qr 10 ?_ | refine Qs 10 ?_ | refine Qxa 10 ?_ | refine Qya 10 ?_ | refine Qt 10 ?_ | refine Qu 10 ?_ | fail)
              refine Qw 13 ?_
              refine Qc ?_
              refine SXL.nil (SXA.nextLast rfl ?_)
              refine Qw 14 ?_
              refine Qc ?_
              refine SXL.nil (SXA.nextLast rfl ?_)
              refine Qv ?_
              refine SX.meet ⟨g16, g17, t6, b6, cap6, r6, Ad6, cd6, Ae6, ce6, hs6, rfl, rfl⟩ (by repeat (first | exact trivial | refine ⟨rfl, ?_⟩)) inferInstance
          · skip
            refine SXL.alloc rfl rfl (fun g17 => ?_)
            refine SXL.nil (SXA.next inferInstance ?_)
            refine Qw 5 ?_
            refine SXL.call rfl rfl rfl ?_
            refine (named13_S (k := (i : Int)) (by omega) (by omega) (callK.ret ?_))
            rw [hnm]
            refine SXL.nil (SXA.next inferInstance ?_)
            (first | refine Qr 6 ?_ | refine Qs 6 ?_ | refine Qxa 6 ?_ | refine Qya 6 ?_ | refine Qt 6 ?_ | refine Qu 6 ?_ | fail)
            refine Qw 7 ?_
            refine SXL.call rfl rfl rfl ?_
            refine (Do_S (t := dE lk k i) (ps := ps) (c := ca 11 1 1 (nm i) 0 0 []) (Ac := none) (cc := 0) inferInstance inferInstance hm hps hcap (ca_wf ⟨by decide, by decide⟩ ⟨by decide, by decide⟩ ⟨by decide, by decide⟩ u32_0 u64_0 rfl) (Nat.zero_le _) (Nat.le_refl _) inferInstance (fun _ _ => ⟨rmdirE, rmdir_S, fun t r => rfl⟩) (fun t6 r6 b6 cap6 ps6 Ad6 cd6 Ae6 ce6 he6 hcap6 hps6 m6 hd6 hx6 => callK.ret ?_))
            have hs6 : r6.st = 62 := by have h9 := fxi; rw [he6] at h9; exact h9
            refine SXL.nil (SXA.next inferInstance ?_)
            (first | refine Qr 8 ?_ | refine Qs 8 ?_ | refine Qxa 8 ?_ | refine Qya 8 ?_ | refine Qt 8 ?_ | refine Qu 8 ?_ | fail)
            (first | refine Qr 9 ?_ | refine Qs 9 ?_ | refine Qxa 9 ?_ | refine Qya 9 ?_ | refine Qt 9 ?_ | refine Qu 9 ?_ | fail)
            (first | refine Qr 10 ?_ | refine Qs 10 ?_ | refine Qxa 10 ?_ | refine Qya 10 ?_ | refine Qt 10 ?_ | refine Qu 10 ?_ | fail)
            refine Qw 13 ?_
            refine Qc ?_
            refine SXL.nil (SXA.nextLast rfl ?_)
            refine Qw 14 ?_
            refine Qc ?_
            refine SXL.nil (SXA.nextLast rfl ?_)
            refine Qv ?_
            refine SX.meet ⟨g16, g17, t6, b6, cap6, r6, Ad6, cd6, Ae6, ce6, hs6, rfl, rfl⟩ (by repeat (first | exact trivial | refine ⟨rfl, ?_⟩)) inferInstance
        · skip
          refine SXL.alloc rfl rfl (fun g17 => ?_)
          refine SXL.nil (SXA.next inferInstance ?_)
          refine SXA.all [5, 11] (by decide +kernel) (Each.cons rfl ?_ (Each.cons rfl ?_ Each.nil))
          · skip
            refine SXL.call rfl rfl rfl ?_
            refine (named13_S (k := (i : Int)) (by omega) (by omega) (callK.ret ?_))
            rw [hnm]
            refine SXL.nil (SXA.next inferInstance ?_)
            (first | refine Qr 6 ?_ | refine Qs 6 ?_ | refine Qxa 6 ?_ | refine Qya 6 ?_ | refine Qt 6 ?_ | refine Qu 6 ?_ | fail)
            refine SXA.all [7, 11] (by decide +kernel) (Each.cons rfl ?_ (Each.cons rfl ?_ Each.nil))
            · skip
              refine SXL.call rfl rfl rfl ?_
              refine (Do_S (t := dE lk k i) (ps := ps) (c := ca 11 1 1 (nm i) 0 0 []) (Ac := none) (cc := 0) inferInstance inferInstance hm hps hcap (ca_wf ⟨by decide, by decide⟩ ⟨by decide, by decide⟩ ⟨by decide, by decide⟩ u32_0 u64_0 rfl) (Nat.zero_le _) (Nat.le_refl _) inferInstance (fun _ _ => ⟨rmdirE, rmdir_S, fun t r => rfl⟩) (fun t6 r6 b6 cap6 ps6 Ad6 cd6 Ae6 ce6 he6 hcap6 hps6 m6 hd6 hx6 => callK.ret ?_))
              have hs6 : r6.st = 62 := by have h9 := fxi; rw [he6] at h9; exact h9
              refine SXL.nil (SXA.next inferInstance ?_)
              (first | refine Qr 8 ?_ | refine Qs 8 ?_ | refine Qxa 8 ?_ | refine Qya 8 ?_ | refine Qt 8 ?_ | refine Qu 8 ?_ | fail)
              (first | refine Qr 9 ?_ | refine Qs 9 ?_ | refine Qxa 9 ?_ | refine Qya 9 ?_ | refine Qt 9 ?_ | refine Qu 9 ?_ | fail)
              (first | refine Qr 10 ?_ | refine Qs 10 ?_ | refine Qxa 10 ?_ | refine Qya 10 ?_ | refine Qt 10 ?_ | refine Qu 10 ?_ | fail)
              refine Qw 11 ?_
              refine SXL.alloc rfl rfl (fun g16 => ?_)
              refine SXL.nil (SXA.next inferInstance ?_)
              refine Qw 13 ?_
              refine Qc ?_
              refine SXL.nil (SXA.nextLast rfl ?_)
              refine Qw 14 ?_
              refine Qc ?_
              refine SXL.nil (SXA.nextLast rfl ?_)
              refine Qv ?_
              refine SX.meet ⟨g16, g17, t6, b6, cap6, r6, Ad6, cd6, Ae6, ce6, hs6, rfl, rfl⟩ (by repeat (first | exact trivial | refine ⟨rfl, ?_⟩)) inferInstance
            · skip
              refine SXL.alloc rfl rfl (fun g16 => ?_)
              refine SXL.nil (SXA.next inferInstance ?_)
              refine Qw 7 ?_
              refine SXL.call rfl rfl rfl ?_
              refine (Do_S (t := dE lk k i) (ps := ps) (c := ca 11 1 1 (nm i) 0 0 []) (Ac := none) (cc := 0) inferInstance inferInstance hm hps hcap (ca_wf ⟨by decide, by decide⟩ ⟨by decide, by decide⟩ ⟨by decide, by decide⟩ u32_0 u64_0 rfl) (Nat.zero_le _) (Nat.le_refl _) inferInstance (fun _ _ => ⟨rmdirE, rmdir_S, fun t r => rfl⟩) (fun t6 r6 b6 cap6 ps6 Ad6 cd6 Ae6 ce6 he6 hcap6 hps6 m6 hd6 hx6 => callK.ret ?_))
              have hs6 : r6.st = 62 := by have h9 := fxi; rw [he6] at h9; exact h9
              refine SXL.nil (SXA.next inferInstance ?_)
              (first | refine Qr 8 ?_ | refine Qs 8 ?_ | refine Qxa 8 ?_ | refine Qya 8 ?_ | refine Qt 8 ?_ | refine Qu 8 ?_ | fail)
              (first | refine Qr 9 ?_ | refine Qs 9 ?_ | refine Qxa 9 ?_ | refine Qya 9 ?_ | refine Qt 9 ?_ | refine Qu 9 ?_ | fail)
              (first | refine Qr 10 ?_ | refine Qs 10 ?_ | refine Qxa 10 ?_ | refine Qya 10 ?_ | refine Qt 10 ?_ | refine Qu 10 ?_ | fail)
              refine Qw 13 ?_
              refine Qc ?_
              refine SXL.nil (SXA.nextLast rfl ?_)
              refine Qw 14 ?_
              refine Qc ?_
              refine SXL.nil (SXA.nextLast rfl ?_)
              refine Qv ?_
              refine SX.meet ⟨g16, g17, t6, b6, cap6, r6, Ad6, cd6, Ae6, ce6, hs6, rfl, rfl⟩ (by repeat (first | exact trivial | refine ⟨rfl, ?_⟩)) inferInstance
          · skip
            refine SXL.alloc rfl rfl (fun g16 => ?_)
            refine SXL.nil (SXA.next inferInstance ?_)
            refine Qw 5 ?_
            refine SXL.call rfl rfl rfl ?_
            refine (named13_S (k := (i : Int)) (by omega) (by omega) (callK.ret ?_))
            rw [hnm]
            refine SXL.nil (SXA.next inferInstance ?_)
            (first | refine Qr 6 ?_ | refine Qs 6 ?_ | refine Qxa 6 ?_ | refine Qya 6 ?_ | refine Qt 6 ?_ | refine Qu 6 ?_ | fail)
            refine Qw 7 ?_
            refine SXL.call rfl rfl rfl ?_
            refine (Do_S (t := dE lk k i) (ps := ps) (c := ca 11 1 1 (nm i) 0 0 []) (Ac := none) (cc := 0) inferInstance inferInstance hm hps hcap (ca_wf ⟨by decide, by decide⟩ ⟨by decide, by decide⟩ ⟨by decide, by decide⟩ u32_0 u64_0 rfl) (Nat.zero_le _) (Nat.le_refl _) inferInstance (fun _ _ => ⟨rmdirE, rmdir_S, fun t r => rfl⟩) (fun t6 r6 b6 cap6 ps6 Ad6 cd6 Ae6 ce6 he6 hcap6 hps6 m6 hd6 hx6 => callK.ret ?_))
            have hs6 : r6.st = 62 := by have h9 := fxi; rw [he6] at h9; exact h9
            refine SXL.nil (SXA.next inferInstance ?_)
            (first | refine Qr 8 ?_ | refine Qs 8 ?_ | refine Qxa 8 ?_ | refine Qya 8 ?_ | refine Qt 8 ?_ | refine Qu 8 ?_ | fail)
            (first | refine Qr 9 ?_ | refine Qs 9 ?_ | refine Qxa 9 ?_ | refine Qya 9 ?_ | refine Qt 9 ?_ | refine Qu 9 ?_ | fail)
            (first | refine Qr 10 ?_ | refine Qs 10 ?_ | refine Qxa 10 ?_ | refine Qya 10 ?_ | refine Qt 10 ?_ | refine Qu 10 ?_ | fail)
            refine Qw 13 ?_
            refine Qc ?_
            refine SXL.nil (SXA.nextLast rfl ?_)
            refine Qw 14 ?_
            refine Qc ?_
            refine SXL.nil (SXA.nextLast rfl ?_)
            refine Qv ?_
            refine SX.meet ⟨g16, g17, t6, b6, cap6, r6, Ad6, cd6, Ae6, ce6, hs6, rfl, rfl⟩ (by repeat (first | exact trivial | refine ⟨rfl, ?_⟩)) inferInstance
      rintro _ _ ⟨g16, g17, t6, b6, cap6, r6, Ad6, cd6, Ae6, ce6, hs6, rfl, rfl⟩
      repeat (first | refine Qf ?_ | refine Qg ?_ | refine Qh ?_ | refine Qi ?_ | refine Qj ?_ | refine Qk ?_ | refine Ql ?_ | fail)
      refine SX.cut (fun a' M' => ∃ (g18 g19 b7 cap7 : Nat) (ps7 : List Pl) (r7 : Re) (Ad7 : Option Addr) (cd7 : Nat) (Ae7 : Option Addr) (ce7 : Nat), r7.st = 0 ∧ 24 ≤ cap7 ∧ ps7.length = 24 ∧ (dE lk k (i + 1)).mid ∧ a' = [(6, .int .i64 k), (7, .pointer (some ⟨p7, 0, none⟩)), (8, .pointer (some ⟨p8, 0, none⟩)), (15, .int .i64 i), (17, .pointer (some ⟨g17, 0, none⟩)), (18, .pointer (some ⟨g18, 0, none⟩)), (19, .pointer (some ⟨g19, 0, none⟩))] ∧ (.own (some ⟨g18, 0, none⟩) (cellsR g18 (thC (some ⟨b7, 0, none⟩) 24 cap7 (dE lk k (i + 1)).ch (dE lk k (i + 1)).room) 27) :: .own (some ⟨g19, 0, none⟩) (cellsR g19 (reK r7 Ad7 cd7 Ae7 ce7) 49) :: thP b7 (dE lk k (i + 1)).l ps7 :: .per (datR (dE lk k (i + 1)).l ps7) :: .own (some ⟨g17, 0, none⟩) (cellsR g17 (reK r6 Ad6 cd6 Ae6 ce6) 49) :: .own (some ⟨p7, 0, none⟩) (cellsR p7 (thC (some ⟨b, 0, none⟩) 24 cap (dE lk k i).ch (dE lk k i).room) 27) :: .own (some ⟨p8, 0, none⟩) (cellsR p8 (reK { dm.2 with ai := 1, ag := 1 } Ad1 cd1 Ae1 ce1) 49) :: thP b (dE lk k i).l ps :: .per (datR (dE lk k i).l ps) :: F) = M') ?_ ?_
      · refine SXA.begin (.own (some ⟨g17, 0, none⟩) (cellsR g17 (reK r6 Ad6 cd6 Ae6 ce6) 49) :: .own (some ⟨p7, 0, none⟩) (cellsR p7 (thC (some ⟨b, 0, none⟩) 24 cap (dE lk k i).ch (dE lk k i).room) 27) :: .own (some ⟨p8, 0, none⟩) (cellsR p8 (reK { dm.2 with ai := 1, ag := 1 } Ad1 cd1 Ae1 ce1) 49) :: thP b (dE lk k i).l ps :: .per (datR (dE lk k i).l ps) :: F) [13, 14] ?_
        (first | refine Qr 0 ?_ | refine Qs 0 ?_ | refine Qxa 0 ?_ | refine Qya 0 ?_ | refine Qt 0 ?_ | refine Qu 0 ?_ | fail)
        (first | refine Qr 1 ?_ | refine Qs 1 ?_ | refine Qxa 1 ?_ | refine Qya 1 ?_ | refine Qt 1 ?_ | refine Qu 1 ?_ | fail)
        (first | refine Qr 3 ?_ | refine Qs 3 ?_ | refine Qxa 3 ?_ | refine Qya 3 ?_ | refine Qt 3 ?_ | refine Qu 3 ?_ | fail)
        (first | refine Qr 2 ?_ | refine Qs 2 ?_ | refine Qxa 2 ?_ | refine Qya 2 ?_ | refine Qt 2 ?_ | refine Qu 2 ?_ | fail)
        (first | refine Qr 4 ?_ | refine Qs 4 ?_ | refine Qxa 4 ?_ | refine Qya 4 ?_ | refine Qt 4 ?_ | refine Qu 4 ?_ | fail)
        rw [hku]
        refine SXA.all [5, 11, 12] (by decide +kernel) (Each.cons rfl ?_ (Each.cons rfl ?_ (Each.cons rfl ?_ Each.nil)))
        · skip
          refine SXL.call rfl rfl rfl ?_
          refine (named13_S (k := (i : Int)) (by omega) (by omega) (callK.ret ?_))
          rw [hnm]
          refine SXL.nil (SXA.next inferInstance ?_)
          (first | refine Qr 6 ?_ | refine Qs 6 ?_ | refine Qxa 6 ?_ | refine Qya 6 ?_ | refine Qt 6 ?_ | refine Qu 6 ?_ | fail)
          refine SXA.all [7, 11, 12] (by decide +kernel) (Each.cons rfl ?_ (Each.cons rfl ?_ (Each.cons rfl ?_ Each.nil)))
          · skip
            refine SXL.call rfl rfl rfl ?_
            refine (Do_S (t := dE lk k i) (ps := ps) (c := ca 10 1 1 (nm i) 0 0 []) (Ac := none) (cc := 0) inferInstance inferInstance hm hps hcap (ca_wf ⟨by decide, by decide⟩ ⟨by decide, by decide⟩ ⟨by decide, by decide⟩ u32_0 u64_0 rfl) (Nat.zero_le _) (Nat.le_refl _) inferInstance (fun _ _ => ⟨removeE, remove_S, fun t r => rfl⟩) (fun t7 r7 b7 cap7 ps7 Ad7 cd7 Ae7 ce7 he7 hcap7 hps7 m7 hd7 hx7 => callK.ret ?_))
            have hs7 : r7.st = 0 := by have h9 := fyi; rw [he7] at h9; exact h9
            obtain rfl : t7 = dE lk k (i + 1) := by rw [dE_succ, he7]
            clear he7
            refine SXL.nil (SXA.next inferInstance ?_)
            (first | refine Qr 8 ?_ | refine Qs 8 ?_ | refine Qxa 8 ?_ | refine Qya 8 ?_ | refine Qt 8 ?_ | refine Qu 8 ?_ | fail)
            (first | refine Qr 9 ?_ | refine Qs 9 ?_ | refine Qxa 9 ?_ | refine Qya 9 ?_ | refine Qt 9 ?_ | refine Qu 9 ?_ | fail)
            (first | refine Qr 10 ?_ | refine Qs 10 ?_ | refine Qxa 10 ?_ | refine Qya 10 ?_ | refine Qt 10 ?_ | refine Qu 10 ?_ | fail)
            refine SXA.all [11, 12] (by decide +kernel) (Each.cons rfl ?_ (Each.cons rfl ?_ Each.nil))
            · skip
              refine SXL.alloc rfl rfl (fun g18 => ?_)
              refine SXL.nil (SXA.next inferInstance ?_)
              refine Qw 12 ?_
              refine SXL.alloc rfl rfl (fun g19 => ?_)
              refine SXL.nil (SXA.next inferInstance ?_)
              refine Qw 13 ?_
              refine Qc ?_
              refine SXL.nil (SXA.nextLast rfl ?_)
              refine Qw 14 ?_
              refine Qc ?_
              refine SXL.nil (SXA.nextLast rfl ?_)
              refine Qv ?_
              refine SX.meet ⟨g18, g19, b7, cap7, ps7, r7, Ad7, cd7, Ae7, ce7, hs7, hcap7, hps7, m7, rfl, rfl⟩ (by repeat (first | exact trivial | refine ⟨rfl, ?_⟩)) inferInstance
            · skip
              refine SXL.alloc rfl rfl (fun g19 => ?_)
              refine SXL.nil (SXA.next inferInstance ?_)
              refine Qw 11 ?_
              refine SXL.alloc rfl rfl (fun g18 => ?_)
              refine SXL.nil (SXA.next inferInstance ?_)
              refine Qw 13 ?_
              refine Qc ?_
              refine SXL.nil (SXA.nextLast rfl ?_)
              refine Qw 14 ?_
              refine Qc ?_
              refine SXL.nil (SXA.nextLast rfl ?_)
              refine Qv ?_
              refine SX.meet ⟨g18, g19, b7, cap7, ps7, r7, Ad7, cd7, Ae7, ce7, hs7, hcap7, hps7, m7, rfl, rfl⟩ (by repeat (first | exact trivial | refine ⟨rfl, ?_⟩)) inferInstance
          · skip
            refine SXL.alloc rfl rfl (fun g18 => ?_)
            refine SXL.nil (SXA.next inferInstance ?_)
            refine SXA.all [7, 12] (by decide +kernel) (Each.cons rfl ?_ (Each.cons rfl ?_ Each.nil))
            · skip
              refine SXL.call rfl rfl rfl ?_
              refine (Do_S (t := dE lk k i) (ps := ps) (c := ca 10 1 1 (nm i) 0 0 []) (Ac := none) (cc := 0) inferInstance inferInstance hm hps hcap (ca_wf ⟨by decide, by decide⟩ ⟨by decide, by decide⟩ ⟨by decide, by decide⟩ u32_0 u64_0 rfl) (Nat.zero_le _) (Nat.le_refl _) inferInstance (fun _ _ => ⟨removeE, remove_S, fun t r => rfl⟩) (fun t7 r7 b7 cap7 ps7 Ad7 cd7 Ae7 ce7 he7 hcap7 hps7 m7 hd7 hx7 => callK.ret ?_))
              have hs7 : r7.st = 0 := by have h9 := fyi; rw [he7] at h9; exact h9
              obtain rfl : t7 = dE lk k (i + 1) := by rw [dE_succ, he7]
              clear he7
              refine SXL.nil (SXA.next inferInstance ?_)
              (first | refine Qr 8 ?_ | refine Qs 8 ?_ | refine Qxa 8 ?_ | refine Qya 8 ?_ | refine Qt 8 ?_ | refine Qu 8 ?_ | fail)
              (first | refine Qr 9 ?_ | refine Qs 9 ?_ | refine Qxa 9 ?_ | refine Qya 9 ?_ | refine Qt 9 ?_ | refine Qu 9 ?_ | fail)
              (first | refine Qr 10 ?_ | refine Qs 10 ?_ | refine Qxa 10 ?_ | refine Qya 10 ?_ | refine Qt 10 ?_ | refine Qu 10 ?_ | fail)
              refine Qw 12 ?_
              refine SXL.alloc rfl rfl (fun g19 => ?_)
              refine SXL.nil (SXA.next inferInstance ?_)
              refine Qw 13 ?_
              refine Qc ?_
              refine SXL.nil (SXA.nextLast rfl ?_)
              refine Qw 14 ?_
              refine Qc ?_
              refine SXL.nil (SXA.nextLast rfl ?_)
              refine Qv ?_
              refine SX.meet ⟨g18, g19, b7, cap7, ps7, r7, Ad7, cd7, Ae7, ce7, hs7, hcap7, hps7, m7, rfl, rfl⟩ (by repeat (first | exact trivial | refine ⟨rfl, ?_⟩)) inferInstance
            · skip
              refine SXL.alloc rfl rfl (fun g19 => ?_)
              refine SXL.nil (SXA.next inferInstance ?_)
              refine Qw 7 ?_
              refine SXL.call rfl rfl rfl ?_
              refine (Do_S (t := dE lk k i) (ps := ps) (c := ca 10 1 1 (nm i) 0 0 []) (Ac := none) (cc := 0) inferInstance inferInstance hm hps hcap (ca_wf ⟨by decide, by decide⟩ ⟨by decide, by decide⟩ ⟨by decide, by decide⟩ u32_0 u64_0 rfl) (Nat.zero_le _) (Nat.le_refl _) inferInstance (fun _ _ => ⟨removeE, remove_S, fun t r => rfl⟩) (fun t7 r7 b7 cap7 ps7 Ad7 cd7 Ae7 ce7 he7 hcap7 hps7 m7 hd7 hx7 => callK.ret ?_))
              have hs7 : r7.st = 0 := by have h9 := fyi; rw [he7] at h9; exact h9
              obtain rfl : t7 = dE lk k (i + 1) := by rw [dE_succ, he7]
              clear he7
              refine SXL.nil (SXA.next inferInstance ?_)
              (first | refine Qr 8 ?_ | refine Qs 8 ?_ | refine Qxa 8 ?_ | refine Qya 8 ?_ | refine Qt 8 ?_ | refine Qu 8 ?_ | fail)
              (first | refine Qr 9 ?_ | refine Qs 9 ?_ | refine Qxa 9 ?_ | refine Qya 9 ?_ | refine Qt 9 ?_ | refine Qu 9 ?_ | fail)
              (first | refine Qr 10 ?_ | refine Qs 10 ?_ | refine Qxa 10 ?_ | refine Qya 10 ?_ | refine Qt 10 ?_ | refine Qu 10 ?_ | fail)
              refine Qw 13 ?_
              refine Qc ?_
              refine SXL.nil (SXA.nextLast rfl ?_)
              refine Qw 14 ?_
              refine Qc ?_
              refine SXL.nil (SXA.nextLast rfl ?_)
              refine Qv ?_
              refine SX.meet ⟨g18, g19, b7, cap7, ps7, r7, Ad7, cd7, Ae7, ce7, hs7, hcap7, hps7, m7, rfl, rfl⟩ (by repeat (first | exact trivial | refine ⟨rfl, ?_⟩)) inferInstance
          · skip
            refine SXL.alloc rfl rfl (fun g19 => ?_)
            refine SXL.nil (SXA.next inferInstance ?_)
            refine SXA.all [7, 11] (by decide +kernel) (Each.cons rfl ?_ (Each.cons rfl ?_ Each.nil))
            · skip
              refine SXL.call rfl rfl rfl ?_
              refine (Do_S (t := dE lk k i) (ps := ps) (c := ca 10 1 1 (nm i) 0 0 []) (Ac := none) (cc := 0) inferInstance inferInstance hm hps hcap (ca_wf ⟨by decide, by decide⟩ ⟨by decide, by decide⟩ ⟨by decide, by decide⟩ u32_0 u64_0 rfl) (Nat.zero_le _) (Nat.le_refl _) inferInstance (fun _ _ => ⟨removeE, remove_S, fun t r => rfl⟩) (fun t7 r7 b7 cap7 ps7 Ad7 cd7 Ae7 ce7 he7 hcap7 hps7 m7 hd7 hx7 => callK.ret ?_))
              have hs7 : r7.st = 0 := by have h9 := fyi; rw [he7] at h9; exact h9
              obtain rfl : t7 = dE lk k (i + 1) := by rw [dE_succ, he7]
              clear he7
              refine SXL.nil (SXA.next inferInstance ?_)
              (first | refine Qr 8 ?_ | refine Qs 8 ?_ | refine Qxa 8 ?_ | refine Qya 8 ?_ | refine Qt 8 ?_ | refine Qu 8 ?_ | fail)
              (first | refine Qr 9 ?_ | refine Qs 9 ?_ | refine Qxa 9 ?_ | refine Qya 9 ?_ | refine Qt 9 ?_ | refine Qu 9 ?_ | fail)
              (first | refine Qr 10 ?_ | refine Qs 10 ?_ | refine Qxa 10 ?_ | refine Qya 10 ?_ | refine Qt 10 ?_ | refine Qu 10 ?_ | fail)
              refine Qw 11 ?_
              refine SXL.alloc rfl rfl (fun g18 => ?_)
              refine SXL.nil (SXA.next inferInstance ?_)
              refine Qw 13 ?_
              refine Qc ?_
              refine SXL.nil (SXA.nextLast rfl ?_)
              refine Qw 14 ?_
              refine Qc ?_
              refine SXL.nil (SXA.nextLast rfl ?_)
              refine Qv ?_
              refine SX.meet ⟨g18, g19, b7, cap7, ps7, r7, Ad7, cd7, Ae7, ce7, hs7, hcap7, hps7, m7, rfl, rfl⟩ (by repeat (first | exact trivial | refine ⟨rfl, ?_⟩)) inferInstance
            · skip
              refine SXL.alloc rfl rfl (fun g18 => ?_)
              refine SXL.nil (SXA.next inferInstance ?_)
              refine Qw 7 ?_
              refine SXL.call rfl rfl rfl ?_
              refine (Do_S (t := dE lk k i) (ps := ps) (c := ca 10 1 1 (nm i) 0 0 []) (Ac := none) (cc := 0) inferInstance inferInstance hm hps hcap (ca_wf ⟨by decide, by decide⟩ ⟨by decide, by decide⟩ ⟨by decide, by decide⟩ u32_0 u64_0 rfl) (Nat.zero_le _) (Nat.le_refl _) inferInstance (fun _ _ => ⟨removeE, remove_S, fun t r => rfl⟩) (fun t7 r7 b7 cap7 ps7 Ad7 cd7 Ae7 ce7 he7 hcap7 hps7 m7 hd7 hx7 => callK.ret ?_))
              have hs7 : r7.st = 0 := by have h9 := fyi; rw [he7] at h9; exact h9
              obtain rfl : t7 = dE lk k (i + 1) := by rw [dE_succ, he7]
              clear he7
              refine SXL.nil (SXA.next inferInstance ?_)
              (first | refine Qr 8 ?_ | refine Qs 8 ?_ | refine Qxa 8 ?_ | refine Qya 8 ?_ | refine Qt 8 ?_ | refine Qu 8 ?_ | fail)
              (first | refine Qr 9 ?_ | refine Qs 9 ?_ | refine Qxa 9 ?_ | refine Qya 9 ?_ | refine Qt 9 ?_ | refine Qu 9 ?_ | fail)
              (first | refine Qr 10 ?_ | refine Qs 10 ?_ | refine Qxa 10 ?_ | refine Qya 10 ?_ | refine Qt 10 ?_ | refine Qu 10 ?_ | fail)
              refine Qw 13 ?_
              refine Qc ?_
              refine SXL.nil (SXA.nextLast rfl ?_)
              refine Qw 14 ?_
              refine Qc ?_
              refine SXL.nil (SXA.nextLast rfl ?_)
              refine Qv ?_
              refine SX.meet ⟨g18, g19, b7, cap7, ps7, r7, Ad7, cd7, Ae7, ce7, hs7, hcap7, hps7, m7, rfl, rfl⟩ (by repeat (first | exact trivial | refine ⟨rfl, ?_⟩)) inferInstance
        · skip
          refine SXL.alloc rfl rfl (fun g18 => ?_)
          refine SXL.nil (SXA.next inferInstance ?_)
          refine SXA.all [5, 12] (by decide +kernel) (Each.cons rfl ?_ (Each.cons rfl ?_ Each.nil))
          · skip
            refine SXL.call rfl rfl rfl ?_
            refine (named13_S (k := (i : Int)) (by omega) (by omega) (callK.ret ?_))
            rw [hnm]
            refine SXL.nil (SXA.next inferInstance ?_)
            (first | refine Qr 6 ?_ | refine Qs 6 ?_ | refine Qxa 6 ?_ | refine Qya 6 ?_ | refine Qt 6 ?_ | refine Qu 6 ?_ | fail)
            refine SXA.all [7, 12] (by decide +kernel) (Each.cons rfl ?_ (Each.cons rfl ?_ Each.nil))
            · skip
              refine SXL.call rfl rfl rfl ?_
              refine (Do_S (t := dE lk k i) (ps := ps) (c := ca 10 1 1 (nm i) 0 0 []) (Ac := none) (cc := 0) inferInstance inferInstance hm hps hcap (ca_wf ⟨by decide, by decide⟩ ⟨by decide, by decide⟩ ⟨by decide, by decide⟩ u32_0 u64_0 rfl) (Nat.zero_le _) (Nat.le_refl _) inferInstance (fun _ _ => ⟨removeE, remove_S, fun t r => rfl⟩) (fun t7 r7 b7 cap7 ps7 Ad7 cd7 Ae7 ce7 he7 hcap7 hps7 m7 hd7 hx7 => callK.ret ?_))
              have hs7 : r7.st = 0 := by have h9 := fyi; rw [he7] at h9; exact h9
              obtain rfl : t7 = dE lk k (i + 1) := by rw [dE_succ, he7]
              clear he7
              refine SXL.nil (SXA.next inferInstance ?_)
              (first | refine Qr 8 ?_ | refine Qs 8 ?_ | refine Qxa 8 ?_ | refine Qya 8 ?_ | refine Qt 8 ?_ | refine Qu 8 ?_ | fail)
              (first | refine Qr 9 ?_ | refine Qs 9 ?_ | refine Qxa 9 ?_ | refine Qya 9 ?_ | refine Qt 9 ?_ | refine Qu 9 ?_ | fail)
              (first | refine Qr 10 ?_ | refine Qs 10 ?_ | refine Qxa 10 ?_ | refine Qya 10 ?_ | refine Qt 10 ?_ | refine Qu 10 ?_ | fail)
              refine Qw 12 ?_
              refine SXL.alloc rfl rfl (fun g19 => ?_)
              refine SXL.nil (SXA.next inferInstance ?_)
              refine Qw 13 ?_
              refine Qc ?_
              refine SXL.nil (SXA.nextLast rfl ?_)
              refine Qw 14 ?_
              refine Qc ?_
              refine SXL.nil (SXA.nextLast rfl ?_)
              refine Qv ?_
              refine SX.meet ⟨g18, g19, b7, cap7, ps7, r7, Ad7, cd7, Ae7, ce7, hs7, hcap7, hps7, m7, rfl, rfl⟩ (by repeat (first | exact trivial | refine ⟨rfl, ?_⟩)) inferInstance
            · skip
              refine SXL.alloc rfl rfl (fun g19 => ?_)
              refine SXL.nil (SXA.next inferInstance ?_)
              refine Qw 7 ?_
              refine SXL.call rfl rfl rfl ?_
              refine (Do_S (t := dE lk k i) (ps := ps) (c := ca 10 1 1 (nm i) 0 0 []) (Ac := none) (cc := 0) inferInstance inferInstance hm hps hcap (ca_wf ⟨by decide, by decide⟩ ⟨by decide, by decide⟩ ⟨by decide, by decide⟩ u32_0 u64_0 rfl) (Nat.zero_le _) (Nat.le_refl _) inferInstance (fun _ _ => ⟨removeE, remove_S, fun t r => rfl⟩) (fun t7 r7 b7 cap7 ps7 Ad7 cd7 Ae7 ce7 he7 hcap7 hps7 m7 hd7 hx7 => callK.ret ?_))
              have hs7 : r7.st = 0 := by have h9 := fyi; rw [he7] at h9; exact h9
              obtain rfl : t7 = dE lk k (i + 1) := by rw [dE_succ, he7]
              clear he7
              refine SXL.nil (SXA.next inferInstance ?_)
              (first | refine Qr 8 ?_ | refine Qs 8 ?_ | refine Qxa 8 ?_ | refine Qya 8 ?_ | refine Qt 8 ?_ | refine Qu 8 ?_ | fail)
              (first | refine Qr 9 ?_ | refine Qs 9 ?_ | refine Qxa 9 ?_ | refine Qya 9 ?_ | refine Qt 9 ?_ | refine Qu 9 ?_ | fail)
              (first | refine Qr 10 ?_ | refine Qs 10 ?_ | refine Qxa 10 ?_ | refine Qya 10 ?_ | refine Qt 10 ?_ | refine Qu 10 ?_ | fail)
              refine Qw 13 ?_
              refine Qc ?_
              refine SXL.nil (SXA.nextLast rfl ?_)
              refine Qw 14 ?_
              refine Qc ?_
              refine SXL.nil (SXA.nextLast rfl ?_)
              refine Qv ?_
              refine SX.meet ⟨g18, g19, b7, cap7, ps7, r7, Ad7, cd7, Ae7, ce7, hs7, hcap7, hps7, m7, rfl, rfl⟩ (by repeat (first | exact trivial | refine ⟨rfl, ?_⟩)) inferInstance
          · skip
            refine SXL.alloc rfl rfl (fun g19 => ?_)
            refine SXL.nil (SXA.next inferInstance ?_)
            refine Qw 5 ?_
            refine SXL.call rfl rfl rfl ?_
            refine (named13_S (k := (i : Int)) (by omega) (by omega) (callK.ret ?_))
            rw [hnm]
            refine SXL.nil (SXA.next inferInstance ?_)
            (first | refine Qr 6 ?_ | refine Qs 6 ?_ | refine Qxa 6 ?_ | refine Qya 6 ?_ | refine Qt 6 ?_ | refine Qu 6 ?_ | fail)
            refine Qw 7 ?_
            refine SXL.call rfl rfl rfl ?_
            refine (Do_S (t := dE lk k i) (ps := ps) (c := ca 10 1 1 (nm i) 0 0 []) (Ac := none) (cc := 0) inferInstance inferInstance hm hps hcap (ca_wf ⟨by decide, by decide⟩ ⟨by decide, by decide⟩ ⟨by decide, by decide⟩ u32_0 u64_0 rfl) (Nat.zero_le _) (Nat.le_refl _) inferInstance (fun _ _ => ⟨removeE, remove_S, fun t r => rfl⟩) (fun t7 r7 b7 cap7 ps7 Ad7 cd7 Ae7 ce7 he7 hcap7 hps7 m7 hd7 hx7 => callK.ret ?_))
            have hs7 : r7.st = 0 := by have h9 := fyi; rw [he7] at h9; exact h9
            obtain rfl : t7 = dE lk k (i + 1) := by rw [dE_succ, he7]
            clear he7
            refine SXL.nil (SXA.next inferInstance ?_)
            (first | refine Qr 8 ?_ | refine Qs 8 ?_ | refine Qxa 8 ?_ | refine Qya 8 ?_ | refine Qt 8 ?_ | refine Qu 8 ?_ | fail)
            (first | refine Qr 9 ?_ | refine Qs 9 ?_ | refine Qxa 9 ?_ | refine Qya 9 ?_ | refine Qt 9 ?_ | refine Qu 9 ?_ | fail)
            (first | refine Qr 10 ?_ | refine Qs 10 ?_ | refine Qxa 10 ?_ | refine Qya 10 ?_ | refine Qt 10 ?_ | refine Qu 10 ?_ | fail)
            refine Qw 13 ?_
            refine Qc ?_
            refine SXL.nil (SXA.nextLast rfl ?_)
            refine Qw 14 ?_
            refine Qc ?_
            refine SXL.nil (SXA.nextLast rfl ?_)
            refine Qv ?_
            refine SX.meet ⟨g18, g19, b7, cap7, ps7, r7, Ad7, cd7, Ae7, ce7, hs7, hcap7, hps7, m7, rfl, rfl⟩ (by repeat (first | exact trivial | refine ⟨rfl, ?_⟩)) inferInstance
        · skip
          refine SXL.alloc rfl rfl (fun g19 => ?_)
          refine SXL.nil (SXA.next inferInstance ?_)
          refine SXA.all [5, 11] (by decide +kernel) (Each.cons rfl ?_ (Each.cons rfl ?_ Each.nil))
          · skip
            refine SXL.call rfl rfl rfl ?_
            refine (named13_S (k := (i : Int)) (by omega) (by omega) (callK.ret ?_))
            rw [hnm]
            refine SXL.nil (SXA.next inferInstance ?_)
            (first | refine Qr 6 ?_ | refine Qs 6 ?_ | refine Qxa 6 ?_ | refine Qya 6 ?_ | refine Qt 6 ?_ | refine Qu 6 ?_ | fail)
            refine SXA.all [7, 11] (by decide +kernel) (Each.cons rfl ?_ (Each.cons rfl ?_ Each.nil))
            · skip
              refine SXL.call rfl rfl rfl ?_
              refine (Do_S (t := dE lk k i) (ps := ps) (c := ca 10 1 1 (nm i) 0 0 []) (Ac := none) (cc := 0) inferInstance inferInstance hm hps hcap (ca_wf ⟨by decide, by decide⟩ ⟨by decide, by decide⟩ ⟨by decide, by decide⟩ u32_0 u64_0 rfl) (Nat.zero_le _) (Nat.le_refl _) inferInstance (fun _ _ => ⟨removeE, remove_S, fun t r => rfl⟩) (fun t7 r7 b7 cap7 ps7 Ad7 cd7 Ae7 ce7 he7 hcap7 hps7 m7 hd7 hx7 => callK.ret ?_))
              have hs7 : r7.st = 0 := by have h9 := fyi; rw [he7] at h9; exact h9
              obtain rfl : t7 = dE lk k (i + 1) := by rw [dE_succ, he7]
              clear he7
              refine SXL.nil (SXA.next inferInstance ?_)
              (first | refine Qr 8 ?_ | refine Qs 8 ?_ | refine Qxa 8 ?_ | refine Qya 8 ?_ | refine Qt 8 ?_ | refine Qu 8 ?_ | fail)
              (first | refine Qr 9 ?_ | refine Qs 9 ?_ | refine Qxa 9 ?_ | refine Qya 9 ?_ | refine Qt 9 ?_ | refine Qu 9 ?_ | fail)
              (first | refine Qr 10 ?_ | refine Qs 10 ?_ | refine Qxa 10 ?_ | refine Qya 10 ?_ | refine Qt 10 ?_ | refine Qu 10 ?_ | fail)
              refine Qw 11 ?_
              refine SXL.alloc rfl rfl (fun g18 => ?_)
              refine SXL.nil (SXA.next inferInstance ?_)
              refine Qw 13 ?_
              refine Qc ?_
              refine SXL.nil (SXA.nextLast rfl ?_)
              refine Qw 14 ?_
              refine Qc ?_
              refine SXL.nil (SXA.nextLast rfl ?_)
              refine Qv ?_
              refine SX.meet ⟨g18, g19, b7, cap7, ps7, r7, Ad7, cd7, Ae7, ce7, hs7, hcap7, hps7, m7, rfl, rfl⟩ (by repeat (first | exact trivial | refine ⟨rfl, ?_⟩)) inferInstance
            · skip
              refine SXL.alloc rfl rfl (fun g18 => ?_)
              refine SXL.nil (SXA.next inferInstance ?_)
              refine Qw 7 ?_
              refine SXL.call rfl rfl rfl ?_
              refine (Do_S (t := dE lk k i) (ps := ps) (c := ca 10 1 1 (nm i) 0 0 []) (Ac := none) (cc := 0) inferInstance inferInstance hm hps hcap (ca_wf ⟨by decide, by decide⟩ ⟨by decide, by decide⟩ ⟨by decide, by decide⟩ u32_0 u64_0 rfl) (Nat.zero_le _) (Nat.le_refl _) inferInstance (fun _ _ => ⟨removeE, remove_S, fun t r => rfl⟩) (fun t7 r7 b7 cap7 ps7 Ad7 cd7 Ae7 ce7 he7 hcap7 hps7 m7 hd7 hx7 => callK.ret ?_))
              have hs7 : r7.st = 0 := by have h9 := fyi; rw [he7] at h9; exact h9
              obtain rfl : t7 = dE lk k (i + 1) := by rw [dE_succ, he7]
              clear he7
              refine SXL.nil (SXA.next inferInstance ?_)
              (first | refine Qr 8 ?_ | refine Qs 8 ?_ | refine Qxa 8 ?_ | refine Qya 8 ?_ | refine Qt 8 ?_ | refine Qu 8 ?_ | fail)
              (first | refine Qr 9 ?_ | refine Qs 9 ?_ | refine Qxa 9 ?_ | refine Qya 9 ?_ | refine Qt 9 ?_ | refine Qu 9 ?_ | fail)
              (first | refine Qr 10 ?_ | refine Qs 10 ?_ | refine Qxa 10 ?_ | refine Qya 10 ?_ | refine Qt 10 ?_ | refine Qu 10 ?_ | fail)
              refine Qw 13 ?_
              refine Qc ?_
              refine SXL.nil (SXA.nextLast rfl ?_)
              refine Qw 14 ?_
              refine Qc ?_
              refine SXL.nil (SXA.nextLast rfl ?_)
              refine Qv ?_
              refine SX.meet ⟨g18, g19, b7, cap7, ps7, r7, Ad7, cd7, Ae7, ce7, hs7, hcap7, hps7, m7, rfl, rfl⟩ (by repeat (first | exact trivial | refine ⟨rfl, ?_⟩)) inferInstance
          · skip
            refine SXL.alloc rfl rfl (fun g18 => ?_)
            refine SXL.nil (SXA.next inferInstance ?_)
            refine Qw 5 ?_
            refine SXL.call rfl rfl rfl ?_
            refine (named13_S (k := (i : Int)) (by omega) (by omega) (callK.ret ?_))
            rw [hnm]
            refine SXL.nil (SXA.next inferInstance ?_)
            (first | refine Qr 6 ?_ | refine Qs 6 ?_ | refine Qxa 6 ?_ | refine Qya 6 ?_ | refine Qt 6 ?_ | refine Qu 6 ?_ | fail)
            refine Qw 7 ?_
            refine SXL.call rfl rfl rfl ?_
            refine (Do_S (t := dE lk k i) (ps := ps) (c := ca 10 1 1 (nm i) 0 0 []) (Ac := none) (cc := 0) inferInstance inferInstance hm hps hcap (ca_wf ⟨by decide, by decide⟩ ⟨by decide, by decide⟩ ⟨by decide, by decide⟩ u32_0 u64_0 rfl) (Nat.zero_le _) (Nat.le_refl _) inferInstance (fun _ _ => ⟨removeE, remove_S, fun t r => rfl⟩) (fun t7 r7 b7 cap7 ps7 Ad7 cd7 Ae7 ce7 he7 hcap7 hps7 m7 hd7 hx7 => callK.ret ?_))
            have hs7 : r7.st = 0 := by have h9 := fyi; rw [he7] at h9; exact h9
            obtain rfl : t7 = dE lk k (i + 1) := by rw [dE_succ, he7]
            clear he7
            refine SXL.nil (SXA.next inferInstance ?_)
            (first | refine Qr 8 ?_ | refine Qs 8 ?_ | refine Qxa 8 ?_ | refine Qya 8 ?_ | refine Qt 8 ?_ | refine Qu 8 ?_ | fail)
            (first | refine Qr 9 ?_ | refine Qs 9 ?_ | refine Qxa 9 ?_ | refine Qya 9 ?_ | refine Qt 9 ?_ | refine Qu 9 ?_ | fail)
            (first | refine Qr 10 ?_ | refine Qs 10 ?_ | refine Qxa 10 ?_ | refine Qya 10 ?_ | refine Qt 10 ?_ | refine Qu 10 ?_ | fail)
            refine Qw 13 ?_
            refine Qc ?_
            refine SXL.nil (SXA.nextLast rfl ?_)
            refine Qw 14 ?_
            refine Qc ?_
            refine SXL.nil (SXA.nextLast rfl ?_)
            refine Qv ?_
            refine SX.meet ⟨g18, g19, b7, cap7, ps7, r7, Ad7, cd7, Ae7, ce7, hs7, hcap7, hps7, m7, rfl, rfl⟩ (by repeat (first | exact trivial | refine ⟨rfl, ?_⟩)) inferInstance
      rintro _ _ ⟨g18, g19, b7, cap7, ps7, r7, Ad7, cd7, Ae7, ce7, hs7, hcap7, hps7, m7, rfl, rfl⟩
      unfold reK
      rw [hs6, hs7]
      repeat (first | refine Qa ?_ | refine Qb ?_ | refine Qc ?_ | refine Qd ?_ | refine Qe ?_ | refine Qf ?_ | refine Qg ?_ | refine Qh ?_ | refine Qi ?_ | refine Qj ?_ | refine Qk ?_ | refine Ql ?_ | refine Qm ?_ | refine Qn ?_ | refine Qo ?_ | refine Qp ?_ | refine Qq ?_ | fail)
      refine SX.same 15 (.int .i64 ((i + 1 : Nat) : Int)) rfl (by simp (disch := omega) only [IntWalk.i64_in, IntWalk.u8_in, IntWalk.u32_in, IntWalk.u64_in, IntWalk.rem_in, Int.natCast_add, Int.natCast_one]) ?_
      refine SX.again (z - 1) (by omega) ⟨i + 1, b7, cap7, ps7, by omega, hcap7, hps7, m7, rfl, rfl⟩ (by repeat (first | exact trivial | refine ⟨rfl, ?_⟩)) inferInstance
    have hik : i = k := by omega
    subst hik
    repeat (first | refine Qa ?_ | refine Qb ?_ | refine Qc ?_ | refine Qd ?_ | refine Qe ?_ | refine Qf ?_ | refine Qg ?_ | refine Qh ?_ | refine Qi ?_ | refine Qj ?_ | refine Qk ?_ | refine Ql ?_ | refine Qm ?_ | refine Qn ?_ | refine Qo ?_ | refine Qp ?_ | refine Qq ?_ | fail)
    refine SXL.call rfl rfl rfl ?_
    refine (Do_S (t := dE lk i i) (ps := ps) (c := ca 11 0 1 ⟨#[100]⟩ 0 0 []) (Ac := none) (cc := 0) inferInstance inferInstance hm hps hcap (ca_wf ⟨by decide, by decide⟩ u32_0 ⟨by decide, by decide⟩ u32_0 u64_0 rfl) (Nat.zero_le _) (Nat.le_refl _) inferInstance (fun _ _ => ⟨rmdirE, rmdir_S, fun t r => rfl⟩) (fun t8 r8 b8 cap8 ps8 Ad8 cd8 Ae8 ce8 he8 hcap8 hps8 m8 hd8 hx8 => callK.ret ?_))
    obtain ⟨rfl, rfl⟩ : t8 = (dU lk i).1 ∧ r8 = (dU lk i).2 := by rw [dU_def, he8]; exact ⟨rfl, rfl⟩
    clear he8
    repeat (first | refine Qa ?_ | refine Qb ?_ | refine Qc ?_ | refine Qd ?_ | refine Qe ?_ | refine Qf ?_ | refine Qg ?_ | refine Qh ?_ | refine Qi ?_ | refine Qj ?_ | refine Qk ?_ | refine Ql ?_ | refine Qm ?_ | refine Qn ?_ | refine Qo ?_ | refine Qp ?_ | refine Qq ?_ | fail)
    refine SXL.alloc rfl rfl (fun p20 => ?_)
    repeat (first | refine Qa ?_ | refine Qb ?_ | refine Qc ?_ | refine Qd ?_ | refine Qe ?_ | refine Qf ?_ | refine Qg ?_ | refine Qh ?_ | refine Qi ?_ | refine Qj ?_ | refine Qk ?_ | refine Ql ?_ | refine Qm ?_ | refine Qn ?_ | refine Qo ?_ | refine Qp ?_ | refine Qq ?_ | fail)
    refine SXL.alloc rfl rfl (fun p21 => ?_)
    repeat (first | refine Qa ?_ | refine Qb ?_ | refine Qc ?_ | refine Qd ?_ | refine Qe ?_ | refine Qf ?_ | refine Qg ?_ | refine Qh ?_ | refine Qi ?_ | refine Qj ?_ | refine Qk ?_ | refine Ql ?_ | refine Qm ?_ | refine Qn ?_ | refine Qo ?_ | refine Qp ?_ | refine Qq ?_ | fail)
    rw [fc]
    refine SXL.call rfl rfl rfl ?_
    refine (Do_S (t := (dU lk i).1) (ps := ps8) (c := ca 1 1 1 ⟨#[97]⟩ 0 0 []) (Ac := none) (cc := 0) inferInstance inferInstance m8 hps8 hcap8 (ca_wf ⟨by decide, by decide⟩ ⟨by decide, by decide⟩ ⟨by decide, by decide⟩ u32_0 u64_0 rfl) (Nat.zero_le _) (Nat.le_refl _) inferInstance (fun _ _ => ⟨lookupE, lookup_S, fun t r => rfl⟩) (fun t9 r9 b9 cap9 ps9 Ad9 cd9 Ae9 ce9 he9 hcap9 hps9 m9 hd9 hx9 => callK.ret ?_))
    have hs9 : r9.st = 69 := by have h9 := fd; rw [he9] at h9; exact h9
    repeat (first | refine Qa ?_ | refine Qb ?_ | refine Qc ?_ | refine Qd ?_ | refine Qe ?_ | refine Qf ?_ | refine Qg ?_ | refine Qh ?_ | refine Qi ?_ | refine Qj ?_ | refine Qk ?_ | refine Ql ?_ | refine Qm ?_ | refine Qn ?_ | refine Qo ?_ | refine Qp ?_ | refine Qq ?_ | fail)
    refine SXL.alloc rfl rfl (fun p22 => ?_)
    repeat (first | refine Qa ?_ | refine Qb ?_ | refine Qc ?_ | refine Qd ?_ | refine Qe ?_ | refine Qf ?_ | refine Qg ?_ | refine Qh ?_ | refine Qi ?_ | refine Qj ?_ | refine Qk ?_ | refine Ql ?_ | refine Qm ?_ | refine Qn ?_ | refine Qo ?_ | refine Qp ?_ | refine Qq ?_ | fail)
    refine SXL.alloc rfl rfl (fun p23 => ?_)
    repeat (first | refine Qa ?_ | refine Qb ?_ | refine Qc ?_ | refine Qd ?_ | refine Qe ?_ | refine Qf ?_ | refine Qg ?_ | refine Qh ?_ | refine Qi ?_ | refine Qj ?_ | refine Qk ?_ | refine Ql ?_ | refine Qm ?_ | refine Qn ?_ | refine Qo ?_ | refine Qp ?_ | refine Qq ?_ | fail)
    rw [hs9]
    repeat (first | refine Qa ?_ | refine Qb ?_ | refine Qc ?_ | refine Qd ?_ | refine Qe ?_ | refine Qf ?_ | refine Qg ?_ | refine Qh ?_ | refine Qi ?_ | refine Qj ?_ | refine Qk ?_ | refine Ql ?_ | refine Qm ?_ | refine Qn ?_ | refine Qo ?_ | refine Qp ?_ | refine Qq ?_ | fail)
    refine SXL.call rfl rfl rfl ?_
    refine (Used_P (ts := (dU lk i).1.l) (ps := ps8) inferInstance m8.n hps8 hcap8 m8.m (callK.ret ?_))
    rw [fu]
    repeat (first | refine Qa ?_ | refine Qb ?_ | refine Qc ?_ | refine Qd ?_ | refine Qe ?_ | refine Qf ?_ | refine Qg ?_ | refine Qh ?_ | refine Qi ?_ | refine Qj ?_ | refine Qk ?_ | refine Ql ?_ | refine Qm ?_ | refine Qn ?_ | refine Qo ?_ | refine Qp ?_ | refine Qq ?_ | fail)
    refine SX.ret (M' := F) rfl (Evals.tmp rfl Evals.nil) ?_ inferInstance
    exact h
end
theorem OpsDirs_any (q : Int) (lk : Bool) (W : World) (wq : (Lit.int .u8 q).wf = true) :
    Calls Tryz.prog 11 #[.int .u8 q, .bool lk] W fun e w' => e = .returned (.bool true) ∧ Below W.heap.size W w' :=
  Fn.out W [.per (oldR W)] (Holds.ofStart (Holds.start0 W)) inferInstance
    (OpsDirs_S (u8_of_wf _ wq).1 (u8_of_wf _ wq).2 ⟨rfl, inferInstance⟩)
end Go.Proofs.YtanemmcddgkpdaaGreat.Sx
