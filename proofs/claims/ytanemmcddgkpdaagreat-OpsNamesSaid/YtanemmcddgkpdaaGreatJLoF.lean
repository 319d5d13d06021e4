/- Chapter 13: a name that may not be is refused by each op that takes one, walked; conditions: those that each theorem names. -/
import Derived.Test.YtanemmcddgkpdaaGreatJEy
import Derived.Test.YtanemmcddgkpdaaGreatJN0
import Derived.Test.YtanemmcddgkpdaaGreatJN7
namespace Go.Proofs.YtanemmcddgkpdaaGreat.Sx
open Go.RowKit Go.Proofs.YtanemmcddgkpdaaGreat.Hm Go.Proofs.YtanemmcddgkpdaaGreatW.PrintWords Go.Proofs.YtanemmcddgkpdaaGreatW.PrintLast Go.Proofs.YtanemmcddgkpdaaGreatW.PrintMore
set_option linter.unusedVariables false
set_option linter.unusedSimpArgs false
attribute [local irreducible] SX SXL SXA St callK Post Evals
attribute [local irreducible] doT
theorem er_t {t : Th} {c : Ca} {e : Int} {t' : Th} {r' : Re} (h1 : mayT t.l = true) (h2 : 1 ≤ c.op ∧ c.op ≤ 16) (h : opE t (toldR c) c = .error e) (he : doT t c = (t', r')) : r'.st = e ∧ t' = t := by
  rw [doT_op h1 h2.1 h2.2, h] at he
  injection he with h3 h4
  exact ⟨by rw [← h4], h3.symm⟩
theorem ok_t {t : Th} {c : Ca} {t' : Th} {r' : Re} {k : Nat} (h1 : mayT t.l = true) (h2 : 1 ≤ c.op ∧ c.op ≤ 16) (h : ∃ t2, opE t (toldR c) c = .ok (t2, tellS (atT t2 k) (toldR c))) (he : doT t c = (t', r')) : r'.st = 0 := by
  obtain ⟨t2, h⟩ := h
  rw [doT_op h1 h2.1 h2.2, h] at he
  injection he with h3 h4
  rw [← h4]
  rfl
section
variable {x : ByteArray} {r : Re}
theorem mk6 (h : nameE (bytesOf x) = 0) : ∃ t2, createE (formT 20) r (nc 6 x) = .ok (t2, tellS (atT t2 1) r) := by
  have hE : createE (formT 20) r (nc 6 x) = freshE (formT 20) r (nc 6 x) 0 1 0 [] := by
    unfold createE
    simp only [n_fo, n_named0 h, okE, show decide ((nc 6 x).cnt ≤ 2) = true from decide_eq_true (by show (0:Int) ≤ 2; decide), needT, n_found, if_neg (show ¬ (nc 6 x).cnt = 1 by show ¬ (0:Int) = 1; decide)]
  rw [hE]
  exact n_make rfl (Nat.zero_le _) h
theorem mk7 (h : nameE (bytesOf x) = 0) : ∃ t2, mkdirE (formT 20) r (nc 7 x) = .ok (t2, tellS (atT t2 1) r) := by
  have hE : mkdirE (formT 20) r (nc 7 x) = freshE (formT 20) r (nc 7 x) 0 2 0 [] := by
    unfold mkdirE vacantE
    simp only [n_fo, n_named0 h, okE, n_found, Option.isNone, needT, puE]
  rw [hE]
  exact n_make rfl (Nat.zero_le _) h
theorem mk8 (h : nameE (bytesOf x) = 0) : ∃ t2, symlinkE (formT 20) r (nc 8 x) = .ok (t2, tellS (atT t2 1) r) := by
  have hE : symlinkE (formT 20) r (nc 8 x) = freshE (formT 20) r (nc 8 x) 0 3 0 [120] := by
    unfold symlinkE vacantE
    simp only [n_fo, n_named0 h, okE, n_found, Option.isNone, needT, puE]
    rfl
  rw [hE]
  exact n_make rfl (by show 1 ≤ 100; decide) h
end
section
variable {F : List Thing} {K : Ending → List Thing → Prop} {x : ByteArray} {q : Int}
set_option maxRecDepth 20000 in
set_option maxHeartbeats 4000000 in
theorem OpsNames_S (h0 : 0 ≤ q) (h1 : q < 256) (h : K (.returned (.bool true)) F) : Fn (Tryz.prog) 6 [.string x, .int .u8 q] F K := by
  have hw : IntKind.i64.wrap q = q := IntWalk.i64_in _ (by omega)
  have ht : q.tmod 7 = q % 7 := Int.tmod_eq_emod_of_nonneg h0
  have hj : q % 7 = 0 ∨ q % 7 = 1 ∨ q % 7 = 2 ∨ q % 7 = 3 ∨ q % 7 = 4 ∨ q % 7 = 5 ∨ q % 7 = 6 := by omega
  refine Fn.enter Tryz.call6 Tryz.func6 rfl rfl rfl ?_
  repeat (first|refine Qa ?_|refine Qb ?_|refine Qc ?_|refine Qd ?_|refine Qe ?_|refine Qf ?_|refine Qg ?_|refine Qh ?_|refine Qi ?_|refine Qj ?_|refine Qk ?_|refine Ql ?_|refine Qm ?_|refine Qn ?_|refine Qo ?_|refine Qp ?_|refine Qq ?_|fail)
  refine SXL.call rfl rfl rfl ?_
  refine (awake13_S (callK.ret ?_))
  repeat (first|refine Qa ?_|refine Qb ?_|refine Qc ?_|refine Qd ?_|refine Qe ?_|refine Qf ?_|refine Qg ?_|refine Qh ?_|refine Qi ?_|refine Qj ?_|refine Qk ?_|refine Ql ?_|refine Qm ?_|refine Qn ?_|refine Qo ?_|refine Qp ?_|refine Qq ?_|fail)
  refine SX.condp rfl (fun hl => ?_) (fun hl => ?_)
  · repeat (first|refine Qa ?_|refine Qb ?_|refine Qc ?_|refine Qd ?_|refine Qe ?_|refine Qf ?_|refine Qg ?_|refine Qh ?_|refine Qi ?_|refine Qj ?_|refine Qk ?_|refine Ql ?_|refine Qm ?_|refine Qn ?_|refine Qo ?_|refine Qp ?_|refine Qq ?_|fail)
    refine SX.ret (M' := F) rfl (Evals.tmp rfl Evals.nil) ?_ inferInstance
    exact h
  repeat (first|refine Qa ?_|refine Qb ?_|refine Qc ?_|refine Qd ?_|refine Qe ?_|refine Qf ?_|refine Qg ?_|refine Qh ?_|refine Qi ?_|refine Qj ?_|refine Qk ?_|refine Ql ?_|refine Qm ?_|refine Qn ?_|refine Qo ?_|refine Qp ?_|refine Qq ?_|fail)
  refine SXL.lit rfl rfl (fun gl => ?_)
  repeat (first|refine Qa ?_|refine Qb ?_|refine Qc ?_|refine Qd ?_|refine Qe ?_|refine Qf ?_|refine Qg ?_|refine Qh ?_|refine Qi ?_|refine Qj ?_|refine Qk ?_|refine Ql ?_|refine Qm ?_|refine Qn ?_|refine Qo ?_|refine Qp ?_|refine Qq ?_|fail)
  rw [hw]
  have m0 : (formT 20).mid := formT_mid ⟨by decide, by decide⟩
  rcases hj with hj | hj | hj | hj | hj | hj | hj
  · skip
    refine SXL.same 26 (.int .i64 0) rfl (congrArg (Value.int .i64) (by show q.tmod 7 = _; rw [ht, hj])) ?_
    refine SXL.idx rfl rfl rfl rfl rfl (by omega) (by omega) rfl ?_
    repeat (first|refine Qa ?_|refine Qb ?_|refine Qc ?_|refine Qd ?_|refine Qe ?_|refine Qf ?_|refine Qg ?_|refine Qh ?_|refine Qi ?_|refine Qj ?_|refine Qk ?_|refine Ql ?_|refine Qm ?_|refine Qn ?_|refine Qo ?_|refine Qp ?_|refine Qq ?_|fail)
    refine SXL.call rfl rfl rfl ?_
    refine (Format_S (room := 20) (fun b0 cap0 hcap0 => callK.ret ?_))
    repeat (first|refine Qa ?_|refine Qb ?_|refine Qc ?_|refine Qd ?_|refine Qe ?_|refine Qf ?_|refine Qg ?_|refine Qh ?_|refine Qi ?_|refine Qj ?_|refine Qk ?_|refine Ql ?_|refine Qm ?_|refine Qn ?_|refine Qo ?_|refine Qp ?_|refine Qq ?_|fail)
    refine SXL.alloc rfl rfl (fun p8 => ?_)
    repeat (first|refine Qa ?_|refine Qb ?_|refine Qc ?_|refine Qd ?_|refine Qe ?_|refine Qf ?_|refine Qg ?_|refine Qh ?_|refine Qi ?_|refine Qj ?_|refine Qk ?_|refine Ql ?_|refine Qm ?_|refine Qn ?_|refine Qo ?_|refine Qp ?_|refine Qq ?_|fail)
    refine SXL.lit rfl rfl (fun g => ?_)
    refine SXL.litBytes [120] rfl inferInstance rfl Tryz.underlying38 Tryz.underlying5 (by simp) rfl ?_
    repeat (first|refine Qa ?_|refine Qb ?_|refine Qc ?_|refine Qd ?_|refine Qe ?_|refine Qf ?_|refine Qg ?_|refine Qh ?_|refine Qi ?_|refine Qj ?_|refine Qk ?_|refine Ql ?_|refine Qm ?_|refine Qn ?_|refine Qo ?_|refine Qp ?_|refine Qq ?_|fail)
    refine SXL.call rfl rfl rfl ?_
    refine (Do_S (t := formT 20) (ps := nonesP 24) (c := nc 1 x) (Ac := some ⟨g, 0, none⟩) (cc := 1) inferInstance inferInstance m0 rfl hcap0 (nc_wf ⟨by decide, by decide⟩) (by show 1 ≤ 4000000000; decide) (Nat.le_refl _) inferInstance (fun _ _ => ⟨lookupE, lookup_S, fun t r => rfl⟩) (fun t1 r1_ b1 cap1 ps1 Ad1 cd1 Ae1 ce1 he1 hcap1 hps1 m1 hd1 hx1 => callK.ret ?_))
    have h16 : 1 ≤ (nc 1 x).op ∧ (nc 1 x).op ≤ 16 := ⟨by show (1:Int) ≤ 1; decide, by show (1:Int) ≤ 16; decide⟩
    repeat (first|refine Qa ?_|refine Qb ?_|refine Qc ?_|refine Qd ?_|refine Qe ?_|refine Qf ?_|refine Qg ?_|refine Qh ?_|refine Qi ?_|refine Qj ?_|refine Qk ?_|refine Ql ?_|refine Qm ?_|refine Qn ?_|refine Qo ?_|refine Qp ?_|refine Qq ?_|fail)
    refine SXL.alloc rfl rfl (fun p9 => ?_)
    repeat (first|refine Qa ?_|refine Qb ?_|refine Qc ?_|refine Qd ?_|refine Qe ?_|refine Qf ?_|refine Qg ?_|refine Qh ?_|refine Qi ?_|refine Qj ?_|refine Qk ?_|refine Ql ?_|refine Qm ?_|refine Qn ?_|refine Qo ?_|refine Qp ?_|refine Qq ?_|fail)
    refine SXL.alloc rfl rfl (fun p10 => ?_)
    repeat (first|refine Qa ?_|refine Qb ?_|refine Qc ?_|refine Qd ?_|refine Qe ?_|refine Qf ?_|refine Qg ?_|refine Qh ?_|refine Qi ?_|refine Qj ?_|refine Qk ?_|refine Ql ?_|refine Qm ?_|refine Qn ?_|refine Qo ?_|refine Qp ?_|refine Qq ?_|fail)
    refine SXL.call rfl rfl rfl ?_
    refine (Name_S x (callK.ret ?_))
    by_cases hb : nameE (bytesOf x) = 0
    · obtain ⟨hst, -⟩ := er_t n_may h16 (non1 (r := toldR (nc 1 x)) hb) he1
      rw [hb, hst]
      repeat (first|refine Qa ?_|refine Qb ?_|refine Qc ?_|refine Qd ?_|refine Qe ?_|refine Qf ?_|refine Qg ?_|refine Qh ?_|refine Qi ?_|refine Qj ?_|refine Qk ?_|refine Ql ?_|refine Qm ?_|refine Qn ?_|refine Qo ?_|refine Qp ?_|refine Qq ?_|fail)
      refine SX.ret (M' := F) rfl (Evals.tmp rfl Evals.nil) ?_ inferInstance
      exact h
    · obtain ⟨hst, htt⟩ := er_t n_may h16 (bad1 (r := toldR (nc 1 x)) hb) he1
      subst htt
      rw [nameE_67 hb, hst]
      repeat (first|refine Qa ?_|refine Qb ?_|refine Qc ?_|refine Qd ?_|refine Qe ?_|refine Qf ?_|refine Qg ?_|refine Qh ?_|refine Qi ?_|refine Qj ?_|refine Qk ?_|refine Ql ?_|refine Qm ?_|refine Qn ?_|refine Qo ?_|refine Qp ?_|refine Qq ?_|fail)
      refine SX.ret (M' := F) rfl (Evals.tmp rfl Evals.nil) ?_ inferInstance
      exact h
  · skip
    refine SXL.same 26 (.int .i64 1) rfl (congrArg (Value.int .i64) (by show q.tmod 7 = _; rw [ht, hj])) ?_
    refine SXL.idx rfl rfl rfl rfl rfl (by omega) (by omega) rfl ?_
    repeat (first|refine Qa ?_|refine Qb ?_|refine Qc ?_|refine Qd ?_|refine Qe ?_|refine Qf ?_|refine Qg ?_|refine Qh ?_|refine Qi ?_|refine Qj ?_|refine Qk ?_|refine Ql ?_|refine Qm ?_|refine Qn ?_|refine Qo ?_|refine Qp ?_|refine Qq ?_|fail)
    refine SXL.call rfl rfl rfl ?_
    refine (Format_S (room := 20) (fun b0 cap0 hcap0 => callK.ret ?_))
    repeat (first|refine Qa ?_|refine Qb ?_|refine Qc ?_|refine Qd ?_|refine Qe ?_|refine Qf ?_|refine Qg ?_|refine Qh ?_|refine Qi ?_|refine Qj ?_|refine Qk ?_|refine Ql ?_|refine Qm ?_|refine Qn ?_|refine Qo ?_|refine Qp ?_|refine Qq ?_|fail)
    refine SXL.alloc rfl rfl (fun p8 => ?_)
    repeat (first|refine Qa ?_|refine Qb ?_|refine Qc ?_|refine Qd ?_|refine Qe ?_|refine Qf ?_|refine Qg ?_|refine Qh ?_|refine Qi ?_|refine Qj ?_|refine Qk ?_|refine Ql ?_|refine Qm ?_|refine Qn ?_|refine Qo ?_|refine Qp ?_|refine Qq ?_|fail)
    refine SXL.lit rfl rfl (fun g => ?_)
    refine SXL.litBytes [120] rfl inferInstance rfl Tryz.underlying38 Tryz.underlying5 (by simp) rfl ?_
    repeat (first|refine Qa ?_|refine Qb ?_|refine Qc ?_|refine Qd ?_|refine Qe ?_|refine Qf ?_|refine Qg ?_|refine Qh ?_|refine Qi ?_|refine Qj ?_|refine Qk ?_|refine Ql ?_|refine Qm ?_|refine Qn ?_|refine Qo ?_|refine Qp ?_|refine Qq ?_|fail)
    refine SXL.call rfl rfl rfl ?_
    refine (Do_S (t := formT 20) (ps := nonesP 24) (c := nc 6 x) (Ac := some ⟨g, 0, none⟩) (cc := 1) inferInstance inferInstance m0 rfl hcap0 (nc_wf ⟨by decide, by decide⟩) (by show 1 ≤ 4000000000; decide) (Nat.le_refl _) inferInstance (fun _ _ => ⟨createE, create_S, fun t r => rfl⟩) (fun t1 r1_ b1 cap1 ps1 Ad1 cd1 Ae1 ce1 he1 hcap1 hps1 m1 hd1 hx1 => callK.ret ?_))
    have h16 : 1 ≤ (nc 6 x).op ∧ (nc 6 x).op ≤ 16 := ⟨by show (1:Int) ≤ 6; decide, by show (6:Int) ≤ 16; decide⟩
    repeat (first|refine Qa ?_|refine Qb ?_|refine Qc ?_|refine Qd ?_|refine Qe ?_|refine Qf ?_|refine Qg ?_|refine Qh ?_|refine Qi ?_|refine Qj ?_|refine Qk ?_|refine Ql ?_|refine Qm ?_|refine Qn ?_|refine Qo ?_|refine Qp ?_|refine Qq ?_|fail)
    refine SXL.alloc rfl rfl (fun p9 => ?_)
    repeat (first|refine Qa ?_|refine Qb ?_|refine Qc ?_|refine Qd ?_|refine Qe ?_|refine Qf ?_|refine Qg ?_|refine Qh ?_|refine Qi ?_|refine Qj ?_|refine Qk ?_|refine Ql ?_|refine Qm ?_|refine Qn ?_|refine Qo ?_|refine Qp ?_|refine Qq ?_|fail)
    refine SXL.alloc rfl rfl (fun p10 => ?_)
    repeat (first|refine Qa ?_|refine Qb ?_|refine Qc ?_|refine Qd ?_|refine Qe ?_|refine Qf ?_|refine Qg ?_|refine Qh ?_|refine Qi ?_|refine Qj ?_|refine Qk ?_|refine Ql ?_|refine Qm ?_|refine Qn ?_|refine Qo ?_|refine Qp ?_|refine Qq ?_|fail)
    refine SXL.call rfl rfl rfl ?_
    refine (Name_S x (callK.ret ?_))
    by_cases hb : nameE (bytesOf x) = 0
    · have hst := ok_t n_may h16 (mk6 (r := toldR (nc 6 x)) hb) he1
      rw [hb, hst]
      repeat (first|refine Qa ?_|refine Qb ?_|refine Qc ?_|refine Qd ?_|refine Qe ?_|refine Qf ?_|refine Qg ?_|refine Qh ?_|refine Qi ?_|refine Qj ?_|refine Qk ?_|refine Ql ?_|refine Qm ?_|refine Qn ?_|refine Qo ?_|refine Qp ?_|refine Qq ?_|fail)
      refine SX.ret (M' := F) rfl (Evals.tmp rfl Evals.nil) ?_ inferInstance
      exact h
    · obtain ⟨hst, htt⟩ := er_t n_may h16 (bad6 (r := toldR (nc 6 x)) hb) he1
      subst htt
      rw [nameE_67 hb, hst]
      repeat (first|refine Qa ?_|refine Qb ?_|refine Qc ?_|refine Qd ?_|refine Qe ?_|refine Qf ?_|refine Qg ?_|refine Qh ?_|refine Qi ?_|refine Qj ?_|refine Qk ?_|refine Ql ?_|refine Qm ?_|refine Qn ?_|refine Qo ?_|refine Qp ?_|refine Qq ?_|fail)
      refine SX.ret (M' := F) rfl (Evals.tmp rfl Evals.nil) ?_ inferInstance
      exact h
  · skip
    refine SXL.same 26 (.int .i64 2) rfl (congrArg (Value.int .i64) (by show q.tmod 7 = _; rw [ht, hj])) ?_
    refine SXL.idx rfl rfl rfl rfl rfl (by omega) (by omega) rfl ?_
    repeat (first|refine Qa ?_|refine Qb ?_|refine Qc ?_|refine Qd ?_|refine Qe ?_|refine Qf ?_|refine Qg ?_|refine Qh ?_|refine Qi ?_|refine Qj ?_|refine Qk ?_|refine Ql ?_|refine Qm ?_|refine Qn ?_|refine Qo ?_|refine Qp ?_|refine Qq ?_|fail)
    refine SXL.call rfl rfl rfl ?_
    refine (Format_S (room := 20) (fun b0 cap0 hcap0 => callK.ret ?_))
    repeat (first|refine Qa ?_|refine Qb ?_|refine Qc ?_|refine Qd ?_|refine Qe ?_|refine Qf ?_|refine Qg ?_|refine Qh ?_|refine Qi ?_|refine Qj ?_|refine Qk ?_|refine Ql ?_|refine Qm ?_|refine Qn ?_|refine Qo ?_|refine Qp ?_|refine Qq ?_|fail)
    refine SXL.alloc rfl rfl (fun p8 => ?_)
    repeat (first|refine Qa ?_|refine Qb ?_|refine Qc ?_|refine Qd ?_|refine Qe ?_|refine Qf ?_|refine Qg ?_|refine Qh ?_|refine Qi ?_|refine Qj ?_|refine Qk ?_|refine Ql ?_|refine Qm ?_|refine Qn ?_|refine Qo ?_|refine Qp ?_|refine Qq ?_|fail)
    refine SXL.lit rfl rfl (fun g => ?_)
    refine SXL.litBytes [120] rfl inferInstance rfl Tryz.underlying38 Tryz.underlying5 (by simp) rfl ?_
    repeat (first|refine Qa ?_|refine Qb ?_|refine Qc ?_|refine Qd ?_|refine Qe ?_|refine Qf ?_|refine Qg ?_|refine Qh ?_|refine Qi ?_|refine Qj ?_|refine Qk ?_|refine Ql ?_|refine Qm ?_|refine Qn ?_|refine Qo ?_|refine Qp ?_|refine Qq ?_|fail)
    refine SXL.call rfl rfl rfl ?_
    refine (Do_S (t := formT 20) (ps := nonesP 24) (c := nc 7 x) (Ac := some ⟨g, 0, none⟩) (cc := 1) inferInstance inferInstance m0 rfl hcap0 (nc_wf ⟨by decide, by decide⟩) (by show 1 ≤ 4000000000; decide) (Nat.le_refl _) inferInstance (fun _ _ => ⟨mkdirE, mkdir_S, fun t r => rfl⟩) (fun t1 r1_ b1 cap1 ps1 Ad1 cd1 Ae1 ce1 he1 hcap1 hps1 m1 hd1 hx1 => callK.ret ?_))
    have h16 : 1 ≤ (nc 7 x).op ∧ (nc 7 x).op ≤ 16 := ⟨by show (1:Int) ≤ 7; decide, by show (7:Int) ≤ 16; decide⟩
    repeat (first|refine Qa ?_|refine Qb ?_|refine Qc ?_|refine Qd ?_|refine Qe ?_|refine Qf ?_|refine Qg ?_|refine Qh ?_|refine Qi ?_|refine Qj ?_|refine Qk ?_|refine Ql ?_|refine Qm ?_|refine Qn ?_|refine Qo ?_|refine Qp ?_|refine Qq ?_|fail)
    refine SXL.alloc rfl rfl (fun p9 => ?_)
    repeat (first|refine Qa ?_|refine Qb ?_|refine Qc ?_|refine Qd ?_|refine Qe ?_|refine Qf ?_|refine Qg ?_|refine Qh ?_|refine Qi ?_|refine Qj ?_|refine Qk ?_|refine Ql ?_|refine Qm ?_|refine Qn ?_|refine Qo ?_|refine Qp ?_|refine Qq ?_|fail)
    refine SXL.alloc rfl rfl (fun p10 => ?_)
    repeat (first|refine Qa ?_|refine Qb ?_|refine Qc ?_|refine Qd ?_|refine Qe ?_|refine Qf ?_|refine Qg ?_|refine Qh ?_|refine Qi ?_|refine Qj ?_|refine Qk ?_|refine Ql ?_|refine Qm ?_|refine Qn ?_|refine Qo ?_|refine Qp ?_|refine Qq ?_|fail)
    refine SXL.call rfl rfl rfl ?_
    refine (Name_S x (callK.ret ?_))
    by_cases hb : nameE (bytesOf x) = 0
    · have hst := ok_t n_may h16 (mk7 (r := toldR (nc 7 x)) hb) he1
      rw [hb, hst]
      repeat (first|refine Qa ?_|refine Qb ?_|refine Qc ?_|refine Qd ?_|refine Qe ?_|refine Qf ?_|refine Qg ?_|refine Qh ?_|refine Qi ?_|refine Qj ?_|refine Qk ?_|refine Ql ?_|refine Qm ?_|refine Qn ?_|refine Qo ?_|refine Qp ?_|refine Qq ?_|fail)
      refine SX.ret (M' := F) rfl (Evals.tmp rfl Evals.nil) ?_ inferInstance
      exact h
    · obtain ⟨hst, htt⟩ := er_t n_may h16 (bad7 (r := toldR (nc 7 x)) hb) he1
      subst htt
      rw [nameE_67 hb, hst]
      repeat (first|refine Qa ?_|refine Qb ?_|refine Qc ?_|refine Qd ?_|refine Qe ?_|refine Qf ?_|refine Qg ?_|refine Qh ?_|refine Qi ?_|refine Qj ?_|refine Qk ?_|refine Ql ?_|refine Qm ?_|refine Qn ?_|refine Qo ?_|refine Qp ?_|refine Qq ?_|fail)
      refine SX.ret (M' := F) rfl (Evals.tmp rfl Evals.nil) ?_ inferInstance
      exact h
  · skip
    refine SXL.same 26 (.int .i64 3) rfl (congrArg (Value.int .i64) (by show q.tmod 7 = _; rw [ht, hj])) ?_
    refine SXL.idx rfl rfl rfl rfl rfl (by omega) (by omega) rfl ?_
    repeat (first|refine Qa ?_|refine Qb ?_|refine Qc ?_|refine Qd ?_|refine Qe ?_|refine Qf ?_|refine Qg ?_|refine Qh ?_|refine Qi ?_|refine Qj ?_|refine Qk ?_|refine Ql ?_|refine Qm ?_|refine Qn ?_|refine Qo ?_|refine Qp ?_|refine Qq ?_|fail)
    refine SXL.call rfl rfl rfl ?_
    refine (Format_S (room := 20) (fun b0 cap0 hcap0 => callK.ret ?_))
    repeat (first|refine Qa ?_|refine Qb ?_|refine Qc ?_|refine Qd ?_|refine Qe ?_|refine Qf ?_|refine Qg ?_|refine Qh ?_|refine Qi ?_|refine Qj ?_|refine Qk ?_|refine Ql ?_|refine Qm ?_|refine Qn ?_|refine Qo ?_|refine Qp ?_|refine Qq ?_|fail)
    refine SXL.alloc rfl rfl (fun p8 => ?_)
    repeat (first|refine Qa ?_|refine Qb ?_|refine Qc ?_|refine Qd ?_|refine Qe ?_|refine Qf ?_|refine Qg ?_|refine Qh ?_|refine Qi ?_|refine Qj ?_|refine Qk ?_|refine Ql ?_|refine Qm ?_|refine Qn ?_|refine Qo ?_|refine Qp ?_|refine Qq ?_|fail)
    refine SXL.lit rfl rfl (fun g => ?_)
    refine SXL.litBytes [120] rfl inferInstance rfl Tryz.underlying38 Tryz.underlying5 (by simp) rfl ?_
    repeat (first|refine Qa ?_|refine Qb ?_|refine Qc ?_|refine Qd ?_|refine Qe ?_|refine Qf ?_|refine Qg ?_|refine Qh ?_|refine Qi ?_|refine Qj ?_|refine Qk ?_|refine Ql ?_|refine Qm ?_|refine Qn ?_|refine Qo ?_|refine Qp ?_|refine Qq ?_|fail)
    refine SXL.call rfl rfl rfl ?_
    refine (Do_S (t := formT 20) (ps := nonesP 24) (c := nc 8 x) (Ac := some ⟨g, 0, none⟩) (cc := 1) inferInstance inferInstance m0 rfl hcap0 (nc_wf ⟨by decide, by decide⟩) (by show 1 ≤ 4000000000; decide) (Nat.le_refl _) inferInstance (fun _ _ => ⟨symlinkE, symlink_S, fun t r => rfl⟩) (fun t1 r1_ b1 cap1 ps1 Ad1 cd1 Ae1 ce1 he1 hcap1 hps1 m1 hd1 hx1 => callK.ret ?_))
    have h16 : 1 ≤ (nc 8 x).op ∧ (nc 8 x).op ≤ 16 := ⟨by show (1:Int) ≤ 8; decide, by show (8:Int) ≤ 16; decide⟩
    repeat (first|refine Qa ?_|refine Qb ?_|refine Qc ?_|refine Qd ?_|refine Qe ?_|refine Qf ?_|refine Qg ?_|refine Qh ?_|refine Qi ?_|refine Qj ?_|refine Qk ?_|refine Ql ?_|refine Qm ?_|refine Qn ?_|refine Qo ?_|refine Qp ?_|refine Qq ?_|fail)
    refine SXL.alloc rfl rfl (fun p9 => ?_)
    repeat (first|refine Qa ?_|refine Qb ?_|refine Qc ?_|refine Qd ?_|refine Qe ?_|refine Qf ?_|refine Qg ?_|refine Qh ?_|refine Qi ?_|refine Qj ?_|refine Qk ?_|refine Ql ?_|refine Qm ?_|refine Qn ?_|refine Qo ?_|refine Qp ?_|refine Qq ?_|fail)
    refine SXL.alloc rfl rfl (fun p10 => ?_)
    repeat (first|refine Qa ?_|refine Qb ?_|refine Qc ?_|refine Qd ?_|refine Qe ?_|refine Qf ?_|refine Qg ?_|refine Qh ?_|refine Qi ?_|refine Qj ?_|refine Qk ?_|refine Ql ?_|refine Qm ?_|refine Qn ?_|refine Qo ?_|refine Qp ?_|refine Qq ?_|fail)
    refine SXL.call rfl rfl rfl ?_
    refine (Name_S x (callK.ret ?_))
    by_cases hb : nameE (bytesOf x) = 0
    · have hst := ok_t n_may h16 (mk8 (r := toldR (nc 8 x)) hb) he1
      rw [hb, hst]
      repeat (first|refine Qa ?_|refine Qb ?_|refine Qc ?_|refine Qd ?_|refine Qe ?_|refine Qf ?_|refine Qg ?_|refine Qh ?_|refine Qi ?_|refine Qj ?_|refine Qk ?_|refine Ql ?_|refine Qm ?_|refine Qn ?_|refine Qo ?_|refine Qp ?_|refine Qq ?_|fail)
      refine SX.ret (M' := F) rfl (Evals.tmp rfl Evals.nil) ?_ inferInstance
      exact h
    · obtain ⟨hst, htt⟩ := er_t n_may h16 (bad8 (r := toldR (nc 8 x)) hb) he1
      subst htt
      rw [nameE_67 hb, hst]
      repeat (first|refine Qa ?_|refine Qb ?_|refine Qc ?_|refine Qd ?_|refine Qe ?_|refine Qf ?_|refine Qg ?_|refine Qh ?_|refine Qi ?_|refine Qj ?_|refine Qk ?_|refine Ql ?_|refine Qm ?_|refine Qn ?_|refine Qo ?_|refine Qp ?_|refine Qq ?_|fail)
      refine SX.ret (M' := F) rfl (Evals.tmp rfl Evals.nil) ?_ inferInstance
      exact h
  · skip
    refine SXL.same 26 (.int .i64 4) rfl (congrArg (Value.int .i64) (by show q.tmod 7 = _; rw [ht, hj])) ?_
    refine SXL.idx rfl rfl rfl rfl rfl (by omega) (by omega) rfl ?_
    repeat (first|refine Qa ?_|refine Qb ?_|refine Qc ?_|refine Qd ?_|refine Qe ?_|refine Qf ?_|refine Qg ?_|refine Qh ?_|refine Qi ?_|refine Qj ?_|refine Qk ?_|refine Ql ?_|refine Qm ?_|refine Qn ?_|refine Qo ?_|refine Qp ?_|refine Qq ?_|fail)
    refine SXL.call rfl rfl rfl ?_
    refine (Format_S (room := 20) (fun b0 cap0 hcap0 => callK.ret ?_))
    repeat (first|refine Qa ?_|refine Qb ?_|refine Qc ?_|refine Qd ?_|refine Qe ?_|refine Qf ?_|refine Qg ?_|refine Qh ?_|refine Qi ?_|refine Qj ?_|refine Qk ?_|refine Ql ?_|refine Qm ?_|refine Qn ?_|refine Qo ?_|refine Qp ?_|refine Qq ?_|fail)
    refine SXL.alloc rfl rfl (fun p8 => ?_)
    repeat (first|refine Qa ?_|refine Qb ?_|refine Qc ?_|refine Qd ?_|refine Qe ?_|refine Qf ?_|refine Qg ?_|refine Qh ?_|refine Qi ?_|refine Qj ?_|refine Qk ?_|refine Ql ?_|refine Qm ?_|refine Qn ?_|refine Qo ?_|refine Qp ?_|refine Qq ?_|fail)
    refine SXL.lit rfl rfl (fun g => ?_)
    refine SXL.litBytes [120] rfl inferInstance rfl Tryz.underlying38 Tryz.underlying5 (by simp) rfl ?_
    repeat (first|refine Qa ?_|refine Qb ?_|refine Qc ?_|refine Qd ?_|refine Qe ?_|refine Qf ?_|refine Qg ?_|refine Qh ?_|refine Qi ?_|refine Qj ?_|refine Qk ?_|refine Ql ?_|refine Qm ?_|refine Qn ?_|refine Qo ?_|refine Qp ?_|refine Qq ?_|fail)
    refine SXL.call rfl rfl rfl ?_
    refine (Do_S (t := formT 20) (ps := nonesP 24) (c := nc 10 x) (Ac := some ⟨g, 0, none⟩) (cc := 1) inferInstance inferInstance m0 rfl hcap0 (nc_wf ⟨by decide, by decide⟩) (by show 1 ≤ 4000000000; decide) (Nat.le_refl _) inferInstance (fun _ _ => ⟨removeE, remove_S, fun t r => rfl⟩) (fun t1 r1_ b1 cap1 ps1 Ad1 cd1 Ae1 ce1 he1 hcap1 hps1 m1 hd1 hx1 => callK.ret ?_))
    have h16 : 1 ≤ (nc 10 x).op ∧ (nc 10 x).op ≤ 16 := ⟨by show (1:Int) ≤ 10; decide, by show (10:Int) ≤ 16; decide⟩
    repeat (first|refine Qa ?_|refine Qb ?_|refine Qc ?_|refine Qd ?_|refine Qe ?_|refine Qf ?_|refine Qg ?_|refine Qh ?_|refine Qi ?_|refine Qj ?_|refine Qk ?_|refine Ql ?_|refine Qm ?_|refine Qn ?_|refine Qo ?_|refine Qp ?_|refine Qq ?_|fail)
    refine SXL.alloc rfl rfl (fun p9 => ?_)
    repeat (first|refine Qa ?_|refine Qb ?_|refine Qc ?_|refine Qd ?_|refine Qe ?_|refine Qf ?_|refine Qg ?_|refine Qh ?_|refine Qi ?_|refine Qj ?_|refine Qk ?_|refine Ql ?_|refine Qm ?_|refine Qn ?_|refine Qo ?_|refine Qp ?_|refine Qq ?_|fail)
    refine SXL.alloc rfl rfl (fun p10 => ?_)
    repeat (first|refine Qa ?_|refine Qb ?_|refine Qc ?_|refine Qd ?_|refine Qe ?_|refine Qf ?_|refine Qg ?_|refine Qh ?_|refine Qi ?_|refine Qj ?_|refine Qk ?_|refine Ql ?_|refine Qm ?_|refine Qn ?_|refine Qo ?_|refine Qp ?_|refine Qq ?_|fail)
    refine SXL.call rfl rfl rfl ?_
    refine (Name_S x (callK.ret ?_))
    by_cases hb : nameE (bytesOf x) = 0
    · obtain ⟨hst, -⟩ := er_t n_may h16 (non10 (r := toldR (nc 10 x)) hb) he1
      rw [hb, hst]
      repeat (first|refine Qa ?_|refine Qb ?_|refine Qc ?_|refine Qd ?_|refine Qe ?_|refine Qf ?_|refine Qg ?_|refine Qh ?_|refine Qi ?_|refine Qj ?_|refine Qk ?_|refine Ql ?_|refine Qm ?_|refine Qn ?_|refine Qo ?_|refine Qp ?_|refine Qq ?_|fail)
      refine SX.ret (M' := F) rfl (Evals.tmp rfl Evals.nil) ?_ inferInstance
      exact h
    · obtain ⟨hst, htt⟩ := er_t n_may h16 (bad10 (r := toldR (nc 10 x)) hb) he1
      subst htt
      rw [nameE_67 hb, hst]
      repeat (first|refine Qa ?_|refine Qb ?_|refine Qc ?_|refine Qd ?_|refine Qe ?_|refine Qf ?_|refine Qg ?_|refine Qh ?_|refine Qi ?_|refine Qj ?_|refine Qk ?_|refine Ql ?_|refine Qm ?_|refine Qn ?_|refine Qo ?_|refine Qp ?_|refine Qq ?_|fail)
      refine SX.ret (M' := F) rfl (Evals.tmp rfl Evals.nil) ?_ inferInstance
      exact h
  · skip
    refine SXL.same 26 (.int .i64 5) rfl (congrArg (Value.int .i64) (by show q.tmod 7 = _; rw [ht, hj])) ?_
    refine SXL.idx rfl rfl rfl rfl rfl (by omega) (by omega) rfl ?_
    repeat (first|refine Qa ?_|refine Qb ?_|refine Qc ?_|refine Qd ?_|refine Qe ?_|refine Qf ?_|refine Qg ?_|refine Qh ?_|refine Qi ?_|refine Qj ?_|refine Qk ?_|refine Ql ?_|refine Qm ?_|refine Qn ?_|refine Qo ?_|refine Qp ?_|refine Qq ?_|fail)
    refine SXL.call rfl rfl rfl ?_
    refine (Format_S (room := 20) (fun b0 cap0 hcap0 => callK.ret ?_))
    repeat (first|refine Qa ?_|refine Qb ?_|refine Qc ?_|refine Qd ?_|refine Qe ?_|refine Qf ?_|refine Qg ?_|refine Qh ?_|refine Qi ?_|refine Qj ?_|refine Qk ?_|refine Ql ?_|refine Qm ?_|refine Qn ?_|refine Qo ?_|refine Qp ?_|refine Qq ?_|fail)
    refine SXL.alloc rfl rfl (fun p8 => ?_)
    repeat (first|refine Qa ?_|refine Qb ?_|refine Qc ?_|refine Qd ?_|refine Qe ?_|refine Qf ?_|refine Qg ?_|refine Qh ?_|refine Qi ?_|refine Qj ?_|refine Qk ?_|refine Ql ?_|refine Qm ?_|refine Qn ?_|refine Qo ?_|refine Qp ?_|refine Qq ?_|fail)
    refine SXL.lit rfl rfl (fun g => ?_)
    refine SXL.litBytes [120] rfl inferInstance rfl Tryz.underlying38 Tryz.underlying5 (by simp) rfl ?_
    repeat (first|refine Qa ?_|refine Qb ?_|refine Qc ?_|refine Qd ?_|refine Qe ?_|refine Qf ?_|refine Qg ?_|refine Qh ?_|refine Qi ?_|refine Qj ?_|refine Qk ?_|refine Ql ?_|refine Qm ?_|refine Qn ?_|refine Qo ?_|refine Qp ?_|refine Qq ?_|fail)
    refine SXL.call rfl rfl rfl ?_
    refine (Do_S (t := formT 20) (ps := nonesP 24) (c := nc 11 x) (Ac := some ⟨g, 0, none⟩) (cc := 1) inferInstance inferInstance m0 rfl hcap0 (nc_wf ⟨by decide, by decide⟩) (by show 1 ≤ 4000000000; decide) (Nat.le_refl _) inferInstance (fun _ _ => ⟨rmdirE, rmdir_S, fun t r => rfl⟩) (fun t1 r1_ b1 cap1 ps1 Ad1 cd1 Ae1 ce1 he1 hcap1 hps1 m1 hd1 hx1 => callK.ret ?_))
    have h16 : 1 ≤ (nc 11 x).op ∧ (nc 11 x).op ≤ 16 := ⟨by show (1:Int) ≤ 11; decide, by show (11:Int) ≤ 16; decide⟩
    repeat (first|refine Qa ?_|refine Qb ?_|refine Qc ?_|refine Qd ?_|refine Qe ?_|refine Qf ?_|refine Qg ?_|refine Qh ?_|refine Qi ?_|refine Qj ?_|refine Qk ?_|refine Ql ?_|refine Qm ?_|refine Qn ?_|refine Qo ?_|refine Qp ?_|refine Qq ?_|fail)
    refine SXL.alloc rfl rfl (fun p9 => ?_)
    repeat (first|refine Qa ?_|refine Qb ?_|refine Qc ?_|refine Qd ?_|refine Qe ?_|refine Qf ?_|refine Qg ?_|refine Qh ?_|refine Qi ?_|refine Qj ?_|refine Qk ?_|refine Ql ?_|refine Qm ?_|refine Qn ?_|refine Qo ?_|refine Qp ?_|refine Qq ?_|fail)
    refine SXL.alloc rfl rfl (fun p10 => ?_)
    repeat (first|refine Qa ?_|refine Qb ?_|refine Qc ?_|refine Qd ?_|refine Qe ?_|refine Qf ?_|refine Qg ?_|refine Qh ?_|refine Qi ?_|refine Qj ?_|refine Qk ?_|refine Ql ?_|refine Qm ?_|refine Qn ?_|refine Qo ?_|refine Qp ?_|refine Qq ?_|fail)
    refine SXL.call rfl rfl rfl ?_
    refine (Name_S x (callK.ret ?_))
    by_cases hb : nameE (bytesOf x) = 0
    · obtain ⟨hst, -⟩ := er_t n_may h16 (non11 (r := toldR (nc 11 x)) hb) he1
      rw [hb, hst]
      repeat (first|refine Qa ?_|refine Qb ?_|refine Qc ?_|refine Qd ?_|refine Qe ?_|refine Qf ?_|refine Qg ?_|refine Qh ?_|refine Qi ?_|refine Qj ?_|refine Qk ?_|refine Ql ?_|refine Qm ?_|refine Qn ?_|refine Qo ?_|refine Qp ?_|refine Qq ?_|fail)
      refine SX.ret (M' := F) rfl (Evals.tmp rfl Evals.nil) ?_ inferInstance
      exact h
    · obtain ⟨hst, htt⟩ := er_t n_may h16 (bad11 (r := toldR (nc 11 x)) hb) he1
      subst htt
      rw [nameE_67 hb, hst]
      repeat (first|refine Qa ?_|refine Qb ?_|refine Qc ?_|refine Qd ?_|refine Qe ?_|refine Qf ?_|refine Qg ?_|refine Qh ?_|refine Qi ?_|refine Qj ?_|refine Qk ?_|refine Ql ?_|refine Qm ?_|refine Qn ?_|refine Qo ?_|refine Qp ?_|refine Qq ?_|fail)
      refine SX.ret (M' := F) rfl (Evals.tmp rfl Evals.nil) ?_ inferInstance
      exact h
  · skip
    refine SXL.same 26 (.int .i64 6) rfl (congrArg (Value.int .i64) (by show q.tmod 7 = _; rw [ht, hj])) ?_
    refine SXL.idx rfl rfl rfl rfl rfl (by omega) (by omega) rfl ?_
    repeat (first|refine Qa ?_|refine Qb ?_|refine Qc ?_|refine Qd ?_|refine Qe ?_|refine Qf ?_|refine Qg ?_|refine Qh ?_|refine Qi ?_|refine Qj ?_|refine Qk ?_|refine Ql ?_|refine Qm ?_|refine Qn ?_|refine Qo ?_|refine Qp ?_|refine Qq ?_|fail)
    refine SXL.call rfl rfl rfl ?_
    refine (Format_S (room := 20) (fun b0 cap0 hcap0 => callK.ret ?_))
    repeat (first|refine Qa ?_|refine Qb ?_|refine Qc ?_|refine Qd ?_|refine Qe ?_|refine Qf ?_|refine Qg ?_|refine Qh ?_|refine Qi ?_|refine Qj ?_|refine Qk ?_|refine Ql ?_|refine Qm ?_|refine Qn ?_|refine Qo ?_|refine Qp ?_|refine Qq ?_|fail)
    refine SXL.alloc rfl rfl (fun p8 => ?_)
    repeat (first|refine Qa ?_|refine Qb ?_|refine Qc ?_|refine Qd ?_|refine Qe ?_|refine Qf ?_|refine Qg ?_|refine Qh ?_|refine Qi ?_|refine Qj ?_|refine Qk ?_|refine Ql ?_|refine Qm ?_|refine Qn ?_|refine Qo ?_|refine Qp ?_|refine Qq ?_|fail)
    refine SXL.lit rfl rfl (fun g => ?_)
    refine SXL.litBytes [120] rfl inferInstance rfl Tryz.underlying38 Tryz.underlying5 (by simp) rfl ?_
    repeat (first|refine Qa ?_|refine Qb ?_|refine Qc ?_|refine Qd ?_|refine Qe ?_|refine Qf ?_|refine Qg ?_|refine Qh ?_|refine Qi ?_|refine Qj ?_|refine Qk ?_|refine Ql ?_|refine Qm ?_|refine Qn ?_|refine Qo ?_|refine Qp ?_|refine Qq ?_|fail)
    refine SXL.call rfl rfl rfl ?_
    refine (Do_T (t := formT 20) (ps := nonesP 24) (c := nc 12 x) (Ac := some ⟨g, 0, none⟩) (cc := 1) inferInstance inferInstance m0 rfl hcap0 (nc_wf ⟨by decide, by decide⟩) (by show 1 ≤ 4000000000; decide) (Nat.le_refl _) inferInstance (fun _ _ => ⟨renameE, rename_A (filB_ok (n_fil 12 x)), rfl⟩) (fun t1 r1_ b1 cap1 ps1 Ad1 cd1 Ae1 ce1 he1 hcap1 hps1 m1 hd1 hx1 => callK.ret ?_))
    have h16 : 1 ≤ (nc 12 x).op ∧ (nc 12 x).op ≤ 16 := ⟨by show (1:Int) ≤ 12; decide, by show (12:Int) ≤ 16; decide⟩
    repeat (first|refine Qa ?_|refine Qb ?_|refine Qc ?_|refine Qd ?_|refine Qe ?_|refine Qf ?_|refine Qg ?_|refine Qh ?_|refine Qi ?_|refine Qj ?_|refine Qk ?_|refine Ql ?_|refine Qm ?_|refine Qn ?_|refine Qo ?_|refine Qp ?_|refine Qq ?_|fail)
    refine SXL.alloc rfl rfl (fun p9 => ?_)
    repeat (first|refine Qa ?_|refine Qb ?_|refine Qc ?_|refine Qd ?_|refine Qe ?_|refine Qf ?_|refine Qg ?_|refine Qh ?_|refine Qi ?_|refine Qj ?_|refine Qk ?_|refine Ql ?_|refine Qm ?_|refine Qn ?_|refine Qo ?_|refine Qp ?_|refine Qq ?_|fail)
    refine SXL.alloc rfl rfl (fun p10 => ?_)
    repeat (first|refine Qa ?_|refine Qb ?_|refine Qc ?_|refine Qd ?_|refine Qe ?_|refine Qf ?_|refine Qg ?_|refine Qh ?_|refine Qi ?_|refine Qj ?_|refine Qk ?_|refine Ql ?_|refine Qm ?_|refine Qn ?_|refine Qo ?_|refine Qp ?_|refine Qq ?_|fail)
    refine SXL.call rfl rfl rfl ?_
    refine (Name_S x (callK.ret ?_))
    by_cases hb : nameE (bytesOf x) = 0
    · obtain ⟨hst, -⟩ := er_t n_may h16 (non12 (r := toldR (nc 12 x)) hb) he1
      rw [hb, hst]
      repeat (first|refine Qa ?_|refine Qb ?_|refine Qc ?_|refine Qd ?_|refine Qe ?_|refine Qf ?_|refine Qg ?_|refine Qh ?_|refine Qi ?_|refine Qj ?_|refine Qk ?_|refine Ql ?_|refine Qm ?_|refine Qn ?_|refine Qo ?_|refine Qp ?_|refine Qq ?_|fail)
      refine SX.ret (M' := F) rfl (Evals.tmp rfl Evals.nil) ?_ inferInstance
      exact h
    · obtain ⟨hst, htt⟩ := er_t n_may h16 (bad12 (r := toldR (nc 12 x)) hb) he1
      subst htt
      rw [nameE_67 hb, hst]
      repeat (first|refine Qa ?_|refine Qb ?_|refine Qc ?_|refine Qd ?_|refine Qe ?_|refine Qf ?_|refine Qg ?_|refine Qh ?_|refine Qi ?_|refine Qj ?_|refine Qk ?_|refine Ql ?_|refine Qm ?_|refine Qn ?_|refine Qo ?_|refine Qp ?_|refine Qq ?_|fail)
      refine SX.ret (M' := F) rfl (Evals.tmp rfl Evals.nil) ?_ inferInstance
      exact h
end
theorem OpsNames_any (x : ByteArray) (q : Int) (W : World) (wx : x.size ≤ maxLen) (wq : (Lit.int .u8 q).wf = true) :
    Calls Tryz.prog 6 #[.string x, .int .u8 q] W fun e w' => e = .returned (.bool true) ∧ Below W.heap.size W w' :=
  Fn.out W [.per (oldR W)] (Holds.ofStart (Holds.start0 W)) inferInstance
    (OpsNames_S (u8_of_wf _ wq).1 (u8_of_wf _ wq).2 ⟨rfl, inferInstance⟩)
end Go.Proofs.YtanemmcddgkpdaaGreat.Sx
