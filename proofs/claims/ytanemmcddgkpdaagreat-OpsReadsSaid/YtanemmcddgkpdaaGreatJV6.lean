/- Part V6 of the lemmas and walks of the Go functions that these statements reach; conditions: those that each theorem names. -/
import Derived.Test.YtanemmcddgkpdaaGreatJV5
section
/- The Go package slot, walked: whether one may be; conditions: those that each theorem names. -/
namespace Go.Proofs.YtanemmcddgkpdaaGreat.Sx
open Go.RowKit Go.Proofs.YtanemmcddgkpdaaGreat.Hm Go.Proofs.YtanemmcddgkpdaaGreatW.PrintWords Go.Proofs.YtanemmcddgkpdaaGreatW.PrintLast Go.Proofs.YtanemmcddgkpdaaGreatW.PrintMore
set_option linter.unusedVariables false
set_option linter.unusedSimpArgs false
attribute [local irreducible] SX SXL SXA St callK Post Evals
section
variable {F R : List Thing} {K : Ending → List Thing → Prop} {b : Nat} {A : Option Addr} {c : Nat} {s : Sl}
theorem ck1_S (hat : At (some ⟨b, 0, none⟩) F (cellsR b (slC s A c) 92) R) (h : K (.returned (.bool (ok1 s))) F) : Fn (Tryz.prog) 108 [.pointer (some ⟨b, 0, none⟩)] F K := by
  unfold slC at hat
  refine Fn.enter Tryz.call108 Tryz.func108 rfl rfl rfl ?_
  repeat (first|refine Qa ?_|refine Qb ?_|refine Qd ?_|refine Qe ?_|refine Qf ?_|fail)
  refine SXL.split (s := 5) rfl (fun h5 => ?_) (fun h5 => ?_)
  rotate_left
  · repeat (first|refine Qa ?_|refine Qd ?_|refine Qn ?_|fail)
    refine SX.same 1 (.bool (ok1 s)) rfl (by simp [ok1, h5]) ?_
    refine SX.ret (M' := F) rfl (Evals.tmp rfl Evals.nil) ?_ inferInstance
    exact h
  repeat (first|refine Qa ?_|refine Qb ?_|refine Qm ?_|fail)
  refine SXL.split (s := 10) rfl (fun h10 => ?_) (fun h10 => ?_)
  rotate_left
  · repeat (first|refine Qa ?_|refine Qd ?_|refine Qn ?_|fail)
    refine SX.same 1 (.bool (ok1 s)) rfl (by simp [ok1, h5, h10]) ?_
    refine SX.ret (M' := F) rfl (Evals.tmp rfl Evals.nil) ?_ inferInstance
    exact h
  repeat (first|refine Qa ?_|refine Qb ?_|refine Qd ?_|refine Qm ?_|fail)
  refine SX.same 1 (.bool (ok1 s)) rfl (by simp [ok1, h5, h10]) ?_
  refine SX.ret (M' := F) rfl (Evals.tmp rfl Evals.nil) ?_ inferInstance
  exact h
theorem bare_S (h : K (.returned (.bool (bareB s))) F) : Fn (Tryz.prog) 110 [.agg (slC s A c).toArray] F K := by
  unfold slC
  refine Fn.enter Tryz.call110 Tryz.func110 rfl rfl rfl ?_
  repeat (first|refine Qe ?_|refine Qf ?_|fail)
  refine SXL.box rfl rfl rfl (fun b => ?_)
  repeat (first|refine Qa ?_|refine Qb ?_|refine Qd ?_|refine Qe ?_|refine Qf ?_|fail)
  refine SXL.split (s := 6) rfl (fun h6 => ?_) (fun h6 => ?_)
  rotate_left
  · repeat (first|refine Qa ?_|refine Qd ?_|refine Qn ?_|fail)
    refine SX.same 2 (.bool (bareB s)) rfl (by simp [bareB, h6]) ?_
    refine SX.ret (M' := F) rfl (Evals.tmp rfl Evals.nil) ?_ inferInstance
    exact h
  repeat (first|refine Qa ?_|refine Qb ?_|refine Qm ?_|fail)
  refine SXL.split (s := 11) rfl (fun h11 => ?_) (fun h11 => ?_)
  rotate_left
  · repeat (first|refine Qa ?_|refine Qd ?_|refine Qn ?_|fail)
    refine SX.same 2 (.bool (bareB s)) rfl (by simp [bareB, h6, h11]) ?_
    refine SX.ret (M' := F) rfl (Evals.tmp rfl Evals.nil) ?_ inferInstance
    exact h
  repeat (first|refine Qa ?_|refine Qb ?_|refine Qm ?_|fail)
  refine SXL.split (s := 16) rfl (fun h16 => ?_) (fun h16 => ?_)
  rotate_left
  · repeat (first|refine Qa ?_|refine Qd ?_|refine Qn ?_|fail)
    refine SX.same 2 (.bool (bareB s)) rfl (by simp [bareB, h6, h11, h16]) ?_
    refine SX.ret (M' := F) rfl (Evals.tmp rfl Evals.nil) ?_ inferInstance
    exact h
  repeat (first|refine Qa ?_|refine Qb ?_|refine Qm ?_|fail)
  refine SXL.split (s := 21) rfl (fun h21 => ?_) (fun h21 => ?_)
  rotate_left
  · repeat (first|refine Qa ?_|refine Qd ?_|refine Qn ?_|fail)
    refine SX.same 2 (.bool (bareB s)) rfl (by simp [bareB, h6, h11, h16, h21]) ?_
    refine SX.ret (M' := F) rfl (Evals.tmp rfl Evals.nil) ?_ inferInstance
    exact h
  repeat (first|refine Qa ?_|refine Qb ?_|refine Qd ?_|refine Qm ?_|fail)
  refine SX.same 2 (.bool (bareB s)) rfl (by simp [bareB, h6, h11, h16, h21]) ?_
  refine SX.ret (M' := F) rfl (Evals.tmp rfl Evals.nil) ?_ inferInstance
  exact h
theorem ck2_S (hat : At (some ⟨b, 0, none⟩) F (cellsR b (slC s A c) 92) R) (h : K (.returned (.bool (ok2 s))) F) : Fn (Tryz.prog) 109 [.pointer (some ⟨b, 0, none⟩)] F K := by
  unfold slC at hat
  refine Fn.enter Tryz.call109 Tryz.func109 rfl rfl rfl ?_
  repeat (first|refine Qa ?_|refine Qb ?_|refine Qd ?_|refine Qe ?_|refine Qf ?_|fail)
  refine SXL.split (s := 5) rfl (fun h5 => ?_) (fun h5 => ?_)
  · repeat (first|refine Qb ?_|refine Qm ?_|fail)
    refine SXL.call rfl rfl rfl ?_
    refine (bare_S (s := s) (A := A) (c := c) (callK.ret ?_))
    repeat (first|refine Qa ?_|fail)
    refine SXL.split (s := 9) rfl (fun h9 => ?_) (fun h9 => ?_)
    · repeat (first|refine Qa ?_|refine Qd ?_|refine Qn ?_|refine Qp ?_|fail)
      refine SX.same 1 (.bool (ok2 s)) rfl (by simp [ok2, h5, h9]) ?_
      refine SX.ret (M' := F) rfl (Evals.tmp rfl Evals.nil) ?_ inferInstance
      exact h
    · repeat (first|refine Qa ?_|refine Qb ?_|refine Qm ?_|fail)
      refine SXL.know 13 false rfl (by simp at h5; simp [h5]) ?_
      repeat (first|refine Qa ?_|refine Qd ?_|refine Qm ?_|refine Qn ?_|fail)
      refine SX.same 1 (.bool (ok2 s)) rfl (by simp at h5; simp [ok2, h5, h9]) ?_
      refine SX.ret (M' := F) rfl (Evals.tmp rfl Evals.nil) ?_ inferInstance
      exact h
  · repeat (first|refine Qa ?_|refine Qb ?_|refine Qm ?_|refine Qn ?_|fail)
    refine SXL.know 13 true rfl (by simpa using h5) ?_
    repeat (first|refine Qa ?_|refine Qb ?_|refine Qd ?_|refine Qm ?_|fail)
    refine SX.same 1 (.bool (ok2 s)) rfl (by simp [ok2, h5, bne]) ?_
    refine SX.ret (M' := F) rfl (Evals.tmp rfl Evals.nil) ?_ inferInstance
    exact h
theorem listed_S (hr : Ro (Kd.int .u8) A F s.d) (hc : s.d.length ≤ c) (hb : bytesB s.d = true) (hl : s.d.length ≤ 4000000000) (h : K (.returned (.bool (listB s))) F) : Fn (Tryz.prog) 112 [.agg (slC s A c).toArray] F K := by
  unfold slC
  refine Fn.enter Tryz.call112 Tryz.func112 rfl rfl rfl ?_
  repeat (first|refine Qe ?_|refine Qf ?_|fail)
  refine SXL.box rfl rfl rfl (fun b => ?_)
  repeat (first|refine Qa ?_|refine Qb ?_|refine Qd ?_|refine Qe ?_|refine Qf ?_|fail)
  refine SXL.call rfl rfl rfl ?_
  refine (Get_S (b := s.d) inferInstance hc hb hl (fun l n hm A1 c1 hc1 => callK.ret ?_))
  have hll := getM_len hb hm
  have hLB : listB s = ((n == 0) && (((l.length : Int) == 0) || decide (lastC l ≤ s.cookie))) := by unfold listB; rw [hm]
  repeat (first|refine Qa ?_|refine Qd ?_|refine Qf ?_|fail)
  by_cases hn : n = 0
  · subst hn
    by_cases hl0 : l.length = 0
    · refine SXA.begin [] [] ?_
      refine Qr 0 ?_
      refine Qr 1 ?_
      refine Qr 2 ?_
      refine SXA.know 13 true rfl rfl ?_
      refine Qr 3 ?_
      refine Qr 4 ?_
      refine Qr 5 ?_
      refine Qr 6 ?_
      refine SXA.know 17 true rfl (by simpa using hl0) ?_
      refine Qs 7 ?_
      refine Qs 8 ?_
      refine Qs 9 ?_
      refine Qs 10 ?_
      refine Qs 11 ?_
      refine Qs 12 ?_
      refine Qs 13 ?_
      refine Qs 14 ?_
      refine Qs 15 ?_
      refine Qs 16 ?_
      refine Qr 17 ?_
      refine Qr 18 ?_
      refine Qr 19 ?_
      refine Qv ?_
      skip
      refine SX.same 2 (.bool (listB s)) rfl (by rw [hLB]; simp [hl0]) ?_
      refine SX.ret (M' := F) rfl (Evals.tmp rfl Evals.nil) ?_ inferInstance
      exact h
    · obtain ⟨k, hk⟩ : ∃ k, l.length = k + 1 := ⟨l.length - 1, by omega⟩
      obtain ⟨e, he⟩ : ∃ e, l[k]? = some e := ⟨_, List.getElem?_eq_getElem (by omega)⟩
      have hlc := lastC_at l k e hk he
      refine SX.addr (A := A1) kE (by decide) (xs := l) (by omega) (fun b3 o3 e3 => ?_)
      subst e3
      refine SXA.begin [.own (some ⟨b3, o3, none⟩) (rowR kE 87 (.slice (some ⟨b3, o3, none⟩) l.length c1) l), .own (some ⟨b, 0, none⟩) (cellsR b (slC s A c) 92)] [] ?_
      unfold slC
      refine Qr 0 ?_
      refine Qr 1 ?_
      refine Qr 2 ?_
      refine SXA.know 13 true rfl rfl ?_
      refine Qr 3 ?_
      refine Qr 4 ?_
      refine Qr 5 ?_
      refine Qr 6 ?_
      refine SXA.know 17 false rfl (by simpa using hl0) ?_
      refine Qr 7 ?_
      refine Qr 8 ?_
      refine Qr 9 ?_
      refine Qr 10 ?_
      refine SXA.same 21 (.int .i64 (k : Int)) rfl (by rw [hk, IntWalk.i64_in _ (by omega)]; congr 1; omega) ?_
      refine SXA.idx 11 rfl (by decide +kernel) rfl rfl rfl rfl rfl rfl (by omega) (by omega) rfl inferInstance ?_
      refine Qr 12 ?_
      refine SXA.loadRow1 13 kE rfl (by decide +kernel) rfl rfl rfl inferInstance (by rw [Int.toNat_natCast]; exact he) rfl rfl inferInstance ?_
      refine Qr 14 ?_
      refine Qt 15 ?_
      refine Qr 16 ?_
      refine Qr 17 ?_
      refine Qr 18 ?_
      refine Qr 19 ?_
      refine Qv ?_
      skip
      refine SX.same 2 (.bool (listB s)) rfl (by rw [hLB, hlc]; simp [hl0]) ?_
      refine SX.ret (M' := F) rfl (Evals.tmp rfl Evals.nil) ?_ inferInstance
      exact h
  · refine SXA.begin [] [] ?_
    refine Qr 0 ?_
    refine Qr 1 ?_
    refine Qr 2 ?_
    refine SXA.know 13 false rfl (by simpa using hn) ?_
    refine Qs 3 ?_
    refine Qs 4 ?_
    refine Qs 5 ?_
    refine Qs 6 ?_
    refine Qs 7 ?_
    refine Qs 8 ?_
    refine Qs 9 ?_
    refine Qs 10 ?_
    refine Qs 11 ?_
    refine Qs 12 ?_
    refine Qs 13 ?_
    refine Qs 14 ?_
    refine Qs 15 ?_
    refine Qs 16 ?_
    refine Qs 17 ?_
    refine Qr 18 ?_
    refine Qr 19 ?_
    refine Qv ?_
    skip
    refine SX.same 2 (.bool (listB s)) rfl (by rw [hLB]; simp [hn]) ?_
    refine SX.ret (M' := F) rfl (Evals.tmp rfl Evals.nil) ?_ inferInstance
    exact h
theorem ck3_S (hat : At (some ⟨b, 0, none⟩) F (cellsR b (slC s A c) 92) R) (hr : Ro (Kd.int .u8) A F s.d) (hc : s.d.length ≤ c) (hb : bytesB s.d = true) (hl : s.d.length ≤ 4000000000) (h : K (.returned (.bool (ok3 s))) F) : Fn (Tryz.prog) 111 [.pointer (some ⟨b, 0, none⟩)] F K := by
  unfold slC at hat
  refine Fn.enter Tryz.call111 Tryz.func111 rfl rfl rfl ?_
  repeat (first|refine Qa ?_|refine Qb ?_|refine Qd ?_|refine Qe ?_|refine Qf ?_|fail)
  refine SXL.split (s := 5) rfl (fun h5 => ?_) (fun h5 => ?_)
  · repeat (first|refine Qa ?_|refine Qd ?_|refine Qn ?_|fail)
    refine SX.same 1 (.bool (ok3 s)) rfl (by simp [ok3, h5]) ?_
    refine SX.ret (M' := F) rfl (Evals.tmp rfl Evals.nil) ?_ inferInstance
    exact h
  · repeat (first|refine Qb ?_|refine Qm ?_|fail)
    refine SXL.call rfl rfl rfl ?_
    refine (listed_S (s := s) hr hc hb hl (callK.ret ?_))
    repeat (first|refine Qa ?_|refine Qd ?_|fail)
    refine SX.same 1 (.bool (ok3 s)) rfl (by simp [ok3, h5]) ?_
    refine SX.ret (M' := F) rfl (Evals.tmp rfl Evals.nil) ?_ inferInstance
    exact h
set_option maxRecDepth 20000 in
theorem all_S {g : Nat} {v : Value} {f1 f2 f3 : FuncId} {b1 b2 b3 : Bool} (hat : At (some ⟨g, 0, none⟩) F (cellsR g [.func (.func f1) #[] #[v], .func (.func f2) #[] #[v], .func (.func f3) #[] #[v]] 23) R)
    (h1 : ∀ K, K (.returned (.bool b1)) F → Fn (Tryz.prog) f1 [v] F K) (h2 : ∀ K, K (.returned (.bool b2)) F → Fn (Tryz.prog) f2 [v] F K) (h3 : ∀ K, K (.returned (.bool b3)) F → Fn (Tryz.prog) f3 [v] F K)
    (h : K (.returned (.bool (b1 && (b2 && b3)))) F) : Fn (Tryz.prog) 107 [.slice (some ⟨g, 0, none⟩) 3 3] F K := by
  refine Fn.enter Tryz.call107 Tryz.func107 rfl rfl rfl ?_
  repeat (first|refine Qa ?_|refine Qd ?_|refine Qe ?_|refine Qf ?_|refine Qh ?_|fail)
  refine SX.unroll 3 ?_
  repeat (first|refine Qa ?_|refine Qd ?_|refine Qe ?_|refine Qf ?_|refine Qg ?_|refine Qh ?_|refine Qk ?_|fail)
  refine SXL.idx rfl rfl rfl rfl rfl (by omega) (by omega) rfl ?_
  repeat (first|refine Qa ?_|refine Qb ?_|refine Qd ?_|refine Qe ?_|refine Qf ?_|fail)
  refine SXL.callAny (d := some 12) rfl rfl rfl rfl (h1 _ (callK.ret ?_))
  repeat (first|refine Qa ?_|refine Qd ?_|fail)
  refine SX.cond rfl (fun e1 => ?_) (fun e1 => ?_)
  · obtain rfl : b1 = false := by simpa using e1
    repeat (first|refine Qa ?_|refine Qd ?_|refine Qe ?_|refine Qf ?_|fail)
    refine SX.ret (M' := F) rfl (Evals.tmp rfl Evals.nil) ?_ inferInstance
    exact h
  obtain rfl : b1 = true := by simpa using e1
  repeat (first|refine Qa ?_|refine Qd ?_|refine Qe ?_|refine Qg ?_|refine Qi ?_|fail)
  refine SX.same 7 (.int .i64 1) rfl rfl ?_
  refine SX.round ?_
  repeat (first|refine Qa ?_|refine Qd ?_|refine Qe ?_|refine Qf ?_|refine Qg ?_|refine Qh ?_|refine Qk ?_|fail)
  refine SXL.idx rfl rfl rfl rfl rfl (by omega) (by omega) rfl ?_
  repeat (first|refine Qa ?_|refine Qb ?_|refine Qd ?_|refine Qe ?_|refine Qf ?_|fail)
  refine SXL.callAny (d := some 12) rfl rfl rfl rfl (h2 _ (callK.ret ?_))
  repeat (first|refine Qa ?_|refine Qd ?_|fail)
  refine SX.cond rfl (fun e1 => ?_) (fun e1 => ?_)
  · obtain rfl : b2 = false := by simpa using e1
    repeat (first|refine Qa ?_|refine Qd ?_|refine Qe ?_|refine Qf ?_|fail)
    refine SX.ret (M' := F) rfl (Evals.tmp rfl Evals.nil) ?_ inferInstance
    exact h
  obtain rfl : b2 = true := by simpa using e1
  repeat (first|refine Qa ?_|refine Qd ?_|refine Qe ?_|refine Qg ?_|refine Qi ?_|fail)
  refine SX.same 7 (.int .i64 2) rfl rfl ?_
  refine SX.round ?_
  repeat (first|refine Qa ?_|refine Qd ?_|refine Qe ?_|refine Qf ?_|refine Qg ?_|refine Qh ?_|refine Qk ?_|fail)
  refine SXL.idx rfl rfl rfl rfl rfl (by omega) (by omega) rfl ?_
  repeat (first|refine Qa ?_|refine Qb ?_|refine Qd ?_|refine Qe ?_|refine Qf ?_|fail)
  refine SXL.callAny (d := some 12) rfl rfl rfl rfl (h3 _ (callK.ret ?_))
  repeat (first|refine Qa ?_|refine Qd ?_|fail)
  refine SX.cond rfl (fun e1 => ?_) (fun e1 => ?_)
  · obtain rfl : b3 = false := by simpa using e1
    repeat (first|refine Qa ?_|refine Qd ?_|refine Qe ?_|refine Qf ?_|fail)
    refine SX.ret (M' := F) rfl (Evals.tmp rfl Evals.nil) ?_ inferInstance
    exact h
  obtain rfl : b3 = true := by simpa using e1
  repeat (first|refine Qa ?_|refine Qd ?_|refine Qe ?_|refine Qg ?_|refine Qi ?_|fail)
  refine SX.same 7 (.int .i64 3) rfl rfl ?_
  refine SX.round ?_
  repeat (first|refine Qa ?_|refine Qd ?_|refine Qe ?_|refine Qf ?_|refine Qj ?_|refine Ql ?_|fail)
  refine SX.ret (M' := F) rfl (Evals.tmp rfl Evals.nil) ?_ inferInstance
  exact h
theorem Check_S (hr : Ro (Kd.int .u8) A F s.d) (hc : s.d.length ≤ c) (hb : bytesB s.d = true) (hl : s.d.length ≤ 4000000000) (h : K (.returned (.int .i64 (checkM s))) F) : Fn (Tryz.prog) 63 [.agg (slC s A c).toArray] F K := by
  unfold checkM okB at h
  unfold slC
  refine Fn.enter Tryz.call63 Tryz.func63 rfl rfl rfl ?_
  repeat (first|refine Qe ?_|refine Qf ?_|fail)
  refine SXL.box rfl rfl rfl (fun b => ?_)
  repeat (first|refine Qa ?_|refine Qd ?_|refine Qe ?_|refine Qf ?_|fail)
  refine SXL.lit rfl rfl (fun g => ?_)
  refine SXL.call rfl rfl rfl ?_
  refine (all_S inferInstance (fun K' h' => ck1_S (s := s) (A := A) (c := c) (b := b) inferInstance h') (fun K' h' => ck2_S (s := s) (A := A) (c := c) (b := b) inferInstance h') (fun K' h' => ck3_S (s := s) (A := A) (c := c) (b := b) inferInstance inferInstance hc hb hl h') (callK.ret ?_))
  repeat (first|refine Qa ?_|refine Qd ?_|refine Qe ?_|refine Qf ?_|fail)
  refine SX.cond rfl (fun e1 => ?_) (fun e1 => ?_)
  · rw [if_neg (by intro e2; rw [e2] at e1; simp at e1)] at h
    repeat (first|refine Qa ?_|refine Qd ?_|refine Qe ?_|refine Qf ?_|fail)
    refine SX.ret (M' := F) rfl (Evals.tmp rfl Evals.nil) ?_ inferInstance
    exact h
  · rw [if_pos (by simpa using e1)] at h
    repeat (first|refine Qa ?_|refine Qd ?_|refine Qe ?_|refine Qf ?_|refine Qg ?_|fail)
    refine SX.ret (M' := F) rfl (Evals.tmp rfl Evals.nil) ?_ inferInstance
    exact h
theorem Handle_S (h : K (.returned (.agg #[.int .u32 s.ino, .int .u32 s.gen])) F) : Fn (Tryz.prog) 85 [.agg (slC s A c).toArray] F K := by
  unfold slC
  refine Fn.enter Tryz.call85 Tryz.func85 rfl rfl rfl ?_
  repeat (first|refine Qe ?_|refine Qf ?_|fail)
  refine SXL.box rfl rfl rfl (fun b => ?_)
  skip
  refine SXL.alloc rfl rfl (fun g => ?_)
  repeat (first|refine Qa ?_|refine Qb ?_|refine Qc ?_|refine Qd ?_|refine Qe ?_|refine Qf ?_|fail)
  refine SX.ret (M' := F) rfl (Evals.cell rfl inferInstance rfl Evals.nil) ?_ inferInstance
  exact h
end
end Go.Proofs.YtanemmcddgkpdaaGreat.Sx
end
section
/- The Go package slot, walked: its bytes; conditions: those that each theorem names. -/
namespace Go.Proofs.YtanemmcddgkpdaaGreat.Sx
open Go.RowKit Go.Proofs.YtanemmcddgkpdaaGreat.Hm Go.Proofs.YtanemmcddgkpdaaGreatW.PrintWords Go.Proofs.YtanemmcddgkpdaaGreatW.PrintLast Go.Proofs.YtanemmcddgkpdaaGreatW.PrintMore
set_option linter.unusedVariables false
set_option linter.unusedSimpArgs false
attribute [local irreducible] SX SXL SXA St callK Post Evals
section
variable {F R : List Thing} {K : Ending → List Thing → Prop} {b : Nat} {A : Option Addr} {c : Nat} {s : Sl}
end
end Go.Proofs.YtanemmcddgkpdaaGreat.Sx
end
