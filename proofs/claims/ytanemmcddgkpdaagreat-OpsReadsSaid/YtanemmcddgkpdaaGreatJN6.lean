/- Part N6 of the lemmas and walks of the Go functions that these statements reach; conditions: those that each theorem names. -/
import Derived.Test.YtanemmcddgkpdaaGreatJN5
section
/- Chapter 13: more ops that ask, walked; conditions: those that each theorem names. -/
namespace Go.Proofs.YtanemmcddgkpdaaGreat.Sx
open Go.RowKit Go.Proofs.YtanemmcddgkpdaaGreat.Hm Go.Proofs.YtanemmcddgkpdaaGreatW.PrintWords Go.Proofs.YtanemmcddgkpdaaGreatW.PrintLast Go.Proofs.YtanemmcddgkpdaaGreatW.PrintMore
set_option linter.unusedVariables false
set_option linter.unusedSimpArgs false
attribute [local irreducible] SX SXL SXA St callK Post Evals
section
theorem readlink_S : OpS (Tryz.prog) 41 readlinkE := by
  intro R K b pw cap cc Ac t ps c r hps hcap hm hcw hcl hcc hd hro hrd hre h1 h2
  haveI n1 : IsNil r.d := ⟨hrd⟩
  haveI n2 : IsNil r.e := ⟨hre⟩
  refine Fn.enter Tryz.call41 Tryz.func41 rfl rfl rfl ?_
  repeat (first|refine Qa ?_|refine Qb ?_|refine Qe ?_|refine Qf ?_|fail)
  refine SXL.call rfl rfl rfl ?_
  refine (thing_P t ps (c := c) (r := r) hm hps hcap inferInstance inferInstance hcw.ai.1 (fun k s x hk hs hx ha hsm hk24 g1 g2 => callK.ret ?_) (fun e he => callK.panic (h2 e _ (by unfold readlinkE; simp only [he, erE]) inferInstance)))
  have hsl := hsm.l
  refine SXL.derive (datR t.l ps) (roR (Kd.int .u8) x.1 s.d) (fun w S h => (h.2 k s x hs hx).2) ?_
  refine SXL.derive (datR t.l ps) (pureR (s.d.length ≤ x.2)) (fun w S h => (h.2 k s x hs hx).1) ?_
  refine SXL.fact (s.d.length ≤ x.2) (fun hle => ?_)
  repeat (first|refine Qa ?_|refine Qd ?_|refine Qe ?_|refine Qf ?_|refine Qx ?_|fail)
  refine SXL.call rfl rfl rfl ?_
  refine (need_S (F' := R) inferInstance (fun hg => callK.ret ?_) (fun hg => callK.panic (h2 64 _ (by unfold readlinkE; simp only [hk, okE, ha]; rw [show (s.kind == 3) = false from hg]; rfl) inferInstance)))
  repeat (first|refine Qa ?_|refine Qd ?_|refine Qe ?_|refine Qf ?_|refine Qx ?_|fail)
  refine SXL.call rfl rfl rfl ?_
  refine (BClone_S (xs := s.d) (A := x.1) (c := x.2) inferInstance hle (by omega) (fun A' c' hc' => callK.ret ?_))
  refine SXL.keepRow A' inferInstance ?_
  unfold wkM wkC
  repeat (first|refine Qa ?_|refine Qc ?_|refine Qd ?_|refine Qe ?_|fail)
  refine SXL.call rfl rfl rfl ?_
  refine (tell_P t ps (c := c) (r := { r with d := s.d }) (Ad := A') (cd := c') (Ae := none) (ce := 0) inferInstance inferInstance hs hx hsm (callK.ret ?_))
  repeat (first|refine Qd ?_|fail)
  refine SX.fin (M' := (.own (some ⟨pw, 0, none⟩) (wkM pw b cap t c Ac cc (tellS s { r with d := s.d }) A' c' none 0) :: .own (some ⟨b, 0, none⟩) (thR b 24 cap t.l ps) :: .per (datR t.l ps) :: .per (roR (Kd.int .u8) A' s.d) :: .per (roR kE none (tellS s r).e) :: R)) rfl Evals.nil ?_ inferInstance
  exact h1 t (tellS s { r with d := s.d }) ps A' c' none 0 (by unfold readlinkE; simp only [hk, okE, puE, ha]; rw [show (s.kind == 3) = true from hg]; rfl) hc' (by rw [hre]; exact Nat.le_refl _) hps hm
theorem fsstat_S : OpS (Tryz.prog) 47 fsstatE := by
  intro R K b pw cap cc Ac t ps c r hps hcap hm hcw hcl hcc hd hro hrd hre h1 h2
  haveI n1 : IsNil r.d := ⟨hrd⟩
  haveI n2 : IsNil r.e := ⟨hre⟩
  refine Fn.enter Tryz.call47 Tryz.func47 rfl rfl rfl ?_
  repeat (first|refine Qa ?_|refine Qe ?_|refine Qf ?_|fail)
  refine SXL.call rfl rfl rfl ?_
  refine (getattr_S hps hcap hm hcw hcl hcc hd hro hrd hre (fun t' r' ps' Ad cd Ae ce he hc1 hc2 hps' hm' => callK.ret ?_) (fun e M' he hM => callK.panic (h2 e M' (by
      unfold getattrE at he
      unfold fsstatE
      cases hq : thingE t c.ai c.ag with
      | error e' => rw [hq] at he; exact he
      | ok k => rw [hq] at he; cases he) hM)))
  have e9 : t' = t ∧ fsstatE t r c = .ok (t', { r' with free := (max (max t.room 0 - (usedT t.l : Int)) 0) % 4294967296 }) := by
    unfold getattrE at he
    unfold fsstatE
    cases hq : thingE t c.ai c.ag with
    | error e' => rw [hq] at he; cases he
    | ok k =>
      rw [hq] at he
      simp only [okE, puE] at he ⊢
      injection he with he
      injection he with h3 h4
      subst h3; subst h4
      exact ⟨rfl, rfl⟩
  obtain ⟨rfl, e9⟩ := e9
  have hus := usedT_le (l := t'.l) (fun s hs => by have := (hm.m s hs).l; omega : ∀ s ∈ t'.l, s.d.length ≤ 4000000000)
  rw [hm.n] at hus
  have hr1 := hm.r
  repeat (first|refine Qd ?_|fail)
  refine SXA.begin (.own (some ⟨pw, 0, none⟩) (wkM pw b cap t' c Ac cc r' Ad cd Ae ce) :: .own (some ⟨b, 0, none⟩) (thR b 24 cap t'.l ps') :: .per (datR t'.l ps') :: .per (roR (Kd.int .u8) Ad r'.d) :: .per (roR kE Ae r'.e) :: R) [18] ?_
  unfold wkM wkC
  refine Qr 0 ?_
  refine Qr 1 ?_
  refine Qr 2 ?_
  refine Qr 3 ?_
  refine Qr 4 ?_
  refine Qt 5 ?_
  refine SXA.max 6 ?_
  refine Qr 7 ?_
  refine Qr 8 ?_
  refine Qr 9 ?_
  refine Qt 10 ?_
  refine Qw 11 ?_
  refine SXL.call rfl rfl rfl ?_
  refine (Used_P (ts := t'.l) (ps := ps') inferInstance hm.n hps' hcap hm.m (callK.ret ?_))
  refine SXL.nil (SXA.next inferInstance ?_)
  refine Qr 12 ?_
  refine SXA.max 13 ?_
  refine Qr 14 ?_
  have e1 : IntKind.u32.wrap (if IntKind.i64.wrap ((if t'.room < 0 then 0 else t'.room) - ((usedT t'.l : Nat) : Int)) < 0 then 0 else IntKind.i64.wrap ((if t'.room < 0 then 0 else t'.room) - ((usedT t'.l : Nat) : Int))) = (max (max t'.room 0 - (usedT t'.l : Int)) 0) % 4294967296 := by
    rw [IntWalk.i64_in _ (by split <;> omega)]
    refine congrArg (fun z : Int => z % 4294967296) (?_ : _ = max (max t'.room 0 - (usedT t'.l : Int)) 0)
    split <;> split <;> omega
  refine SXA.same 18 _ rfl (congrArg (Value.int .u32) e1) ?_
  refine Qr 15 ?_
  refine Qr 16 ?_
  refine Qr 17 ?_
  refine Qw 18 ?_
  refine Qc ?_
  refine SXL.nil (SXA.nextLast rfl ?_)
  refine Qv ?_
  refine SX.fin (M' := (.own (some ⟨pw, 0, none⟩) (wkM pw b cap t' c Ac cc { r' with free := (max (max t'.room 0 - (usedT t'.l : Int)) 0) % 4294967296 } Ad cd Ae ce) :: .own (some ⟨b, 0, none⟩) (thR b 24 cap t'.l ps') :: .per (datR t'.l ps') :: .per (roR (Kd.int .u8) Ad r'.d) :: .per (roR kE Ae r'.e) :: R)) rfl Evals.nil ?_ inferInstance
  exact h1 t' { r' with free := _ } ps' Ad cd Ae ce e9 hc1 hc2 hps' hm'
theorem readdir_S : OpS (Tryz.prog) 46 readdirE := by
  intro R K b pw cap cc Ac t ps c r hps hcap hm hcw hcl hcc hd hro hrd hre h1 h2
  haveI n1 : IsNil r.d := ⟨hrd⟩
  haveI n2 : IsNil r.e := ⟨hre⟩
  have hcn := hcw.cnt
  unfold u32ok at hcn
  refine Fn.enter Tryz.call46 Tryz.func46 rfl rfl rfl ?_
  repeat (first|refine Qa ?_|refine Qb ?_|refine Qe ?_|refine Qf ?_|fail)
  refine SXL.call rfl rfl rfl ?_
  refine (folder_P t ps (c := c) (r := r) hm hps hcap inferInstance inferInstance hcw.ai.1 (fun k s x hk hs hx ha hsm hk24 g1 g2 => callK.ret ?_) (fun e he => callK.panic (h2 e _ (by unfold readdirE; simp only [he, erE]) inferInstance)))
  have hsl := hsm.l
  have hgw : IntKind.u64.wrap s.gen = s.gen := IntWalk.u64_in _ (by have := hsm.w.gen; unfold u32ok at this; omega)
  repeat (first|refine Qa ?_|refine Qb ?_|refine Qd ?_|refine Qe ?_|refine Qf ?_|fail)
  refine SXL.call rfl rfl rfl ?_
  refine (need_S (F' := R) inferInstance (fun hg => callK.ret ?_) (fun hg => callK.panic (h2 64 _ (by unfold readdirE; simp only [hk, okE]; rw [hg]; rfl) inferInstance)))
  repeat (first|refine Qd ?_|refine Qf ?_|fail)
  refine SXA.begin (.own (some ⟨pw, 0, none⟩) (wkM pw b cap t c Ac cc r none 0 none 0) :: .own (some ⟨b, 0, none⟩) (thR b 24 cap t.l ps) :: R) [] ?_
  unfold wkM wkC
  refine Qr 0 ?_
  refine Qr 1 ?_
  refine Qr 2 ?_
  refine Qr 3 ?_
  refine Qt 4 ?_
  refine Qr 5 ?_
  refine Qr 6 ?_
  refine SXA.split 23 rfl (fun k1 => ?_) (fun k1 => ?_)
  · have k2 : (c.off == 0) = true := k1
    refine Qs 7 ?_
    refine Qs 8 ?_
    refine Qs 9 ?_
    refine Qs 10 ?_
    refine Qs 11 ?_
    refine Qs 12 ?_
    refine Qs 13 ?_
    refine Qs 14 ?_
    refine Qs 15 ?_
    refine Qs 16 ?_
    refine Qs 17 ?_
    refine Qr 18 ?_
    refine SXA.same 35 (.bool (c.off == 0 || c.verf == s.gen)) rfl (by rw [k2]; rfl) ?_
    refine Qw 19 ?_
    refine SXL.call rfl rfl rfl ?_
    refine (need_S (F' := R) inferInstance (fun hg2 => callK.ret ?_) (fun hg2 => callK.panic (h2 70 _ (by unfold readdirE; simp only [hk, okE, ha]; rw [hg, needT, okE, hg2]; rfl) inferInstance)))
    refine SXL.nil (SXA.next inferInstance ?_)
    refine Qv ?_
    repeat (first|refine Qf ?_|fail)
    refine SXA.begin (.own (some ⟨pw, 0, none⟩) (wkM pw b cap t c Ac cc r none 0 none 0) :: .own (some ⟨b, 0, none⟩) (thR b 24 cap t.l ps) :: R) [23, 27] ?_
    unfold wkM wkC
    refine Qr 0 ?_
    refine Qr 1 ?_
    refine Qr 2 ?_
    refine Qr 4 ?_
    refine Qr 5 ?_
    refine Qr 6 ?_
    refine Qr 7 ?_
    refine Qt 8 ?_
    refine Qr 9 ?_
    refine Qr 10 ?_
    refine Qr 11 ?_
    refine Qr 12 ?_
    refine Qt 13 ?_
    refine SXA.min 14 ?_
    refine Qr 15 ?_
    refine SXA.same 53 (.int .i64 (min c.cnt 24)) rfl (congrArg (Value.int .i64) (by rw [IntWalk.i64_in _ (by split <;> omega)]; split <;> omega)) ?_
    refine Qw 3 ?_
    refine SXL.call rfl rfl rfl ?_
    refine (entries_S (ts := t.l) (ps := ps) inferInstance inferInstance hs hx hsm.w.d (by omega) (fun A' c' hc' => callK.ret ?_))
    refine SXL.nil (SXA.next inferInstance ?_)
    refine Qw 16 ?_
    refine SXL.call rfl rfl rfl ?_
    refine (After_S c.off (min c.cnt 24) (l := entS s) (A := A') (c := c') inferInstance hc' (by have := (entS_ok hsm.w).2; omega) (by omega) (by omega) (fun l bb hl A2 c2 hc2 => callK.ret ?_))
    refine SXL.keepRow A2 inferInstance ?_
    refine SXL.nil (SXA.next inferInstance ?_)
    refine Qr 17 ?_
    refine Qr 18 ?_
    refine Qr 19 ?_
    refine Qr 20 ?_
    refine Qr 21 ?_
    refine Qr 22 ?_
    refine Qw 23 ?_
    refine Qc ?_
    refine SXL.nil (SXA.nextLast rfl ?_)
    refine Qr 24 ?_
    refine Qr 25 ?_
    refine Qr 26 ?_
    refine Qw 27 ?_
    refine Qc ?_
    refine SXL.nil (SXA.nextLast rfl ?_)
    refine Qv ?_
    repeat (first|refine Qa ?_|refine Qc ?_|refine Qd ?_|refine Qe ?_|refine Qf ?_|refine Qx ?_|fail)
    rw [hgw]
    skip
    refine SXL.call rfl rfl rfl ?_
    refine (tell_P t ps (c := c) (r := { r with e := l, eof := bb, verf := s.gen }) (Ad := none) (cd := 0) (Ae := A2) (ce := c2) inferInstance inferInstance hs hx hsm (callK.ret ?_))
    repeat (first|refine Qd ?_|fail)
    refine SX.fin (M' := (.own (some ⟨pw, 0, none⟩) (wkM pw b cap t c Ac cc (tellS s { r with e := l, eof := bb, verf := s.gen }) none 0 A2 c2) :: .own (some ⟨b, 0, none⟩) (thR b 24 cap t.l ps) :: .per (datR t.l ps) :: .per (roR (Kd.int .u8) none (tellS s r).d) :: .per (roR kE A2 l) :: R)) rfl Evals.nil ?_ inferInstance
    exact h1 t (tellS s { r with e := l, eof := bb, verf := s.gen }) ps none 0 A2 c2 (by unfold readdirE; simp only [hk, okE, ha, hl]; rw [hg, needT, okE, hg2]; rfl) (by rw [hrd]; exact Nat.le_refl _) hc2 hps hm
  · have k2 : (c.off == 0) = false := k1
    refine Qr 7 ?_
    refine Qr 8 ?_
    refine Qr 9 ?_
    refine Qr 10 ?_
    refine Qt 11 ?_
    refine Qr 12 ?_
    refine Qr 13 ?_
    refine Qr 14 ?_
    refine Qxa 15 ?_
    refine Qr 16 ?_
    refine Qr 17 ?_
    refine Qr 18 ?_
    refine SXA.same 35 (.bool (c.off == 0 || c.verf == s.gen)) rfl (by rw [k2, hgw]; rfl) ?_
    refine Qw 19 ?_
    refine SXL.call rfl rfl rfl ?_
    refine (need_S (F' := R) inferInstance (fun hg2 => callK.ret ?_) (fun hg2 => callK.panic (h2 70 _ (by unfold readdirE; simp only [hk, okE, ha]; rw [hg, needT, okE, hg2]; rfl) inferInstance)))
    refine SXL.nil (SXA.next inferInstance ?_)
    refine Qv ?_
    repeat (first|refine Qf ?_|fail)
    refine SXA.begin (.own (some ⟨pw, 0, none⟩) (wkM pw b cap t c Ac cc r none 0 none 0) :: .own (some ⟨b, 0, none⟩) (thR b 24 cap t.l ps) :: R) [23, 27] ?_
    unfold wkM wkC
    refine Qr 0 ?_
    refine Qr 1 ?_
    refine Qr 2 ?_
    refine Qr 4 ?_
    refine Qr 5 ?_
    refine Qr 6 ?_
    refine Qr 7 ?_
    refine Qt 8 ?_
    refine Qr 9 ?_
    refine Qr 10 ?_
    refine Qr 11 ?_
    refine Qr 12 ?_
    refine Qt 13 ?_
    refine SXA.min 14 ?_
    refine Qr 15 ?_
    refine SXA.same 53 (.int .i64 (min c.cnt 24)) rfl (congrArg (Value.int .i64) (by rw [IntWalk.i64_in _ (by split <;> omega)]; split <;> omega)) ?_
    refine Qw 3 ?_
    refine SXL.call rfl rfl rfl ?_
    refine (entries_S (ts := t.l) (ps := ps) inferInstance inferInstance hs hx hsm.w.d (by omega) (fun A' c' hc' => callK.ret ?_))
    refine SXL.nil (SXA.next inferInstance ?_)
    refine Qw 16 ?_
    refine SXL.call rfl rfl rfl ?_
    refine (After_S c.off (min c.cnt 24) (l := entS s) (A := A') (c := c') inferInstance hc' (by have := (entS_ok hsm.w).2; omega) (by omega) (by omega) (fun l bb hl A2 c2 hc2 => callK.ret ?_))
    refine SXL.keepRow A2 inferInstance ?_
    refine SXL.nil (SXA.next inferInstance ?_)
    refine Qr 17 ?_
    refine Qr 18 ?_
    refine Qr 19 ?_
    refine Qr 20 ?_
    refine Qr 21 ?_
    refine Qr 22 ?_
    refine Qw 23 ?_
    refine Qc ?_
    refine SXL.nil (SXA.nextLast rfl ?_)
    refine Qr 24 ?_
    refine Qr 25 ?_
    refine Qr 26 ?_
    refine Qw 27 ?_
    refine Qc ?_
    refine SXL.nil (SXA.nextLast rfl ?_)
    refine Qv ?_
    repeat (first|refine Qa ?_|refine Qc ?_|refine Qd ?_|refine Qe ?_|refine Qf ?_|refine Qx ?_|fail)
    rw [hgw]
    skip
    refine SXL.call rfl rfl rfl ?_
    refine (tell_P t ps (c := c) (r := { r with e := l, eof := bb, verf := s.gen }) (Ad := none) (cd := 0) (Ae := A2) (ce := c2) inferInstance inferInstance hs hx hsm (callK.ret ?_))
    repeat (first|refine Qd ?_|fail)
    refine SX.fin (M' := (.own (some ⟨pw, 0, none⟩) (wkM pw b cap t c Ac cc (tellS s { r with e := l, eof := bb, verf := s.gen }) none 0 A2 c2) :: .own (some ⟨b, 0, none⟩) (thR b 24 cap t.l ps) :: .per (datR t.l ps) :: .per (roR (Kd.int .u8) none (tellS s r).d) :: .per (roR kE A2 l) :: R)) rfl Evals.nil ?_ inferInstance
    exact h1 t (tellS s { r with e := l, eof := bb, verf := s.gen }) ps none 0 A2 c2 (by unfold readdirE; simp only [hk, okE, ha, hl]; rw [hg, needT, okE, hg2]; rfl) (by rw [hrd]; exact Nat.le_refl _) hc2 hps hm
theorem read_S : OpS (Tryz.prog) 36 readE := by
  intro R K b pw cap cc Ac t ps c r hps hcap hm hcw hcl hcc hd hro hrd hre h1 h2
  haveI n1 : IsNil r.d := ⟨hrd⟩
  haveI n2 : IsNil r.e := ⟨hre⟩
  have hcn := hcw.cnt
  unfold u32ok at hcn
  have hof := hcw.off
  unfold u64ok at hof
  refine Fn.enter Tryz.call36 Tryz.func36 rfl rfl rfl ?_
  repeat (first|refine Qa ?_|refine Qb ?_|refine Qe ?_|refine Qf ?_|fail)
  refine SXL.call rfl rfl rfl ?_
  refine (file_P t ps (c := c) (r := r) hm hps hcap inferInstance inferInstance hcw.ai.1 (fun k s x hk hs hx ha hsm hk24 g1 g2 => callK.ret ?_) (fun e he => callK.panic (h2 e _ (by unfold readE; simp only [he, erE]) inferInstance)))
  have hsl := hsm.l
  refine SXL.derive (datR t.l ps) (roR (Kd.int .u8) x.1 s.d) (fun w S h => (h.2 k s x hs hx).2) ?_
  refine SXL.derive (datR t.l ps) (pureR (s.d.length ≤ x.2)) (fun w S h => (h.2 k s x hs hx).1) ?_
  refine SXL.fact (s.d.length ≤ x.2) (fun hle => ?_)
  obtain ⟨fr, hfr⟩ : ∃ fr, fr = min c.off.toNat s.d.length := ⟨_, rfl⟩
  obtain ⟨n, hn⟩ : ∃ n, n = min c.cnt.toNat (s.d.length - fr) := ⟨_, rfl⟩
  repeat (first|refine Qa ?_|refine Qd ?_|refine Qf ?_|fail)
  refine SXA.begin (.own (some ⟨pw, 0, none⟩) (wkM pw b cap t c Ac cc r none 0 none 0) :: .own (some ⟨b, 0, none⟩) (thR b 24 cap t.l ps) :: .per (roR (Kd.int .u8) x.1 s.d) :: R) [] ?_
  unfold wkM wkC
  refine Qr 0 ?_
  refine Qr 1 ?_
  refine Qr 2 ?_
  refine Qr 3 ?_
  refine Qt 4 ?_
  refine Qr 5 ?_
  refine Qr 6 ?_
  refine Qr 7 ?_
  refine Qxa 8 ?_
  refine Qr 9 ?_
  refine Qr 10 ?_
  refine SXA.min 11 ?_
  refine Qr 12 ?_
  refine Qr 13 ?_
  refine Qv ?_
  refine SX.same 3 (.int .i64 (fr : Int)) rfl (congrArg (Value.int .i64) (by rw [hfr, IntWalk.u64_in _ (by omega), IntWalk.i64_in _ (by split <;> omega)]; split <;> omega)) ?_
  repeat (first|refine Qf ?_|fail)
  refine SXA.begin (.own (some ⟨pw, 0, none⟩) (wkM pw b cap t c Ac cc r none 0 none 0) :: .own (some ⟨b, 0, none⟩) (thR b 24 cap t.l ps) :: .per (roR (Kd.int .u8) x.1 s.d) :: R) [] ?_
  unfold wkM wkC
  refine Qr 0 ?_
  refine Qr 1 ?_
  refine Qr 2 ?_
  refine Qr 3 ?_
  refine Qt 4 ?_
  refine Qr 5 ?_
  refine Qr 6 ?_
  refine Qr 7 ?_
  refine Qr 8 ?_
  refine Qxa 9 ?_
  refine Qr 10 ?_
  refine Qr 11 ?_
  refine Qr 12 ?_
  refine SXA.min 13 ?_
  refine Qr 14 ?_
  refine Qv ?_
  refine SX.same 4 (.int .i64 (n : Int)) rfl (congrArg (Value.int .i64) (by rw [hn, IntWalk.i64_in c.cnt (by omega), IntWalk.i64_in _ (by omega)]; split <;> omega)) ?_
  repeat (first|refine Qa ?_|refine Qe ?_|refine Qf ?_|refine Qx ?_|fail)
  refine SXL.same 47 (.int .i64 ((fr + n : Nat) : Int)) rfl (by simp (disch := omega) only [IntWalk.i64_in, IntWalk.u8_in, IntWalk.u32_in, IntWalk.u64_in, IntWalk.rem_in, Int.natCast_add, Int.natCast_one]) ?_
  refine SXL.cut rfl rfl rfl rfl rfl rfl hle (by omega) (by omega) (by omega) rfl ?_
  have hlen : ((s.d.drop fr).take n).length = n := by rw [List.length_take, List.length_drop]; omega
  refine SXL.dropRow (Kd.int .u8) (A := x.1) (xs := s.d) fr inferInstance hle (fun B hB => ?_)
  refine SXL.takeRow (Kd.int .u8) (A := B) (xs := s.d.drop fr) n inferInstance ?_
  refine SXL.same 48 (.slice B ((s.d.drop fr).take n).length (x.2 - fr)) rfl (by rw [hlen, hB]; simp only [Int.toNat_natCast, Nat.add_sub_cancel_left]; rfl) ?_
  refine SXL.call rfl rfl rfl ?_
  refine (BClone_S (xs := (s.d.drop fr).take n) (A := B) (c := x.2 - fr) inferInstance (by rw [hlen]; omega) (by rw [hlen]; omega) (fun A' c' hc' => callK.ret ?_))
  refine SXL.keepRow A' inferInstance ?_
  repeat (first|refine Qa ?_|refine Qc ?_|refine Qd ?_|refine Qe ?_|refine Qf ?_|refine Qx ?_|fail)
  refine SXL.call rfl rfl rfl ?_
  refine (tell_P t ps (c := c) (r := { r with d := (s.d.drop fr).take n, eof := IntKind.i64.wrap ((fr : Int) + (n : Int)) == (s.d.length : Int) }) (Ad := A') (cd := c') (Ae := none) (ce := 0) inferInstance inferInstance hs hx hsm (callK.ret ?_))
  have heof : (IntKind.i64.wrap ((fr : Int) + (n : Int)) == (s.d.length : Int)) = decide (fr + n = s.d.length) := by
    rw [IntWalk.i64_in _ (by omega)]
    by_cases hq : fr + n = s.d.length
    · rw [decide_eq_true hq]; simp; omega
    · rw [decide_eq_false hq]; simp; omega
  rw [heof]
  repeat (first|refine Qd ?_|fail)
  refine SX.fin (M' := (.own (some ⟨pw, 0, none⟩) (wkM pw b cap t c Ac cc (tellS s { r with d := (s.d.drop fr).take n, eof := decide (fr + n = s.d.length) }) A' c' none 0) :: .own (some ⟨b, 0, none⟩) (thR b 24 cap t.l ps) :: .per (datR t.l ps) :: .per (roR (Kd.int .u8) A' ((s.d.drop fr).take n)) :: .per (roR kE none (tellS s r).e) :: R)) rfl Evals.nil ?_ inferInstance
  exact h1 t (tellS s { r with d := (s.d.drop fr).take n, eof := decide (fr + n = s.d.length) }) ps A' c' none 0 (by unfold readE; simp only [hk, okE, puE, ha]; rw [← hfr, ← hn]) hc' (by rw [hre]; exact Nat.le_refl _) hps hm
end
end Go.Proofs.YtanemmcddgkpdaaGreat.Sx
end
section
/- Chapter 13: a change that touches one thing, or two; attributes set, bytes written, walked; conditions: those that each theorem names. -/
namespace Go.Proofs.YtanemmcddgkpdaaGreat.Sx
open Go.RowKit Go.Proofs.YtanemmcddgkpdaaGreat.Hm Go.Proofs.YtanemmcddgkpdaaGreatW.PrintWords Go.Proofs.YtanemmcddgkpdaaGreatW.PrintLast Go.Proofs.YtanemmcddgkpdaaGreatW.PrintMore
set_option linter.unusedVariables false
set_option linter.unusedSimpArgs false
attribute [local irreducible] SX SXL SXA St callK Post Evals
theorem u8s_flat (xs : List Int) : u8s xs = xs.flatMap (fun x => [Value.int .u8 x]) := by
  induction xs with
  | nil => rfl
  | cons x xs ih => rw [List.flatMap_cons, ← ih]; rfl
theorem fileE_thing {t : Th} {i g : Int} {k : Nat} (h : fileE t i g = .ok k) : thingE t i g = .ok k := by
  unfold fileE at h
  cases hq : thingE t i g with
  | error e => rw [hq] at h; cases h
  | ok k' =>
    rw [hq, okE] at h
    cases h1 : needE ((atT t k').kind != 2) 63 with
    | error e => rw [h1] at h; cases h
    | ok u =>
      rw [h1, okE] at h
      cases h2 : needE ((atT t k').kind == 1) 64 with
      | error e => rw [h2] at h; cases h
      | ok u => rw [h2, okE] at h; exact h
section
variable {F R R1 R2 : List Thing} {K : Ending → List Thing → Prop} {b pw gg cap cc cd ce k1 k2 : Nat} {Ac Ad Ae : Option Addr} {c : Ca} {r : Re}
theorem change_P1 (t : Th) (ps : List Pl) (hm : t.mid) (hps : ps.length = 24) (hcap : 24 ≤ cap) (hat : At (some ⟨pw, 0, none⟩) F (wkM pw b cap t c Ac cc r Ad cd Ae ce) R1) (hat2 : At (some ⟨b, 0, none⟩) R1 (thR b 24 cap t.l ps) R2) (hat3 : At (some ⟨gg, 0, none⟩) R2 (cellsR gg [.pointer (some ⟨b, k1 * 9, none⟩)] 116) R) (hk1 : k1 < 24)
    (h1 : ∀ t', touchE t [k1] = .ok t' → t'.mid → t'.l.map Sl.d = t.l.map Sl.d → K (.returned (.tuple #[])) (.own (some ⟨pw, 0, none⟩) (wkM pw b cap t' c Ac cc r Ad cd Ae ce) :: .own (some ⟨b, 0, none⟩) (thR b 24 cap t'.l ps) :: .own (some ⟨gg, 0, none⟩) (cellsR gg [.pointer (some ⟨b, k1 * 9, none⟩)] 116) :: R))
    (h2 : ∀ e, touchE t [k1] = .error e → K (.panicked (failP e)) R) :
    Fn (Tryz.prog) 73 [.pointer (some ⟨pw, 0, none⟩), .slice (some ⟨gg, 0, none⟩) 1 1] F K := by
  have hn := hm.n
  unfold wkM at hat
  unfold thR at hat2
  rw [← hn] at hat hat2
  refine change1_S hat hat2 hat3 (by omega) (by omega) hn (fun s hs => by have := (hm.m s hs).l; omega) hk1 (fun t' ht hl hroom => ?_) h2
  obtain ⟨_, _, _, hd, hmm, _⟩ := touchE_ok ht
  have h9 := h1 t' ht (hmm hm) hd
  unfold wkM thR at h9
  rw [hroom, ← hn] at h9
  exact h9
theorem change_P2 (t : Th) (ps : List Pl) (hm : t.mid) (hps : ps.length = 24) (hcap : 24 ≤ cap) (hat : At (some ⟨pw, 0, none⟩) F (wkM pw b cap t c Ac cc r Ad cd Ae ce) R1) (hat2 : At (some ⟨b, 0, none⟩) R1 (thR b 24 cap t.l ps) R2) (hat3 : At (some ⟨gg, 0, none⟩) R2 (cellsR gg [.pointer (some ⟨b, k1 * 9, none⟩), .pointer (some ⟨b, k2 * 9, none⟩)] 116) R) (hk1 : k1 < 24) (hk2 : k2 < 24)
    (h1 : ∀ t', touchE t [k1, k2] = .ok t' → t'.mid → t'.l.map Sl.d = t.l.map Sl.d → K (.returned (.tuple #[])) (.own (some ⟨pw, 0, none⟩) (wkM pw b cap t' c Ac cc r Ad cd Ae ce) :: .own (some ⟨b, 0, none⟩) (thR b 24 cap t'.l ps) :: .own (some ⟨gg, 0, none⟩) (cellsR gg [.pointer (some ⟨b, k1 * 9, none⟩), .pointer (some ⟨b, k2 * 9, none⟩)] 116) :: R))
    (h2 : ∀ e, touchE t [k1, k2] = .error e → K (.panicked (failP e)) R) :
    Fn (Tryz.prog) 73 [.pointer (some ⟨pw, 0, none⟩), .slice (some ⟨gg, 0, none⟩) 2 2] F K := by
  have hn := hm.n
  unfold wkM at hat
  unfold thR at hat2
  rw [← hn] at hat hat2
  refine change2_S hat hat2 hat3 (by omega) (by omega) hn (fun s hs => by have := (hm.m s hs).l; omega) hk1 hk2 (fun t' ht hl hroom => ?_) h2
  obtain ⟨_, _, _, hd, hmm, _⟩ := touchE_ok ht
  have h9 := h1 t' ht (hmm hm) hd
  unfold wkM thR at h9
  rw [hroom, ← hn] at h9
  exact h9
end
section
theorem write_S : OpS (Tryz.prog) 37 writeE := by
  intro R K b pw cap cc Ac t ps c r hps hcap hm hcw hcl hcc hd hro hrd hre h1 h2
  haveI n1 : IsNil r.d := ⟨hrd⟩
  haveI n2 : IsNil r.e := ⟨hre⟩
  have hof := hcw.off
  unfold u64ok at hof
  refine Fn.enter Tryz.call37 Tryz.func37 rfl rfl rfl ?_
  repeat (first|refine Qa ?_|refine Qb ?_|refine Qe ?_|refine Qf ?_|fail)
  refine SXL.call rfl rfl rfl ?_
  refine (file_P t ps (c := c) (r := r) hm hps hcap inferInstance inferInstance hcw.ai.1 (fun k s x hk hs hx ha hsm hk24 g1 g2 => callK.ret ?_) (fun e he => callK.panic (h2 e _ (by unfold writeE; simp only [he, erE]) inferInstance)))
  have hsl := hsm.l
  refine SXL.derive (datR t.l ps) (roR (Kd.int .u8) x.1 s.d) (fun w S h => (h.2 k s x hs hx).2) ?_
  refine SXL.derive (datR t.l ps) (pureR (s.d.length ≤ x.2)) (fun w S h => (h.2 k s x hs hx).1) ?_
  refine SXL.fact (s.d.length ≤ x.2) (fun hle => ?_)
  repeat (first|refine Qa ?_|refine Qb ?_|refine Qd ?_|refine Qe ?_|refine Qf ?_|fail)
  refine SXL.split (s := 25) rfl (fun k1 => ?_) (fun k1 => ?_)
  rotate_left
  · have k2 : decide (c.off ≤ 768) = false := k1
    repeat (first|refine Qa ?_|refine Qn ?_|fail)
    refine SXL.call rfl rfl rfl ?_
    refine (need_S (F' := R) inferInstance (fun hg => by cases hg) (fun hg => callK.panic (h2 65 _ (by unfold writeE; simp only [hk, okE]; rw [k2]; rfl) inferInstance)))
  have k2 : c.off ≤ 768 := by simpa using k1
  repeat (first|refine Qa ?_|refine Qb ?_|refine Qm ?_|fail)
  refine SXL.call rfl rfl rfl ?_
  refine (need_S (F' := R) inferInstance (fun hg => callK.ret ?_) (fun hg => callK.panic (h2 65 _ (by unfold writeE; simp only [hk, okE]; rw [decide_eq_true k2, decide_eq_false (by rw [IntWalk.i64_in c.off (by omega), IntWalk.i64_in _ (by omega)] at hg; simpa using hg)]; rfl) inferInstance)))
  rw [IntWalk.i64_in c.off (by omega), IntWalk.i64_in _ (by omega)] at hg
  have k3 : c.off + (c.d.length : Int) ≤ 768 := by simpa using hg
  have hE : writeE t r c = if c.d.length = 0 then .ok (t, tellS s r) else (touchE (setT t k { s with d := (sizedL s.d (max s.d.length (c.off.toNat + c.d.length))).take c.off.toNat ++ c.d ++ (sizedL s.d (max s.d.length (c.off.toNat + c.d.length))).drop (c.off.toNat + c.d.length) }) [k] >>= fun t' => pure (t', tellS (atT t' k) r)) := by
    unfold writeE
    simp only [hk, okE, decide_eq_true k2, decide_eq_true k3, Bool.and_self, needT, ha, puE]
  rw [hE] at h2
  simp only [hE] at h1
  repeat (first|refine Qa ?_|refine Qd ?_|refine Qe ?_|refine Qf ?_|fail)
  refine SX.condp rfl (fun hz => ?_) (fun hz => ?_)
  rotate_left
  · have hz0 : c.d.length = 0 := by omega
    rw [if_pos hz0] at h2
    simp only [if_pos hz0] at h1
    repeat (first|refine Qa ?_|refine Qe ?_|refine Qg ?_|fail)
    refine SXL.call rfl rfl rfl ?_
    refine (tell_P t ps (c := c) (r := r) inferInstance inferInstance hs hx hsm (callK.ret ?_))
    repeat (first|refine Qd ?_|fail)
    refine SX.fin (M' := (.own (some ⟨pw, 0, none⟩) (wkM pw b cap t c Ac cc (tellS s r) none 0 none 0) :: .own (some ⟨b, 0, none⟩) (thR b 24 cap t.l ps) :: .per (datR t.l ps) :: .per (roR (Kd.int .u8) none (tellS s r).d) :: .per (roR kE none (tellS s r).e) :: R)) rfl Evals.nil ?_ inferInstance
    exact h1 t (tellS s r) ps none 0 none 0 rfl (by rw [hrd]; exact Nat.le_refl _) (by rw [hre]; exact Nat.le_refl _) hps hm
  have hz0 : ¬ c.d.length = 0 := by omega
  rw [if_neg hz0] at h2
  simp only [if_neg hz0] at h1
  obtain ⟨at_, hat_⟩ : ∃ q, q = c.off.toNat := ⟨_, rfl⟩
  obtain ⟨z, hzz⟩ : ∃ z, z = max s.d.length (at_ + c.d.length) := ⟨_, rfl⟩
  rw [← hat_, ← hzz] at h2
  simp only [← hat_, ← hzz] at h1
  repeat (first|refine Qa ?_|refine Qb ?_|refine Qd ?_|refine Qe ?_|refine Qf ?_|fail)
  refine SX.same 4 (.int .i64 (at_ : Int)) rfl (congrArg (Value.int .i64) (by rw [IntWalk.i64_in _ (by omega), hat_]; omega)) ?_
  refine SXA.begin (.own (some ⟨pw, 0, none⟩) (wkM pw b cap t c Ac cc r none 0 none 0) :: .own (some ⟨b, 0, none⟩) (thR b 24 cap t.l ps) :: .per (roR (Kd.int .u8) x.1 s.d) :: R) [] ?_
  unfold wkM wkC
  refine Qr 0 ?_
  refine Qr 1 ?_
  refine Qr 2 ?_
  refine Qxa 3 ?_
  refine Qr 4 ?_
  refine Qr 5 ?_
  refine Qr 6 ?_
  refine Qxa 7 ?_
  refine Qr 8 ?_
  refine Qr 9 ?_
  refine Qr 10 ?_
  refine Qr 11 ?_
  refine SXA.max 12 ?_
  refine SXA.same 57 (.int .i64 (z : Int)) rfl (congrArg (Value.int .i64) (by rw [hzz, IntWalk.i64_in _ (by omega)]; split <;> omega)) ?_
  refine Qw 13 ?_
  refine SXL.call rfl rfl rfl ?_
  refine (sized_S (xs := s.d) (n := z) inferInstance (by omega) (fun g => callK.ret ?_))
  refine SXL.nil (SXA.next inferInstance ?_)
  refine Qr 14 ?_
  refine Qv ?_
  repeat (first|refine Qf ?_|fail)
  refine SXA.begin (.own (some ⟨pw, 0, none⟩) (wkM pw b cap t c Ac cc r none 0 none 0) :: .own (some ⟨b, 0, none⟩) (thR b 24 cap t.l ps) :: R) [8] ?_
  unfold wkM wkC
  refine Qr 0 ?_
  refine Qr 1 ?_
  refine Qr 3 ?_
  refine Qr 4 ?_
  refine Qr 5 ?_
  refine Qr 6 ?_
  refine Qt 7 ?_
  refine Qw 2 ?_
  have hzl : (u8s (sizedL s.d z)).length = z := by rw [u8s_length, sizedL_length]
  refine SXL.cut rfl rfl rfl rfl rfl rfl (Nat.le_refl _) (by omega) (by omega) (by omega) rfl ?_
  refine SXL.same 61 (.slice (some ⟨g, at_, none⟩) (z - at_) (z - at_)) rfl (by rw [if_neg (by omega)]; simp only [Int.toNat_natCast]; simp [Addr.add]; exact fun h => h.symm) ?_
  refine SXL.nil (SXA.next inferInstance ?_)
  refine Qw 8 ?_
  refine SXL.copy (ys := c.d) rfl rfl inferInstance inferInstance rfl Tryz.underlying38 (by kernel_rfl) (by rw [hzl]; omega) rfl ?_
  have hcp : (u8s (sizedL s.d z)).take at_ ++ u8s (c.d.take (min c.d.length (z - at_))) ++ (u8s (sizedL s.d z)).drop (at_ + min c.d.length (z - at_)) = u8s ((sizedL s.d z).take at_ ++ c.d ++ (sizedL s.d z).drop (at_ + c.d.length)) := by
    rw [show min c.d.length (z - at_) = c.d.length by omega, List.take_length]
    unfold u8s
    rw [List.map_append, List.map_append, List.map_take, List.map_drop]
  rw [hcp]
  obtain ⟨bs, hbs⟩ : ∃ bs, bs = (sizedL s.d z).take at_ ++ c.d ++ (sizedL s.d z).drop (at_ + c.d.length) := ⟨_, rfl⟩
  have hbl : bs.length = z := by rw [hbs, List.length_append, List.length_append, List.length_take, List.length_drop, sizedL_length]; omega
  rw [← hbs] at h2 ⊢
  simp only [← hbs] at h1
  refine SXL.litRow (Kd.int .u8) g bs inferInstance (u8s_flat bs) (fun _ => rfl) (by omega) ?_
  refine SXL.nil (SXA.nextLast rfl ?_)
  refine Qv ?_
  obtain ⟨s1, hs1⟩ : ∃ s1 : Sl, s1 = { s with d := bs } := ⟨_, rfl⟩
  have hs1m : s1.mid := by
    rw [hs1]
    exact ⟨⟨hsm.w.ino, hsm.w.kind, hsm.w.gen, hsm.w.links, hsm.w.mode, hsm.w.change, hsm.w.cookie, hsm.w.verf, by
      show bytesB bs = true
      have q1 := (bytesB_iff _).1 (bytesB_sized (n := z) hsm.w.d)
      have q2 := (bytesB_iff _).1 hcw.d
      refine (bytesB_iff _).2 fun v hv => ?_
      rw [hbs] at hv
      rcases List.mem_append.1 hv with hv | hv
      · rcases List.mem_append.1 hv with hv | hv
        · exact q1 v (List.mem_of_mem_take hv)
        · exact q2 v hv
      · exact q1 v (List.mem_of_mem_drop hv)⟩, by show bs.length ≤ 768; omega⟩
  rw [← hs1] at h2
  simp only [← hs1] at h1
  repeat (first|refine Qa ?_|refine Qe ?_|refine Qf ?_|fail)
  refine SXL.stSl (ts := t.l) (ps := ps) s1 (some ⟨g, 0, none⟩, z) rfl rfl inferInstance hs hx (by rw [hs1, ← hbl]; rfl) ?_
  have hm1 : (setT t k s1).mid := hm.set hs1m
  have hps1 : (ps.set k (some ⟨g, 0, none⟩, z)).length = 24 := by rw [List.length_set]; exact hps
  refine SXL.derive2 (datR t.l ps) (roR (Kd.int .u8) (some ⟨g, 0, none⟩) bs) (datR (t.l.set k s1) (ps.set k (some ⟨g, 0, none⟩, z))) (fun w S h3 h4 => datR_set (s2 := s1) (by rw [hs1]; show bs.length ≤ z; omega) w S h3 (by rw [hs1]; exact h4)) ?_
  repeat (first|refine Qa ?_|refine Qd ?_|refine Qe ?_|fail)
  refine SXL.lit rfl rfl (fun gg => ?_)
  skip
  refine SXL.call rfl rfl rfl ?_
  refine (change_P1 (setT t k s1) (ps.set k (some ⟨g, 0, none⟩, z)) (c := c) (r := r) hm1 hps1 hcap inferInstance inferInstance inferInstance hk24 (fun t' ht hm' hdd => callK.ret ?_) (fun e he => callK.panic (h2 e _ (by rw [he]; rfl) inferInstance)))
  refine SXL.derive (datR (t.l.set k s1) (ps.set k (some ⟨g, 0, none⟩, z))) (datR t'.l (ps.set k (some ⟨g, 0, none⟩, z))) (datR_d hdd) ?_
  have hs' := at_some (t := t') (k := k) (by have := hm'.n; omega)
  have hx' : (ps.set k ((some ⟨g, 0, none⟩, z) : Pl))[k]? = some (some ⟨g, 0, none⟩, z) := by rw [List.getElem?_set_self (by omega)]
  repeat (first|refine Qa ?_|refine Qd ?_|refine Qe ?_|fail)
  refine SXL.call rfl rfl rfl ?_
  refine (tell_P t' (ps.set k (some ⟨g, 0, none⟩, z)) (c := c) (r := r) inferInstance inferInstance hs' hx' (hm'.at hs') (callK.ret ?_))
  repeat (first|refine Qd ?_|fail)
  refine SX.fin (M' := (.own (some ⟨pw, 0, none⟩) (wkM pw b cap t' c Ac cc (tellS (atT t' k) r) none 0 none 0) :: .own (some ⟨b, 0, none⟩) (thR b 24 cap t'.l (ps.set k (some ⟨g, 0, none⟩, z))) :: .per (datR t'.l (ps.set k (some ⟨g, 0, none⟩, z))) :: .per (roR (Kd.int .u8) none (tellS (atT t' k) r).d) :: .per (roR kE none (tellS (atT t' k) r).e) :: R)) rfl Evals.nil ?_ inferInstance
  exact h1 t' (tellS (atT t' k) r) (ps.set k (some ⟨g, 0, none⟩, z)) none 0 none 0 (by rw [ht]; rfl) (by rw [hrd]; exact Nat.le_refl _) (by rw [hre]; exact Nat.le_refl _) hps1 hm'
theorem setattr_S : OpS (Tryz.prog) 35 setattrE := by
  intro R K b pw cap cc Ac t ps c r hps hcap hm hcw hcl hcc hd hro hrd hre h1 h2
  haveI n1 : IsNil r.d := ⟨hrd⟩
  haveI n2 : IsNil r.e := ⟨hre⟩
  have hof := hcw.off
  unfold u64ok at hof
  have hcn := hcw.cnt
  unfold u32ok at hcn
  have hmw : c.mode.tmod 512 = c.mode % 512 := by
    have := hcw.mode
    unfold u32ok at this
    rw [Int.tmod_eq_emod_of_nonneg this.1]
  refine Fn.enter Tryz.call35 Tryz.func35 rfl rfl rfl ?_
  repeat (first|refine Qa ?_|refine Qb ?_|refine Qe ?_|refine Qf ?_|fail)
  refine SXL.call rfl rfl rfl ?_
  refine (thing_P t ps (c := c) (r := r) hm hps hcap inferInstance inferInstance hcw.ai.1 (fun k s x hk hs hx ha hsm hk24 g1 g2 => callK.ret ?_) (fun e he => callK.panic (h2 e _ (by unfold setattrE; simp only [he, erE]) inferInstance)))
  have hsl := hsm.l
  obtain ⟨s1, hs1⟩ : ∃ s1 : Sl, s1 = { s with mode := c.mode % 512 } := ⟨_, rfl⟩
  have hs1m : s1.mid := by
    rw [hs1]
    exact ⟨⟨hsm.w.ino, hsm.w.kind, hsm.w.gen, hsm.w.links, ⟨Int.emod_nonneg _ (by decide), by show c.mode % 512 < _; omega⟩, hsm.w.change, hsm.w.cookie, hsm.w.verf, hsm.w.d⟩, hsm.l⟩
  have hkl : k < t.l.length := by have := hm.n; omega
  have hs1s : (t.l.set k s1)[k]? = some s1 := by rw [List.getElem?_set_self hkl]
  haveI g3 : GetIs (t.l.set k s1) k s1 := ⟨hs1s⟩
  have hd1 : s1.d = s.d := by rw [hs1]
  refine SXL.derive (datR t.l ps) (roR (Kd.int .u8) x.1 s1.d) (fun w S h => by rw [hd1]; exact (h.2 k s x hs hx).2) ?_
  refine SXL.derive (datR t.l ps) (pureR (s.d.length ≤ x.2)) (fun w S h => (h.2 k s x hs hx).1) ?_
  refine SXL.fact (s.d.length ≤ x.2) (fun hle => ?_)
  repeat (first|refine Qa ?_|refine Qb ?_|refine Qd ?_|refine Qe ?_|refine Qf ?_|fail)
  refine SX.cond rfl (fun hz => ?_) (fun hz => ?_)
  · have hz1 : c.off = 1 := by simpa using hz
    have hbq : (c.off == 1) = true := hz
    repeat (first|refine Qa ?_|refine Qb ?_|refine Qe ?_|refine Qf ?_|fail)
    refine SXL.call rfl rfl rfl ?_
    refine (file_P t ps (c := c) (r := r) hm hps hcap inferInstance inferInstance hcw.ai.1 (fun k' s' x' hk' hs' hx' ha' hsm' hk24' g1' g2' => callK.ret ?_) (fun e he => callK.panic (h2 e _ (by unfold setattrE; simp only [hk, okE, if_pos hz1, he, erE]) inferInstance)))
    have hkk : k' = k := by
      have := fileE_thing hk'
      rw [hk] at this
      injection this with this
      exact this.symm
    subst hkk
    repeat (first|refine Qa ?_|refine Qb ?_|refine Qd ?_|refine Qe ?_|fail)
    refine SXL.call rfl rfl rfl ?_
    refine (need_S (F' := R) inferInstance (fun hg => callK.ret ?_) (fun hg => callK.panic (h2 65 _ (by unfold setattrE; simp only [hk, okE, if_pos hz1, hk']; rw [show decide (c.cnt ≤ 768) = false from hg]; rfl) inferInstance)))
    have hg7 : decide (c.cnt ≤ 768) = true := hg
    have hg8 : c.cnt ≤ 768 := by simpa using hg7
    repeat (first|refine Qa ?_|refine Qb ?_|refine Qd ?_|refine Qe ?_|refine Qf ?_|fail)
    refine SXL.call rfl rfl rfl ?_
    refine (need_S (F' := R) inferInstance (fun hg2 => callK.ret ?_) (fun hg2 => by rw [show decide (c.off ≤ 1) = true from decide_eq_true (by omega)] at hg2; cases hg2))
    obtain ⟨n, hn⟩ : ∃ n, n = c.cnt.toNat := ⟨_, rfl⟩
    obtain ⟨s2, hs2⟩ : ∃ s2 : Sl, s2 = { s1 with d := sizedL s1.d n } := ⟨_, rfl⟩
    have hE : setattrE t r c = (touchE (setT t k' s2) [k'] >>= fun t' => pure (t', tellS (atT t' k') r)) := by
      unfold setattrE
      simp only [hk, okE, if_pos hz1, hk', hg7, needT, ha, puE, hs2, hs1, hn]
      rw [show decide (c.off ≤ 1) = true from decide_eq_true (by omega), needT, okE]
    rw [hE] at h2
    simp only [hE] at h1
    have hs2m : s2.mid := by
      rw [hs2]
      exact ⟨⟨hs1m.w.ino, hs1m.w.kind, hs1m.w.gen, hs1m.w.links, hs1m.w.mode, hs1m.w.change, hs1m.w.cookie, hs1m.w.verf, bytesB_sized hs1m.w.d⟩, by show (sizedL s1.d n).length ≤ 768; rw [sizedL_length]; omega⟩
    repeat (first|refine Qa ?_|refine Qb ?_|refine Qd ?_|refine Qe ?_|refine Qf ?_|fail)
    rw [hmw]
    refine SXL.stSl (ts := t.l) (ps := ps) s1 x rfl rfl inferInstance hs hx (by rw [hs1]; rfl) ?_
    rw [set_same hx]
    refine SXL.derive (datR t.l ps) (datR (t.l.set k' s1) ps) (datR_same hs hd1) ?_
    repeat (first|refine Qa ?_|refine Qb ?_|refine Qd ?_|refine Qe ?_|refine Qf ?_|fail)
    refine SX.cond rfl (fun hz3 => ?_) (fun hz3 => by rw [hbq] at hz3; cases hz3)
    skip
    refine SXA.begin (.own (some ⟨pw, 0, none⟩) (wkM pw b cap t c Ac cc r none 0 none 0) :: .own (some ⟨b, 0, none⟩) (thR b 24 cap (t.l.set k' s1) ps) :: .per (roR (Kd.int .u8) x.1 s1.d) :: R) [14] ?_
    unfold wkM wkC
    refine Qr 0 ?_
    refine Qr 1 ?_
    refine Qr 2 ?_
    refine Qr 3 ?_
    refine Qxa 4 ?_
    refine Qr 5 ?_
    refine Qr 6 ?_
    refine Qr 7 ?_
    refine Qr 8 ?_
    refine Qt 9 ?_
    refine Qr 10 ?_
    refine SXA.same 62 (.int .i64 (n : Int)) rfl (congrArg (Value.int .i64) (by rw [hn, IntWalk.i64_in _ (by omega)]; omega)) ?_
    refine Qw 11 ?_
    refine SXL.call rfl rfl rfl ?_
    refine (sized_S (xs := s1.d) (n := n) inferInstance (by omega) (fun g => callK.ret ?_))
    refine SXL.litRow (Kd.int .u8) g (sizedL s1.d n) inferInstance (u8s_flat _) (fun _ => rfl) (by rw [sizedL_length]; omega) ?_
    refine SXL.nil (SXA.next inferInstance ?_)
    refine Qr 12 ?_
    refine Qr 13 ?_
    refine Qw 14 ?_
    refine SXL.stSl (ts := t.l.set k' s1) (ps := ps) s2 (some ⟨g, 0, none⟩, n) rfl rfl inferInstance hs1s hx (by rw [hs2]; show storeC _ _ (slC s1 x.1 x.2) 8 (.slice (some ⟨g, 0, none⟩) n n) = some (slC { s1 with d := sizedL s1.d n } (some ⟨g, 0, none⟩) n); unfold slC; rw [sizedL_length]; rfl) ?_
    refine SXL.derive2 (datR (t.l.set k' s1) ps) (roR (Kd.int .u8) (some ⟨g, 0, none⟩) (sizedL s1.d n)) (datR ((t.l.set k' s1).set k' s2) (ps.set k' (some ⟨g, 0, none⟩, n))) (fun w S h3 h4 => datR_set (s2 := s2) (by rw [hs2]; show (sizedL s1.d n).length ≤ n; rw [sizedL_length]; exact Nat.le_refl _) w S h3 (by rw [hs2]; exact h4)) ?_
    rw [List.set_set]
    refine SXL.nil (SXA.nextLast rfl ?_)
    refine Qv ?_
    have hm2 : (setT t k' s2).mid := hm.set hs2m
    have hps2 : (ps.set k' (some ⟨g, 0, none⟩, n)).length = 24 := by rw [List.length_set]; exact hps
    have hx2 : (ps.set k' ((some ⟨g, 0, none⟩, n) : Pl))[k']? = some (some ⟨g, 0, none⟩, n) := by rw [List.getElem?_set_self (by omega)]
    repeat (first|refine Qa ?_|refine Qe ?_|refine Qf ?_|fail)
    refine SXL.lit rfl rfl (fun gg => ?_)
    skip
    refine SXL.call rfl rfl rfl ?_
    refine (change_P1 (setT t k' s2) (ps.set k' (some ⟨g, 0, none⟩, n)) (c := c) (r := r) hm2 hps2 hcap inferInstance inferInstance inferInstance hk24 (fun t' ht hm' hdd => callK.ret ?_) (fun e he => callK.panic (h2 e _ (by rw [he]; rfl) inferInstance)))
    refine SXL.derive (datR (t.l.set k' s2) (ps.set k' (some ⟨g, 0, none⟩, n))) (datR t'.l (ps.set k' (some ⟨g, 0, none⟩, n))) (datR_d hdd) ?_
    have hs' := at_some (t := t') (k := k') (by have := hm'.n; omega)
    repeat (first|refine Qa ?_|refine Qd ?_|refine Qe ?_|fail)
    refine SXL.call rfl rfl rfl ?_
    refine (tell_P t' (ps.set k' (some ⟨g, 0, none⟩, n)) (c := c) (r := r) inferInstance inferInstance hs' hx2 (hm'.at hs') (callK.ret ?_))
    repeat (first|refine Qd ?_|fail)
    refine SX.fin (M' := (.own (some ⟨pw, 0, none⟩) (wkM pw b cap t' c Ac cc (tellS (atT t' k') r) none 0 none 0) :: .own (some ⟨b, 0, none⟩) (thR b 24 cap t'.l (ps.set k' (some ⟨g, 0, none⟩, n))) :: .per (datR t'.l (ps.set k' (some ⟨g, 0, none⟩, n))) :: .per (roR (Kd.int .u8) none (tellS (atT t' k') r).d) :: .per (roR kE none (tellS (atT t' k') r).e) :: R)) rfl Evals.nil ?_ inferInstance
    exact h1 t' (tellS (atT t' k') r) (ps.set k' (some ⟨g, 0, none⟩, n)) none 0 none 0 (by rw [ht]; rfl) (by rw [hrd]; exact Nat.le_refl _) (by rw [hre]; exact Nat.le_refl _) hps2 hm'
  · have hz1 : ¬ c.off = 1 := by simpa using hz
    have hbq : (c.off == 1) = false := by simpa using hz1
    repeat (first|refine Qa ?_|refine Qb ?_|refine Qe ?_|refine Qf ?_|refine Qg ?_|fail)
    refine SXL.call rfl rfl rfl ?_
    refine (need_S (F' := R) inferInstance (fun hg => callK.ret ?_) (fun hg => callK.panic (h2 64 _ (by unfold setattrE; simp only [hk, okE, if_neg hz1, puE]; rw [show decide (c.off ≤ 1) = false from hg]; rfl) inferInstance)))
    have hg7 : decide (c.off ≤ 1) = true := hg
    obtain ⟨s2, hs2⟩ : ∃ s2 : Sl, s2 = s1 := ⟨_, rfl⟩
    have hE : setattrE t r c = (touchE (setT t k s2) [k] >>= fun t' => pure (t', tellS (atT t' k) r)) := by
      unfold setattrE
      simp only [hk, okE, if_neg hz1, hg7, needT, ha, puE, hs2, hs1]
    rw [hE] at h2
    simp only [hE] at h1
    subst hs2
    repeat (first|refine Qa ?_|refine Qb ?_|refine Qd ?_|refine Qe ?_|refine Qf ?_|fail)
    rw [hmw]
    refine SXL.stSl (ts := t.l) (ps := ps) s2 x rfl rfl inferInstance hs hx (by rw [hs1]; rfl) ?_
    rw [set_same hx]
    refine SXL.derive (datR t.l ps) (datR (t.l.set k s2) ps) (datR_same hs hd1) ?_
    repeat (first|refine Qa ?_|refine Qb ?_|refine Qd ?_|refine Qe ?_|refine Qf ?_|fail)
    refine SX.cond rfl (fun hz3 => by rw [hbq] at hz3; cases hz3) (fun hz3 => ?_)
    have hm2 : (setT t k s2).mid := hm.set hs1m
    have hps2 := hps
    have hx2 := hx
    repeat (first|refine Qa ?_|refine Qe ?_|refine Qf ?_|refine Qg ?_|fail)
    refine SXL.lit rfl rfl (fun gg => ?_)
    skip
    refine SXL.call rfl rfl rfl ?_
    refine (change_P1 (setT t k s2) ps (c := c) (r := r) hm2 hps2 hcap inferInstance inferInstance inferInstance hk24 (fun t' ht hm' hdd => callK.ret ?_) (fun e he => callK.panic (h2 e _ (by rw [he]; rfl) inferInstance)))
    refine SXL.derive (datR (t.l.set k s2) ps) (datR t'.l ps) (datR_d hdd) ?_
    have hs' := at_some (t := t') (k := k) (by have := hm'.n; omega)
    repeat (first|refine Qa ?_|refine Qd ?_|refine Qe ?_|fail)
    refine SXL.call rfl rfl rfl ?_
    refine (tell_P t' ps (c := c) (r := r) inferInstance inferInstance hs' hx2 (hm'.at hs') (callK.ret ?_))
    repeat (first|refine Qd ?_|fail)
    refine SX.fin (M' := (.own (some ⟨pw, 0, none⟩) (wkM pw b cap t' c Ac cc (tellS (atT t' k) r) none 0 none 0) :: .own (some ⟨b, 0, none⟩) (thR b 24 cap t'.l ps) :: .per (datR t'.l ps) :: .per (roR (Kd.int .u8) none (tellS (atT t' k) r).d) :: .per (roR kE none (tellS (atT t' k) r).e) :: R)) rfl Evals.nil ?_ inferInstance
    exact h1 t' (tellS (atT t' k) r) ps none 0 none 0 (by rw [ht]; rfl) (by rw [hrd]; exact Nat.le_refl _) (by rw [hre]; exact Nat.le_refl _) hps2 hm'
end
end Go.Proofs.YtanemmcddgkpdaaGreat.Sx
end
section
/- Chapter 13: a new thing laid into a directory; what makes one, walked; conditions: those that each theorem names. -/
namespace Go.Proofs.YtanemmcddgkpdaaGreat.Sx
open Go.RowKit Go.Proofs.YtanemmcddgkpdaaGreat.Hm Go.Proofs.YtanemmcddgkpdaaGreatW.PrintWords Go.Proofs.YtanemmcddgkpdaaGreatW.PrintLast Go.Proofs.YtanemmcddgkpdaaGreatW.PrintMore
set_option linter.unusedVariables false
set_option linter.unusedSimpArgs false
attribute [local irreducible] SX SXL SXA St callK Post Evals
theorem enterE_at {t : Th} {d : Nat} {name : ByteArray} {i g : Int} {s : Sl} (h : atT t d = s) : enterE t d name i g = (enterS s name i g).map (setT t d) := by rw [enterE_S, h]
theorem leaveE_at {t : Th} {d : Nat} {name : ByteArray} {s : Sl} (h : atT t d = s) : leaveE t d name = (leaveS s name).map (setT t d) := by rw [leaveE_S, h]
theorem foundS_mem {s : Sl} {name : ByteArray} {e : Ent} (h : foundS s name = some e) : e ∈ entS s := List.mem_of_find?_eq_some h
section
variable {F R : List Thing} {K : Ending → List Thing → Prop} {b pw cap cc cd ce d : Nat} {Ac Ad Ae : Option Addr} {ts : List Sl} {ps : List Pl} {c : Ca} {r : Re} {s : Sl} {x : Pl} {A : Option Addr} {n : Nat}
theorem fresh1_S (h : K (.returned (.bool (s.kind == 0))) F) : Fn (Tryz.prog) 122 [.agg (slC s A n).toArray] F K := by
  unfold slC
  refine Fn.enter Tryz.call122 Tryz.func122 rfl rfl rfl ?_
  repeat (first|refine Qe ?_|refine Qf ?_|fail)
  refine SXL.box rfl rfl rfl (fun q => ?_)
  repeat (first|refine Qa ?_|refine Qb ?_|refine Qd ?_|refine Qe ?_|refine Qf ?_|fail)
  refine SX.ret (M' := F) rfl (Evals.tmp rfl Evals.nil) ?_ inferInstance
  exact h
def idxV (ts : List Sl) : Int := match ts.findIdx? fun s => s.kind == 0 with
  | some k => (k : Int)
  | none => -1
theorem IndexFunc_S (hr : Ro (cellsK 9) (some ⟨b, 0, none⟩) F (slZ ts ps)) (hn : ts.length = 24) (hps : ps.length = 24) (hcap : 24 ≤ cap) (h : K (.returned (.int .i64 (idxV ts))) F) :
    Fn (Tryz.prog) 121 [.slice (some ⟨b, 0, none⟩) 24 cap, .func (.func 122) #[] #[]] F K := by
  refine Fn.enter Tryz.call121 Tryz.func121 rfl rfl rfl ?_
  repeat (first|refine Qa ?_|refine Qd ?_|refine Qe ?_|refine Qf ?_|refine Qh ?_|fail)
  refine SX.loop (fun z a M => ∃ (k : Nat), k + z = 24 ∧ (∀ j s, j < k → ts[j]? = some s → (s.kind == 0) = false) ∧ a = [(0, .slice (some ⟨b, 0, none⟩) 24 cap), (1, .func (.func 122) #[] #[]), (7, .int .i64 24), (8, .int .i64 k)] ∧ F = M)
    24 ⟨0, by omega, fun j s hj => by omega, rfl, rfl⟩ (by repeat (first | exact trivial | refine ⟨rfl, ?_⟩)) inferInstance ?_
  rintro z _ _ ⟨k, hz, hno, rfl, rfl⟩
  repeat (first|refine Qa ?_|refine Qd ?_|refine Qe ?_|refine Qf ?_|fail)
  refine SX.condp rfl (fun hi => ?_) (fun hi => ?_)
  · obtain ⟨s, hs⟩ : ∃ s, ts[k]? = some s := ⟨_, List.getElem?_eq_getElem (by omega)⟩
    obtain ⟨x, hx⟩ : ∃ x, ps[k]? = some x := ⟨_, List.getElem?_eq_getElem (by omega)⟩
    haveI g1 : GetIs ts k s := ⟨hs⟩
    haveI g2 : GetIs ps k x := ⟨hx⟩
    repeat (first|refine Qa ?_|refine Qd ?_|refine Qe ?_|refine Qf ?_|refine Qg ?_|refine Qh ?_|fail)
    refine SXL.idx rfl rfl rfl rfl rfl (by omega) (by omega) rfl ?_
    refine SXL.same 14 (.pointer (some ⟨b, k * 9, none⟩)) rfl (by simp) ?_
    repeat (first|refine Qy ?_|fail)
    refine SXL.callAny (d := some _) rfl rfl rfl rfl ?_
    refine fresh1_S (s := s) (A := x.1) (n := x.2) (callK.ret ?_)
    repeat (first|refine Qd ?_|fail)
    refine SX.cond rfl (fun hz2 => ?_) (fun hz2 => ?_)
    · have he : idxV ts = (k : Int) := by
        unfold idxV
        have : ts.findIdx? (fun s => s.kind == 0) = some k := by
          rw [List.findIdx?_eq_some_iff_getElem]
          refine ⟨by omega, ?_, fun j hj => ?_⟩
          · have h9 := (List.getElem?_eq_some_iff.1 hs).2
            rw [h9]
            exact hz2
          · have h9 := hno j ts[j] hj (List.getElem?_eq_getElem (by omega))
            rw [h9]
            exact Bool.noConfusion
        rw [this]
      rw [he] at h
      repeat (first|refine Qa ?_|refine Qd ?_|refine Qe ?_|refine Qf ?_|fail)
      refine SX.ret (M' := F) rfl (Evals.tmp rfl Evals.nil) ?_ inferInstance
      exact h
    · repeat (first|refine Qa ?_|refine Qd ?_|refine Qe ?_|refine Qg ?_|refine Qi ?_|fail)
      refine SX.same 8 (.int .i64 ((k + 1 : Nat) : Int)) rfl (by simp (disch := omega) only [IntWalk.i64_in, IntWalk.u8_in, IntWalk.u32_in, IntWalk.u64_in, IntWalk.rem_in, Int.natCast_add, Int.natCast_one]) ?_
      refine SX.again (z - 1) (by omega) ⟨k + 1, by omega, fun j s' hj hs' => by
        rcases Nat.lt_or_ge j k with h1 | h1
        · exact hno j s' h1 hs'
        · obtain rfl : j = k := by omega
          rw [hs] at hs'
          injection hs' with hs'
          subst hs'
          exact hz2, rfl, rfl⟩ (by repeat (first | exact trivial | refine ⟨rfl, ?_⟩)) inferInstance
  · have he : idxV ts = -1 := by
      unfold idxV
      have : ts.findIdx? (fun s => s.kind == 0) = none := by
        rw [List.findIdx?_eq_none_iff]
        intro s hs
        obtain ⟨j, hj, hv⟩ := List.getElem_of_mem hs
        exact hno j s (by omega) (by rw [List.getElem?_eq_getElem hj, hv])
      rw [this]
    rw [he] at h
    repeat (first|refine Qa ?_|refine Qd ?_|refine Qe ?_|refine Qf ?_|refine Qj ?_|fail)
    refine SX.ret (M' := F) rfl (Evals.tmp rfl Evals.nil) ?_ inferInstance
    exact h
end
section
variable {F R : List Thing} {K : Ending → List Thing → Prop} {b pw cap cc cd ce d : Nat} {Ac Ad Ae : Option Addr} {c : Ca} {r : Re} {A : Option Addr} {n : Nat} {xs : List Int} {kind verf : Int}
theorem fresh_P (t : Th) (ps : List Pl) (hps : ps.length = 24) (hcap : 24 ≤ cap) (hm : t.mid) (hcw : c.wf) (hd : Has (datR t.l ps) R) (hr : Ro (Kd.int .u8) A R xs) (hxn : xs.length ≤ n) (hxl : xs.length ≤ 768) (hxb : bytesB xs = true) (hk : u32ok kind) (hv : u64ok verf) (hdl : d < 24)
    (h1 : ∀ t' r' ps', freshE t r c d kind verf xs = .ok (t', r') → r'.d = r.d → r'.e = r.e → ps'.length = 24 → t'.mid → K (.returned (.tuple #[])) (.own (some ⟨pw, 0, none⟩) (wkM pw b cap t' c Ac cc r' Ad cd Ae ce) :: .own (some ⟨b, 0, none⟩) (thR b 24 cap t'.l ps') :: .per (datR t'.l ps') :: R))
    (h2 : ∀ e M', freshE t r c d kind verf xs = .error e → Sub M' R → K (.panicked (failP e)) M') :
    Fn (Tryz.prog) 76 [.pointer (some ⟨pw, 0, none⟩), .pointer (some ⟨b, d * 9, none⟩), .int .u32 kind, .int .u64 verf, .slice A xs.length n] (.own (some ⟨pw, 0, none⟩) (wkM pw b cap t c Ac cc r Ad cd Ae ce) :: .own (some ⟨b, 0, none⟩) (thR b 24 cap t.l ps) :: R) K := by
  have hmw : c.mode.tmod 512 = c.mode % 512 := by
    have := hcw.mode
    unfold u32ok at this
    rw [Int.tmod_eq_emod_of_nonneg this.1]
  refine Fn.enter Tryz.call76 Tryz.func76 rfl rfl rfl ?_
  repeat (first|refine Qa ?_|refine Qb ?_|refine Qe ?_|refine Qf ?_|fail)
  refine SXL.call rfl rfl rfl ?_
  refine (IndexFunc_S (ts := t.l) (ps := ps) inferInstance hm.n hps hcap (callK.ret ?_))
  have hidx : idxV t.l = match freeAt t with | some k => (k : Int) | none => -1 := rfl
  cases hfa : freeAt t with
  | none =>
    rw [hfa] at hidx
    rw [hidx]
    repeat (first|refine Qa ?_|refine Qd ?_|refine Qe ?_|refine Qf ?_|fail)
    refine SXL.call rfl rfl rfl ?_
    refine (need_S (F' := R) inferInstance (fun hg => by cases hg) (fun hg => callK.panic (h2 66 _ (by unfold freshE; rw [hfa]) inferInstance)))
  | some kf =>
    rw [hfa] at hidx
    have hidx2 : idxV t.l = ((kf : Nat) : Int) := hidx
    rw [hidx2]
    have hkf : kf < 24 := by
      have := hfa
      unfold freeAt at this
      obtain ⟨h9, -⟩ := List.findIdx?_eq_some_iff_getElem.1 this
      rw [hm.n] at h9
      exact h9
    obtain ⟨s, hs⟩ : ∃ s, t.l[kf]? = some s := ⟨_, List.getElem?_eq_getElem (by rw [hm.n]; exact hkf)⟩
    obtain ⟨x, hx⟩ : ∃ x, ps[kf]? = some x := ⟨_, List.getElem?_eq_getElem (by omega)⟩
    haveI g1 : GetIs t.l kf s := ⟨hs⟩
    haveI g2 : GetIs ps kf x := ⟨hx⟩
    have ha := atT_get hs
    have hsm := hm.at hs
    have hwg : IntKind.u32.wrap (s.gen + 1) = (s.gen + 1) % 4294967296 := rfl
    repeat (first|refine Qa ?_|refine Qd ?_|refine Qe ?_|refine Qf ?_|fail)
    refine SXL.call rfl rfl rfl ?_
    refine (need_S (F' := R) inferInstance (fun hg => callK.ret ?_) (fun hg => by rw [decide_eq_true (by omega)] at hg; cases hg))
    repeat (first|refine Qa ?_|refine Qb ?_|refine Qd ?_|refine Qe ?_|refine Qf ?_|fail)
    refine SXL.idx rfl rfl rfl rfl rfl (by omega) (by omega) rfl ?_
    refine SXL.same 27 (.pointer (some ⟨b, kf * 9, none⟩)) rfl (by simp) ?_
    repeat (first|refine Qa ?_|refine Qd ?_|refine Qf ?_|fail)
    obtain ⟨s1, hs1⟩ : ∃ s1 : Sl, s1 = ⟨s.ino, kind, (s.gen + 1) % 4294967296, 1, c.mode % 512, 0, 0, verf, xs⟩ := ⟨_, rfl⟩
    have hs1m : s1.mid := by
      rw [hs1]
      exact ⟨⟨hsm.w.ino, hk, ⟨Int.emod_nonneg _ (by decide), Int.emod_lt_of_pos _ (by decide)⟩, ⟨by show (0:Int) ≤ 1; decide, by show (1:Int) < 4294967296; decide⟩, ⟨Int.emod_nonneg _ (by decide), by show c.mode % 512 < _; omega⟩, u64_0, u64_0, hv, hxb⟩, hxl⟩
    have hm1 : (setT t kf s1).mid := hm.set hs1m
    have hE : freshE t r c d kind verf xs = (enterE (setT t kf s1) d c.name s1.ino s1.gen >>= fun t1 => touchE t1 [kf, d] >>= fun t2 => pure (t2, tellS (atT t2 kf) r)) := by
      unfold freshE
      rw [hfa, hs1]
      dsimp only
      rw [ha]
    rw [hE] at h2
    simp only [hE] at h1
    refine SXA.begin (.own (some ⟨pw, 0, none⟩) (wkM pw b cap t c Ac cc r Ad cd Ae ce) :: .own (some ⟨b, 0, none⟩) (thR b 24 cap t.l ps) :: R) [22] ?_
    unfold wkM wkC
    refine Qr 0 ?_
    refine Qr 1 ?_
    refine Qr 2 ?_
    refine Qr 3 ?_
    refine Qxa 4 ?_
    refine Qr 5 ?_
    refine Qr 6 ?_
    refine Qr 7 ?_
    refine Qr 8 ?_
    refine Qxa 9 ?_
    refine Qr 10 ?_
    refine Qr 11 ?_
    refine Qr 12 ?_
    refine Qr 13 ?_
    refine Qr 14 ?_
    refine Qt 15 ?_
    refine Qr 16 ?_
    refine Qr 17 ?_
    refine Qr 18 ?_
    rw [hwg, hmw]
    refine Qw 19 ?_
    refine SXL.call rfl rfl rfl ?_
    refine (BClone_S (xs := xs) (A := A) (c := n) inferInstance hxn (by omega) (fun A' c' hc' => callK.ret ?_))
    refine SXL.keepRow A' inferInstance ?_
    refine SXL.nil (SXA.next inferInstance ?_)
    refine Qr 20 ?_
    refine Qr 21 ?_
    refine Qw 22 ?_
    refine SXL.stSl (f := 0) (ts := t.l) (ps := ps) s1 (A', c') rfl rfl inferInstance hs hx (by rw [hs1]; rfl) ?_
    have hps1 : (ps.set kf (A', c')).length = 24 := by rw [List.length_set]; exact hps
    refine SXL.derive2 (datR t.l ps) (roR (Kd.int .u8) A' xs) (datR (t.l.set kf s1) (ps.set kf (A', c'))) (fun w S h3 h4 => datR_set (s2 := s1) (by rw [hs1]; exact hc') w S h3 (by rw [hs1]; exact h4)) ?_
    refine SXL.nil (SXA.nextLast rfl ?_)
    refine Qv ?_
    have hs1s : (t.l.set kf s1)[kf]? = some s1 := by rw [List.getElem?_set_self (by rw [hm.n]; exact hkf)]
    have hx1s : (ps.set kf ((A', c') : Pl))[kf]? = some (A', c') := by rw [List.getElem?_set_self (by omega)]
    haveI g3 : GetIs (t.l.set kf s1) kf s1 := ⟨hs1s⟩
    haveI g4 : GetIs (ps.set kf ((A', c') : Pl)) kf (A', c') := ⟨hx1s⟩
    obtain ⟨sd, hsd⟩ : ∃ sd, (t.l.set kf s1)[d]? = some sd := ⟨_, List.getElem?_eq_getElem (by rw [List.length_set, hm.n]; exact hdl)⟩
    obtain ⟨xd, hxd⟩ : ∃ xd, (ps.set kf ((A', c') : Pl))[d]? = some xd := ⟨_, List.getElem?_eq_getElem (by omega)⟩
    have had : atT (setT t kf s1) d = sd := atT_get hsd
    rw [enterE_at had] at h2
    simp only [enterE_at had] at h1
    repeat (first|refine Qf ?_|fail)
    refine SXA.begin (.own (some ⟨pw, 0, none⟩) (wkM pw b cap t c Ac cc r Ad cd Ae ce) :: .own (some ⟨b, 0, none⟩) (thR b 24 cap (t.l.set kf s1) (ps.set kf (A', c'))) :: .per (datR (t.l.set kf s1) (ps.set kf (A', c'))) :: R) [10] ?_
    unfold wkM wkC
    refine Qr 0 ?_
    refine Qr 1 ?_
    refine Qr 2 ?_
    refine Qr 3 ?_
    refine Qr 4 ?_
    refine Qt 5 ?_
    refine Qr 6 ?_
    refine Qr 7 ?_
    refine Qya 8 ?_
    refine Qw 9 ?_
    refine SXL.call rfl rfl rfl ?_
    refine (Handle_S (s := s1) (A := A') (c := c') (callK.ret ?_))
    refine SXL.nil (SXA.next inferInstance ?_)
    refine Qw 10 ?_
    refine SXL.call rfl rfl rfl ?_
    refine (Fn.sub (enter_S (R := .own (some ⟨pw, 0, none⟩) (wkM pw b cap t c Ac cc r Ad cd Ae ce) :: .per (datR (t.l.set kf s1) (ps.set kf (A', c'))) :: R) (ts := t.l.set kf s1) (ps := ps.set kf (A', c')) (m := 24) (cap := cap) (b := b) inferInstance hsd hxd (hm1.at hsd) hs1m.w.ino hs1m.w.gen (fun s' x' he => callK.ret ?_) (fun e M' he hM' => callK.panic (h2 e M' (by rw [he]; rfl) (hM'.trans inferInstance)))) inferInstance)
    rw [he] at h2
    simp only [he] at h1
    have hs'm : s'.mid := (enterS_ok (hm1.at hsd) hs1m.w.ino hs1m.w.gen he).1
    have hm2 : (setT (setT t kf s1) d s').mid := hm1.set hs'm
    obtain ⟨ps2, hps2⟩ : ∃ p : List Pl, p = (ps.set kf ((A', c') : Pl)).set d x' := ⟨_, rfl⟩
    have hps2l : ps2.length = 24 := by rw [hps2, List.length_set]; exact hps1
    rw [← hps2]
    refine SXL.nil (SXA.nextLast rfl ?_)
    refine Qv ?_
    repeat (first|refine Qa ?_|refine Qe ?_|refine Qf ?_|fail)
    refine SXL.lit rfl rfl (fun gg => ?_)
    skip
    refine SXL.call rfl rfl rfl ?_
    refine (change_P2 (setT (setT t kf s1) d s') ps2 (c := c) (r := r) hm2 hps2l hcap inferInstance inferInstance inferInstance hkf hdl (fun t' ht hm' hdd => callK.ret ?_) (fun e he => callK.panic (h2 e _ (by show (touchE (setT (setT t kf s1) d s') [kf, d] >>= _ : Ex (Th × Re)) = _; rw [he]; rfl) inferInstance)))
    refine SXL.derive (datR ((t.l.set kf s1).set d s') ps2) (datR t'.l ps2) (datR_d hdd) ?_
    have hs'' := at_some (t := t') (k := kf) (by have := hm'.n; omega)
    obtain ⟨x2, hx2⟩ : ∃ x2, ps2[kf]? = some x2 := ⟨_, List.getElem?_eq_getElem (by omega)⟩
    repeat (first|refine Qa ?_|refine Qd ?_|refine Qe ?_|fail)
    refine SXL.call rfl rfl rfl ?_
    refine (tell_P t' ps2 (c := c) (r := r) inferInstance inferInstance hs'' hx2 (hm'.at hs'') (callK.ret ?_))
    repeat (first|refine Qd ?_|fail)
    refine SX.fin (M' := (.own (some ⟨pw, 0, none⟩) (wkM pw b cap t' c Ac cc (tellS (atT t' kf) r) Ad cd Ae ce) :: .own (some ⟨b, 0, none⟩) (thR b 24 cap t'.l ps2) :: .per (datR t'.l ps2) :: R)) rfl Evals.nil ?_ inferInstance
    exact h1 t' (tellS (atT t' kf) r) ps2 (by show (touchE (setT (setT t kf s1) d s') [kf, d] >>= _ : Ex (Th × Re)) = _; rw [ht]; rfl) rfl rfl hps2l hm'
end
end Go.Proofs.YtanemmcddgkpdaaGreat.Sx
end
section
/- Chapter 13: files, directories, links made, walked; conditions: those that each theorem names. -/
namespace Go.Proofs.YtanemmcddgkpdaaGreat.Sx
open Go.RowKit Go.Proofs.YtanemmcddgkpdaaGreat.Hm Go.Proofs.YtanemmcddgkpdaaGreatW.PrintWords Go.Proofs.YtanemmcddgkpdaaGreatW.PrintLast Go.Proofs.YtanemmcddgkpdaaGreatW.PrintMore
set_option linter.unusedVariables false
set_option linter.unusedSimpArgs false
attribute [local irreducible] SX SXL SXA St callK Post Evals
section
variable {F R : List Thing} {K : Ending → List Thing → Prop} {b pw cap cc cd ce d : Nat} {Ac Ad Ae : Option Addr} {c : Ca} {r : Re}
theorem vacant_P (t : Th) (ps : List Pl) (hm : t.mid) (hps : ps.length = 24) (hcap : 24 ≤ cap) (hcw : c.wf) (hat : At (some ⟨pw, 0, none⟩) F (wkM pw b cap t c Ac cc r Ad cd Ae ce) R) (hr : Ro (cellsK 9) (some ⟨b, 0, none⟩) F (slZ t.l ps)) (hd : Has (datR t.l ps) F)
    (h1 : ∀ d, vacantE t c = .ok d → d < 24 → K (.returned (.pointer (some ⟨b, d * 9, none⟩))) F) (h2 : ∀ e, vacantE t c = .error e → K (.panicked (failP e)) F) :
    Fn (Tryz.prog) 77 [.pointer (some ⟨pw, 0, none⟩)] F K := by
  refine Fn.enter Tryz.call77 Tryz.func77 rfl rfl rfl ?_
  repeat (first|refine Qa ?_|refine Qb ?_|refine Qd ?_|refine Qe ?_|refine Qf ?_|fail)
  refine SXL.call rfl rfl rfl ?_
  refine (folder_P t ps (c := c) (r := r) hm hps hcap hat hr hcw.ai.1 (fun k s x hk hs hx ha hsm hk24 g1 g2 => callK.ret ?_) (fun e he => callK.panic (h2 e (by unfold vacantE; simp only [he, erE]))))
  have hsl := hsm.l
  repeat (first|refine Qa ?_|refine Qb ?_|refine Qd ?_|refine Qe ?_|refine Qf ?_|fail)
  refine SXL.call rfl rfl rfl ?_
  refine (named_S (fun hn => callK.ret ?_) (fun e he => callK.panic (h2 e (by unfold vacantE; simp only [hk, okE, he, erE]))))
  repeat (first|refine Qa ?_|refine Qb ?_|refine Qd ?_|refine Qe ?_|refine Qf ?_|fail)
  refine SXL.call rfl rfl rfl ?_
  refine (found_S (ts := t.l) (ps := ps) (name := c.name) hr hd hs hx hsm.w.d (by omega) (fun hf => callK.ret ?_) (fun e hf => callK.ret ?_))
  · repeat (first|refine Qa ?_|fail)
    refine SXL.alloc rfl rfl (fun z => ?_)
    repeat (first|refine Qa ?_|refine Qc ?_|refine Qd ?_|refine Qe ?_|refine Qf ?_|fail)
    refine SXL.call rfl rfl rfl ?_
    refine (need_S (F' := F) inferInstance (fun hg => callK.ret ?_) (fun hg => by cases hg))
    repeat (first|refine Qa ?_|refine Qd ?_|refine Qe ?_|refine Qf ?_|fail)
    refine SX.ret (M' := F) rfl (Evals.tmp rfl Evals.nil) ?_ inferInstance
    exact h1 k (by unfold vacantE; simp only [hk, hn, okE, ha, hf, puE]; rfl) hk24
  · repeat (first|refine Qa ?_|fail)
    refine SXL.alloc rfl rfl (fun z => ?_)
    repeat (first|refine Qa ?_|refine Qc ?_|refine Qd ?_|refine Qe ?_|refine Qf ?_|fail)
    refine SXL.call rfl rfl rfl ?_
    refine (need_S (F' := F) inferInstance (fun hg => by cases hg) (fun hg => callK.panic (h2 61 (by unfold vacantE; simp only [hk, hn, okE, ha, hf]; rfl))))
end
section
theorem mkdir_S : OpS (Tryz.prog) 39 mkdirE := by
  intro R K b pw cap cc Ac t ps c r hps hcap hm hcw hcl hcc hd hro hrd hre h1 h2
  refine Fn.enter Tryz.call39 Tryz.func39 rfl rfl rfl ?_
  repeat (first|refine Qa ?_|refine Qe ?_|fail)
  refine SXL.call rfl rfl rfl ?_
  refine (vacant_P t ps (c := c) (r := r) hm hps hcap hcw inferInstance inferInstance inferInstance (fun d hv hd24 => callK.ret ?_) (fun e he => callK.panic (h2 e _ (by unfold mkdirE; simp only [he, erE]) inferInstance)))
  skip
  refine SXL.call rfl rfl rfl ?_
  refine (fresh_P (xs := []) (A := none) (n := 0) (kind := 2) (verf := 0) (c := c) (r := r) t ps hps hcap hm hcw hd inferInstance (Nat.le_refl _) (by decide) rfl ⟨by decide, by decide⟩ u64_0 hd24 (fun t' r' ps' he h3 h4 hps' hm' => callK.ret ?_) (fun e M' he hM => callK.panic (h2 e M' (by unfold mkdirE; simp only [hv, okE, he]) hM)))
  haveI n1 : IsNil r'.d := ⟨h3.trans hrd⟩
  haveI n2 : IsNil r'.e := ⟨h4.trans hre⟩
  repeat (first|refine Qd ?_|fail)
  refine SX.fin (M' := (.own (some ⟨pw, 0, none⟩) (wkM pw b cap t' c Ac cc r' none 0 none 0) :: .own (some ⟨b, 0, none⟩) (thR b 24 cap t'.l ps') :: .per (datR t'.l ps') :: .per (roR (Kd.int .u8) none r'.d) :: .per (roR kE none r'.e) :: R)) rfl Evals.nil ?_ inferInstance
  exact h1 t' r' ps' none 0 none 0 (by unfold mkdirE; simp only [hv, okE, he]) (by rw [n1.h]; exact Nat.le_refl _) (by rw [n2.h]; exact Nat.le_refl _) hps' hm'
theorem symlink_S : OpS (Tryz.prog) 40 symlinkE := by
  intro R K b pw cap cc Ac t ps c r hps hcap hm hcw hcl hcc hd hro hrd hre h1 h2
  refine Fn.enter Tryz.call40 Tryz.func40 rfl rfl rfl ?_
  repeat (first|refine Qa ?_|refine Qe ?_|refine Qf ?_|fail)
  refine SXL.call rfl rfl rfl ?_
  refine (vacant_P t ps (c := c) (r := r) hm hps hcap hcw inferInstance inferInstance inferInstance (fun d hv hd24 => callK.ret ?_) (fun e he => callK.panic (h2 e _ (by unfold symlinkE; simp only [he, erE]) inferInstance)))
  repeat (first|refine Qa ?_|refine Qb ?_|refine Qd ?_|refine Qe ?_|refine Qf ?_|fail)
  refine SXL.split (s := 12) rfl (fun k1 => ?_) (fun k1 => ?_)
  rotate_left
  · repeat (first|refine Qa ?_|refine Qn ?_|fail)
    refine SXL.call rfl rfl rfl ?_
    refine (need_S (F' := R) inferInstance (fun hg => by cases hg) (fun hg => callK.panic (h2 64 _ (by unfold symlinkE; simp only [hv, okE]; rw [show decide (1 ≤ c.d.length) = false from decide_eq_false (by have := of_decide_eq_false k1; omega)]; rfl) inferInstance)))
  have k2 : decide (1 ≤ c.d.length) = true := decide_eq_true (by have := of_decide_eq_true k1; omega)
  repeat (first|refine Qa ?_|refine Qb ?_|refine Qm ?_|fail)
  refine SXL.call rfl rfl rfl ?_
  refine (need_S (F' := R) inferInstance (fun hg => callK.ret ?_) (fun hg => callK.panic (h2 64 _ (by unfold symlinkE; simp only [hv, okE]; rw [k2, show decide (c.d.length ≤ 768) = false from decide_eq_false (by have := of_decide_eq_false hg; omega)]; rfl) inferInstance)))
  have k3 : decide (c.d.length ≤ 768) = true := decide_eq_true (by have := of_decide_eq_true hg; omega)
  have hE : symlinkE t r c = freshE t r c d 3 0 c.d := by unfold symlinkE; simp only [hv, okE, k2, k3, Bool.and_self, needT]
  rw [hE] at h2
  simp only [hE] at h1
  repeat (first|refine Qa ?_|refine Qb ?_|refine Qd ?_|refine Qe ?_|fail)
  refine SXL.call rfl rfl rfl ?_
  refine (fresh_P (xs := c.d) (A := Ac) (n := cc) (kind := 3) (verf := 0) (c := c) (r := r) t ps hps hcap hm hcw hd hro hcc (of_decide_eq_true k3) hcw.d ⟨by decide, by decide⟩ u64_0 hd24 (fun t' r' ps' he h3 h4 hps' hm' => callK.ret ?_) (fun e M' he hM => callK.panic (h2 e M' he hM)))
  haveI n1 : IsNil r'.d := ⟨h3.trans hrd⟩
  haveI n2 : IsNil r'.e := ⟨h4.trans hre⟩
  repeat (first|refine Qd ?_|fail)
  refine SX.fin (M' := (.own (some ⟨pw, 0, none⟩) (wkM pw b cap t' c Ac cc r' none 0 none 0) :: .own (some ⟨b, 0, none⟩) (thR b 24 cap t'.l ps') :: .per (datR t'.l ps') :: .per (roR (Kd.int .u8) none r'.d) :: .per (roR kE none r'.e) :: R)) rfl Evals.nil ?_ inferInstance
  exact h1 t' r' ps' none 0 none 0 he (by rw [n1.h]; exact Nat.le_refl _) (by rw [n2.h]; exact Nat.le_refl _) hps' hm'
theorem create_S : OpS (Tryz.prog) 38 createE := by
  intro R K b pw cap cc Ac t ps c r hps hcap hm hcw hcl hcc hd hro hrd hre h1 h2
  haveI n1 : IsNil r.d := ⟨hrd⟩
  haveI n2 : IsNil r.e := ⟨hre⟩
  refine Fn.enter Tryz.call38 Tryz.func38 rfl rfl rfl ?_
  repeat (first|refine Qa ?_|refine Qb ?_|refine Qe ?_|refine Qf ?_|fail)
  refine SXL.call rfl rfl rfl ?_
  refine (folder_P t ps (c := c) (r := r) hm hps hcap inferInstance inferInstance hcw.ai.1 (fun d s x hk hs hx ha hsm hk24 g1 g2 => callK.ret ?_) (fun e he => callK.panic (h2 e _ (by unfold createE; simp only [he, erE]) inferInstance)))
  have hsl := hsm.l
  repeat (first|refine Qa ?_|refine Qb ?_|refine Qd ?_|refine Qe ?_|refine Qf ?_|fail)
  refine SXL.call rfl rfl rfl ?_
  refine (named_S (fun hn => callK.ret ?_) (fun e he => callK.panic (h2 e _ (by unfold createE; simp only [hk, okE, he, erE]) inferInstance)))
  repeat (first|refine Qa ?_|refine Qb ?_|refine Qd ?_|refine Qe ?_|refine Qf ?_|fail)
  refine SXL.call rfl rfl rfl ?_
  refine (need_S (F' := R) inferInstance (fun hg => callK.ret ?_) (fun hg => callK.panic (h2 64 _ (by unfold createE; simp only [hk, hn, okE]; rw [show decide (c.cnt ≤ 2) = false from hg]; rfl) inferInstance)))
  have hg7 : decide (c.cnt ≤ 2) = true := hg
  obtain ⟨vf, hvf⟩ : ∃ vf, vf = if c.cnt = 1 then c.verf else 0 := ⟨_, rfl⟩
  have hvo : u64ok vf := by rw [hvf]; split; exact hcw.verf; exact u64_0
  repeat (first|refine Qa ?_|refine Qb ?_|refine Qd ?_|refine Qe ?_|refine Qf ?_|fail)
  refine SX.cut (fun a' M' => a' = [(0, .pointer (some ⟨pw, 0, none⟩)), (2, .pointer (some ⟨b, d * 9, none⟩)), (3, .int .u64 vf)] ∧ (.own (some ⟨pw, 0, none⟩) (wkM pw b cap t c Ac cc r none 0 none 0) :: .own (some ⟨b, 0, none⟩) (thR b 24 cap t.l ps) :: R) = M') ?_ ?_
  · refine SX.cond rfl (fun hz => ?_) (fun hz => ?_)
    · have hz1 : c.cnt = 1 := by simpa using hz
      rw [if_pos hz1] at hvf
      subst hvf
      repeat (first|refine Qa ?_|refine Qb ?_|refine Qd ?_|refine Qe ?_|fail)
      refine SX.meet ⟨rfl, rfl⟩ (by repeat (first | exact trivial | refine ⟨rfl, ?_⟩)) inferInstance
    · have hz1 : ¬ c.cnt = 1 := by simpa using hz
      rw [if_neg hz1] at hvf
      subst hvf
      repeat (first|refine Qg ?_|fail)
      refine SX.meet ⟨rfl, rfl⟩ (by repeat (first | exact trivial | refine ⟨rfl, ?_⟩)) inferInstance
  rintro _ _ ⟨rfl, rfl⟩
  repeat (first|refine Qa ?_|refine Qb ?_|refine Qe ?_|refine Qf ?_|fail)
  refine SXL.call rfl rfl rfl ?_
  refine (found_S (ts := t.l) (ps := ps) (name := c.name) inferInstance inferInstance hs hx hsm.w.d (by omega) (fun hf => callK.ret ?_) (fun e hf => callK.ret ?_))
  · have hE : createE t r c = freshE t r c d 1 vf [] := by unfold createE; simp only [hk, hn, okE, hg7, needT, ha, hf, hvf]
    rw [hE] at h2
    simp only [hE] at h1
    repeat (first|refine Qa ?_|fail)
    refine SXL.alloc rfl rfl (fun z => ?_)
    repeat (first|refine Qa ?_|refine Qc ?_|refine Qd ?_|refine Qe ?_|refine Qf ?_|refine Qk ?_|fail)
    refine SXL.call rfl rfl rfl ?_
    refine (Fn.sub (fresh_P (R := R) (Ac := Ac) (cc := cc) (Ad := none) (cd := 0) (Ae := none) (ce := 0) (b := b) (cap := cap) (pw := pw) (xs := []) (A := none) (n := 0) (kind := 1) (verf := vf) (c := c) (r := r) t ps hps hcap hm hcw hd inferInstance (Nat.le_refl _) (by decide) rfl ⟨by decide, by decide⟩ hvo hk24 (fun t' r' ps' he h3 h4 hps' hm' => callK.ret ?_) (fun e M' he hM => callK.panic (h2 e M' he hM))) inferInstance)
    haveI n1 : IsNil r'.d := ⟨h3.trans hrd⟩
    haveI n2 : IsNil r'.e := ⟨h4.trans hre⟩
    repeat (first|refine Qd ?_|fail)
    refine SX.ret (M' := (.own (some ⟨pw, 0, none⟩) (wkM pw b cap t' c Ac cc r' none 0 none 0) :: .own (some ⟨b, 0, none⟩) (thR b 24 cap t'.l ps') :: .per (datR t'.l ps') :: .per (roR (Kd.int .u8) none r'.d) :: .per (roR kE none r'.e) :: R)) rfl Evals.nil ?_ inferInstance
    exact h1 t' r' ps' none 0 none 0 he (by rw [n1.h]; exact Nat.le_refl _) (by rw [n2.h]; exact Nat.le_refl _) hps' hm'
  · have hei : 0 ≤ e.i := by
      obtain ⟨_, _, h, _⟩ := (entS_ok hsm.w).1 e (foundS_mem hf)
      exact h
    repeat (first|refine Qa ?_|fail)
    refine SXL.alloc rfl rfl (fun z => ?_)
    repeat (first|refine Qa ?_|refine Qb ?_|refine Qc ?_|refine Qd ?_|refine Qe ?_|refine Qf ?_|refine Qg ?_|refine Ql ?_|fail)
    refine SXL.call rfl rfl rfl ?_
    refine (thing_P t ps (c := c) (r := r) hm hps hcap inferInstance inferInstance hei (fun k s' x' hk' hs' hx' ha' hsm' hk24' g1' g2' => callK.ret ?_) (fun e' he => callK.panic (h2 e' _ (by unfold createE; simp only [hk, hn, okE, hg7, needT, ha, hf, he, erE]) inferInstance)))
    have hE : createE t r c = (needE (s'.kind == 1 && (c.cnt == 0 || (c.cnt == 1 && (vf != 0 && s'.verf == vf)))) 61 >>= fun _ => .ok (t, tellS s' r)) := by
      unfold createE
      simp only [hk, hn, okE, hg7, needT, ha, hf, hk', ha', puE, hvf]
    rw [hE] at h2
    simp only [hE] at h1
    repeat (first|refine Qa ?_|refine Qd ?_|refine Qe ?_|refine Qf ?_|refine Qx ?_|fail)
    refine SXL.split (s := 63) rfl (fun k1 => ?_) (fun k1 => ?_)
    rotate_left
    · repeat (first|refine Qa ?_|refine Qn ?_|refine Qp ?_|fail)
      refine SXL.call rfl rfl rfl ?_
      refine (need_S (F' := R) inferInstance (fun hg => by cases hg) (fun hg => callK.panic (h2 61 _ (by rw [show (s'.kind == 1) = false from k1]; rfl) inferInstance)))
    have k1' : (s'.kind == 1) = true := k1
    repeat (first|refine Qa ?_|refine Qb ?_|refine Qm ?_|fail)
    refine SXL.split (s := 70) rfl (fun k2 => ?_) (fun k2 => ?_)
    · have k2' : (c.cnt == 0) = true := k2
      repeat (first|refine Qa ?_|refine Qm ?_|refine Qn ?_|refine Qp ?_|fail)
      refine SXL.call rfl rfl rfl ?_
      refine (need_S (F' := R) inferInstance (fun hg => callK.ret ?_) (fun hg => by cases hg))
      repeat (first|refine Qa ?_|refine Qd ?_|refine Qe ?_|fail)
      refine SXL.call rfl rfl rfl ?_
      refine (tell_P t ps (c := c) (r := r) inferInstance inferInstance hs' hx' hsm' (callK.ret ?_))
      repeat (first|refine Qd ?_|fail)
      refine SX.fin (M' := (.own (some ⟨pw, 0, none⟩) (wkM pw b cap t c Ac cc (tellS s' r) none 0 none 0) :: .own (some ⟨b, 0, none⟩) (thR b 24 cap t.l ps) :: .per (datR t.l ps) :: .per (roR (Kd.int .u8) none (tellS s' r).d) :: .per (roR kE none (tellS s' r).e) :: R)) rfl Evals.nil ?_ inferInstance
      exact h1 t (tellS s' r) ps none 0 none 0 (by rw [k1', k2']; rfl) (by rw [hrd]; exact Nat.le_refl _) (by rw [hre]; exact Nat.le_refl _) hps hm
    have k2' : (c.cnt == 0) = false := k2
    repeat (first|refine Qa ?_|refine Qb ?_|refine Qm ?_|fail)
    refine SXL.split (s := 77) rfl (fun k3 => ?_) (fun k3 => ?_)
    rotate_left
    · repeat (first|refine Qa ?_|refine Qm ?_|refine Qn ?_|fail)
      refine SXL.call rfl rfl rfl ?_
      refine (need_S (F' := R) inferInstance (fun hg => by cases hg) (fun hg => callK.panic (h2 61 _ (by rw [k1', k2', show (c.cnt == 1) = false from k3]; rfl) inferInstance)))
    have k3' : (c.cnt == 1) = true := k3
    repeat (first|refine Qa ?_|refine Qm ?_|fail)
    refine SXL.split (s := 81) rfl (fun k4 => ?_) (fun k4 => ?_)
    rotate_left
    · repeat (first|refine Qa ?_|refine Qm ?_|refine Qn ?_|fail)
      refine SXL.call rfl rfl rfl ?_
      refine (need_S (F' := R) inferInstance (fun hg => by cases hg) (fun hg => callK.panic (h2 61 _ (by rw [k1', k2', k3', show (vf != 0) = false from k4]; rfl) inferInstance)))
    have k4' : (vf != 0) = true := k4
    repeat (first|refine Qa ?_|refine Qm ?_|refine Qx ?_|fail)
    refine SXL.call rfl rfl rfl ?_
    refine (need_S (F' := R) inferInstance (fun hg => callK.ret ?_) (fun hg => callK.panic (h2 61 _ (by rw [k1', k2', k3', k4', show (s'.verf == vf) = false from hg]; rfl) inferInstance)))
    repeat (first|refine Qa ?_|refine Qd ?_|refine Qe ?_|fail)
    refine SXL.call rfl rfl rfl ?_
    refine (tell_P t ps (c := c) (r := r) inferInstance inferInstance hs' hx' hsm' (callK.ret ?_))
    repeat (first|refine Qd ?_|fail)
    refine SX.fin (M' := (.own (some ⟨pw, 0, none⟩) (wkM pw b cap t c Ac cc (tellS s' r) none 0 none 0) :: .own (some ⟨b, 0, none⟩) (thR b 24 cap t.l ps) :: .per (datR t.l ps) :: .per (roR (Kd.int .u8) none (tellS s' r).d) :: .per (roR kE none (tellS s' r).e) :: R)) rfl Evals.nil ?_ inferInstance
    exact h1 t (tellS s' r) ps none 0 none 0 (by rw [k1', k2', k3', k4', show (s'.verf == vf) = true from hg]; rfl) (by rw [hrd]; exact Nat.le_refl _) (by rw [hre]; exact Nat.le_refl _) hps hm
end
end Go.Proofs.YtanemmcddgkpdaaGreat.Sx
end
section
/- Chapter 13: what takes an entry out, and what makes a link, walked; conditions: those that each theorem names. -/
namespace Go.Proofs.YtanemmcddgkpdaaGreat.Sx
open Go.RowKit Go.Proofs.YtanemmcddgkpdaaGreat.Hm Go.Proofs.YtanemmcddgkpdaaGreatW.PrintWords Go.Proofs.YtanemmcddgkpdaaGreatW.PrintLast Go.Proofs.YtanemmcddgkpdaaGreatW.PrintMore
set_option linter.unusedVariables false
set_option linter.unusedSimpArgs false
attribute [local irreducible] SX SXL SXA St callK Post Evals
section
variable {F R : List Thing} {K : Ending → List Thing → Prop} {b pw cap cc cd ce d k : Nat} {Ac Ad Ae : Option Addr} {c : Ca} {r : Re}
theorem inner_P (t : Th) (ps : List Pl) (hm : t.mid) (hps : ps.length = 24) (hcap : 24 ≤ cap) (hcw : c.wf) (hat : At (some ⟨pw, 0, none⟩) F (wkM pw b cap t c Ac cc r Ad cd Ae ce) R) (hr : Ro (cellsK 9) (some ⟨b, 0, none⟩) F (slZ t.l ps)) (hd : Has (datR t.l ps) F)
    (h1 : ∀ d k, innerE t c = .ok (d, k) → d < 24 → k < 24 → K (.returned (.tuple #[.pointer (some ⟨b, d * 9, none⟩), .pointer (some ⟨b, k * 9, none⟩)])) F) (h2 : ∀ e, innerE t c = .error e → K (.panicked (failP e)) F) :
    Fn (Tryz.prog) 78 [.pointer (some ⟨pw, 0, none⟩)] F K := by
  refine Fn.enter Tryz.call78 Tryz.func78 rfl rfl rfl ?_
  repeat (first|refine Qa ?_|refine Qb ?_|refine Qd ?_|refine Qe ?_|refine Qf ?_|fail)
  refine SXL.call rfl rfl rfl ?_
  refine (folder_P t ps (c := c) (r := r) hm hps hcap hat hr hcw.ai.1 (fun k s x hk hs hx ha hsm hk24 g1 g2 => callK.ret ?_) (fun e he => callK.panic (h2 e (by unfold innerE; simp only [he, erE]))))
  repeat (first|refine Qa ?_|refine Qb ?_|refine Qd ?_|refine Qe ?_|refine Qf ?_|fail)
  refine SXL.call rfl rfl rfl ?_
  refine (named_S (fun hn => callK.ret ?_) (fun e he => callK.panic (h2 e (by unfold innerE; simp only [hk, okE, he, erE]))))
  repeat (first|refine Qa ?_|refine Qb ?_|refine Qd ?_|refine Qe ?_|refine Qf ?_|fail)
  refine SXL.call rfl rfl rfl ?_
  refine (child_P t ps (c := c) (r := r) hm hps hcap hat hr hd hs hx (fun k' s' x' hk' hs' hx' ha' hsm' hk24' g1' g2' => callK.ret ?_) (fun e he => callK.panic (h2 e (by unfold innerE; simp only [hk, hn, okE, he, erE]))))
  repeat (first|refine Qa ?_|refine Qd ?_|fail)
  refine SX.ret (M' := F) rfl (Evals.tmp rfl (Evals.tmp rfl Evals.nil)) ?_ inferInstance
  exact h1 k k' (by unfold innerE; simp only [hk, hn, hk', okE, puE]) hk24 hk24'
theorem out_P (t : Th) (ps : List Pl) (hps : ps.length = 24) (hcap : 24 ≤ cap) (hm : t.mid) (hd : Has (datR t.l ps) R) (hdl : d < 24) (hkl : k < 24)
    (h1 : ∀ t' r' ps', outE t r c d k = .ok (t', r') → r'.d = r.d → r'.e = r.e → ps'.length = 24 → t'.mid → K (.returned (.tuple #[])) (.own (some ⟨pw, 0, none⟩) (wkM pw b cap t' c Ac cc r' Ad cd Ae ce) :: .own (some ⟨b, 0, none⟩) (thR b 24 cap t'.l ps') :: .per (datR t'.l ps') :: R))
    (h2 : ∀ e M', outE t r c d k = .error e → Sub M' R → K (.panicked (failP e)) M') :
    Fn (Tryz.prog) 79 [.pointer (some ⟨pw, 0, none⟩), .pointer (some ⟨b, d * 9, none⟩), .pointer (some ⟨b, k * 9, none⟩)] (.own (some ⟨pw, 0, none⟩) (wkM pw b cap t c Ac cc r Ad cd Ae ce) :: .own (some ⟨b, 0, none⟩) (thR b 24 cap t.l ps) :: R) K := by
  obtain ⟨sd, hsd⟩ : ∃ sd, t.l[d]? = some sd := ⟨_, List.getElem?_eq_getElem (by rw [hm.n]; exact hdl)⟩
  obtain ⟨xd, hxd⟩ : ∃ xd, ps[d]? = some xd := ⟨_, List.getElem?_eq_getElem (by omega)⟩
  have had := atT_get hsd
  unfold outE at h1 h2
  rw [leaveE_at had] at h2
  simp only [leaveE_at had] at h1
  refine Fn.enter Tryz.call79 Tryz.func79 rfl rfl rfl ?_
  repeat (first|refine Qa ?_|refine Qb ?_|refine Qe ?_|refine Qf ?_|fail)
  refine SXL.call rfl rfl rfl ?_
  refine (Fn.sub (leave_S (R := .own (some ⟨pw, 0, none⟩) (wkM pw b cap t c Ac cc r Ad cd Ae ce) :: R) (ts := t.l) (ps := ps) (m := 24) (cap := cap) (b := b) inferInstance hsd hxd (hm.at hsd) (fun s' x' he => callK.ret ?_) (fun e M' he hM' => callK.panic (h2 e M' (by rw [he]; rfl) (hM'.trans inferInstance)))) inferInstance)
  rw [he] at h2
  simp only [he] at h1
  have hs'm : s'.mid := (leaveS_ok (hm.at hsd) he).1
  have hm1 : (setT t d s').mid := hm.set hs'm
  have hps1 : (ps.set d x').length = 24 := by rw [List.length_set]; exact hps
  obtain ⟨sk, hsk⟩ : ∃ sk, (t.l.set d s')[k]? = some sk := ⟨_, List.getElem?_eq_getElem (by rw [List.length_set, hm.n]; exact hkl)⟩
  obtain ⟨xk, hxk⟩ : ∃ xk, (ps.set d x')[k]? = some xk := ⟨_, List.getElem?_eq_getElem (by omega)⟩
  have hak : atT (setT t d s') k = sk := atT_get hsk
  repeat (first|refine Qa ?_|refine Qd ?_|refine Qe ?_|refine Qf ?_|fail)
  refine SXL.call rfl rfl rfl ?_
  refine (Fn.sub (unlink_S (R := .own (some ⟨pw, 0, none⟩) (wkM pw b cap t c Ac cc r Ad cd Ae ce) :: .per (datR (t.l.set d s') (ps.set d x')) :: R) (ts := t.l.set d s') (ps := ps.set d x') (m := 24) (cap := cap) (b := b) inferInstance hsk hxk (fun x2 => callK.ret ?_)) inferInstance)
  have hm2 : (setT (setT t d s') k (unlinkS sk)).mid := hm1.set (unlinkS_mid (hm1.at hsk))
  obtain ⟨ps2, hps2⟩ : ∃ p : List Pl, p = (ps.set d x').set k x2 := ⟨_, rfl⟩
  have hps2l : ps2.length = 24 := by rw [hps2, List.length_set]; exact hps1
  rw [← hps2]
  have hE : ∀ (G : Th → Ex (Th × Re)), (Except.map (setT t d) (Except.ok s' : Ex Sl) >>= G) = G (setT t d s') := fun G => rfl
  rw [hE, hak] at h2
  simp only [hE, hak] at h1
  repeat (first|refine Qa ?_|refine Qd ?_|refine Qe ?_|refine Qf ?_|fail)
  refine SXL.lit rfl rfl (fun gg => ?_)
  skip
  refine SXL.call rfl rfl rfl ?_
  refine (change_P2 (setT (setT t d s') k (unlinkS sk)) ps2 (c := c) (r := r) hm2 hps2l hcap inferInstance inferInstance inferInstance hdl hkl (fun t' ht hm' hdd => callK.ret ?_) (fun e he => callK.panic (h2 e _ (by rw [he]; rfl) inferInstance)))
  refine SXL.derive (datR ((t.l.set d s').set k (unlinkS sk)) ps2) (datR t'.l ps2) (datR_d hdd) ?_
  have hs'' := at_some (t := t') (k := d) (by have := hm'.n; omega)
  obtain ⟨x3, hx3⟩ : ∃ x3, ps2[d]? = some x3 := ⟨_, List.getElem?_eq_getElem (by omega)⟩
  repeat (first|refine Qa ?_|refine Qd ?_|refine Qe ?_|fail)
  refine SXL.call rfl rfl rfl ?_
  refine (tell_P t' ps2 (c := c) (r := r) inferInstance inferInstance hs'' hx3 (hm'.at hs'') (callK.ret ?_))
  repeat (first|refine Qd ?_|fail)
  refine SX.fin (M' := (.own (some ⟨pw, 0, none⟩) (wkM pw b cap t' c Ac cc (tellS (atT t' d) r) Ad cd Ae ce) :: .own (some ⟨b, 0, none⟩) (thR b 24 cap t'.l ps2) :: .per (datR t'.l ps2) :: R)) rfl Evals.nil ?_ inferInstance
  exact h1 t' (tellS (atT t' d) r) ps2 (by rw [ht]; rfl) rfl rfl hps2l hm'
end
section
theorem remove_S : OpS (Tryz.prog) 42 removeE := by
  intro R K b pw cap cc Ac t ps c r hps hcap hm hcw hcl hcc hd hro hrd hre h1 h2
  refine Fn.enter Tryz.call42 Tryz.func42 rfl rfl rfl ?_
  repeat (first|refine Qa ?_|refine Qe ?_|refine Qf ?_|fail)
  refine SXL.call rfl rfl rfl ?_
  refine (inner_P t ps (c := c) (r := r) hm hps hcap hcw inferInstance inferInstance inferInstance (fun d k hi hd24 hk24 => callK.ret ?_) (fun e he => callK.panic (h2 e _ (by unfold removeE; simp only [he, erE]) inferInstance)))
  obtain ⟨s, hs⟩ : ∃ s, t.l[k]? = some s := ⟨_, List.getElem?_eq_getElem (by rw [hm.n]; exact hk24)⟩
  obtain ⟨x, hx⟩ : ∃ x, ps[k]? = some x := ⟨_, List.getElem?_eq_getElem (by omega)⟩
  haveI g1 : GetIs t.l k s := ⟨hs⟩
  haveI g2 : GetIs ps k x := ⟨hx⟩
  have ha := atT_get hs
  repeat (first|refine Qa ?_|refine Qd ?_|refine Qe ?_|refine Qf ?_|refine Qx ?_|fail)
  refine SXL.call rfl rfl rfl ?_
  refine (need_S (F' := R) inferInstance (fun hg => callK.ret ?_) (fun hg => callK.panic (h2 63 _ (by unfold removeE; simp only [hi, okE, ha]; rw [show (s.kind != 2) = false from hg]; rfl) inferInstance)))
  have hE : removeE t r c = outE t r c d k := by unfold removeE; simp only [hi, okE, ha]; rw [show (s.kind != 2) = true from hg]; rfl
  rw [hE] at h2
  simp only [hE] at h1
  repeat (first|refine Qa ?_|refine Qd ?_|refine Qe ?_|fail)
  refine SXL.call rfl rfl rfl ?_
  refine (out_P (c := c) (r := r) t ps hps hcap hm hd hd24 hk24 (fun t' r' ps' he h3 h4 hps' hm' => callK.ret ?_) (fun e M' he hM => callK.panic (h2 e M' he hM)))
  haveI n1 : IsNil r'.d := ⟨h3.trans hrd⟩
  haveI n2 : IsNil r'.e := ⟨h4.trans hre⟩
  repeat (first|refine Qd ?_|fail)
  refine SX.fin (M' := (.own (some ⟨pw, 0, none⟩) (wkM pw b cap t' c Ac cc r' none 0 none 0) :: .own (some ⟨b, 0, none⟩) (thR b 24 cap t'.l ps') :: .per (datR t'.l ps') :: .per (roR (Kd.int .u8) none r'.d) :: .per (roR kE none r'.e) :: R)) rfl Evals.nil ?_ inferInstance
  exact h1 t' r' ps' none 0 none 0 he (by rw [n1.h]; exact Nat.le_refl _) (by rw [n2.h]; exact Nat.le_refl _) hps' hm'
theorem rmdir_S : OpS (Tryz.prog) 43 rmdirE := by
  intro R K b pw cap cc Ac t ps c r hps hcap hm hcw hcl hcc hd hro hrd hre h1 h2
  refine Fn.enter Tryz.call43 Tryz.func43 rfl rfl rfl ?_
  repeat (first|refine Qa ?_|refine Qe ?_|refine Qf ?_|fail)
  refine SXL.call rfl rfl rfl ?_
  refine (inner_P t ps (c := c) (r := r) hm hps hcap hcw inferInstance inferInstance inferInstance (fun d k hi hd24 hk24 => callK.ret ?_) (fun e he => callK.panic (h2 e _ (by unfold rmdirE; simp only [he, erE]) inferInstance)))
  obtain ⟨s, hs⟩ : ∃ s, t.l[k]? = some s := ⟨_, List.getElem?_eq_getElem (by rw [hm.n]; exact hk24)⟩
  obtain ⟨x, hx⟩ : ∃ x, ps[k]? = some x := ⟨_, List.getElem?_eq_getElem (by omega)⟩
  haveI g1 : GetIs t.l k s := ⟨hs⟩
  haveI g2 : GetIs ps k x := ⟨hx⟩
  have ha := atT_get hs
  have hsm := hm.at hs
  have hsl := hsm.l
  repeat (first|refine Qa ?_|refine Qd ?_|refine Qe ?_|refine Qf ?_|refine Qx ?_|fail)
  refine SXL.call rfl rfl rfl ?_
  refine (need_S (F' := R) inferInstance (fun hg => callK.ret ?_) (fun hg => callK.panic (h2 62 _ (by unfold rmdirE; simp only [hi, okE, ha]; rw [show (s.kind == 2) = false from hg]; rfl) inferInstance)))
  have hg7 : (s.kind == 2) = true := hg
  repeat (first|refine Qa ?_|refine Qd ?_|refine Qe ?_|refine Qf ?_|fail)
  refine SXL.call rfl rfl rfl ?_
  refine (entries_S (ts := t.l) (ps := ps) inferInstance inferInstance hs hx hsm.w.d (by omega) (fun A' c' hc' => callK.ret ?_))
  have hlq : ∀ n : Nat, ((n : Int) == 0) = (n == 0) := fun n => by cases n <;> rfl
  repeat (first|refine Qa ?_|fail)
  rw [hlq]
  refine SXL.call rfl rfl rfl ?_
  refine (need_S (F' := R) inferInstance (fun hg2 => callK.ret ?_) (fun hg2 => callK.panic (h2 68 _ (by unfold rmdirE; simp only [hi, okE, ha, hg7, needT]; rw [hg2]; rfl) inferInstance)))
  have hE : rmdirE t r c = outE t r c d k := by unfold rmdirE; simp only [hi, okE, ha, hg7, needT]; rw [hg2]; rfl
  rw [hE] at h2
  simp only [hE] at h1
  repeat (first|refine Qa ?_|refine Qd ?_|refine Qe ?_|fail)
  refine SXL.call rfl rfl rfl ?_
  refine (Fn.sub (out_P (R := R) (Ac := Ac) (cc := cc) (Ad := none) (cd := 0) (Ae := none) (ce := 0) (b := b) (cap := cap) (pw := pw) (c := c) (r := r) t ps hps hcap hm hd hd24 hk24 (fun t' r' ps' he h3 h4 hps' hm' => callK.ret ?_) (fun e M' he hM => callK.panic (h2 e M' he hM))) inferInstance)
  haveI n1 : IsNil r'.d := ⟨h3.trans hrd⟩
  haveI n2 : IsNil r'.e := ⟨h4.trans hre⟩
  repeat (first|refine Qd ?_|fail)
  refine SX.fin (M' := (.own (some ⟨pw, 0, none⟩) (wkM pw b cap t' c Ac cc r' none 0 none 0) :: .own (some ⟨b, 0, none⟩) (thR b 24 cap t'.l ps') :: .per (datR t'.l ps') :: .per (roR (Kd.int .u8) none r'.d) :: .per (roR kE none r'.e) :: R)) rfl Evals.nil ?_ inferInstance
  exact h1 t' r' ps' none 0 none 0 he (by rw [n1.h]; exact Nat.le_refl _) (by rw [n2.h]; exact Nat.le_refl _) hps' hm'
theorem link_S : OpS (Tryz.prog) 45 linkE := by
  intro R K b pw cap cc Ac t ps c r hps hcap hm hcw hcl hcc hd hro hrd hre h1 h2
  haveI n1 : IsNil r.d := ⟨hrd⟩
  haveI n2 : IsNil r.e := ⟨hre⟩
  refine Fn.enter Tryz.call45 Tryz.func45 rfl rfl rfl ?_
  repeat (first|refine Qa ?_|refine Qb ?_|refine Qe ?_|refine Qf ?_|fail)
  refine SXL.call rfl rfl rfl ?_
  refine (thing_P t ps (c := c) (r := r) hm hps hcap inferInstance inferInstance hcw.ai.1 (fun k s x hk hs hx ha hsm hk24 g1 g2 => callK.ret ?_) (fun e he => callK.panic (h2 e _ (by unfold linkE; simp only [he, erE]) inferInstance)))
  repeat (first|refine Qa ?_|refine Qd ?_|refine Qe ?_|refine Qf ?_|refine Qx ?_|fail)
  refine SXL.call rfl rfl rfl ?_
  refine (need_S (F' := R) inferInstance (fun hg => callK.ret ?_) (fun hg => callK.panic (h2 63 _ (by unfold linkE; simp only [hk, okE, ha]; rw [show (s.kind != 2) = false from hg]; rfl) inferInstance)))
  have hg7 : (s.kind != 2) = true := hg
  repeat (first|refine Qa ?_|refine Qb ?_|refine Qd ?_|refine Qe ?_|refine Qf ?_|fail)
  refine SXL.call rfl rfl rfl ?_
  refine (folder_P t ps (c := c) (r := r) hm hps hcap inferInstance inferInstance hcw.ti.1 (fun d sd xd hkd hsd hxd had hsdm hd24 g3 g4 => callK.ret ?_) (fun e he => callK.panic (h2 e _ (by unfold linkE; simp only [hk, okE, ha, hg7, needT, he, erE]) inferInstance)))
  have hsdl := hsdm.l
  repeat (first|refine Qa ?_|refine Qb ?_|refine Qd ?_|refine Qe ?_|refine Qf ?_|fail)
  refine SXL.call rfl rfl rfl ?_
  refine (named_S (fun hn => callK.ret ?_) (fun e he => callK.panic (h2 e _ (by unfold linkE; simp only [hk, okE, ha, hg7, needT, hkd, he, erE]) inferInstance)))
  repeat (first|refine Qa ?_|refine Qb ?_|refine Qd ?_|refine Qe ?_|refine Qf ?_|fail)
  refine SXL.call rfl rfl rfl ?_
  refine (found_S (ts := t.l) (ps := ps) (name := c.toName) inferInstance inferInstance hsd hxd hsdm.w.d (by omega) (fun hf => callK.ret ?_) (fun e hf => callK.ret ?_))
  rotate_left
  · repeat (first|refine Qa ?_|fail)
    refine SXL.alloc rfl rfl (fun z => ?_)
    repeat (first|refine Qa ?_|refine Qc ?_|refine Qd ?_|refine Qe ?_|refine Qf ?_|fail)
    refine SXL.call rfl rfl rfl ?_
    refine (need_S (F' := R) inferInstance (fun hg => by cases hg) (fun hg => callK.panic (h2 61 _ (by unfold linkE; simp only [hk, okE, ha, hg7, needT, hkd, hn, had, hf]; rfl) inferInstance)))
  have hE : linkE t r c = (enterE t d c.toName s.ino s.gen >>= fun t1 => touchE (setT t1 k { atT t1 k with links := ((atT t1 k).links + 1) % 4294967296 }) [k, d] >>= fun t2 => pure (t2, tellS (atT t2 k) r)) := by
    unfold linkE
    simp only [hk, okE, ha, hg7, needT, hkd, hn, had, hf, Option.isNone]
  rw [enterE_at had] at hE
  rw [hE] at h2
  simp only [hE] at h1
  repeat (first|refine Qa ?_|fail)
  refine SXL.alloc rfl rfl (fun z => ?_)
  repeat (first|refine Qa ?_|refine Qc ?_|refine Qd ?_|refine Qe ?_|refine Qf ?_|fail)
  refine SXL.call rfl rfl rfl ?_
  refine (need_S (F' := R) inferInstance (fun hg => callK.ret ?_) (fun hg => by cases hg))
  repeat (first|refine Qd ?_|refine Qf ?_|fail)
  refine SXA.begin (.own (some ⟨pw, 0, none⟩) (wkM pw b cap t c Ac cc r none 0 none 0) :: .own (some ⟨b, 0, none⟩) (thR b 24 cap t.l ps) :: R) [10] ?_
  unfold wkM wkC
  refine Qr 0 ?_
  refine Qr 1 ?_
  refine Qr 2 ?_
  refine Qr 3 ?_
  refine Qr 4 ?_
  refine Qt 5 ?_
  refine Qr 6 ?_
  refine Qr 7 ?_
  refine Qya 8 ?_
  refine Qw 9 ?_
  refine SXL.call rfl rfl rfl ?_
  refine (Handle_S (s := s) (A := x.1) (c := x.2) (callK.ret ?_))
  refine SXL.nil (SXA.next inferInstance ?_)
  refine Qw 10 ?_
  refine SXL.call rfl rfl rfl ?_
  refine (Fn.sub (enter_S (R := .own (some ⟨pw, 0, none⟩) (wkM pw b cap t c Ac cc r none 0 none 0) :: R) (ts := t.l) (ps := ps) (m := 24) (cap := cap) (b := b) inferInstance hsd hxd hsdm hsm.w.ino hsm.w.gen (fun s' x' he => callK.ret ?_) (fun e M' he hM' => callK.panic (h2 e M' (by rw [he]; rfl) (hM'.trans inferInstance)))) inferInstance)
  have hE2 : ∀ (G : Th → Ex (Th × Re)), (Except.map (setT t d) (Except.ok s' : Ex Sl) >>= G) = G (setT t d s') := fun G => rfl
  rw [he, hE2] at h2
  simp only [he, hE2] at h1
  have hs'm : s'.mid := (enterS_ok hsdm hsm.w.ino hsm.w.gen he).1
  have hm1 : (setT t d s').mid := hm.set hs'm
  have hps1 : (ps.set d x').length = 24 := by rw [List.length_set]; exact hps
  obtain ⟨sk, hsk⟩ : ∃ sk, (t.l.set d s')[k]? = some sk := ⟨_, List.getElem?_eq_getElem (by rw [List.length_set, hm.n]; exact hk24)⟩
  obtain ⟨xk, hxk⟩ : ∃ xk, (ps.set d x')[k]? = some xk := ⟨_, List.getElem?_eq_getElem (by omega)⟩
  have hak : atT (setT t d s') k = sk := atT_get hsk
  rw [hak] at h2
  simp only [hak] at h1
  haveI g5 : GetIs (t.l.set d s') k sk := ⟨hsk⟩
  haveI g6 : GetIs (ps.set d x') k xk := ⟨hxk⟩
  have hskm := hm1.at hsk
  obtain ⟨s2, hs2⟩ : ∃ s2 : Sl, s2 = { sk with links := (sk.links + 1) % 4294967296 } := ⟨_, rfl⟩
  have hs2m : s2.mid := by
    rw [hs2]
    exact ⟨⟨hskm.w.ino, hskm.w.kind, hskm.w.gen, ⟨Int.emod_nonneg _ (by decide), Int.emod_lt_of_pos _ (by decide)⟩, hskm.w.mode, hskm.w.change, hskm.w.cookie, hskm.w.verf, hskm.w.d⟩, hskm.l⟩
  rw [← hs2] at h2
  simp only [← hs2] at h1
  have hm2 : (setT (setT t d s') k s2).mid := hm1.set hs2m
  refine SXL.nil (SXA.nextLast rfl ?_)
  refine Qv ?_
  repeat (first|refine Qa ?_|refine Qe ?_|refine Qf ?_|refine Qx ?_|fail)
  rw [show IntKind.u32.wrap (sk.links + 1) = (sk.links + 1) % 4294967296 from rfl]
  refine SXL.stSl (ts := t.l.set d s') (ps := ps.set d x') s2 xk rfl rfl inferInstance hsk hxk (by rw [hs2]; rfl) ?_
  rw [set_same hxk]
  refine SXL.derive (datR (t.l.set d s') (ps.set d x')) (datR ((t.l.set d s').set k s2) (ps.set d x')) (datR_same hsk (by rw [hs2])) ?_
  repeat (first|refine Qa ?_|refine Qd ?_|refine Qe ?_|refine Qf ?_|fail)
  refine SXL.lit rfl rfl (fun gg => ?_)
  skip
  refine SXL.call rfl rfl rfl ?_
  refine (change_P2 (setT (setT t d s') k s2) (ps.set d x') (c := c) (r := r) hm2 hps1 hcap inferInstance inferInstance inferInstance hk24 hd24 (fun t' ht hm' hdd => callK.ret ?_) (fun e he => callK.panic (h2 e _ (by rw [he]; rfl) inferInstance)))
  refine SXL.derive (datR ((t.l.set d s').set k s2) (ps.set d x')) (datR t'.l (ps.set d x')) (datR_d hdd) ?_
  have hs'' := at_some (t := t') (k := k) (by have := hm'.n; omega)
  repeat (first|refine Qa ?_|refine Qd ?_|refine Qe ?_|fail)
  refine SXL.call rfl rfl rfl ?_
  refine (tell_P t' (ps.set d x') (c := c) (r := r) inferInstance inferInstance hs'' hxk (hm'.at hs'') (callK.ret ?_))
  repeat (first|refine Qd ?_|fail)
  refine SX.fin (M' := (.own (some ⟨pw, 0, none⟩) (wkM pw b cap t' c Ac cc (tellS (atT t' k) r) none 0 none 0) :: .own (some ⟨b, 0, none⟩) (thR b 24 cap t'.l (ps.set d x')) :: .per (datR t'.l (ps.set d x')) :: .per (roR (Kd.int .u8) none (tellS (atT t' k) r).d) :: .per (roR kE none (tellS (atT t' k) r).e) :: R)) rfl Evals.nil ?_ inferInstance
  exact h1 t' (tellS (atT t' k) r) (ps.set d x') none 0 none 0 (by rw [ht]; rfl) (by rw [hrd]; exact Nat.le_refl _) (by rw [hre]; exact Nat.le_refl _) hps1 hm'
end
end Go.Proofs.YtanemmcddgkpdaaGreat.Sx
end
