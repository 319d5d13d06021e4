/- Chapter 13: rename, walked; conditions: those that each theorem names. -/
import Derived.Test.YtanemmcddgkpdaaGreatJPb
namespace Go.Proofs.YtanemmcddgkpdaaGreat.Sx
open Go.RowKit Go.Proofs.YtanemmcddgkpdaaGreat.Hm Go.Proofs.YtanemmcddgkpdaaGreatW.PrintWords Go.Proofs.YtanemmcddgkpdaaGreatW.PrintLast Go.Proofs.YtanemmcddgkpdaaGreatW.PrintMore
set_option linter.unusedVariables false
set_option linter.unusedSimpArgs false
attribute [local irreducible] SX SXL SXA St callK Post Evals
theorem mayT_get {l : List Sl} {k : Nat} {s : Sl} (h : mayT l = true) (hk : l[k]? = some s) : s.ino = k ∧ okB s = true := by
  unfold mayT at h
  rw [Bool.and_eq_true] at h
  have h2 := List.all_eq_true.1 h.2 k (List.mem_range.2 (List.getElem?_eq_some_iff.1 hk).1)
  rw [hk] at h2
  dsimp only at h2
  rw [Bool.and_eq_true] at h2
  exact ⟨of_decide_eq_true h2.1, h2.2⟩
set_option maxRecDepth 20000 in
set_option maxHeartbeats 4000000 in
theorem rename_M {t : Th} {r : Re} {c : Ca} (hmay : mayT t.l = true) : OpA Tryz.prog 44 renameE t r c := by
  intro R K b pw cap cc Ac ps hps hcap hm hcw hcl hcc hd hro hrd hre h1 h2
  haveI n1 : IsNil r.d := ⟨hrd⟩
  haveI n2 : IsNil r.e := ⟨hre⟩
  refine Fn.enter Tryz.call44 Tryz.func44 rfl rfl rfl ?_
  repeat (first|refine Qa ?_|refine Qb ?_|refine Qc ?_|refine Qd ?_|refine Qe ?_|refine Qf ?_|refine Qg ?_|refine Qh ?_|refine Qi ?_|refine Qj ?_|refine Qk ?_|refine Ql ?_|refine Qm ?_|refine Qn ?_|refine Qo ?_|refine Qp ?_|refine Qq ?_|fail)
  refine SXA.begin (.own (some ⟨pw, 0, none⟩) (wkM pw b cap t c Ac cc r none 0 none 0) :: .own (some ⟨b, 0, none⟩) (thR b 24 cap t.l ps) :: R) [] ?_
  unfold wkM wkC
  (first|refine Qr 0 ?_|refine Qs 0 ?_|refine Qxa 0 ?_|refine Qya 0 ?_|refine Qt 0 ?_|refine Qu 0 ?_|fail)
  (first|refine Qr 1 ?_|refine Qs 1 ?_|refine Qxa 1 ?_|refine Qya 1 ?_|refine Qt 1 ?_|refine Qu 1 ?_|fail)
  (first|refine Qr 2 ?_|refine Qs 2 ?_|refine Qxa 2 ?_|refine Qya 2 ?_|refine Qt 2 ?_|refine Qu 2 ?_|fail)
  (first|refine Qr 3 ?_|refine Qs 3 ?_|refine Qxa 3 ?_|refine Qya 3 ?_|refine Qt 3 ?_|refine Qu 3 ?_|fail)
  (first|refine Qr 4 ?_|refine Qs 4 ?_|refine Qxa 4 ?_|refine Qya 4 ?_|refine Qt 4 ?_|refine Qu 4 ?_|fail)
  (first|refine Qr 5 ?_|refine Qs 5 ?_|refine Qxa 5 ?_|refine Qya 5 ?_|refine Qt 5 ?_|refine Qu 5 ?_|fail)
  (first|refine Qr 7 ?_|refine Qs 7 ?_|refine Qxa 7 ?_|refine Qya 7 ?_|refine Qt 7 ?_|refine Qu 7 ?_|fail)
  (first|refine Qr 8 ?_|refine Qs 8 ?_|refine Qxa 8 ?_|refine Qya 8 ?_|refine Qt 8 ?_|refine Qu 8 ?_|fail)
  (first|refine Qr 9 ?_|refine Qs 9 ?_|refine Qxa 9 ?_|refine Qya 9 ?_|refine Qt 9 ?_|refine Qu 9 ?_|fail)
  (first|refine Qr 10 ?_|refine Qs 10 ?_|refine Qxa 10 ?_|refine Qya 10 ?_|refine Qt 10 ?_|refine Qu 10 ?_|fail)
  (first|refine Qr 11 ?_|refine Qs 11 ?_|refine Qxa 11 ?_|refine Qya 11 ?_|refine Qt 11 ?_|refine Qu 11 ?_|fail)
  (first|refine Qr 12 ?_|refine Qs 12 ?_|refine Qxa 12 ?_|refine Qya 12 ?_|refine Qt 12 ?_|refine Qu 12 ?_|fail)
  refine Qw 6 ?_
  refine SXL.call rfl rfl rfl ?_
  refine (folder_P t ps (c := c) (r := r) hm hps hcap inferInstance inferInstance hcw.ai.1 (fun fr sf xf hfr hsf hxf haf hsfm hf24 g1 g2 => callK.ret ?_) (fun e he => callK.panic (h2 e _ (by unfold renameE; simp only [he, erE]) inferInstance)))
  refine SXL.nil (SXA.next inferInstance ?_)
  refine Qw 13 ?_
  refine SXL.call rfl rfl rfl ?_
  refine (folder_P t ps (c := c) (r := r) hm hps hcap inferInstance inferInstance hcw.ti.1 (fun to' st xt hto hst hxt hat hstm ht24 g3 g4 => callK.ret ?_) (fun e he => callK.panic (h2 e _ (by unfold renameE; simp only [hfr, okE, he, erE]) inferInstance)))
  refine SXL.nil (SXA.next inferInstance ?_)
  (first|refine Qr 14 ?_|refine Qs 14 ?_|refine Qxa 14 ?_|refine Qya 14 ?_|refine Qt 14 ?_|refine Qu 14 ?_|fail)
  (first|refine Qr 15 ?_|refine Qs 15 ?_|refine Qxa 15 ?_|refine Qya 15 ?_|refine Qt 15 ?_|refine Qu 15 ?_|fail)
  refine Qv ?_
  have hstl := hstm.l
  repeat (first|refine Qa ?_|refine Qb ?_|refine Qc ?_|refine Qd ?_|refine Qe ?_|refine Qf ?_|refine Qg ?_|refine Qh ?_|refine Qi ?_|refine Qj ?_|refine Qk ?_|refine Ql ?_|refine Qm ?_|refine Qn ?_|refine Qo ?_|refine Qp ?_|refine Qq ?_|fail)
  refine SXL.call rfl rfl rfl ?_
  refine (named_S (fun hn => callK.ret ?_) (fun e he => callK.panic (h2 e _ (by unfold renameE; simp only [hfr, hto, okE, he, erE]) inferInstance)))
  repeat (first|refine Qa ?_|refine Qb ?_|refine Qc ?_|refine Qd ?_|refine Qe ?_|refine Qf ?_|refine Qg ?_|refine Qh ?_|refine Qi ?_|refine Qj ?_|refine Qk ?_|refine Ql ?_|refine Qm ?_|refine Qn ?_|refine Qo ?_|refine Qp ?_|refine Qq ?_|fail)
  refine SXL.call rfl rfl rfl ?_
  refine (named_S (fun hn2 => callK.ret ?_) (fun e he => callK.panic (h2 e _ (by unfold renameE; simp only [hfr, hto, hn, okE, he, erE]) inferInstance)))
  repeat (first|refine Qa ?_|refine Qb ?_|refine Qc ?_|refine Qd ?_|refine Qe ?_|refine Qf ?_|refine Qg ?_|refine Qh ?_|refine Qi ?_|refine Qj ?_|refine Qk ?_|refine Ql ?_|refine Qm ?_|refine Qn ?_|refine Qo ?_|refine Qp ?_|refine Qq ?_|fail)
  refine SXL.call rfl rfl rfl ?_
  refine (child_P t ps (c := c) (r := r) hm hps hcap inferInstance inferInstance inferInstance hsf hxf (fun k s x hk hs hx ha hsm hk24 g5 g6 => callK.ret ?_) (fun e he => callK.panic (h2 e _ (by unfold renameE; simp only [hfr, hto, hn, hn2, okE, he, erE]) inferInstance)))
  have hno := (mayT_get hmay hs).1
  repeat (first|refine Qa ?_|refine Qb ?_|refine Qc ?_|refine Qd ?_|refine Qe ?_|refine Qf ?_|refine Qg ?_|refine Qh ?_|refine Qi ?_|refine Qj ?_|refine Qk ?_|refine Ql ?_|refine Qm ?_|refine Qn ?_|refine Qo ?_|refine Qp ?_|refine Qq ?_|fail)
  refine SXL.lit rfl rfl (fun gg => ?_)
  repeat (first|refine Qa ?_|refine Qb ?_|refine Qc ?_|refine Qd ?_|refine Qe ?_|refine Qf ?_|refine Qg ?_|refine Qh ?_|refine Qi ?_|refine Qj ?_|refine Qk ?_|refine Ql ?_|refine Qm ?_|refine Qn ?_|refine Qo ?_|refine Qp ?_|refine Qq ?_|fail)
  refine SXL.call rfl rfl rfl ?_
  refine (found_S (ts := t.l) (ps := ps) (name := c.toName) inferInstance inferInstance hst hxt hstm.w.d (by omega) (fun hf => callK.ret ?_) (fun e hf => callK.ret ?_))
  · skip
    repeat (first|refine Qa ?_|refine Qb ?_|refine Qc ?_|fail)
    refine SXL.alloc rfl rfl (fun z => ?_)
    repeat (first|refine Qa ?_|refine Qb ?_|refine Qc ?_|fail)
    refine Qd ?_
    repeat (first|refine Qf ?_|refine Qg ?_|refine Qh ?_|refine Qi ?_|refine Qj ?_|refine Qk ?_|refine Ql ?_|fail)
    refine Qe ?_
    repeat (first|refine Qa ?_|refine Qb ?_|refine Qc ?_|fail)
    refine Qd ?_
    repeat (first|refine Qf ?_|refine Qg ?_|refine Qh ?_|refine Qi ?_|refine Qj ?_|refine Qk ?_|refine Ql ?_|fail)
    refine Qe ?_
    repeat (first|refine Qa ?_|refine Qb ?_|refine Qc ?_|fail)
    refine Qd ?_
    repeat (first|refine Qf ?_|refine Qg ?_|refine Qh ?_|refine Qi ?_|refine Qj ?_|refine Qk ?_|refine Ql ?_|fail)
    refine SX.cut (fun a' M' => ((s.kind != 2 || !belowB t k to') = true) ∧ a' = [(0, .pointer (some ⟨pw, 0, none⟩)), (2, .pointer (some ⟨b, fr * 9, none⟩)), (3, .pointer (some ⟨b, to' * 9, none⟩)), (4, .pointer (some ⟨b, k * 9, none⟩)), (5, .slice (some ⟨gg, 0, none⟩) 3 3), (7, .bool false), (8, .pointer none)] ∧ (.own (some ⟨gg, 0, none⟩) (cellsR gg [.pointer (some ⟨b, fr * 9, none⟩), .pointer (some ⟨b, to' * 9, none⟩), .pointer (some ⟨b, k * 9, none⟩)] 116) :: .own (some ⟨pw, 0, none⟩) (wkM pw b cap t c Ac cc r none 0 none 0) :: .own (some ⟨b, 0, none⟩) (thR b 24 cap t.l ps) :: R) = M') ?_ ?_
    · by_cases hkd : s.kind = 2
      · have hkb : (s.kind != 2) = false := by simpa using hkd
        repeat (first|refine Qa ?_|refine Qb ?_|refine Qc ?_|refine Qd ?_|refine Qe ?_|refine Qf ?_|refine Qg ?_|refine Qh ?_|refine Qi ?_|refine Qj ?_|refine Qk ?_|refine Ql ?_|refine Qm ?_|refine Qn ?_|refine Qo ?_|refine Qp ?_|refine Qq ?_|refine Qx ?_|refine Qy ?_|fail)
        refine SXL.know 97 false rfl hkb ?_
        repeat (first|refine Qa ?_|refine Qb ?_|refine Qc ?_|refine Qd ?_|refine Qe ?_|refine Qf ?_|refine Qg ?_|refine Qh ?_|refine Qi ?_|refine Qj ?_|refine Qk ?_|refine Ql ?_|refine Qm ?_|refine Qn ?_|refine Qo ?_|refine Qp ?_|refine Qq ?_|refine Qx ?_|refine Qy ?_|fail)
        refine SXL.call rfl rfl rfl ?_
        refine below_S t ps (c := c) (r := r) hm hps hcap inferInstance inferInstance inferInstance hs hx hkd hno ⟨hcw.ti, hcw.tg⟩ hto (callK.ret ?_)
        repeat (first|refine Qa ?_|refine Qb ?_|refine Qc ?_|refine Qd ?_|refine Qe ?_|refine Qf ?_|refine Qg ?_|refine Qh ?_|refine Qi ?_|refine Qj ?_|refine Qk ?_|refine Ql ?_|refine Qm ?_|refine Qn ?_|refine Qo ?_|refine Qp ?_|refine Qq ?_|fail)
        refine SXL.call rfl rfl rfl ?_
        refine (need_S (F' := R) inferInstance (fun hg => callK.ret ?_) (fun hg => callK.panic (h2 64 _ (by unfold renameE; simp only [hfr, hto, hn, hn2, hk, okE, hf, hat, ha]; rw [hkb, show (!belowB t k to') = false from hg]; rfl) inferInstance)))
        repeat (first|refine Qa ?_|refine Qb ?_|refine Qc ?_|refine Qd ?_|refine Qe ?_|refine Qf ?_|refine Qg ?_|refine Qh ?_|refine Qi ?_|refine Qj ?_|refine Qk ?_|refine Ql ?_|refine Qm ?_|refine Qn ?_|refine Qo ?_|refine Qp ?_|refine Qq ?_|fail)
        refine SX.meet ⟨by rw [hkb]; exact hg, rfl, rfl⟩ (by repeat (first | exact trivial | refine ⟨rfl, ?_⟩)) inferInstance
      · have hkb : (s.kind != 2) = true := by simpa using hkd
        repeat (first|refine Qa ?_|refine Qb ?_|refine Qc ?_|refine Qd ?_|refine Qe ?_|refine Qf ?_|refine Qg ?_|refine Qh ?_|refine Qi ?_|refine Qj ?_|refine Qk ?_|refine Ql ?_|refine Qm ?_|refine Qn ?_|refine Qo ?_|refine Qp ?_|refine Qq ?_|refine Qx ?_|refine Qy ?_|fail)
        refine SXL.know 97 true rfl hkb ?_
        repeat (first|refine Qa ?_|refine Qb ?_|refine Qc ?_|refine Qd ?_|refine Qe ?_|refine Qf ?_|refine Qg ?_|refine Qh ?_|refine Qi ?_|refine Qj ?_|refine Qk ?_|refine Ql ?_|refine Qm ?_|refine Qn ?_|refine Qo ?_|refine Qp ?_|refine Qq ?_|refine Qx ?_|refine Qy ?_|fail)
        refine SXL.call rfl rfl rfl ?_
        refine (need_S (F' := R) inferInstance (fun hg => callK.ret ?_) (fun hg => by cases hg))
        repeat (first|refine Qa ?_|refine Qb ?_|refine Qc ?_|refine Qd ?_|refine Qe ?_|refine Qf ?_|refine Qg ?_|refine Qh ?_|refine Qi ?_|refine Qj ?_|refine Qk ?_|refine Ql ?_|refine Qm ?_|refine Qn ?_|refine Qo ?_|refine Qp ?_|refine Qq ?_|fail)
        refine SX.meet ⟨by rw [hkb]; rfl, rfl, rfl⟩ (by repeat (first | exact trivial | refine ⟨rfl, ?_⟩)) inferInstance
    rintro _ _ ⟨hkb, rfl, rfl⟩
    have hE : renameE t r c = (leaveE t fr c.name >>= fun t2 => enterE t2 to' c.toName (atT t2 k).ino (atT t2 k).gen >>= fun t3 => touchE t3 [fr, to', k] >>= fun t4 => pure (t4, tellS (atT t4 k) r)) := by
      unfold renameE
      simp only [hfr, hto, hn, hn2, hk, okE, hf, hat, ha, hkb, needT]
    rw [hE] at h2
    simp only [hE] at h1
    obtain ⟨sf0, hsf0⟩ : ∃ sf, t.l[fr]? = some sf := ⟨_, List.getElem?_eq_getElem (by rw [hm.n]; exact hf24)⟩
    obtain ⟨xf0, hxf0⟩ : ∃ xf, ps[fr]? = some xf := ⟨_, List.getElem?_eq_getElem (by omega)⟩
    rw [leaveE_at (atT_get hsf0)] at h2
    simp only [leaveE_at (atT_get hsf0)] at h1
    repeat (first|refine Qa ?_|refine Qb ?_|refine Qc ?_|refine Qd ?_|refine Qe ?_|refine Qf ?_|refine Qg ?_|refine Qh ?_|refine Qi ?_|refine Qj ?_|refine Qk ?_|refine Ql ?_|refine Qm ?_|refine Qn ?_|refine Qo ?_|refine Qp ?_|refine Qq ?_|fail)
    refine SXL.call rfl rfl rfl ?_
    refine (Fn.sub (leave_S (R := .own (some ⟨pw, 0, none⟩) (wkM pw b cap t c Ac cc r none 0 none 0) :: .own (some ⟨gg, 0, none⟩) (cellsR gg [.pointer (some ⟨b, fr * 9, none⟩), .pointer (some ⟨b, to' * 9, none⟩), .pointer (some ⟨b, k * 9, none⟩)] 116) :: .per (datR t.l ps) :: R) (ts := t.l) (ps := ps) (m := 24) (cap := cap) (b := b) inferInstance hsf0 hxf0 (hm.at hsf0) (fun s2 x2 he2 => callK.ret ?_) (fun e M' he hM' => callK.panic (h2 e M' (by rw [he]; rfl) (hM'.trans inferInstance)))) inferInstance)
    have hs2m : s2.mid := (leaveS_ok (hm.at hsf0) he2).1
    have hE2 : ∀ (G : Th → Ex (Th × Re)), (Except.map (setT t fr) (Except.ok s2 : Ex Sl) >>= G) = G (setT t fr s2) := fun G => rfl
    rw [he2, hE2] at h2
    simp only [he2, hE2] at h1
    have hm2 : (setT t fr s2).mid := hm.set hs2m
    have hp2 : (ps.set fr x2).length = 24 := by rw [List.length_set]; exact hps
    obtain ⟨sk, hsk⟩ : ∃ sk, (t.l.set fr s2)[k]? = some sk := ⟨_, List.getElem?_eq_getElem (by rw [List.length_set, hm.n]; exact hk24)⟩
    obtain ⟨xk, hxk⟩ : ∃ xk, (ps.set fr x2)[k]? = some xk := ⟨_, List.getElem?_eq_getElem (by omega)⟩
    obtain ⟨st2, hst2⟩ : ∃ sk, (t.l.set fr s2)[to']? = some sk := ⟨_, List.getElem?_eq_getElem (by rw [List.length_set, hm.n]; exact ht24)⟩
    obtain ⟨xt2, hxt2⟩ : ∃ xk, (ps.set fr x2)[to']? = some xk := ⟨_, List.getElem?_eq_getElem (by omega)⟩
    haveI gk1 : GetIs (t.l.set fr s2) k sk := ⟨hsk⟩
    haveI gk2 : GetIs (ps.set fr x2) k xk := ⟨hxk⟩
    have hskm := hm2.at hsk
    have hak : atT (setT t fr s2) k = sk := atT_get hsk
    rw [hak, enterE_at (show atT (setT t fr s2) to' = st2 from atT_get hst2)] at h2
    simp only [hak, enterE_at (show atT (setT t fr s2) to' = st2 from atT_get hst2)] at h1
    repeat (first|refine Qa ?_|refine Qb ?_|refine Qc ?_|refine Qd ?_|refine Qe ?_|refine Qf ?_|refine Qg ?_|refine Qh ?_|refine Qi ?_|refine Qj ?_|refine Qk ?_|refine Ql ?_|refine Qm ?_|refine Qn ?_|refine Qo ?_|refine Qp ?_|refine Qq ?_|fail)
    refine SXA.begin (.own (some ⟨pw, 0, none⟩) (wkM pw b cap t c Ac cc r none 0 none 0) :: .own (some ⟨b, 0, none⟩) (thR b 24 cap (t.l.set fr s2) (ps.set fr x2)) :: .own (some ⟨gg, 0, none⟩) (cellsR gg [.pointer (some ⟨b, fr * 9, none⟩), .pointer (some ⟨b, to' * 9, none⟩), .pointer (some ⟨b, k * 9, none⟩)] 116) :: .per (datR (t.l.set fr s2) (ps.set fr x2)) :: R) [10] ?_
    unfold wkM wkC
    (first|refine Qr 0 ?_|refine Qs 0 ?_|refine Qxa 0 ?_|refine Qya 0 ?_|refine Qt 0 ?_|refine Qu 0 ?_|fail)
    (first|refine Qr 1 ?_|refine Qs 1 ?_|refine Qxa 1 ?_|refine Qya 1 ?_|refine Qt 1 ?_|refine Qu 1 ?_|fail)
    (first|refine Qr 2 ?_|refine Qs 2 ?_|refine Qxa 2 ?_|refine Qya 2 ?_|refine Qt 2 ?_|refine Qu 2 ?_|fail)
    (first|refine Qr 3 ?_|refine Qs 3 ?_|refine Qxa 3 ?_|refine Qya 3 ?_|refine Qt 3 ?_|refine Qu 3 ?_|fail)
    (first|refine Qr 4 ?_|refine Qs 4 ?_|refine Qxa 4 ?_|refine Qya 4 ?_|refine Qt 4 ?_|refine Qu 4 ?_|fail)
    (first|refine Qr 5 ?_|refine Qs 5 ?_|refine Qxa 5 ?_|refine Qya 5 ?_|refine Qt 5 ?_|refine Qu 5 ?_|fail)
    (first|refine Qr 6 ?_|refine Qs 6 ?_|refine Qxa 6 ?_|refine Qya 6 ?_|refine Qt 6 ?_|refine Qu 6 ?_|fail)
    (first|refine Qr 7 ?_|refine Qs 7 ?_|refine Qxa 7 ?_|refine Qya 7 ?_|refine Qt 7 ?_|refine Qu 7 ?_|fail)
    (first|refine Qr 8 ?_|refine Qs 8 ?_|refine Qxa 8 ?_|refine Qya 8 ?_|refine Qt 8 ?_|refine Qu 8 ?_|fail)
    refine Qw 9 ?_
    refine SXL.call rfl rfl rfl ?_
    refine (Handle_S (s := sk) (A := xk.1) (c := xk.2) (callK.ret ?_))
    refine SXL.nil (SXA.next inferInstance ?_)
    refine Qw 10 ?_
    refine SXL.call rfl rfl rfl ?_
    refine (Fn.sub (enter_S (R := .own (some ⟨pw, 0, none⟩) (wkM pw b cap t c Ac cc r none 0 none 0) :: .own (some ⟨gg, 0, none⟩) (cellsR gg [.pointer (some ⟨b, fr * 9, none⟩), .pointer (some ⟨b, to' * 9, none⟩), .pointer (some ⟨b, k * 9, none⟩)] 116) :: .per (datR (t.l.set fr s2) (ps.set fr x2)) :: R) (ts := t.l.set fr s2) (ps := ps.set fr x2) (m := 24) (cap := cap) (b := b) inferInstance hst2 hxt2 (hm2.at hst2) hskm.w.ino hskm.w.gen (fun s3 x3 he3 => callK.ret ?_) (fun e M' he hM' => callK.panic (h2 e M' (by rw [he]; rfl) (hM'.trans inferInstance)))) inferInstance)
    have hE3 : ∀ (G : Th → Ex (Th × Re)), (Except.map (setT (setT t fr s2) to') (Except.ok s3 : Ex Sl) >>= G) = G (setT (setT t fr s2) to' s3) := fun G => rfl
    rw [he3, hE3] at h2
    simp only [he3, hE3] at h1
    have hs3m : s3.mid := (enterS_ok (hm2.at hst2) hskm.w.ino hskm.w.gen he3).1
    have hm3 : (setT (setT t fr s2) to' s3).mid := hm2.set hs3m
    obtain ⟨ps3, hps3⟩ : ∃ p : List Pl, p = (ps.set fr x2).set to' x3 := ⟨_, rfl⟩
    have hp3 : ps3.length = 24 := by rw [hps3, List.length_set]; exact hp2
    rw [← hps3]
    refine SXL.nil (SXA.nextLast rfl ?_)
    refine Qv ?_
    repeat (first|refine Qa ?_|refine Qb ?_|refine Qc ?_|refine Qd ?_|refine Qe ?_|refine Qf ?_|refine Qg ?_|refine Qh ?_|refine Qi ?_|refine Qj ?_|refine Qk ?_|refine Ql ?_|refine Qm ?_|refine Qn ?_|refine Qo ?_|refine Qp ?_|refine Qq ?_|fail)
    refine SXL.call rfl rfl rfl ?_
    refine (change_P3 (setT (setT t fr s2) to' s3) ps3 (c := c) (r := r) hm3 hp3 hcap inferInstance inferInstance inferInstance hf24 ht24 hk24 (fun t' ht hm' hdd => callK.ret ?_) (fun e he => callK.panic (h2 e _ (by rw [he]; rfl) inferInstance)))
    refine SXL.derive (datR ((t.l.set fr s2).set to' s3) ps3) (datR t'.l ps3) (datR_d hdd) ?_
    have hs'' := at_some (t := t') (k := k) (by have := hm'.n; omega)
    obtain ⟨x4, hx4⟩ : ∃ x4, ps3[k]? = some x4 := ⟨_, List.getElem?_eq_getElem (by omega)⟩
    repeat (first|refine Qa ?_|refine Qb ?_|refine Qc ?_|refine Qd ?_|refine Qe ?_|refine Qf ?_|refine Qg ?_|refine Qh ?_|refine Qi ?_|refine Qj ?_|refine Qk ?_|refine Ql ?_|refine Qm ?_|refine Qn ?_|refine Qo ?_|refine Qp ?_|refine Qq ?_|fail)
    refine SXL.call rfl rfl rfl ?_
    refine (tell_P t' ps3 (c := c) (r := r) inferInstance inferInstance hs'' hx4 (hm'.at hs'') (callK.ret ?_))
    repeat (first|refine Qa ?_|refine Qb ?_|refine Qc ?_|refine Qd ?_|refine Qe ?_|refine Qf ?_|refine Qg ?_|refine Qh ?_|refine Qi ?_|refine Qj ?_|refine Qk ?_|refine Ql ?_|refine Qm ?_|refine Qn ?_|refine Qo ?_|refine Qp ?_|refine Qq ?_|fail)
    refine SX.fin (M' := (.own (some ⟨pw, 0, none⟩) (wkM pw b cap t' c Ac cc (tellS (atT t' k) r) none 0 none 0) :: .own (some ⟨b, 0, none⟩) (thR b 24 cap t'.l ps3) :: .per (datR t'.l ps3) :: .per (roR (Kd.int .u8) none (tellS (atT t' k) r).d) :: .per (roR kE none (tellS (atT t' k) r).e) :: R)) rfl Evals.nil ?_ inferInstance
    exact h1 t' (tellS (atT t' k) r) ps3 none 0 none 0 (by rw [ht]; rfl) (by rw [hrd]; exact Nat.le_refl _) (by rw [hre]; exact Nat.le_refl _) hp3 hm'
  · skip
    have hei : 0 ≤ e.i := by
      obtain ⟨_, _, h, _⟩ := (entS_ok hstm.w).1 e (foundS_mem hf)
      exact h
    repeat (first|refine Qa ?_|refine Qb ?_|refine Qc ?_|refine Qd ?_|refine Qe ?_|refine Qf ?_|refine Qg ?_|refine Qh ?_|refine Qi ?_|refine Qj ?_|refine Qk ?_|refine Ql ?_|refine Qm ?_|refine Qn ?_|refine Qo ?_|refine Qp ?_|refine Qq ?_|fail)
    refine SXL.alloc rfl rfl (fun z => ?_)
    repeat (first|refine Qa ?_|refine Qb ?_|refine Qc ?_|refine Qd ?_|refine Qe ?_|refine Qf ?_|refine Qg ?_|refine Qh ?_|refine Qi ?_|refine Qj ?_|refine Qk ?_|refine Ql ?_|refine Qm ?_|refine Qn ?_|refine Qo ?_|refine Qp ?_|refine Qq ?_|fail)
    refine SXL.call rfl rfl rfl ?_
    refine (thing_P t ps (c := c) (r := r) hm hps hcap inferInstance inferInstance hei (fun old so xo hold hso hxo hao hsom ho24 g7 g8 => callK.ret ?_) (fun e' he => callK.panic (h2 e' _ (by unfold renameE; simp only [hfr, hto, hn, hn2, hk, okE, hf, hat, he, erE]) inferInstance)))
    repeat (first|refine Qa ?_|refine Qb ?_|refine Qc ?_|fail)
    refine Qd ?_
    refine SX.cut (fun a' M' => old ≠ k ∧ ((s.kind = 2 ∧ (so.kind == 2) = true ∧ ((entS so).length == 0) = true) ∨ (s.kind ≠ 2 ∧ (so.kind != 2) = true)) ∧ a' = [(0, .pointer (some ⟨pw, 0, none⟩)), (2, .pointer (some ⟨b, fr * 9, none⟩)), (3, .pointer (some ⟨b, to' * 9, none⟩)), (4, .pointer (some ⟨b, k * 9, none⟩)), (5, .slice (some ⟨gg, 0, none⟩) 3 3), (7, .bool true), (8, .pointer (some ⟨b, old * 9, none⟩))] ∧ (.own (some ⟨gg, 0, none⟩) (cellsR gg [.pointer (some ⟨b, fr * 9, none⟩), .pointer (some ⟨b, to' * 9, none⟩), .pointer (some ⟨b, k * 9, none⟩)] 116) :: .own (some ⟨pw, 0, none⟩) (wkM pw b cap t c Ac cc r none 0 none 0) :: .own (some ⟨b, 0, none⟩) (thR b 24 cap t.l ps) :: R) = M') ?_ ?_
    · repeat (first|refine Qa ?_|refine Qb ?_|refine Qc ?_|refine Qd ?_|refine Qe ?_|refine Qf ?_|refine Qg ?_|refine Qh ?_|refine Qi ?_|refine Qj ?_|refine Qk ?_|refine Ql ?_|refine Qm ?_|refine Qn ?_|refine Qo ?_|refine Qp ?_|refine Qq ?_|fail)
      refine SXL.eqPtr rfl rfl Tryz.underlying116 rfl rfl rfl ?_
      repeat (first|refine Qa ?_|refine Qb ?_|refine Qc ?_|refine Qd ?_|refine Qe ?_|refine Qf ?_|refine Qg ?_|refine Qh ?_|refine Qi ?_|refine Qj ?_|refine Qk ?_|refine Ql ?_|refine Qm ?_|refine Qn ?_|refine Qo ?_|refine Qp ?_|refine Qq ?_|fail)
      refine SX.condp rfl (fun hok => ?_) (fun hok => ?_)
      · have hok' : old = k := by omega
        repeat (first|refine Qa ?_|refine Qb ?_|refine Qc ?_|refine Qd ?_|refine Qe ?_|refine Qf ?_|refine Qg ?_|refine Qh ?_|refine Qi ?_|refine Qj ?_|refine Qk ?_|refine Ql ?_|refine Qm ?_|refine Qn ?_|refine Qo ?_|refine Qp ?_|refine Qq ?_|fail)
        refine SXL.call rfl rfl rfl ?_
        refine (tell_P t ps (c := c) (r := r) inferInstance inferInstance hs hx hsm (callK.ret ?_))
        repeat (first|refine Qa ?_|refine Qb ?_|refine Qc ?_|refine Qd ?_|refine Qe ?_|refine Qf ?_|refine Qg ?_|refine Qh ?_|refine Qi ?_|refine Qj ?_|refine Qk ?_|refine Ql ?_|refine Qm ?_|refine Qn ?_|refine Qo ?_|refine Qp ?_|refine Qq ?_|fail)
        refine SX.ret (M' := .own (some ⟨pw, 0, none⟩) (wkM pw b cap t c Ac cc (tellS s r) none 0 none 0) :: .own (some ⟨b, 0, none⟩) (thR b 24 cap t.l ps) :: .per (datR t.l ps) :: .per (roR (Kd.int .u8) none (tellS s r).d) :: .per (roR kE none (tellS s r).e) :: R) rfl Evals.nil ?_ inferInstance
        exact h1 t (tellS s r) ps none 0 none 0 (by unfold renameE; simp only [hfr, hto, hn, hn2, hk, okE, hf, hat, hold, if_pos hok', ha, puE]) (by rw [hrd]; exact Nat.le_refl _) (by rw [hre]; exact Nat.le_refl _) hps hm
      have hne : ¬ old = k := by omega
      have hsol := hsom.l
      by_cases hkd : s.kind = 2
      · repeat (first|refine Qa ?_|refine Qb ?_|refine Qc ?_|refine Qd ?_|refine Qe ?_|refine Qf ?_|refine Qg ?_|refine Qh ?_|refine Qi ?_|refine Qj ?_|refine Qk ?_|refine Ql ?_|refine Qm ?_|refine Qn ?_|refine Qo ?_|refine Qp ?_|refine Qq ?_|refine Qx ?_|refine Qy ?_|fail)
        refine SX.know 75 true rfl (by simpa using hkd) ?_
        repeat (first|refine Qa ?_|refine Qb ?_|refine Qc ?_|refine Qd ?_|refine Qe ?_|refine Qf ?_|refine Qg ?_|refine Qh ?_|refine Qi ?_|refine Qj ?_|refine Qk ?_|refine Ql ?_|refine Qm ?_|refine Qn ?_|refine Qo ?_|refine Qp ?_|refine Qq ?_|refine Qx ?_|refine Qy ?_|fail)
        refine SXL.call rfl rfl rfl ?_
        refine (need_S (F' := R) inferInstance (fun hg => callK.ret ?_) (fun hg => callK.panic (h2 62 _ (by unfold renameE; simp only [hfr, hto, hn, hn2, hk, okE, hf, hat, hold, if_neg hne, ha, if_pos hkd, hao]; rw [show (so.kind == 2) = false from hg]; rfl) inferInstance)))
        have hob : (so.kind == 2) = true := hg
        repeat (first|refine Qa ?_|refine Qb ?_|refine Qc ?_|refine Qd ?_|refine Qe ?_|refine Qf ?_|refine Qg ?_|refine Qh ?_|refine Qi ?_|refine Qj ?_|refine Qk ?_|refine Ql ?_|refine Qm ?_|refine Qn ?_|refine Qo ?_|refine Qp ?_|refine Qq ?_|fail)
        refine SXL.call rfl rfl rfl ?_
        refine (entries_S (ts := t.l) (ps := ps) inferInstance inferInstance hso hxo hsom.w.d (by omega) (fun A' c' hc' => callK.ret ?_))
        repeat (first|refine Qa ?_|refine Qb ?_|refine Qc ?_|refine Qd ?_|refine Qe ?_|refine Qf ?_|refine Qg ?_|refine Qh ?_|refine Qi ?_|refine Qj ?_|refine Qk ?_|refine Ql ?_|refine Qm ?_|refine Qn ?_|refine Qo ?_|refine Qp ?_|refine Qq ?_|fail)
        have hlb : decide (((entS so).length : Int) = 0) = ((entS so).length == 0) := by rw [Bool.eq_iff_iff, decide_eq_true_eq, beq_iff_eq]; omega
        refine SXL.call rfl rfl rfl ?_
        refine (need_S (F' := R) inferInstance (fun hg2 => callK.ret ?_) (fun hg2 => callK.panic (h2 68 _ (by unfold renameE; simp only [hfr, hto, hn, hn2, hk, okE, hf, hat, hold, if_neg hne, ha, if_pos hkd, hao, hob, needT]; rw [show ((entS so).length == 0) = false from by rw [← hlb]; exact hg2]; rfl) inferInstance)))
        repeat (first|refine Qa ?_|refine Qb ?_|refine Qc ?_|refine Qd ?_|refine Qe ?_|refine Qf ?_|refine Qg ?_|refine Qh ?_|refine Qi ?_|refine Qj ?_|refine Qk ?_|refine Ql ?_|refine Qm ?_|refine Qn ?_|refine Qo ?_|refine Qp ?_|refine Qq ?_|fail)
        refine SX.meet ⟨hne, Or.inl ⟨hkd, hob, by rw [← hlb]; exact hg2⟩, rfl, rfl⟩ (by repeat (first | exact trivial | refine ⟨rfl, ?_⟩)) inferInstance
      · repeat (first|refine Qa ?_|refine Qb ?_|refine Qc ?_|refine Qd ?_|refine Qe ?_|refine Qf ?_|refine Qg ?_|refine Qh ?_|refine Qi ?_|refine Qj ?_|refine Qk ?_|refine Ql ?_|refine Qm ?_|refine Qn ?_|refine Qo ?_|refine Qp ?_|refine Qq ?_|refine Qx ?_|refine Qy ?_|fail)
        refine SX.know 75 false rfl (by simpa using hkd) ?_
        repeat (first|refine Qa ?_|refine Qb ?_|refine Qc ?_|refine Qd ?_|refine Qe ?_|refine Qf ?_|refine Qg ?_|refine Qh ?_|refine Qi ?_|refine Qj ?_|refine Qk ?_|refine Ql ?_|refine Qm ?_|refine Qn ?_|refine Qo ?_|refine Qp ?_|refine Qq ?_|refine Qx ?_|refine Qy ?_|fail)
        refine SXL.call rfl rfl rfl ?_
        refine (need_S (F' := R) inferInstance (fun hg => callK.ret ?_) (fun hg => callK.panic (h2 63 _ (by unfold renameE; simp only [hfr, hto, hn, hn2, hk, okE, hf, hat, hold, if_neg hne, ha, if_neg hkd, hao]; rw [show (so.kind != 2) = false from hg]; rfl) inferInstance)))
        repeat (first|refine Qa ?_|refine Qb ?_|refine Qc ?_|refine Qd ?_|refine Qe ?_|refine Qf ?_|refine Qg ?_|refine Qh ?_|refine Qi ?_|refine Qj ?_|refine Qk ?_|refine Ql ?_|refine Qm ?_|refine Qn ?_|refine Qo ?_|refine Qp ?_|refine Qq ?_|fail)
        refine SX.meet ⟨hne, Or.inr ⟨hkd, hg⟩, rfl, rfl⟩ (by repeat (first | exact trivial | refine ⟨rfl, ?_⟩)) inferInstance
    rintro _ _ ⟨hne, hsw, rfl, rfl⟩
    repeat (first|refine Qf ?_|refine Qg ?_|refine Qh ?_|refine Qi ?_|refine Qj ?_|refine Qk ?_|refine Ql ?_|fail)
    refine SX.cut (fun a' M' => ((s.kind != 2 || !belowB t k to') = true) ∧ a' = [(0, .pointer (some ⟨pw, 0, none⟩)), (2, .pointer (some ⟨b, fr * 9, none⟩)), (3, .pointer (some ⟨b, to' * 9, none⟩)), (4, .pointer (some ⟨b, k * 9, none⟩)), (5, .slice (some ⟨gg, 0, none⟩) 3 3), (7, .bool true), (8, .pointer (some ⟨b, old * 9, none⟩))] ∧ (.own (some ⟨gg, 0, none⟩) (cellsR gg [.pointer (some ⟨b, fr * 9, none⟩), .pointer (some ⟨b, to' * 9, none⟩), .pointer (some ⟨b, k * 9, none⟩)] 116) :: .own (some ⟨pw, 0, none⟩) (wkM pw b cap t c Ac cc r none 0 none 0) :: .own (some ⟨b, 0, none⟩) (thR b 24 cap t.l ps) :: R) = M') ?_ ?_
    · by_cases hkd : s.kind = 2
      · have hkb : (s.kind != 2) = false := by simpa using hkd
        repeat (first|refine Qa ?_|refine Qb ?_|refine Qc ?_|refine Qd ?_|refine Qe ?_|refine Qf ?_|refine Qg ?_|refine Qh ?_|refine Qi ?_|refine Qj ?_|refine Qk ?_|refine Ql ?_|refine Qm ?_|refine Qn ?_|refine Qo ?_|refine Qp ?_|refine Qq ?_|refine Qx ?_|refine Qy ?_|fail)
        refine SXL.know 97 false rfl hkb ?_
        repeat (first|refine Qa ?_|refine Qb ?_|refine Qc ?_|refine Qd ?_|refine Qe ?_|refine Qf ?_|refine Qg ?_|refine Qh ?_|refine Qi ?_|refine Qj ?_|refine Qk ?_|refine Ql ?_|refine Qm ?_|refine Qn ?_|refine Qo ?_|refine Qp ?_|refine Qq ?_|refine Qx ?_|refine Qy ?_|fail)
        refine SXL.call rfl rfl rfl ?_
        refine below_S t ps (c := c) (r := r) hm hps hcap inferInstance inferInstance inferInstance hs hx hkd hno ⟨hcw.ti, hcw.tg⟩ hto (callK.ret ?_)
        repeat (first|refine Qa ?_|refine Qb ?_|refine Qc ?_|refine Qd ?_|refine Qe ?_|refine Qf ?_|refine Qg ?_|refine Qh ?_|refine Qi ?_|refine Qj ?_|refine Qk ?_|refine Ql ?_|refine Qm ?_|refine Qn ?_|refine Qo ?_|refine Qp ?_|refine Qq ?_|fail)
        refine SXL.call rfl rfl rfl ?_
        refine (need_S (F' := R) inferInstance (fun hg => callK.ret ?_) (fun hg => callK.panic (h2 64 _ (by unfold renameE; rcases hsw with ⟨hkd, ho1, ho2⟩ | ⟨hkd, ho1⟩ <;> first | (simp only [hfr, hto, hn, hn2, hk, okE, hf, hat, hold, if_neg hne, ha, if_pos hkd, hao, ho1, ho2, needT]; rw [hkb, show (!belowB t k to') = false from hg]; rfl) | (simp only [hfr, hto, hn, hn2, hk, okE, hf, hat, hold, if_neg hne, ha, if_neg hkd, hao, ho1, needT]; rw [hkb, show (!belowB t k to') = false from hg]; rfl)) inferInstance)))
        repeat (first|refine Qa ?_|refine Qb ?_|refine Qc ?_|refine Qd ?_|refine Qe ?_|refine Qf ?_|refine Qg ?_|refine Qh ?_|refine Qi ?_|refine Qj ?_|refine Qk ?_|refine Ql ?_|refine Qm ?_|refine Qn ?_|refine Qo ?_|refine Qp ?_|refine Qq ?_|fail)
        refine SX.meet ⟨by rw [hkb]; exact hg, rfl, rfl⟩ (by repeat (first | exact trivial | refine ⟨rfl, ?_⟩)) inferInstance
      · have hkb : (s.kind != 2) = true := by simpa using hkd
        repeat (first|refine Qa ?_|refine Qb ?_|refine Qc ?_|refine Qd ?_|refine Qe ?_|refine Qf ?_|refine Qg ?_|refine Qh ?_|refine Qi ?_|refine Qj ?_|refine Qk ?_|refine Ql ?_|refine Qm ?_|refine Qn ?_|refine Qo ?_|refine Qp ?_|refine Qq ?_|refine Qx ?_|refine Qy ?_|fail)
        refine SXL.know 97 true rfl hkb ?_
        repeat (first|refine Qa ?_|refine Qb ?_|refine Qc ?_|refine Qd ?_|refine Qe ?_|refine Qf ?_|refine Qg ?_|refine Qh ?_|refine Qi ?_|refine Qj ?_|refine Qk ?_|refine Ql ?_|refine Qm ?_|refine Qn ?_|refine Qo ?_|refine Qp ?_|refine Qq ?_|refine Qx ?_|refine Qy ?_|fail)
        refine SXL.call rfl rfl rfl ?_
        refine (need_S (F' := R) inferInstance (fun hg => callK.ret ?_) (fun hg => by cases hg))
        repeat (first|refine Qa ?_|refine Qb ?_|refine Qc ?_|refine Qd ?_|refine Qe ?_|refine Qf ?_|refine Qg ?_|refine Qh ?_|refine Qi ?_|refine Qj ?_|refine Qk ?_|refine Ql ?_|refine Qm ?_|refine Qn ?_|refine Qo ?_|refine Qp ?_|refine Qq ?_|fail)
        refine SX.meet ⟨by rw [hkb]; rfl, rfl, rfl⟩ (by repeat (first | exact trivial | refine ⟨rfl, ?_⟩)) inferInstance
    rintro _ _ ⟨hkb, rfl, rfl⟩
    have hE0 : renameE t r c = (leaveE t to' c.toName >>= fun t1 => leaveE (setT t1 old (unlinkS (atT t1 old))) fr c.name >>= fun t2 => enterE t2 to' c.toName (atT t2 k).ino (atT t2 k).gen >>= fun t3 => touchE t3 [fr, to', k, old] >>= fun t4 => pure (t4, tellS (atT t4 k) r)) := by
      unfold renameE
      rcases hsw with ⟨hkd, ho1, ho2⟩ | ⟨hkd, ho1⟩
      · simp only [hfr, hto, hn, hn2, hk, okE, hf, hat, hold, if_neg hne, ha, if_pos hkd, hao, ho1, ho2, needT, hkb]
      · simp only [hfr, hto, hn, hn2, hk, okE, hf, hat, hold, if_neg hne, ha, if_neg hkd, hao, ho1, needT, hkb]
    rw [hE0, leaveE_at hat] at h2
    simp only [hE0, leaveE_at hat] at h1
    repeat (first|refine Qa ?_|refine Qb ?_|refine Qc ?_|refine Qd ?_|refine Qe ?_|refine Qf ?_|refine Qg ?_|refine Qh ?_|refine Qi ?_|refine Qj ?_|refine Qk ?_|refine Ql ?_|refine Qm ?_|refine Qn ?_|refine Qo ?_|refine Qp ?_|refine Qq ?_|fail)
    refine SXL.call rfl rfl rfl ?_
    refine (Fn.sub (leave_S (R := .own (some ⟨pw, 0, none⟩) (wkM pw b cap t c Ac cc r none 0 none 0) :: .own (some ⟨gg, 0, none⟩) (cellsR gg [.pointer (some ⟨b, fr * 9, none⟩), .pointer (some ⟨b, to' * 9, none⟩), .pointer (some ⟨b, k * 9, none⟩)] 116) :: R) (ts := t.l) (ps := ps) (m := 24) (cap := cap) (b := b) inferInstance hst hxt hstm (fun s1 x1 he1 => callK.ret ?_) (fun e M' he hM' => callK.panic (h2 e M' (by rw [he]; rfl) (hM'.trans inferInstance)))) inferInstance)
    have hs1m : s1.mid := (leaveS_ok hstm he1).1
    have hEm : ∀ (G : Th → Ex (Th × Re)), (Except.map (setT t to') (Except.ok s1 : Ex Sl) >>= G) = G (setT t to' s1) := fun G => rfl
    have hmA : (setT t to' s1).mid := hm.set hs1m
    have hpA : (ps.set to' x1).length = 24 := by rw [List.length_set]; exact hps
    obtain ⟨so1, hso1⟩ : ∃ sk, (t.l.set to' s1)[old]? = some sk := ⟨_, List.getElem?_eq_getElem (by rw [List.length_set, hm.n]; exact ho24)⟩
    obtain ⟨xo1, hxo1⟩ : ∃ xk, (ps.set to' x1)[old]? = some xk := ⟨_, List.getElem?_eq_getElem (by omega)⟩
    have hao1 : atT (setT t to' s1) old = so1 := atT_get hso1
    repeat (first|refine Qa ?_|refine Qb ?_|refine Qc ?_|refine Qd ?_|refine Qe ?_|refine Qf ?_|refine Qg ?_|refine Qh ?_|refine Qi ?_|refine Qj ?_|refine Qk ?_|refine Ql ?_|refine Qm ?_|refine Qn ?_|refine Qo ?_|refine Qp ?_|refine Qq ?_|fail)
    refine SXL.call rfl rfl rfl ?_
    refine (Fn.sub (unlink_S (R := .own (some ⟨pw, 0, none⟩) (wkM pw b cap t c Ac cc r none 0 none 0) :: .own (some ⟨gg, 0, none⟩) (cellsR gg [.pointer (some ⟨b, fr * 9, none⟩), .pointer (some ⟨b, to' * 9, none⟩), .pointer (some ⟨b, k * 9, none⟩)] 116) :: .per (datR (t.l.set to' s1) (ps.set to' x1)) :: R) (ts := t.l.set to' s1) (ps := ps.set to' x1) (m := 24) (cap := cap) (b := b) inferInstance hso1 hxo1 (fun x2 => callK.ret ?_)) inferInstance)
    obtain ⟨t1, ht1⟩ : ∃ t1 : Th, t1 = setT (setT t to' s1) old (unlinkS so1) := ⟨_, rfl⟩
    obtain ⟨ps1, hps1⟩ : ∃ p : List Pl, p = (ps.set to' x1).set old x2 := ⟨_, rfl⟩
    have hm1 : t1.mid := by rw [ht1]; exact hmA.set (unlinkS_mid (hmA.at hso1))
    have hp1 : ps1.length = 24 := by rw [hps1, List.length_set]; exact hpA
    rw [he1, hEm, hao1, ← ht1] at h2
    simp only [he1, hEm, hao1, ← ht1] at h1
    have q1 : (t.l.set to' s1).set old (unlinkS so1) = t1.l := by rw [ht1]
    have q2 : t.ch = t1.ch := by rw [ht1]
    have q3 : t.room = t1.room := by rw [ht1]
    unfold wkM wkC
    rw [q1, ← hps1, q2, q3]
    repeat (first|refine Qa ?_|refine Qb ?_|refine Qc ?_|refine Qd ?_|refine Qe ?_|refine Qf ?_|refine Qg ?_|refine Qh ?_|refine Qi ?_|refine Qj ?_|refine Qk ?_|refine Ql ?_|refine Qm ?_|refine Qn ?_|refine Qo ?_|refine Qp ?_|refine Qq ?_|fail)
    refine SXL.lit rfl rfl (fun g1 => ?_)
    refine SXL.litRow (cellsK 1) g1 [ptX b old] inferInstance rfl (fun x => x.2.1) (by simp) ?_
    refine SXL.ownLit (cellsK 1) gg [ptX b fr, ptX b to', ptX b k] inferInstance (fun w ok => (((Reps.none _ _).snoc (Flat.inM (d := cellsK 1) w 0 ok (ptX b fr)) rfl).snoc (Flat.inM (d := cellsK 1) w 0 ok (ptX b to')) rfl).snoc (Flat.inM (d := cellsK 1) w 0 ok (ptX b k)) rfl) (by simp) ?_
    repeat (first|refine Qa ?_|refine Qb ?_|refine Qc ?_|refine Qd ?_|refine Qe ?_|refine Qf ?_|refine Qg ?_|refine Qh ?_|refine Qi ?_|refine Qj ?_|refine Qk ?_|refine Ql ?_|refine Qm ?_|refine Qn ?_|refine Qo ?_|refine Qp ?_|refine Qq ?_|fail)
    refine SXL.appendW (cellsK 1) rfl rfl inferInstance inferInstance rfl inferInstance (by simp) rfl (fun A' cp hcp => ?_)
    have eap : ([ptX b fr, ptX b to', ptX b k] ++ [ptX b old] : List (CellsN 1)) = [ptX b fr, ptX b to', ptX b k, ptX b old] := rfl
    rw [eap] at hcp ⊢
    refine SXL.addrOwn (A := A') (cellsK 1) inferInstance (by simp) (fun g4 e4 => ?_)
    subst e4
    refine SXL.keepRow (some ⟨g4, 0, none⟩) inferInstance ?_
    refine SXL.same 122 (.slice (some ⟨g4, 0, none⟩) 4 cp) rfl rfl ?_
    repeat (first|refine Qa ?_|refine Qb ?_|refine Qc ?_|refine Qd ?_|refine Qe ?_|refine Qf ?_|refine Qg ?_|refine Qh ?_|refine Qi ?_|refine Qj ?_|refine Qk ?_|refine Ql ?_|refine Qm ?_|refine Qn ?_|refine Qo ?_|refine Qp ?_|refine Qq ?_|fail)
    obtain ⟨sf0, hsf0⟩ : ∃ sf, t1.l[fr]? = some sf := ⟨_, List.getElem?_eq_getElem (by rw [hm1.n]; exact hf24)⟩
    obtain ⟨xf0, hxf0⟩ : ∃ xf, ps1[fr]? = some xf := ⟨_, List.getElem?_eq_getElem (by omega)⟩
    rw [leaveE_at (atT_get hsf0)] at h2
    simp only [leaveE_at (atT_get hsf0)] at h1
    repeat (first|refine Qa ?_|refine Qb ?_|refine Qc ?_|refine Qd ?_|refine Qe ?_|refine Qf ?_|refine Qg ?_|refine Qh ?_|refine Qi ?_|refine Qj ?_|refine Qk ?_|refine Ql ?_|refine Qm ?_|refine Qn ?_|refine Qo ?_|refine Qp ?_|refine Qq ?_|fail)
    refine SXL.call rfl rfl rfl ?_
    refine (Fn.sub (leave_S (R := .own (some ⟨pw, 0, none⟩) (wkM pw b cap t1 c Ac cc r none 0 none 0) :: .per (roR (cellsK 1) (some ⟨g4, 0, none⟩) [ptX b fr, ptX b to', ptX b k, ptX b old]) :: .per (datR t1.l ps1) :: R) (ts := t1.l) (ps := ps1) (m := 24) (cap := cap) (b := b) inferInstance hsf0 hxf0 (hm1.at hsf0) (fun s2 x2 he2 => callK.ret ?_) (fun e M' he hM' => callK.panic (h2 e M' (by rw [he]; rfl) (hM'.trans inferInstance)))) inferInstance)
    have hs2m : s2.mid := (leaveS_ok (hm1.at hsf0) he2).1
    have hE2 : ∀ (G : Th → Ex (Th × Re)), (Except.map (setT t1 fr) (Except.ok s2 : Ex Sl) >>= G) = G (setT t1 fr s2) := fun G => rfl
    rw [he2, hE2] at h2
    simp only [he2, hE2] at h1
    have hm2 : (setT t1 fr s2).mid := hm1.set hs2m
    have hp2 : (ps1.set fr x2).length = 24 := by rw [List.length_set]; exact hp1
    obtain ⟨sk, hsk⟩ : ∃ sk, (t1.l.set fr s2)[k]? = some sk := ⟨_, List.getElem?_eq_getElem (by rw [List.length_set, hm1.n]; exact hk24)⟩
    obtain ⟨xk, hxk⟩ : ∃ xk, (ps1.set fr x2)[k]? = some xk := ⟨_, List.getElem?_eq_getElem (by omega)⟩
    obtain ⟨st2, hst2⟩ : ∃ sk, (t1.l.set fr s2)[to']? = some sk := ⟨_, List.getElem?_eq_getElem (by rw [List.length_set, hm1.n]; exact ht24)⟩
    obtain ⟨xt2, hxt2⟩ : ∃ xk, (ps1.set fr x2)[to']? = some xk := ⟨_, List.getElem?_eq_getElem (by omega)⟩
    haveI gk1 : GetIs (t1.l.set fr s2) k sk := ⟨hsk⟩
    haveI gk2 : GetIs (ps1.set fr x2) k xk := ⟨hxk⟩
    have hskm := hm2.at hsk
    have hak : atT (setT t1 fr s2) k = sk := atT_get hsk
    rw [hak, enterE_at (show atT (setT t1 fr s2) to' = st2 from atT_get hst2)] at h2
    simp only [hak, enterE_at (show atT (setT t1 fr s2) to' = st2 from atT_get hst2)] at h1
    repeat (first|refine Qa ?_|refine Qb ?_|refine Qc ?_|refine Qd ?_|refine Qe ?_|refine Qf ?_|refine Qg ?_|refine Qh ?_|refine Qi ?_|refine Qj ?_|refine Qk ?_|refine Ql ?_|refine Qm ?_|refine Qn ?_|refine Qo ?_|refine Qp ?_|refine Qq ?_|fail)
    refine SXA.begin (.own (some ⟨pw, 0, none⟩) (wkM pw b cap t1 c Ac cc r none 0 none 0) :: .own (some ⟨b, 0, none⟩) (thR b 24 cap (t1.l.set fr s2) (ps1.set fr x2)) :: .per (roR (cellsK 1) (some ⟨g4, 0, none⟩) [ptX b fr, ptX b to', ptX b k, ptX b old]) :: .per (datR (t1.l.set fr s2) (ps1.set fr x2)) :: R) [10] ?_
    unfold wkM wkC
    (first|refine Qr 0 ?_|refine Qs 0 ?_|refine Qxa 0 ?_|refine Qya 0 ?_|refine Qt 0 ?_|refine Qu 0 ?_|fail)
    (first|refine Qr 1 ?_|refine Qs 1 ?_|refine Qxa 1 ?_|refine Qya 1 ?_|refine Qt 1 ?_|refine Qu 1 ?_|fail)
    (first|refine Qr 2 ?_|refine Qs 2 ?_|refine Qxa 2 ?_|refine Qya 2 ?_|refine Qt 2 ?_|refine Qu 2 ?_|fail)
    (first|refine Qr 3 ?_|refine Qs 3 ?_|refine Qxa 3 ?_|refine Qya 3 ?_|refine Qt 3 ?_|refine Qu 3 ?_|fail)
    (first|refine Qr 4 ?_|refine Qs 4 ?_|refine Qxa 4 ?_|refine Qya 4 ?_|refine Qt 4 ?_|refine Qu 4 ?_|fail)
    (first|refine Qr 5 ?_|refine Qs 5 ?_|refine Qxa 5 ?_|refine Qya 5 ?_|refine Qt 5 ?_|refine Qu 5 ?_|fail)
    (first|refine Qr 6 ?_|refine Qs 6 ?_|refine Qxa 6 ?_|refine Qya 6 ?_|refine Qt 6 ?_|refine Qu 6 ?_|fail)
    (first|refine Qr 7 ?_|refine Qs 7 ?_|refine Qxa 7 ?_|refine Qya 7 ?_|refine Qt 7 ?_|refine Qu 7 ?_|fail)
    (first|refine Qr 8 ?_|refine Qs 8 ?_|refine Qxa 8 ?_|refine Qya 8 ?_|refine Qt 8 ?_|refine Qu 8 ?_|fail)
    refine Qw 9 ?_
    refine SXL.call rfl rfl rfl ?_
    refine (Handle_S (s := sk) (A := xk.1) (c := xk.2) (callK.ret ?_))
    refine SXL.nil (SXA.next inferInstance ?_)
    refine Qw 10 ?_
    refine SXL.call rfl rfl rfl ?_
    refine (Fn.sub (enter_S (R := .own (some ⟨pw, 0, none⟩) (wkM pw b cap t1 c Ac cc r none 0 none 0) :: .per (roR (cellsK 1) (some ⟨g4, 0, none⟩) [ptX b fr, ptX b to', ptX b k, ptX b old]) :: .per (datR (t1.l.set fr s2) (ps1.set fr x2)) :: R) (ts := t1.l.set fr s2) (ps := ps1.set fr x2) (m := 24) (cap := cap) (b := b) inferInstance hst2 hxt2 (hm2.at hst2) hskm.w.ino hskm.w.gen (fun s3 x3 he3 => callK.ret ?_) (fun e M' he hM' => callK.panic (h2 e M' (by rw [he]; rfl) (hM'.trans inferInstance)))) inferInstance)
    have hE3 : ∀ (G : Th → Ex (Th × Re)), (Except.map (setT (setT t1 fr s2) to') (Except.ok s3 : Ex Sl) >>= G) = G (setT (setT t1 fr s2) to' s3) := fun G => rfl
    rw [he3, hE3] at h2
    simp only [he3, hE3] at h1
    have hs3m : s3.mid := (enterS_ok (hm2.at hst2) hskm.w.ino hskm.w.gen he3).1
    have hm3 : (setT (setT t1 fr s2) to' s3).mid := hm2.set hs3m
    obtain ⟨ps3, hps3⟩ : ∃ p : List Pl, p = (ps1.set fr x2).set to' x3 := ⟨_, rfl⟩
    have hp3 : ps3.length = 24 := by rw [hps3, List.length_set]; exact hp2
    rw [← hps3]
    refine SXL.nil (SXA.nextLast rfl ?_)
    refine Qv ?_
    repeat (first|refine Qa ?_|refine Qb ?_|refine Qc ?_|refine Qd ?_|refine Qe ?_|refine Qf ?_|refine Qg ?_|refine Qh ?_|refine Qi ?_|refine Qj ?_|refine Qk ?_|refine Ql ?_|refine Qm ?_|refine Qn ?_|refine Qo ?_|refine Qp ?_|refine Qq ?_|fail)
    refine SXL.call rfl rfl rfl ?_
    refine (Fn.sub (change4R_P (R := .per (roR (cellsK 1) (some ⟨g4, 0, none⟩) [ptX b fr, ptX b to', ptX b k, ptX b old]) :: .per (datR ((t1.l.set fr s2).set to' s3) ps3) :: R) (Ac := Ac) (cc := cc) (Ad := none) (cd := 0) (Ae := none) (ce := 0) (pw := pw) (b := b) (cap := cap) (setT (setT t1 fr s2) to' s3) ps3 (c := c) (r := r) hm3 hp3 hcap hf24 ht24 hk24 ho24 (by simpa using hcp) inferInstance (fun t' ht hm' hdd => callK.ret ?_) (fun e he => callK.panic (h2 e _ (by rw [he]; rfl) inferInstance))) inferInstance)
    refine SXL.derive (datR ((t1.l.set fr s2).set to' s3) ps3) (datR t'.l ps3) (datR_d hdd) ?_
    have hs'' := at_some (t := t') (k := k) (by have := hm'.n; omega)
    obtain ⟨x4, hx4⟩ : ∃ x4, ps3[k]? = some x4 := ⟨_, List.getElem?_eq_getElem (by omega)⟩
    repeat (first|refine Qa ?_|refine Qb ?_|refine Qc ?_|refine Qd ?_|refine Qe ?_|refine Qf ?_|refine Qg ?_|refine Qh ?_|refine Qi ?_|refine Qj ?_|refine Qk ?_|refine Ql ?_|refine Qm ?_|refine Qn ?_|refine Qo ?_|refine Qp ?_|refine Qq ?_|fail)
    refine SXL.call rfl rfl rfl ?_
    refine (tell_P t' ps3 (c := c) (r := r) inferInstance inferInstance hs'' hx4 (hm'.at hs'') (callK.ret ?_))
    repeat (first|refine Qa ?_|refine Qb ?_|refine Qc ?_|refine Qd ?_|refine Qe ?_|refine Qf ?_|refine Qg ?_|refine Qh ?_|refine Qi ?_|refine Qj ?_|refine Qk ?_|refine Ql ?_|refine Qm ?_|refine Qn ?_|refine Qo ?_|refine Qp ?_|refine Qq ?_|fail)
    refine SX.fin (M' := (.own (some ⟨pw, 0, none⟩) (wkM pw b cap t' c Ac cc (tellS (atT t' k) r) none 0 none 0) :: .own (some ⟨b, 0, none⟩) (thR b 24 cap t'.l ps3) :: .per (datR t'.l ps3) :: .per (roR (Kd.int .u8) none (tellS (atT t' k) r).d) :: .per (roR kE none (tellS (atT t' k) r).e) :: R)) rfl Evals.nil ?_ inferInstance
    exact h1 t' (tellS (atT t' k) r) ps3 none 0 none 0 (by rw [ht]; rfl) (by rw [hrd]; exact Nat.le_refl _) (by rw [hre]; exact Nat.le_refl _) hp3 hm'
end Go.Proofs.YtanemmcddgkpdaaGreat.Sx
