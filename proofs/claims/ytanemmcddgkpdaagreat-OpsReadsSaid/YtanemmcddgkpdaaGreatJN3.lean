/- Chapter 13: a change that touches things, walked; conditions: those that each theorem names. -/
import Derived.Test.YtanemmcddgkpdaaGreatJN2
namespace Go.Proofs.YtanemmcddgkpdaaGreat.Sx
open Go.RowKit Go.Proofs.YtanemmcddgkpdaaGreat.Hm Go.Proofs.YtanemmcddgkpdaaGreatW.PrintWords Go.Proofs.YtanemmcddgkpdaaGreatW.PrintLast Go.Proofs.YtanemmcddgkpdaaGreatW.PrintMore
set_option linter.unusedVariables false
set_option linter.unusedSimpArgs false
attribute [local irreducible] SX SXL SXA St callK Post Evals
theorem at_some {t : Th} {k : Nat} (h : k < t.l.length) : t.l[k]? = some (atT t k) := by
  rw [List.getElem?_eq_getElem h]
  unfold atT
  rw [List.getD_eq_getElem?_getD, List.getElem?_eq_getElem h]
  rfl
theorem set_same {α : Type} {l : List α} {j : Nat} {q : α} (h : l[j]? = some q) : l.set j q = l := by
  obtain ⟨hj, hv⟩ := List.getElem?_eq_some_iff.1 h
  rw [← hv]
  exact List.set_getElem_self hj
theorem setT_d {t : Th} {k : Nat} {c : Int} {n : Nat} (hd : ∀ s ∈ t.l, s.d.length ≤ n) : ∀ s ∈ (setT t k { atT t k with change := c }).l, s.d.length ≤ n := by
  intro s hs
  rcases List.mem_or_eq_of_mem_set hs with h | h
  · exact hd s h
  · rw [h]
    show (atT t k).d.length ≤ n
    unfold atT
    rw [List.getD_eq_getElem?_getD]
    cases hk : t.l[k]? with
    | none => exact Nat.zero_le _
    | some x => exact hd x (List.mem_of_getElem? hk)
section
variable {F R R1 R2 : List Thing} {K : Ending → List Thing → Prop} {b pw gg cap cc cd ce k1 k2 k3 k4 : Nat} {Ac Ad Ae : Option Addr} {t : Th} {ps : List Pl} {c : Ca} {r : Re}
set_option maxRecDepth 20000 in
theorem change1_S (hat : At (some ⟨pw, 0, none⟩) F (cellsR pw (wkC (some ⟨b, 0, none⟩) t.l.length cap t.ch t.room c Ac cc r Ad cd Ae ce) 100) R1) (hat2 : At (some ⟨b, 0, none⟩) R1 (rowR (cellsK 9) 92 (.slice (some ⟨b, 0, none⟩) t.l.length cap) (slZ t.l ps)) R2) (hat3 : At (some ⟨gg, 0, none⟩) R2 (cellsR gg [.pointer (some ⟨b, k1 * 9, none⟩)] 116) R) (hps : ps.length = t.l.length) (hcap : t.l.length ≤ cap) (h24 : t.l.length = 24) (hd : ∀ s ∈ t.l, s.d.length ≤ 4000000000)
    (hk1 : k1 < 24) (h1 : ∀ t', touchE t [k1] = .ok t' → t'.l.length = 24 → t'.room = t.room → K (.returned (.tuple #[])) (.own (some ⟨pw, 0, none⟩) (cellsR pw (wkC (some ⟨b, 0, none⟩) t.l.length cap t'.ch t.room c Ac cc r Ad cd Ae ce) 100) :: .own (some ⟨b, 0, none⟩) (rowR (cellsK 9) 92 (.slice (some ⟨b, 0, none⟩) t.l.length cap) (slZ t'.l ps)) :: .own (some ⟨gg, 0, none⟩) (cellsR gg [.pointer (some ⟨b, k1 * 9, none⟩)] 116) :: R))
    (h2 : ∀ e, touchE t [k1] = .error e → K (.panicked (failP e)) R) :
    Fn (Tryz.prog) 73 [.pointer (some ⟨pw, 0, none⟩), .slice (some ⟨gg, 0, none⟩) 1 1] F K := by
  refine Fn.at_ hat ?_
  refine Fn.at_ (inferInstance : At (some ⟨b, 0, none⟩) (.own (some ⟨pw, 0, none⟩) (cellsR pw (wkC (some ⟨b, 0, none⟩) t.l.length cap t.ch t.room c Ac cc r Ad cd Ae ce) 100) :: R1) (rowR (cellsK 9) 92 (.slice (some ⟨b, 0, none⟩) t.l.length cap) (slZ t.l ps)) (.own (some ⟨pw, 0, none⟩) (cellsR pw (wkC (some ⟨b, 0, none⟩) t.l.length cap t.ch t.room c Ac cc r Ad cd Ae ce) 100) :: R2)) ?_
  refine Fn.at_ (inferInstance : At (some ⟨gg, 0, none⟩) (.own (some ⟨b, 0, none⟩) (rowR (cellsK 9) 92 (.slice (some ⟨b, 0, none⟩) t.l.length cap) (slZ t.l ps)) :: .own (some ⟨pw, 0, none⟩) (cellsR pw (wkC (some ⟨b, 0, none⟩) t.l.length cap t.ch t.room c Ac cc r Ad cd Ae ce) 100) :: R2) (cellsR gg [.pointer (some ⟨b, k1 * 9, none⟩)] 116) (.own (some ⟨b, 0, none⟩) (rowR (cellsK 9) 92 (.slice (some ⟨b, 0, none⟩) t.l.length cap) (slZ t.l ps)) :: .own (some ⟨pw, 0, none⟩) (cellsR pw (wkC (some ⟨b, 0, none⟩) t.l.length cap t.ch t.room c Ac cc r Ad cd Ae ce) 100) :: R)) ?_
  have hwr : IntKind.u64.wrap (t.ch + 1) = up64 t.ch := rfl
  unfold wkC
  refine Fn.enter Tryz.call73 Tryz.func73 rfl rfl rfl ?_
  repeat (first|refine Qa ?_|refine Qb ?_|refine Qc ?_|refine Qd ?_|refine Qe ?_|refine Qf ?_|refine Qh ?_|fail)
  rw [hwr]
  refine SX.unroll 1 ?_
  have l0 : (⟨t.l, up64 t.ch, t.room⟩ : Th).l.length = 24 := by simp [h24]
  have s0 := at_some (t := (⟨t.l, up64 t.ch, t.room⟩ : Th)) (k := k1) (by rw [l0]; exact hk1)
  obtain ⟨q0, hq0⟩ : ∃ q, ps[k1]? = some q := ⟨_, List.getElem?_eq_getElem (by omega)⟩
  repeat (first|refine Qa ?_|refine Qd ?_|refine Qe ?_|refine Qf ?_|refine Qg ?_|refine Qh ?_|refine Qk ?_|fail)
  refine SXL.idx rfl rfl rfl rfl rfl (by omega) (by omega) rfl ?_
  repeat (first|refine Qa ?_|refine Qb ?_|refine Qd ?_|refine Qe ?_|fail)
  refine SXL.stSl (ts := (⟨t.l, up64 t.ch, t.room⟩ : Th).l) (ps := ps) { atT (⟨t.l, up64 t.ch, t.room⟩ : Th) k1 with change := up64 t.ch } q0 rfl rfl inferInstance s0 hq0 rfl ?_
  rw [set_same hq0]
  repeat (first|refine Qa ?_|refine Qd ?_|refine Qe ?_|refine Qi ?_|fail)
  refine SX.round ?_
  repeat (first|refine Qa ?_|refine Qd ?_|refine Qe ?_|refine Qf ?_|refine Qj ?_|refine Ql ?_|fail)
  have lm : (setT (⟨t.l, up64 t.ch, t.room⟩ : Th) k1 { atT (⟨t.l, up64 t.ch, t.room⟩ : Th) k1 with change := up64 t.ch }).l.length = 24 := by simp [h24]
  have dm : ∀ s ∈ (setT (⟨t.l, up64 t.ch, t.room⟩ : Th) k1 { atT (⟨t.l, up64 t.ch, t.room⟩ : Th) k1 with change := up64 t.ch }).l, s.d.length ≤ 4000000000 := setT_d (hd)
  refine SXA.begin (.own (some ⟨pw, 0, none⟩) (cellsR pw (wkC (some ⟨b, 0, none⟩) t.l.length cap (up64 t.ch) t.room c Ac cc r Ad cd Ae ce) 100) :: .own (some ⟨b, 0, none⟩) (rowR (cellsK 9) 92 (.slice (some ⟨b, 0, none⟩) t.l.length cap) (slZ (setT (⟨t.l, up64 t.ch, t.room⟩ : Th) k1 { atT (⟨t.l, up64 t.ch, t.room⟩ : Th) k1 with change := up64 t.ch }).l ps)) :: .own (some ⟨gg, 0, none⟩) (cellsR gg [.pointer (some ⟨b, k1 * 9, none⟩)] 116) :: R) [] ?_
  unfold wkC
  refine Qr 0 ?_
  refine Qr 1 ?_
  refine Qr 2 ?_
  refine Qt 3 ?_
  refine Qr 5 ?_
  refine Qr 6 ?_
  refine Qr 7 ?_
  refine Qr 8 ?_
  refine Qt 9 ?_
  refine Qw 4 ?_
  have e24 : t.l.length = (setT (⟨t.l, up64 t.ch, t.room⟩ : Th) k1 { atT (⟨t.l, up64 t.ch, t.room⟩ : Th) k1 with change := up64 t.ch }).l.length := by rw [lm, h24]
  rw [e24]
  refine SXL.call rfl rfl rfl ?_
  refine (Used_S (ts := (setT (⟨t.l, up64 t.ch, t.room⟩ : Th) k1 { atT (⟨t.l, up64 t.ch, t.room⟩ : Th) k1 with change := up64 t.ch }).l) (ps := ps) inferInstance (by rw [lm]; omega) (by rw [lm]; omega) (by rw [lm]; omega) dm (callK.ret ?_))
  rw [← e24]
  refine SXL.nil (SXA.next inferInstance ?_)
  refine Qr 10 ?_
  refine Qw 11 ?_
  refine SXL.call rfl rfl rfl ?_
  refine (need_S (F' := R) inferInstance (fun hg => callK.ret ?_) (fun hg => callK.panic ?_))
  rotate_left
  · refine h2 66 ?_
    show (do needE (decide ((usedT (setT (⟨t.l, up64 t.ch, t.room⟩ : Th) k1 { atT (⟨t.l, up64 t.ch, t.room⟩ : Th) k1 with change := up64 t.ch }).l : Int) ≤ t.room)) 66; pure (setT (⟨t.l, up64 t.ch, t.room⟩ : Th) k1 { atT (⟨t.l, up64 t.ch, t.room⟩ : Th) k1 with change := up64 t.ch }) : Ex Th) = _
    rw [hg]
    rfl
  refine SXL.nil (SXA.next inferInstance ?_)
  refine Qv ?_
  refine SX.fin (M' := (.own (some ⟨pw, 0, none⟩) (cellsR pw (wkC (some ⟨b, 0, none⟩) t.l.length cap (up64 t.ch) t.room c Ac cc r Ad cd Ae ce) 100) :: .own (some ⟨b, 0, none⟩) (rowR (cellsK 9) 92 (.slice (some ⟨b, 0, none⟩) t.l.length cap) (slZ (setT (⟨t.l, up64 t.ch, t.room⟩ : Th) k1 { atT (⟨t.l, up64 t.ch, t.room⟩ : Th) k1 with change := up64 t.ch }).l ps)) :: .own (some ⟨gg, 0, none⟩) (cellsR gg [.pointer (some ⟨b, k1 * 9, none⟩)] 116) :: R)) rfl Evals.nil ?_ inferInstance
  refine h1 (setT (⟨t.l, up64 t.ch, t.room⟩ : Th) k1 { atT (⟨t.l, up64 t.ch, t.room⟩ : Th) k1 with change := up64 t.ch }) ?_ lm rfl
  show (do needE (decide ((usedT (setT (⟨t.l, up64 t.ch, t.room⟩ : Th) k1 { atT (⟨t.l, up64 t.ch, t.room⟩ : Th) k1 with change := up64 t.ch }).l : Int) ≤ t.room)) 66; pure (setT (⟨t.l, up64 t.ch, t.room⟩ : Th) k1 { atT (⟨t.l, up64 t.ch, t.room⟩ : Th) k1 with change := up64 t.ch }) : Ex Th) = _
  rw [hg]
  rfl
set_option maxRecDepth 20000 in
theorem change2_S (hat : At (some ⟨pw, 0, none⟩) F (cellsR pw (wkC (some ⟨b, 0, none⟩) t.l.length cap t.ch t.room c Ac cc r Ad cd Ae ce) 100) R1) (hat2 : At (some ⟨b, 0, none⟩) R1 (rowR (cellsK 9) 92 (.slice (some ⟨b, 0, none⟩) t.l.length cap) (slZ t.l ps)) R2) (hat3 : At (some ⟨gg, 0, none⟩) R2 (cellsR gg [.pointer (some ⟨b, k1 * 9, none⟩), .pointer (some ⟨b, k2 * 9, none⟩)] 116) R) (hps : ps.length = t.l.length) (hcap : t.l.length ≤ cap) (h24 : t.l.length = 24) (hd : ∀ s ∈ t.l, s.d.length ≤ 4000000000)
    (hk1 : k1 < 24) (hk2 : k2 < 24) (h1 : ∀ t', touchE t [k1, k2] = .ok t' → t'.l.length = 24 → t'.room = t.room → K (.returned (.tuple #[])) (.own (some ⟨pw, 0, none⟩) (cellsR pw (wkC (some ⟨b, 0, none⟩) t.l.length cap t'.ch t.room c Ac cc r Ad cd Ae ce) 100) :: .own (some ⟨b, 0, none⟩) (rowR (cellsK 9) 92 (.slice (some ⟨b, 0, none⟩) t.l.length cap) (slZ t'.l ps)) :: .own (some ⟨gg, 0, none⟩) (cellsR gg [.pointer (some ⟨b, k1 * 9, none⟩), .pointer (some ⟨b, k2 * 9, none⟩)] 116) :: R))
    (h2 : ∀ e, touchE t [k1, k2] = .error e → K (.panicked (failP e)) R) :
    Fn (Tryz.prog) 73 [.pointer (some ⟨pw, 0, none⟩), .slice (some ⟨gg, 0, none⟩) 2 2] F K := by
  refine Fn.at_ hat ?_
  refine Fn.at_ (inferInstance : At (some ⟨b, 0, none⟩) (.own (some ⟨pw, 0, none⟩) (cellsR pw (wkC (some ⟨b, 0, none⟩) t.l.length cap t.ch t.room c Ac cc r Ad cd Ae ce) 100) :: R1) (rowR (cellsK 9) 92 (.slice (some ⟨b, 0, none⟩) t.l.length cap) (slZ t.l ps)) (.own (some ⟨pw, 0, none⟩) (cellsR pw (wkC (some ⟨b, 0, none⟩) t.l.length cap t.ch t.room c Ac cc r Ad cd Ae ce) 100) :: R2)) ?_
  refine Fn.at_ (inferInstance : At (some ⟨gg, 0, none⟩) (.own (some ⟨b, 0, none⟩) (rowR (cellsK 9) 92 (.slice (some ⟨b, 0, none⟩) t.l.length cap) (slZ t.l ps)) :: .own (some ⟨pw, 0, none⟩) (cellsR pw (wkC (some ⟨b, 0, none⟩) t.l.length cap t.ch t.room c Ac cc r Ad cd Ae ce) 100) :: R2) (cellsR gg [.pointer (some ⟨b, k1 * 9, none⟩), .pointer (some ⟨b, k2 * 9, none⟩)] 116) (.own (some ⟨b, 0, none⟩) (rowR (cellsK 9) 92 (.slice (some ⟨b, 0, none⟩) t.l.length cap) (slZ t.l ps)) :: .own (some ⟨pw, 0, none⟩) (cellsR pw (wkC (some ⟨b, 0, none⟩) t.l.length cap t.ch t.room c Ac cc r Ad cd Ae ce) 100) :: R)) ?_
  have hwr : IntKind.u64.wrap (t.ch + 1) = up64 t.ch := rfl
  unfold wkC
  refine Fn.enter Tryz.call73 Tryz.func73 rfl rfl rfl ?_
  repeat (first|refine Qa ?_|refine Qb ?_|refine Qc ?_|refine Qd ?_|refine Qe ?_|refine Qf ?_|refine Qh ?_|fail)
  rw [hwr]
  refine SX.unroll 2 ?_
  have l0 : (⟨t.l, up64 t.ch, t.room⟩ : Th).l.length = 24 := by simp [h24]
  have s0 := at_some (t := (⟨t.l, up64 t.ch, t.room⟩ : Th)) (k := k1) (by rw [l0]; exact hk1)
  obtain ⟨q0, hq0⟩ : ∃ q, ps[k1]? = some q := ⟨_, List.getElem?_eq_getElem (by omega)⟩
  repeat (first|refine Qa ?_|refine Qd ?_|refine Qe ?_|refine Qf ?_|refine Qg ?_|refine Qh ?_|refine Qk ?_|fail)
  refine SXL.idx rfl rfl rfl rfl rfl (by omega) (by omega) rfl ?_
  repeat (first|refine Qa ?_|refine Qb ?_|refine Qd ?_|refine Qe ?_|fail)
  refine SXL.stSl (ts := (⟨t.l, up64 t.ch, t.room⟩ : Th).l) (ps := ps) { atT (⟨t.l, up64 t.ch, t.room⟩ : Th) k1 with change := up64 t.ch } q0 rfl rfl inferInstance s0 hq0 rfl ?_
  rw [set_same hq0]
  repeat (first|refine Qa ?_|refine Qd ?_|refine Qe ?_|refine Qi ?_|fail)
  refine SX.round ?_
  have l1 : (setT (⟨t.l, up64 t.ch, t.room⟩ : Th) k1 { atT (⟨t.l, up64 t.ch, t.room⟩ : Th) k1 with change := up64 t.ch }).l.length = 24 := by simp [h24]
  have s1 := at_some (t := (setT (⟨t.l, up64 t.ch, t.room⟩ : Th) k1 { atT (⟨t.l, up64 t.ch, t.room⟩ : Th) k1 with change := up64 t.ch })) (k := k2) (by rw [l1]; exact hk2)
  obtain ⟨q1, hq1⟩ : ∃ q, ps[k2]? = some q := ⟨_, List.getElem?_eq_getElem (by omega)⟩
  repeat (first|refine Qa ?_|refine Qd ?_|refine Qe ?_|refine Qf ?_|refine Qg ?_|refine Qh ?_|refine Qk ?_|fail)
  rw [show IntKind.i64.wrap (0 + 1) = 1 from rfl]
  refine SXL.idx rfl rfl rfl rfl rfl (by omega) (by omega) rfl ?_
  repeat (first|refine Qa ?_|refine Qb ?_|refine Qd ?_|refine Qe ?_|fail)
  refine SXL.stSl (ts := (setT (⟨t.l, up64 t.ch, t.room⟩ : Th) k1 { atT (⟨t.l, up64 t.ch, t.room⟩ : Th) k1 with change := up64 t.ch }).l) (ps := ps) { atT (setT (⟨t.l, up64 t.ch, t.room⟩ : Th) k1 { atT (⟨t.l, up64 t.ch, t.room⟩ : Th) k1 with change := up64 t.ch }) k2 with change := up64 t.ch } q1 rfl rfl inferInstance s1 hq1 rfl ?_
  rw [set_same hq1]
  repeat (first|refine Qa ?_|refine Qd ?_|refine Qe ?_|refine Qi ?_|fail)
  refine SX.round ?_
  repeat (first|refine Qa ?_|refine Qd ?_|refine Qe ?_|refine Qf ?_|refine Qj ?_|refine Ql ?_|fail)
  have lm : (setT (setT (⟨t.l, up64 t.ch, t.room⟩ : Th) k1 { atT (⟨t.l, up64 t.ch, t.room⟩ : Th) k1 with change := up64 t.ch }) k2 { atT (setT (⟨t.l, up64 t.ch, t.room⟩ : Th) k1 { atT (⟨t.l, up64 t.ch, t.room⟩ : Th) k1 with change := up64 t.ch }) k2 with change := up64 t.ch }).l.length = 24 := by simp [h24]
  have dm : ∀ s ∈ (setT (setT (⟨t.l, up64 t.ch, t.room⟩ : Th) k1 { atT (⟨t.l, up64 t.ch, t.room⟩ : Th) k1 with change := up64 t.ch }) k2 { atT (setT (⟨t.l, up64 t.ch, t.room⟩ : Th) k1 { atT (⟨t.l, up64 t.ch, t.room⟩ : Th) k1 with change := up64 t.ch }) k2 with change := up64 t.ch }).l, s.d.length ≤ 4000000000 := setT_d (setT_d (hd))
  refine SXA.begin (.own (some ⟨pw, 0, none⟩) (cellsR pw (wkC (some ⟨b, 0, none⟩) t.l.length cap (up64 t.ch) t.room c Ac cc r Ad cd Ae ce) 100) :: .own (some ⟨b, 0, none⟩) (rowR (cellsK 9) 92 (.slice (some ⟨b, 0, none⟩) t.l.length cap) (slZ (setT (setT (⟨t.l, up64 t.ch, t.room⟩ : Th) k1 { atT (⟨t.l, up64 t.ch, t.room⟩ : Th) k1 with change := up64 t.ch }) k2 { atT (setT (⟨t.l, up64 t.ch, t.room⟩ : Th) k1 { atT (⟨t.l, up64 t.ch, t.room⟩ : Th) k1 with change := up64 t.ch }) k2 with change := up64 t.ch }).l ps)) :: .own (some ⟨gg, 0, none⟩) (cellsR gg [.pointer (some ⟨b, k1 * 9, none⟩), .pointer (some ⟨b, k2 * 9, none⟩)] 116) :: R) [] ?_
  unfold wkC
  refine Qr 0 ?_
  refine Qr 1 ?_
  refine Qr 2 ?_
  refine Qt 3 ?_
  refine Qr 5 ?_
  refine Qr 6 ?_
  refine Qr 7 ?_
  refine Qr 8 ?_
  refine Qt 9 ?_
  refine Qw 4 ?_
  have e24 : t.l.length = (setT (setT (⟨t.l, up64 t.ch, t.room⟩ : Th) k1 { atT (⟨t.l, up64 t.ch, t.room⟩ : Th) k1 with change := up64 t.ch }) k2 { atT (setT (⟨t.l, up64 t.ch, t.room⟩ : Th) k1 { atT (⟨t.l, up64 t.ch, t.room⟩ : Th) k1 with change := up64 t.ch }) k2 with change := up64 t.ch }).l.length := by rw [lm, h24]
  rw [e24]
  refine SXL.call rfl rfl rfl ?_
  refine (Used_S (ts := (setT (setT (⟨t.l, up64 t.ch, t.room⟩ : Th) k1 { atT (⟨t.l, up64 t.ch, t.room⟩ : Th) k1 with change := up64 t.ch }) k2 { atT (setT (⟨t.l, up64 t.ch, t.room⟩ : Th) k1 { atT (⟨t.l, up64 t.ch, t.room⟩ : Th) k1 with change := up64 t.ch }) k2 with change := up64 t.ch }).l) (ps := ps) inferInstance (by rw [lm]; omega) (by rw [lm]; omega) (by rw [lm]; omega) dm (callK.ret ?_))
  rw [← e24]
  refine SXL.nil (SXA.next inferInstance ?_)
  refine Qr 10 ?_
  refine Qw 11 ?_
  refine SXL.call rfl rfl rfl ?_
  refine (need_S (F' := R) inferInstance (fun hg => callK.ret ?_) (fun hg => callK.panic ?_))
  rotate_left
  · refine h2 66 ?_
    show (do needE (decide ((usedT (setT (setT (⟨t.l, up64 t.ch, t.room⟩ : Th) k1 { atT (⟨t.l, up64 t.ch, t.room⟩ : Th) k1 with change := up64 t.ch }) k2 { atT (setT (⟨t.l, up64 t.ch, t.room⟩ : Th) k1 { atT (⟨t.l, up64 t.ch, t.room⟩ : Th) k1 with change := up64 t.ch }) k2 with change := up64 t.ch }).l : Int) ≤ t.room)) 66; pure (setT (setT (⟨t.l, up64 t.ch, t.room⟩ : Th) k1 { atT (⟨t.l, up64 t.ch, t.room⟩ : Th) k1 with change := up64 t.ch }) k2 { atT (setT (⟨t.l, up64 t.ch, t.room⟩ : Th) k1 { atT (⟨t.l, up64 t.ch, t.room⟩ : Th) k1 with change := up64 t.ch }) k2 with change := up64 t.ch }) : Ex Th) = _
    rw [hg]
    rfl
  refine SXL.nil (SXA.next inferInstance ?_)
  refine Qv ?_
  refine SX.fin (M' := (.own (some ⟨pw, 0, none⟩) (cellsR pw (wkC (some ⟨b, 0, none⟩) t.l.length cap (up64 t.ch) t.room c Ac cc r Ad cd Ae ce) 100) :: .own (some ⟨b, 0, none⟩) (rowR (cellsK 9) 92 (.slice (some ⟨b, 0, none⟩) t.l.length cap) (slZ (setT (setT (⟨t.l, up64 t.ch, t.room⟩ : Th) k1 { atT (⟨t.l, up64 t.ch, t.room⟩ : Th) k1 with change := up64 t.ch }) k2 { atT (setT (⟨t.l, up64 t.ch, t.room⟩ : Th) k1 { atT (⟨t.l, up64 t.ch, t.room⟩ : Th) k1 with change := up64 t.ch }) k2 with change := up64 t.ch }).l ps)) :: .own (some ⟨gg, 0, none⟩) (cellsR gg [.pointer (some ⟨b, k1 * 9, none⟩), .pointer (some ⟨b, k2 * 9, none⟩)] 116) :: R)) rfl Evals.nil ?_ inferInstance
  refine h1 (setT (setT (⟨t.l, up64 t.ch, t.room⟩ : Th) k1 { atT (⟨t.l, up64 t.ch, t.room⟩ : Th) k1 with change := up64 t.ch }) k2 { atT (setT (⟨t.l, up64 t.ch, t.room⟩ : Th) k1 { atT (⟨t.l, up64 t.ch, t.room⟩ : Th) k1 with change := up64 t.ch }) k2 with change := up64 t.ch }) ?_ lm rfl
  show (do needE (decide ((usedT (setT (setT (⟨t.l, up64 t.ch, t.room⟩ : Th) k1 { atT (⟨t.l, up64 t.ch, t.room⟩ : Th) k1 with change := up64 t.ch }) k2 { atT (setT (⟨t.l, up64 t.ch, t.room⟩ : Th) k1 { atT (⟨t.l, up64 t.ch, t.room⟩ : Th) k1 with change := up64 t.ch }) k2 with change := up64 t.ch }).l : Int) ≤ t.room)) 66; pure (setT (setT (⟨t.l, up64 t.ch, t.room⟩ : Th) k1 { atT (⟨t.l, up64 t.ch, t.room⟩ : Th) k1 with change := up64 t.ch }) k2 { atT (setT (⟨t.l, up64 t.ch, t.room⟩ : Th) k1 { atT (⟨t.l, up64 t.ch, t.room⟩ : Th) k1 with change := up64 t.ch }) k2 with change := up64 t.ch }) : Ex Th) = _
  rw [hg]
  rfl
set_option maxRecDepth 20000 in
theorem change3_S (hat : At (some ⟨pw, 0, none⟩) F (cellsR pw (wkC (some ⟨b, 0, none⟩) t.l.length cap t.ch t.room c Ac cc r Ad cd Ae ce) 100) R1) (hat2 : At (some ⟨b, 0, none⟩) R1 (rowR (cellsK 9) 92 (.slice (some ⟨b, 0, none⟩) t.l.length cap) (slZ t.l ps)) R2) (hat3 : At (some ⟨gg, 0, none⟩) R2 (cellsR gg [.pointer (some ⟨b, k1 * 9, none⟩), .pointer (some ⟨b, k2 * 9, none⟩), .pointer (some ⟨b, k3 * 9, none⟩)] 116) R) (hps : ps.length = t.l.length) (hcap : t.l.length ≤ cap) (h24 : t.l.length = 24) (hd : ∀ s ∈ t.l, s.d.length ≤ 4000000000)
    (hk1 : k1 < 24) (hk2 : k2 < 24) (hk3 : k3 < 24) (h1 : ∀ t', touchE t [k1, k2, k3] = .ok t' → t'.l.length = 24 → t'.room = t.room → K (.returned (.tuple #[])) (.own (some ⟨pw, 0, none⟩) (cellsR pw (wkC (some ⟨b, 0, none⟩) t.l.length cap t'.ch t.room c Ac cc r Ad cd Ae ce) 100) :: .own (some ⟨b, 0, none⟩) (rowR (cellsK 9) 92 (.slice (some ⟨b, 0, none⟩) t.l.length cap) (slZ t'.l ps)) :: .own (some ⟨gg, 0, none⟩) (cellsR gg [.pointer (some ⟨b, k1 * 9, none⟩), .pointer (some ⟨b, k2 * 9, none⟩), .pointer (some ⟨b, k3 * 9, none⟩)] 116) :: R))
    (h2 : ∀ e, touchE t [k1, k2, k3] = .error e → K (.panicked (failP e)) R) :
    Fn (Tryz.prog) 73 [.pointer (some ⟨pw, 0, none⟩), .slice (some ⟨gg, 0, none⟩) 3 3] F K := by
  refine Fn.at_ hat ?_
  refine Fn.at_ (inferInstance : At (some ⟨b, 0, none⟩) (.own (some ⟨pw, 0, none⟩) (cellsR pw (wkC (some ⟨b, 0, none⟩) t.l.length cap t.ch t.room c Ac cc r Ad cd Ae ce) 100) :: R1) (rowR (cellsK 9) 92 (.slice (some ⟨b, 0, none⟩) t.l.length cap) (slZ t.l ps)) (.own (some ⟨pw, 0, none⟩) (cellsR pw (wkC (some ⟨b, 0, none⟩) t.l.length cap t.ch t.room c Ac cc r Ad cd Ae ce) 100) :: R2)) ?_
  refine Fn.at_ (inferInstance : At (some ⟨gg, 0, none⟩) (.own (some ⟨b, 0, none⟩) (rowR (cellsK 9) 92 (.slice (some ⟨b, 0, none⟩) t.l.length cap) (slZ t.l ps)) :: .own (some ⟨pw, 0, none⟩) (cellsR pw (wkC (some ⟨b, 0, none⟩) t.l.length cap t.ch t.room c Ac cc r Ad cd Ae ce) 100) :: R2) (cellsR gg [.pointer (some ⟨b, k1 * 9, none⟩), .pointer (some ⟨b, k2 * 9, none⟩), .pointer (some ⟨b, k3 * 9, none⟩)] 116) (.own (some ⟨b, 0, none⟩) (rowR (cellsK 9) 92 (.slice (some ⟨b, 0, none⟩) t.l.length cap) (slZ t.l ps)) :: .own (some ⟨pw, 0, none⟩) (cellsR pw (wkC (some ⟨b, 0, none⟩) t.l.length cap t.ch t.room c Ac cc r Ad cd Ae ce) 100) :: R)) ?_
  have hwr : IntKind.u64.wrap (t.ch + 1) = up64 t.ch := rfl
  unfold wkC
  refine Fn.enter Tryz.call73 Tryz.func73 rfl rfl rfl ?_
  repeat (first|refine Qa ?_|refine Qb ?_|refine Qc ?_|refine Qd ?_|refine Qe ?_|refine Qf ?_|refine Qh ?_|fail)
  rw [hwr]
  refine SX.unroll 3 ?_
  have l0 : (⟨t.l, up64 t.ch, t.room⟩ : Th).l.length = 24 := by simp [h24]
  have s0 := at_some (t := (⟨t.l, up64 t.ch, t.room⟩ : Th)) (k := k1) (by rw [l0]; exact hk1)
  obtain ⟨q0, hq0⟩ : ∃ q, ps[k1]? = some q := ⟨_, List.getElem?_eq_getElem (by omega)⟩
  repeat (first|refine Qa ?_|refine Qd ?_|refine Qe ?_|refine Qf ?_|refine Qg ?_|refine Qh ?_|refine Qk ?_|fail)
  refine SXL.idx rfl rfl rfl rfl rfl (by omega) (by omega) rfl ?_
  repeat (first|refine Qa ?_|refine Qb ?_|refine Qd ?_|refine Qe ?_|fail)
  refine SXL.stSl (ts := (⟨t.l, up64 t.ch, t.room⟩ : Th).l) (ps := ps) { atT (⟨t.l, up64 t.ch, t.room⟩ : Th) k1 with change := up64 t.ch } q0 rfl rfl inferInstance s0 hq0 rfl ?_
  rw [set_same hq0]
  repeat (first|refine Qa ?_|refine Qd ?_|refine Qe ?_|refine Qi ?_|fail)
  refine SX.round ?_
  have l1 : (setT (⟨t.l, up64 t.ch, t.room⟩ : Th) k1 { atT (⟨t.l, up64 t.ch, t.room⟩ : Th) k1 with change := up64 t.ch }).l.length = 24 := by simp [h24]
  have s1 := at_some (t := (setT (⟨t.l, up64 t.ch, t.room⟩ : Th) k1 { atT (⟨t.l, up64 t.ch, t.room⟩ : Th) k1 with change := up64 t.ch })) (k := k2) (by rw [l1]; exact hk2)
  obtain ⟨q1, hq1⟩ : ∃ q, ps[k2]? = some q := ⟨_, List.getElem?_eq_getElem (by omega)⟩
  repeat (first|refine Qa ?_|refine Qd ?_|refine Qe ?_|refine Qf ?_|refine Qg ?_|refine Qh ?_|refine Qk ?_|fail)
  rw [show IntKind.i64.wrap (0 + 1) = 1 from rfl]
  refine SXL.idx rfl rfl rfl rfl rfl (by omega) (by omega) rfl ?_
  repeat (first|refine Qa ?_|refine Qb ?_|refine Qd ?_|refine Qe ?_|fail)
  refine SXL.stSl (ts := (setT (⟨t.l, up64 t.ch, t.room⟩ : Th) k1 { atT (⟨t.l, up64 t.ch, t.room⟩ : Th) k1 with change := up64 t.ch }).l) (ps := ps) { atT (setT (⟨t.l, up64 t.ch, t.room⟩ : Th) k1 { atT (⟨t.l, up64 t.ch, t.room⟩ : Th) k1 with change := up64 t.ch }) k2 with change := up64 t.ch } q1 rfl rfl inferInstance s1 hq1 rfl ?_
  rw [set_same hq1]
  repeat (first|refine Qa ?_|refine Qd ?_|refine Qe ?_|refine Qi ?_|fail)
  refine SX.round ?_
  have l2 : (setT (setT (⟨t.l, up64 t.ch, t.room⟩ : Th) k1 { atT (⟨t.l, up64 t.ch, t.room⟩ : Th) k1 with change := up64 t.ch }) k2 { atT (setT (⟨t.l, up64 t.ch, t.room⟩ : Th) k1 { atT (⟨t.l, up64 t.ch, t.room⟩ : Th) k1 with change := up64 t.ch }) k2 with change := up64 t.ch }).l.length = 24 := by simp [h24]
  have s2 := at_some (t := (setT (setT (⟨t.l, up64 t.ch, t.room⟩ : Th) k1 { atT (⟨t.l, up64 t.ch, t.room⟩ : Th) k1 with change := up64 t.ch }) k2 { atT (setT (⟨t.l, up64 t.ch, t.room⟩ : Th) k1 { atT (⟨t.l, up64 t.ch, t.room⟩ : Th) k1 with change := up64 t.ch }) k2 with change := up64 t.ch })) (k := k3) (by rw [l2]; exact hk3)
  obtain ⟨q2, hq2⟩ : ∃ q, ps[k3]? = some q := ⟨_, List.getElem?_eq_getElem (by omega)⟩
  repeat (first|refine Qa ?_|refine Qd ?_|refine Qe ?_|refine Qf ?_|refine Qg ?_|refine Qh ?_|refine Qk ?_|fail)
  rw [show IntKind.i64.wrap (1 + 1) = 2 from rfl]
  refine SXL.idx rfl rfl rfl rfl rfl (by omega) (by omega) rfl ?_
  repeat (first|refine Qa ?_|refine Qb ?_|refine Qd ?_|refine Qe ?_|fail)
  refine SXL.stSl (ts := (setT (setT (⟨t.l, up64 t.ch, t.room⟩ : Th) k1 { atT (⟨t.l, up64 t.ch, t.room⟩ : Th) k1 with change := up64 t.ch }) k2 { atT (setT (⟨t.l, up64 t.ch, t.room⟩ : Th) k1 { atT (⟨t.l, up64 t.ch, t.room⟩ : Th) k1 with change := up64 t.ch }) k2 with change := up64 t.ch }).l) (ps := ps) { atT (setT (setT (⟨t.l, up64 t.ch, t.room⟩ : Th) k1 { atT (⟨t.l, up64 t.ch, t.room⟩ : Th) k1 with change := up64 t.ch }) k2 { atT (setT (⟨t.l, up64 t.ch, t.room⟩ : Th) k1 { atT (⟨t.l, up64 t.ch, t.room⟩ : Th) k1 with change := up64 t.ch }) k2 with change := up64 t.ch }) k3 with change := up64 t.ch } q2 rfl rfl inferInstance s2 hq2 rfl ?_
  rw [set_same hq2]
  repeat (first|refine Qa ?_|refine Qd ?_|refine Qe ?_|refine Qi ?_|fail)
  refine SX.round ?_
  repeat (first|refine Qa ?_|refine Qd ?_|refine Qe ?_|refine Qf ?_|refine Qj ?_|refine Ql ?_|fail)
  have lm : (setT (setT (setT (⟨t.l, up64 t.ch, t.room⟩ : Th) k1 { atT (⟨t.l, up64 t.ch, t.room⟩ : Th) k1 with change := up64 t.ch }) k2 { atT (setT (⟨t.l, up64 t.ch, t.room⟩ : Th) k1 { atT (⟨t.l, up64 t.ch, t.room⟩ : Th) k1 with change := up64 t.ch }) k2 with change := up64 t.ch }) k3 { atT (setT (setT (⟨t.l, up64 t.ch, t.room⟩ : Th) k1 { atT (⟨t.l, up64 t.ch, t.room⟩ : Th) k1 with change := up64 t.ch }) k2 { atT (setT (⟨t.l, up64 t.ch, t.room⟩ : Th) k1 { atT (⟨t.l, up64 t.ch, t.room⟩ : Th) k1 with change := up64 t.ch }) k2 with change := up64 t.ch }) k3 with change := up64 t.ch }).l.length = 24 := by simp [h24]
  have dm : ∀ s ∈ (setT (setT (setT (⟨t.l, up64 t.ch, t.room⟩ : Th) k1 { atT (⟨t.l, up64 t.ch, t.room⟩ : Th) k1 with change := up64 t.ch }) k2 { atT (setT (⟨t.l, up64 t.ch, t.room⟩ : Th) k1 { atT (⟨t.l, up64 t.ch, t.room⟩ : Th) k1 with change := up64 t.ch }) k2 with change := up64 t.ch }) k3 { atT (setT (setT (⟨t.l, up64 t.ch, t.room⟩ : Th) k1 { atT (⟨t.l, up64 t.ch, t.room⟩ : Th) k1 with change := up64 t.ch }) k2 { atT (setT (⟨t.l, up64 t.ch, t.room⟩ : Th) k1 { atT (⟨t.l, up64 t.ch, t.room⟩ : Th) k1 with change := up64 t.ch }) k2 with change := up64 t.ch }) k3 with change := up64 t.ch }).l, s.d.length ≤ 4000000000 := setT_d (setT_d (setT_d (hd)))
  refine SXA.begin (.own (some ⟨pw, 0, none⟩) (cellsR pw (wkC (some ⟨b, 0, none⟩) t.l.length cap (up64 t.ch) t.room c Ac cc r Ad cd Ae ce) 100) :: .own (some ⟨b, 0, none⟩) (rowR (cellsK 9) 92 (.slice (some ⟨b, 0, none⟩) t.l.length cap) (slZ (setT (setT (setT (⟨t.l, up64 t.ch, t.room⟩ : Th) k1 { atT (⟨t.l, up64 t.ch, t.room⟩ : Th) k1 with change := up64 t.ch }) k2 { atT (setT (⟨t.l, up64 t.ch, t.room⟩ : Th) k1 { atT (⟨t.l, up64 t.ch, t.room⟩ : Th) k1 with change := up64 t.ch }) k2 with change := up64 t.ch }) k3 { atT (setT (setT (⟨t.l, up64 t.ch, t.room⟩ : Th) k1 { atT (⟨t.l, up64 t.ch, t.room⟩ : Th) k1 with change := up64 t.ch }) k2 { atT (setT (⟨t.l, up64 t.ch, t.room⟩ : Th) k1 { atT (⟨t.l, up64 t.ch, t.room⟩ : Th) k1 with change := up64 t.ch }) k2 with change := up64 t.ch }) k3 with change := up64 t.ch }).l ps)) :: .own (some ⟨gg, 0, none⟩) (cellsR gg [.pointer (some ⟨b, k1 * 9, none⟩), .pointer (some ⟨b, k2 * 9, none⟩), .pointer (some ⟨b, k3 * 9, none⟩)] 116) :: R) [] ?_
  unfold wkC
  refine Qr 0 ?_
  refine Qr 1 ?_
  refine Qr 2 ?_
  refine Qt 3 ?_
  refine Qr 5 ?_
  refine Qr 6 ?_
  refine Qr 7 ?_
  refine Qr 8 ?_
  refine Qt 9 ?_
  refine Qw 4 ?_
  have e24 : t.l.length = (setT (setT (setT (⟨t.l, up64 t.ch, t.room⟩ : Th) k1 { atT (⟨t.l, up64 t.ch, t.room⟩ : Th) k1 with change := up64 t.ch }) k2 { atT (setT (⟨t.l, up64 t.ch, t.room⟩ : Th) k1 { atT (⟨t.l, up64 t.ch, t.room⟩ : Th) k1 with change := up64 t.ch }) k2 with change := up64 t.ch }) k3 { atT (setT (setT (⟨t.l, up64 t.ch, t.room⟩ : Th) k1 { atT (⟨t.l, up64 t.ch, t.room⟩ : Th) k1 with change := up64 t.ch }) k2 { atT (setT (⟨t.l, up64 t.ch, t.room⟩ : Th) k1 { atT (⟨t.l, up64 t.ch, t.room⟩ : Th) k1 with change := up64 t.ch }) k2 with change := up64 t.ch }) k3 with change := up64 t.ch }).l.length := by rw [lm, h24]
  rw [e24]
  refine SXL.call rfl rfl rfl ?_
  refine (Used_S (ts := (setT (setT (setT (⟨t.l, up64 t.ch, t.room⟩ : Th) k1 { atT (⟨t.l, up64 t.ch, t.room⟩ : Th) k1 with change := up64 t.ch }) k2 { atT (setT (⟨t.l, up64 t.ch, t.room⟩ : Th) k1 { atT (⟨t.l, up64 t.ch, t.room⟩ : Th) k1 with change := up64 t.ch }) k2 with change := up64 t.ch }) k3 { atT (setT (setT (⟨t.l, up64 t.ch, t.room⟩ : Th) k1 { atT (⟨t.l, up64 t.ch, t.room⟩ : Th) k1 with change := up64 t.ch }) k2 { atT (setT (⟨t.l, up64 t.ch, t.room⟩ : Th) k1 { atT (⟨t.l, up64 t.ch, t.room⟩ : Th) k1 with change := up64 t.ch }) k2 with change := up64 t.ch }) k3 with change := up64 t.ch }).l) (ps := ps) inferInstance (by rw [lm]; omega) (by rw [lm]; omega) (by rw [lm]; omega) dm (callK.ret ?_))
  rw [← e24]
  refine SXL.nil (SXA.next inferInstance ?_)
  refine Qr 10 ?_
  refine Qw 11 ?_
  refine SXL.call rfl rfl rfl ?_
  refine (need_S (F' := R) inferInstance (fun hg => callK.ret ?_) (fun hg => callK.panic ?_))
  rotate_left
  · refine h2 66 ?_
    show (do needE (decide ((usedT (setT (setT (setT (⟨t.l, up64 t.ch, t.room⟩ : Th) k1 { atT (⟨t.l, up64 t.ch, t.room⟩ : Th) k1 with change := up64 t.ch }) k2 { atT (setT (⟨t.l, up64 t.ch, t.room⟩ : Th) k1 { atT (⟨t.l, up64 t.ch, t.room⟩ : Th) k1 with change := up64 t.ch }) k2 with change := up64 t.ch }) k3 { atT (setT (setT (⟨t.l, up64 t.ch, t.room⟩ : Th) k1 { atT (⟨t.l, up64 t.ch, t.room⟩ : Th) k1 with change := up64 t.ch }) k2 { atT (setT (⟨t.l, up64 t.ch, t.room⟩ : Th) k1 { atT (⟨t.l, up64 t.ch, t.room⟩ : Th) k1 with change := up64 t.ch }) k2 with change := up64 t.ch }) k3 with change := up64 t.ch }).l : Int) ≤ t.room)) 66; pure (setT (setT (setT (⟨t.l, up64 t.ch, t.room⟩ : Th) k1 { atT (⟨t.l, up64 t.ch, t.room⟩ : Th) k1 with change := up64 t.ch }) k2 { atT (setT (⟨t.l, up64 t.ch, t.room⟩ : Th) k1 { atT (⟨t.l, up64 t.ch, t.room⟩ : Th) k1 with change := up64 t.ch }) k2 with change := up64 t.ch }) k3 { atT (setT (setT (⟨t.l, up64 t.ch, t.room⟩ : Th) k1 { atT (⟨t.l, up64 t.ch, t.room⟩ : Th) k1 with change := up64 t.ch }) k2 { atT (setT (⟨t.l, up64 t.ch, t.room⟩ : Th) k1 { atT (⟨t.l, up64 t.ch, t.room⟩ : Th) k1 with change := up64 t.ch }) k2 with change := up64 t.ch }) k3 with change := up64 t.ch }) : Ex Th) = _
    rw [hg]
    rfl
  refine SXL.nil (SXA.next inferInstance ?_)
  refine Qv ?_
  refine SX.fin (M' := (.own (some ⟨pw, 0, none⟩) (cellsR pw (wkC (some ⟨b, 0, none⟩) t.l.length cap (up64 t.ch) t.room c Ac cc r Ad cd Ae ce) 100) :: .own (some ⟨b, 0, none⟩) (rowR (cellsK 9) 92 (.slice (some ⟨b, 0, none⟩) t.l.length cap) (slZ (setT (setT (setT (⟨t.l, up64 t.ch, t.room⟩ : Th) k1 { atT (⟨t.l, up64 t.ch, t.room⟩ : Th) k1 with change := up64 t.ch }) k2 { atT (setT (⟨t.l, up64 t.ch, t.room⟩ : Th) k1 { atT (⟨t.l, up64 t.ch, t.room⟩ : Th) k1 with change := up64 t.ch }) k2 with change := up64 t.ch }) k3 { atT (setT (setT (⟨t.l, up64 t.ch, t.room⟩ : Th) k1 { atT (⟨t.l, up64 t.ch, t.room⟩ : Th) k1 with change := up64 t.ch }) k2 { atT (setT (⟨t.l, up64 t.ch, t.room⟩ : Th) k1 { atT (⟨t.l, up64 t.ch, t.room⟩ : Th) k1 with change := up64 t.ch }) k2 with change := up64 t.ch }) k3 with change := up64 t.ch }).l ps)) :: .own (some ⟨gg, 0, none⟩) (cellsR gg [.pointer (some ⟨b, k1 * 9, none⟩), .pointer (some ⟨b, k2 * 9, none⟩), .pointer (some ⟨b, k3 * 9, none⟩)] 116) :: R)) rfl Evals.nil ?_ inferInstance
  refine h1 (setT (setT (setT (⟨t.l, up64 t.ch, t.room⟩ : Th) k1 { atT (⟨t.l, up64 t.ch, t.room⟩ : Th) k1 with change := up64 t.ch }) k2 { atT (setT (⟨t.l, up64 t.ch, t.room⟩ : Th) k1 { atT (⟨t.l, up64 t.ch, t.room⟩ : Th) k1 with change := up64 t.ch }) k2 with change := up64 t.ch }) k3 { atT (setT (setT (⟨t.l, up64 t.ch, t.room⟩ : Th) k1 { atT (⟨t.l, up64 t.ch, t.room⟩ : Th) k1 with change := up64 t.ch }) k2 { atT (setT (⟨t.l, up64 t.ch, t.room⟩ : Th) k1 { atT (⟨t.l, up64 t.ch, t.room⟩ : Th) k1 with change := up64 t.ch }) k2 with change := up64 t.ch }) k3 with change := up64 t.ch }) ?_ lm rfl
  show (do needE (decide ((usedT (setT (setT (setT (⟨t.l, up64 t.ch, t.room⟩ : Th) k1 { atT (⟨t.l, up64 t.ch, t.room⟩ : Th) k1 with change := up64 t.ch }) k2 { atT (setT (⟨t.l, up64 t.ch, t.room⟩ : Th) k1 { atT (⟨t.l, up64 t.ch, t.room⟩ : Th) k1 with change := up64 t.ch }) k2 with change := up64 t.ch }) k3 { atT (setT (setT (⟨t.l, up64 t.ch, t.room⟩ : Th) k1 { atT (⟨t.l, up64 t.ch, t.room⟩ : Th) k1 with change := up64 t.ch }) k2 { atT (setT (⟨t.l, up64 t.ch, t.room⟩ : Th) k1 { atT (⟨t.l, up64 t.ch, t.room⟩ : Th) k1 with change := up64 t.ch }) k2 with change := up64 t.ch }) k3 with change := up64 t.ch }).l : Int) ≤ t.room)) 66; pure (setT (setT (setT (⟨t.l, up64 t.ch, t.room⟩ : Th) k1 { atT (⟨t.l, up64 t.ch, t.room⟩ : Th) k1 with change := up64 t.ch }) k2 { atT (setT (⟨t.l, up64 t.ch, t.room⟩ : Th) k1 { atT (⟨t.l, up64 t.ch, t.room⟩ : Th) k1 with change := up64 t.ch }) k2 with change := up64 t.ch }) k3 { atT (setT (setT (⟨t.l, up64 t.ch, t.room⟩ : Th) k1 { atT (⟨t.l, up64 t.ch, t.room⟩ : Th) k1 with change := up64 t.ch }) k2 { atT (setT (⟨t.l, up64 t.ch, t.room⟩ : Th) k1 { atT (⟨t.l, up64 t.ch, t.room⟩ : Th) k1 with change := up64 t.ch }) k2 with change := up64 t.ch }) k3 with change := up64 t.ch }) : Ex Th) = _
  rw [hg]
  rfl
end
end Go.Proofs.YtanemmcddgkpdaaGreat.Sx
