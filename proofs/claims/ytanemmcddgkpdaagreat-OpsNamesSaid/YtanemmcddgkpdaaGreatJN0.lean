/- Part N0 of the lemmas and walks of the Go functions that these statements reach; conditions: those that each theorem names. -/
import Derived.Test.YtanemmcddgkpdaaGreatJN6
import Derived.Test.YtanemmcddgkpdaaGreatJX8
import Derived.Test.YtanemmcddgkpdaaGreatJY6
import Derived.Test.YtanemmcddgkpdaaGreatJX2
import Derived.Test.YtanemmcddgkpdaaGreatJN7
section
/- Chapter 13: a change that touches four things out of a row that grew, walked; conditions: those that each theorem names. -/
namespace Go.Proofs.YtanemmcddgkpdaaGreat.Sx
open Go.RowKit Go.Proofs.YtanemmcddgkpdaaGreat.Hm Go.Proofs.YtanemmcddgkpdaaGreatW.PrintWords Go.Proofs.YtanemmcddgkpdaaGreatW.PrintLast Go.Proofs.YtanemmcddgkpdaaGreatW.PrintMore
set_option linter.unusedVariables false
set_option linter.unusedSimpArgs false
attribute [local irreducible] SX SXL SXA St callK Post Evals
section
variable {P : Program} {fn : Func} {K : Ending → List Thing → Prop} {N : Nat} {k : List It} {a : Fr} {M R : List Thing} {ops : Array Oper} {α : Type} {enc : α → List Value}
/-- A literal's cells as a row of the call's own. -/
theorem SXL.ownLit {l : List Oper} (D : Kd α) (b : Nat) (ys : List α) {cs : List Value} {ty' : TypeId} (hat : At (some ⟨b, 0, none⟩) M (cellsR b cs ty') R) (hrep : ∀ w ok, Reps (D.M w 0 ok) D.sz ys cs) (hl : ys.length ≤ 9223372036854775807)
    (h : SXL P fn K N k ops l a (.own (some ⟨b, 0, none⟩) (rowR D ty' (.slice (some ⟨b, 0, none⟩) ys.length ys.length) ys) :: R)) : SXL P fn K N k ops l a M := by
  refine SXL.mem h (fun w hw => ?_)
  obtain ⟨I, hI, S, hS, hr, hL⟩ := hw.at_ hat
  have hlen := (hrep w (fun k => S k ∧ some k ≠ (Value.slice (some ⟨b, 0, none⟩) ys.length ys.length).ownBlock)).1
  refine ⟨I, hI, S, hS, ⟨fun k hk => ?_, cs, ⟨hlen, .inr ⟨b, ys.length, cs.toArray, rfl, Nat.zero_le _, hr.2, Nat.le_refl _, by simpa [maxLen] using hl, by simpa using hlen, by rw [← hlen]; simp⟩⟩, hrep _ _⟩, hL⟩
  have h1 : b = k := by simpa [Value.ownBlock] using hk
  exact h1 ▸ hr.1
end
def ptX (b k : Nat) : CellsN 1 := ⟨[.pointer (some ⟨b, k * 9, none⟩)], rfl, fun u hu => by obtain rfl := List.mem_singleton.1 hu; rfl⟩
theorem infoPt : ((Tryz.prog).info? 116).map (fun i => (i.zero, i.size, i.bytes)) = some (some (.pointer none), 1, 8) := by kernel_rfl
instance rowPt : RowT Tryz.prog (cellsK 1) 133 116 8 := ⟨Tryz.underlying133, ⟨_, infoPt, rfl⟩, by decide, by decide⟩
section
variable {F R R1 R2 : List Thing} {K : Ending → List Thing → Prop} {b pw gg cp cap cc cd ce k1 k2 k3 k4 : Nat} {Ac Ad Ae : Option Addr} {c : Ca} {r : Re}
theorem change_P3 (t : Th) (ps : List Pl) (hm : t.mid) (hps : ps.length = 24) (hcap : 24 ≤ cap) (hat : At (some ⟨pw, 0, none⟩) F (wkM pw b cap t c Ac cc r Ad cd Ae ce) R1) (hat2 : At (some ⟨b, 0, none⟩) R1 (thR b 24 cap t.l ps) R2) (hat3 : At (some ⟨gg, 0, none⟩) R2 (cellsR gg [.pointer (some ⟨b, k1 * 9, none⟩), .pointer (some ⟨b, k2 * 9, none⟩), .pointer (some ⟨b, k3 * 9, none⟩)] 116) R) (hk1 : k1 < 24) (hk2 : k2 < 24) (hk3 : k3 < 24)
    (h1 : ∀ t', touchE t [k1, k2, k3] = .ok t' → t'.mid → t'.l.map Sl.d = t.l.map Sl.d → K (.returned (.tuple #[])) (.own (some ⟨pw, 0, none⟩) (wkM pw b cap t' c Ac cc r Ad cd Ae ce) :: .own (some ⟨b, 0, none⟩) (thR b 24 cap t'.l ps) :: .own (some ⟨gg, 0, none⟩) (cellsR gg [.pointer (some ⟨b, k1 * 9, none⟩), .pointer (some ⟨b, k2 * 9, none⟩), .pointer (some ⟨b, k3 * 9, none⟩)] 116) :: R))
    (h2 : ∀ e, touchE t [k1, k2, k3] = .error e → K (.panicked (failP e)) R) :
    Fn (Tryz.prog) 73 [.pointer (some ⟨pw, 0, none⟩), .slice (some ⟨gg, 0, none⟩) 3 3] F K := by
  have hn := hm.n
  unfold wkM at hat
  unfold thR at hat2
  rw [← hn] at hat hat2
  refine change3_S hat hat2 hat3 (by omega) (by omega) hn (fun s hs => by have := (hm.m s hs).l; omega) hk1 hk2 hk3 (fun t' ht hl hroom => ?_) h2
  obtain ⟨_, _, _, hd, hmm, _⟩ := touchE_ok ht
  have h9 := h1 t' ht (hmm hm) hd
  unfold wkM thR at h9
  rw [hroom, ← hn] at h9
  exact h9
set_option maxRecDepth 20000 in
theorem change4R_P (t : Th) (ps : List Pl) (hm : t.mid) (hps : ps.length = 24) (hcap : 24 ≤ cap) (hk1 : k1 < 24) (hk2 : k2 < 24) (hk3 : k3 < 24) (hk4 : k4 < 24) (hcp : 4 ≤ cp) (hr3 : Ro (cellsK 1) (some ⟨gg, 0, none⟩) R [ptX b k1, ptX b k2, ptX b k3, ptX b k4])
    (h1 : ∀ t', touchE t [k1, k2, k3, k4] = .ok t' → t'.mid → t'.l.map Sl.d = t.l.map Sl.d → K (.returned (.tuple #[])) (.own (some ⟨pw, 0, none⟩) (wkM pw b cap t' c Ac cc r Ad cd Ae ce) :: .own (some ⟨b, 0, none⟩) (thR b 24 cap t'.l ps) :: R))
    (h2 : ∀ e, touchE t [k1, k2, k3, k4] = .error e → K (.panicked (failP e)) R) :
    Fn (Tryz.prog) 73 [.pointer (some ⟨pw, 0, none⟩), .slice (some ⟨gg, 0, none⟩) 4 cp] (.own (some ⟨pw, 0, none⟩) (wkM pw b cap t c Ac cc r Ad cd Ae ce) :: .own (some ⟨b, 0, none⟩) (thR b 24 cap t.l ps) :: R) K := by
  have hwr : IntKind.u64.wrap (t.ch + 1) = up64 t.ch := rfl
  have h24 := hm.n
  have hd : ∀ s ∈ t.l, s.d.length ≤ 4000000000 := fun s hs => by have := (hm.m s hs).l; omega
  unfold wkM wkC
  refine Fn.enter Tryz.call73 Tryz.func73 rfl rfl rfl ?_
  repeat (first|refine Qa ?_|refine Qb ?_|refine Qc ?_|refine Qd ?_|refine Qe ?_|refine Qf ?_|refine Qg ?_|refine Qh ?_|refine Qi ?_|refine Qj ?_|refine Qk ?_|refine Ql ?_|refine Qm ?_|refine Qn ?_|refine Qo ?_|refine Qp ?_|refine Qq ?_|fail)
  rw [hwr]
  refine SX.unroll 4 ?_
  have l0 : (⟨t.l, up64 t.ch, t.room⟩ : Th).l.length = 24 := by simp [h24]
  have s0 := at_some (t := (⟨t.l, up64 t.ch, t.room⟩ : Th)) (k := k1) (by rw [l0]; exact hk1)
  obtain ⟨q0, hq0⟩ : ∃ q, ps[k1]? = some q := ⟨_, List.getElem?_eq_getElem (by omega)⟩
  haveI gi0 : GetIs [ptX b k1, ptX b k2, ptX b k3, ptX b k4] 0 (ptX b k1) := ⟨rfl⟩
  repeat (first|refine Qa ?_|refine Qb ?_|refine Qc ?_|refine Qd ?_|refine Qe ?_|refine Qf ?_|refine Qg ?_|refine Qh ?_|refine Qi ?_|refine Qj ?_|refine Qk ?_|refine Ql ?_|refine Qm ?_|refine Qn ?_|refine Qo ?_|refine Qp ?_|refine Qq ?_|fail)
  refine SXL.idx rfl rfl rfl rfl rfl (by omega) (by omega) rfl ?_
  refine SXL.same 19 (.pointer (some ⟨gg, 0 * 1, none⟩)) rfl rfl ?_
  repeat (first|refine Qa ?_|refine Qb ?_|refine Qc ?_|refine Qd ?_|refine Qe ?_|refine Qf ?_|refine Qg ?_|refine Qh ?_|refine Qi ?_|refine Qj ?_|refine Qk ?_|refine Ql ?_|refine Qm ?_|refine Qn ?_|refine Qo ?_|refine Qp ?_|refine Qq ?_|refine Qx ?_|refine Qy ?_|fail)
  refine SXL.stSl (ts := (⟨t.l, up64 t.ch, t.room⟩ : Th).l) (ps := ps) { atT (⟨t.l, up64 t.ch, t.room⟩ : Th) k1 with change := up64 t.ch } q0 rfl rfl inferInstance s0 hq0 rfl ?_
  rw [set_same hq0]
  repeat (first|refine Qa ?_|refine Qb ?_|refine Qc ?_|refine Qd ?_|refine Qe ?_|refine Qf ?_|refine Qg ?_|refine Qh ?_|refine Qi ?_|refine Qj ?_|refine Qk ?_|refine Ql ?_|refine Qm ?_|refine Qn ?_|refine Qo ?_|refine Qp ?_|refine Qq ?_|fail)
  refine SX.round ?_
  have l1 : (setT (⟨t.l, up64 t.ch, t.room⟩ : Th) k1 { atT (⟨t.l, up64 t.ch, t.room⟩ : Th) k1 with change := up64 t.ch }).l.length = 24 := by simp [h24]
  have s1 := at_some (t := (setT (⟨t.l, up64 t.ch, t.room⟩ : Th) k1 { atT (⟨t.l, up64 t.ch, t.room⟩ : Th) k1 with change := up64 t.ch })) (k := k2) (by rw [l1]; exact hk2)
  obtain ⟨q1, hq1⟩ : ∃ q, ps[k2]? = some q := ⟨_, List.getElem?_eq_getElem (by omega)⟩
  haveI gi1 : GetIs [ptX b k1, ptX b k2, ptX b k3, ptX b k4] 1 (ptX b k2) := ⟨rfl⟩
  repeat (first|refine Qa ?_|refine Qb ?_|refine Qc ?_|refine Qd ?_|refine Qe ?_|refine Qf ?_|refine Qg ?_|refine Qh ?_|refine Qi ?_|refine Qj ?_|refine Qk ?_|refine Ql ?_|refine Qm ?_|refine Qn ?_|refine Qo ?_|refine Qp ?_|refine Qq ?_|fail)
  rw [show IntKind.i64.wrap (0 + 1) = 1 from rfl]
  refine SXL.idx rfl rfl rfl rfl rfl (by omega) (by omega) rfl ?_
  refine SXL.same 19 (.pointer (some ⟨gg, 1 * 1, none⟩)) rfl rfl ?_
  repeat (first|refine Qa ?_|refine Qb ?_|refine Qc ?_|refine Qd ?_|refine Qe ?_|refine Qf ?_|refine Qg ?_|refine Qh ?_|refine Qi ?_|refine Qj ?_|refine Qk ?_|refine Ql ?_|refine Qm ?_|refine Qn ?_|refine Qo ?_|refine Qp ?_|refine Qq ?_|refine Qx ?_|refine Qy ?_|fail)
  refine SXL.stSl (ts := (setT (⟨t.l, up64 t.ch, t.room⟩ : Th) k1 { atT (⟨t.l, up64 t.ch, t.room⟩ : Th) k1 with change := up64 t.ch }).l) (ps := ps) { atT (setT (⟨t.l, up64 t.ch, t.room⟩ : Th) k1 { atT (⟨t.l, up64 t.ch, t.room⟩ : Th) k1 with change := up64 t.ch }) k2 with change := up64 t.ch } q1 rfl rfl inferInstance s1 hq1 rfl ?_
  rw [set_same hq1]
  repeat (first|refine Qa ?_|refine Qb ?_|refine Qc ?_|refine Qd ?_|refine Qe ?_|refine Qf ?_|refine Qg ?_|refine Qh ?_|refine Qi ?_|refine Qj ?_|refine Qk ?_|refine Ql ?_|refine Qm ?_|refine Qn ?_|refine Qo ?_|refine Qp ?_|refine Qq ?_|fail)
  refine SX.round ?_
  have l2 : (setT (setT (⟨t.l, up64 t.ch, t.room⟩ : Th) k1 { atT (⟨t.l, up64 t.ch, t.room⟩ : Th) k1 with change := up64 t.ch }) k2 { atT (setT (⟨t.l, up64 t.ch, t.room⟩ : Th) k1 { atT (⟨t.l, up64 t.ch, t.room⟩ : Th) k1 with change := up64 t.ch }) k2 with change := up64 t.ch }).l.length = 24 := by simp [h24]
  have s2 := at_some (t := (setT (setT (⟨t.l, up64 t.ch, t.room⟩ : Th) k1 { atT (⟨t.l, up64 t.ch, t.room⟩ : Th) k1 with change := up64 t.ch }) k2 { atT (setT (⟨t.l, up64 t.ch, t.room⟩ : Th) k1 { atT (⟨t.l, up64 t.ch, t.room⟩ : Th) k1 with change := up64 t.ch }) k2 with change := up64 t.ch })) (k := k3) (by rw [l2]; exact hk3)
  obtain ⟨q2, hq2⟩ : ∃ q, ps[k3]? = some q := ⟨_, List.getElem?_eq_getElem (by omega)⟩
  haveI gi2 : GetIs [ptX b k1, ptX b k2, ptX b k3, ptX b k4] 2 (ptX b k3) := ⟨rfl⟩
  repeat (first|refine Qa ?_|refine Qb ?_|refine Qc ?_|refine Qd ?_|refine Qe ?_|refine Qf ?_|refine Qg ?_|refine Qh ?_|refine Qi ?_|refine Qj ?_|refine Qk ?_|refine Ql ?_|refine Qm ?_|refine Qn ?_|refine Qo ?_|refine Qp ?_|refine Qq ?_|fail)
  rw [show IntKind.i64.wrap (1 + 1) = 2 from rfl]
  refine SXL.idx rfl rfl rfl rfl rfl (by omega) (by omega) rfl ?_
  refine SXL.same 19 (.pointer (some ⟨gg, 2 * 1, none⟩)) rfl rfl ?_
  repeat (first|refine Qa ?_|refine Qb ?_|refine Qc ?_|refine Qd ?_|refine Qe ?_|refine Qf ?_|refine Qg ?_|refine Qh ?_|refine Qi ?_|refine Qj ?_|refine Qk ?_|refine Ql ?_|refine Qm ?_|refine Qn ?_|refine Qo ?_|refine Qp ?_|refine Qq ?_|refine Qx ?_|refine Qy ?_|fail)
  refine SXL.stSl (ts := (setT (setT (⟨t.l, up64 t.ch, t.room⟩ : Th) k1 { atT (⟨t.l, up64 t.ch, t.room⟩ : Th) k1 with change := up64 t.ch }) k2 { atT (setT (⟨t.l, up64 t.ch, t.room⟩ : Th) k1 { atT (⟨t.l, up64 t.ch, t.room⟩ : Th) k1 with change := up64 t.ch }) k2 with change := up64 t.ch }).l) (ps := ps) { atT (setT (setT (⟨t.l, up64 t.ch, t.room⟩ : Th) k1 { atT (⟨t.l, up64 t.ch, t.room⟩ : Th) k1 with change := up64 t.ch }) k2 { atT (setT (⟨t.l, up64 t.ch, t.room⟩ : Th) k1 { atT (⟨t.l, up64 t.ch, t.room⟩ : Th) k1 with change := up64 t.ch }) k2 with change := up64 t.ch }) k3 with change := up64 t.ch } q2 rfl rfl inferInstance s2 hq2 rfl ?_
  rw [set_same hq2]
  repeat (first|refine Qa ?_|refine Qb ?_|refine Qc ?_|refine Qd ?_|refine Qe ?_|refine Qf ?_|refine Qg ?_|refine Qh ?_|refine Qi ?_|refine Qj ?_|refine Qk ?_|refine Ql ?_|refine Qm ?_|refine Qn ?_|refine Qo ?_|refine Qp ?_|refine Qq ?_|fail)
  refine SX.round ?_
  have l3 : (setT (setT (setT (⟨t.l, up64 t.ch, t.room⟩ : Th) k1 { atT (⟨t.l, up64 t.ch, t.room⟩ : Th) k1 with change := up64 t.ch }) k2 { atT (setT (⟨t.l, up64 t.ch, t.room⟩ : Th) k1 { atT (⟨t.l, up64 t.ch, t.room⟩ : Th) k1 with change := up64 t.ch }) k2 with change := up64 t.ch }) k3 { atT (setT (setT (⟨t.l, up64 t.ch, t.room⟩ : Th) k1 { atT (⟨t.l, up64 t.ch, t.room⟩ : Th) k1 with change := up64 t.ch }) k2 { atT (setT (⟨t.l, up64 t.ch, t.room⟩ : Th) k1 { atT (⟨t.l, up64 t.ch, t.room⟩ : Th) k1 with change := up64 t.ch }) k2 with change := up64 t.ch }) k3 with change := up64 t.ch }).l.length = 24 := by simp [h24]
  have s3 := at_some (t := (setT (setT (setT (⟨t.l, up64 t.ch, t.room⟩ : Th) k1 { atT (⟨t.l, up64 t.ch, t.room⟩ : Th) k1 with change := up64 t.ch }) k2 { atT (setT (⟨t.l, up64 t.ch, t.room⟩ : Th) k1 { atT (⟨t.l, up64 t.ch, t.room⟩ : Th) k1 with change := up64 t.ch }) k2 with change := up64 t.ch }) k3 { atT (setT (setT (⟨t.l, up64 t.ch, t.room⟩ : Th) k1 { atT (⟨t.l, up64 t.ch, t.room⟩ : Th) k1 with change := up64 t.ch }) k2 { atT (setT (⟨t.l, up64 t.ch, t.room⟩ : Th) k1 { atT (⟨t.l, up64 t.ch, t.room⟩ : Th) k1 with change := up64 t.ch }) k2 with change := up64 t.ch }) k3 with change := up64 t.ch })) (k := k4) (by rw [l3]; exact hk4)
  obtain ⟨q3, hq3⟩ : ∃ q, ps[k4]? = some q := ⟨_, List.getElem?_eq_getElem (by omega)⟩
  haveI gi3 : GetIs [ptX b k1, ptX b k2, ptX b k3, ptX b k4] 3 (ptX b k4) := ⟨rfl⟩
  repeat (first|refine Qa ?_|refine Qb ?_|refine Qc ?_|refine Qd ?_|refine Qe ?_|refine Qf ?_|refine Qg ?_|refine Qh ?_|refine Qi ?_|refine Qj ?_|refine Qk ?_|refine Ql ?_|refine Qm ?_|refine Qn ?_|refine Qo ?_|refine Qp ?_|refine Qq ?_|fail)
  rw [show IntKind.i64.wrap (2 + 1) = 3 from rfl]
  refine SXL.idx rfl rfl rfl rfl rfl (by omega) (by omega) rfl ?_
  refine SXL.same 19 (.pointer (some ⟨gg, 3 * 1, none⟩)) rfl rfl ?_
  repeat (first|refine Qa ?_|refine Qb ?_|refine Qc ?_|refine Qd ?_|refine Qe ?_|refine Qf ?_|refine Qg ?_|refine Qh ?_|refine Qi ?_|refine Qj ?_|refine Qk ?_|refine Ql ?_|refine Qm ?_|refine Qn ?_|refine Qo ?_|refine Qp ?_|refine Qq ?_|refine Qx ?_|refine Qy ?_|fail)
  refine SXL.stSl (ts := (setT (setT (setT (⟨t.l, up64 t.ch, t.room⟩ : Th) k1 { atT (⟨t.l, up64 t.ch, t.room⟩ : Th) k1 with change := up64 t.ch }) k2 { atT (setT (⟨t.l, up64 t.ch, t.room⟩ : Th) k1 { atT (⟨t.l, up64 t.ch, t.room⟩ : Th) k1 with change := up64 t.ch }) k2 with change := up64 t.ch }) k3 { atT (setT (setT (⟨t.l, up64 t.ch, t.room⟩ : Th) k1 { atT (⟨t.l, up64 t.ch, t.room⟩ : Th) k1 with change := up64 t.ch }) k2 { atT (setT (⟨t.l, up64 t.ch, t.room⟩ : Th) k1 { atT (⟨t.l, up64 t.ch, t.room⟩ : Th) k1 with change := up64 t.ch }) k2 with change := up64 t.ch }) k3 with change := up64 t.ch }).l) (ps := ps) { atT (setT (setT (setT (⟨t.l, up64 t.ch, t.room⟩ : Th) k1 { atT (⟨t.l, up64 t.ch, t.room⟩ : Th) k1 with change := up64 t.ch }) k2 { atT (setT (⟨t.l, up64 t.ch, t.room⟩ : Th) k1 { atT (⟨t.l, up64 t.ch, t.room⟩ : Th) k1 with change := up64 t.ch }) k2 with change := up64 t.ch }) k3 { atT (setT (setT (⟨t.l, up64 t.ch, t.room⟩ : Th) k1 { atT (⟨t.l, up64 t.ch, t.room⟩ : Th) k1 with change := up64 t.ch }) k2 { atT (setT (⟨t.l, up64 t.ch, t.room⟩ : Th) k1 { atT (⟨t.l, up64 t.ch, t.room⟩ : Th) k1 with change := up64 t.ch }) k2 with change := up64 t.ch }) k3 with change := up64 t.ch }) k4 with change := up64 t.ch } q3 rfl rfl inferInstance s3 hq3 rfl ?_
  rw [set_same hq3]
  repeat (first|refine Qa ?_|refine Qb ?_|refine Qc ?_|refine Qd ?_|refine Qe ?_|refine Qf ?_|refine Qg ?_|refine Qh ?_|refine Qi ?_|refine Qj ?_|refine Qk ?_|refine Ql ?_|refine Qm ?_|refine Qn ?_|refine Qo ?_|refine Qp ?_|refine Qq ?_|fail)
  refine SX.round ?_
  repeat (first|refine Qa ?_|refine Qb ?_|refine Qc ?_|refine Qd ?_|refine Qe ?_|refine Qf ?_|refine Qg ?_|refine Qh ?_|refine Qi ?_|refine Qj ?_|refine Qk ?_|refine Ql ?_|refine Qm ?_|refine Qn ?_|refine Qo ?_|refine Qp ?_|refine Qq ?_|fail)
  have htch : (setT (setT (setT (setT (⟨t.l, up64 t.ch, t.room⟩ : Th) k1 { atT (⟨t.l, up64 t.ch, t.room⟩ : Th) k1 with change := up64 t.ch }) k2 { atT (setT (⟨t.l, up64 t.ch, t.room⟩ : Th) k1 { atT (⟨t.l, up64 t.ch, t.room⟩ : Th) k1 with change := up64 t.ch }) k2 with change := up64 t.ch }) k3 { atT (setT (setT (⟨t.l, up64 t.ch, t.room⟩ : Th) k1 { atT (⟨t.l, up64 t.ch, t.room⟩ : Th) k1 with change := up64 t.ch }) k2 { atT (setT (⟨t.l, up64 t.ch, t.room⟩ : Th) k1 { atT (⟨t.l, up64 t.ch, t.room⟩ : Th) k1 with change := up64 t.ch }) k2 with change := up64 t.ch }) k3 with change := up64 t.ch }) k4 { atT (setT (setT (setT (⟨t.l, up64 t.ch, t.room⟩ : Th) k1 { atT (⟨t.l, up64 t.ch, t.room⟩ : Th) k1 with change := up64 t.ch }) k2 { atT (setT (⟨t.l, up64 t.ch, t.room⟩ : Th) k1 { atT (⟨t.l, up64 t.ch, t.room⟩ : Th) k1 with change := up64 t.ch }) k2 with change := up64 t.ch }) k3 { atT (setT (setT (⟨t.l, up64 t.ch, t.room⟩ : Th) k1 { atT (⟨t.l, up64 t.ch, t.room⟩ : Th) k1 with change := up64 t.ch }) k2 { atT (setT (⟨t.l, up64 t.ch, t.room⟩ : Th) k1 { atT (⟨t.l, up64 t.ch, t.room⟩ : Th) k1 with change := up64 t.ch }) k2 with change := up64 t.ch }) k3 with change := up64 t.ch }) k4 with change := up64 t.ch }) = [k1, k2, k3, k4].foldl (fun t k => setT t k { atT t k with change := t.ch }) ⟨t.l, up64 t.ch, t.room⟩ := rfl
  have hmm : (setT (setT (setT (setT (⟨t.l, up64 t.ch, t.room⟩ : Th) k1 { atT (⟨t.l, up64 t.ch, t.room⟩ : Th) k1 with change := up64 t.ch }) k2 { atT (setT (⟨t.l, up64 t.ch, t.room⟩ : Th) k1 { atT (⟨t.l, up64 t.ch, t.room⟩ : Th) k1 with change := up64 t.ch }) k2 with change := up64 t.ch }) k3 { atT (setT (setT (⟨t.l, up64 t.ch, t.room⟩ : Th) k1 { atT (⟨t.l, up64 t.ch, t.room⟩ : Th) k1 with change := up64 t.ch }) k2 { atT (setT (⟨t.l, up64 t.ch, t.room⟩ : Th) k1 { atT (⟨t.l, up64 t.ch, t.room⟩ : Th) k1 with change := up64 t.ch }) k2 with change := up64 t.ch }) k3 with change := up64 t.ch }) k4 { atT (setT (setT (setT (⟨t.l, up64 t.ch, t.room⟩ : Th) k1 { atT (⟨t.l, up64 t.ch, t.room⟩ : Th) k1 with change := up64 t.ch }) k2 { atT (setT (⟨t.l, up64 t.ch, t.room⟩ : Th) k1 { atT (⟨t.l, up64 t.ch, t.room⟩ : Th) k1 with change := up64 t.ch }) k2 with change := up64 t.ch }) k3 { atT (setT (setT (⟨t.l, up64 t.ch, t.room⟩ : Th) k1 { atT (⟨t.l, up64 t.ch, t.room⟩ : Th) k1 with change := up64 t.ch }) k2 { atT (setT (⟨t.l, up64 t.ch, t.room⟩ : Th) k1 { atT (⟨t.l, up64 t.ch, t.room⟩ : Th) k1 with change := up64 t.ch }) k2 with change := up64 t.ch }) k3 with change := up64 t.ch }) k4 with change := up64 t.ch }).mid := (touch_fold [k1, k2, k3, k4] ⟨t.l, up64 t.ch, t.room⟩).2.2.2 ⟨hm.n, up64_ok _, hm.m, hm.r⟩
  have hdd : (setT (setT (setT (setT (⟨t.l, up64 t.ch, t.room⟩ : Th) k1 { atT (⟨t.l, up64 t.ch, t.room⟩ : Th) k1 with change := up64 t.ch }) k2 { atT (setT (⟨t.l, up64 t.ch, t.room⟩ : Th) k1 { atT (⟨t.l, up64 t.ch, t.room⟩ : Th) k1 with change := up64 t.ch }) k2 with change := up64 t.ch }) k3 { atT (setT (setT (⟨t.l, up64 t.ch, t.room⟩ : Th) k1 { atT (⟨t.l, up64 t.ch, t.room⟩ : Th) k1 with change := up64 t.ch }) k2 { atT (setT (⟨t.l, up64 t.ch, t.room⟩ : Th) k1 { atT (⟨t.l, up64 t.ch, t.room⟩ : Th) k1 with change := up64 t.ch }) k2 with change := up64 t.ch }) k3 with change := up64 t.ch }) k4 { atT (setT (setT (setT (⟨t.l, up64 t.ch, t.room⟩ : Th) k1 { atT (⟨t.l, up64 t.ch, t.room⟩ : Th) k1 with change := up64 t.ch }) k2 { atT (setT (⟨t.l, up64 t.ch, t.room⟩ : Th) k1 { atT (⟨t.l, up64 t.ch, t.room⟩ : Th) k1 with change := up64 t.ch }) k2 with change := up64 t.ch }) k3 { atT (setT (setT (⟨t.l, up64 t.ch, t.room⟩ : Th) k1 { atT (⟨t.l, up64 t.ch, t.room⟩ : Th) k1 with change := up64 t.ch }) k2 { atT (setT (⟨t.l, up64 t.ch, t.room⟩ : Th) k1 { atT (⟨t.l, up64 t.ch, t.room⟩ : Th) k1 with change := up64 t.ch }) k2 with change := up64 t.ch }) k3 with change := up64 t.ch }) k4 with change := up64 t.ch }).l.map Sl.d = t.l.map Sl.d := (touch_fold [k1, k2, k3, k4] ⟨t.l, up64 t.ch, t.room⟩).2.2.1
  refine SXA.begin (.own (some ⟨pw, 0, none⟩) (cellsR pw (wkC (some ⟨b, 0, none⟩) 24 cap (up64 t.ch) t.room c Ac cc r Ad cd Ae ce) 100) :: .own (some ⟨b, 0, none⟩) (rowR (cellsK 9) 92 (.slice (some ⟨b, 0, none⟩) 24 cap) (slZ (setT (setT (setT (setT (⟨t.l, up64 t.ch, t.room⟩ : Th) k1 { atT (⟨t.l, up64 t.ch, t.room⟩ : Th) k1 with change := up64 t.ch }) k2 { atT (setT (⟨t.l, up64 t.ch, t.room⟩ : Th) k1 { atT (⟨t.l, up64 t.ch, t.room⟩ : Th) k1 with change := up64 t.ch }) k2 with change := up64 t.ch }) k3 { atT (setT (setT (⟨t.l, up64 t.ch, t.room⟩ : Th) k1 { atT (⟨t.l, up64 t.ch, t.room⟩ : Th) k1 with change := up64 t.ch }) k2 { atT (setT (⟨t.l, up64 t.ch, t.room⟩ : Th) k1 { atT (⟨t.l, up64 t.ch, t.room⟩ : Th) k1 with change := up64 t.ch }) k2 with change := up64 t.ch }) k3 with change := up64 t.ch }) k4 { atT (setT (setT (setT (⟨t.l, up64 t.ch, t.room⟩ : Th) k1 { atT (⟨t.l, up64 t.ch, t.room⟩ : Th) k1 with change := up64 t.ch }) k2 { atT (setT (⟨t.l, up64 t.ch, t.room⟩ : Th) k1 { atT (⟨t.l, up64 t.ch, t.room⟩ : Th) k1 with change := up64 t.ch }) k2 with change := up64 t.ch }) k3 { atT (setT (setT (⟨t.l, up64 t.ch, t.room⟩ : Th) k1 { atT (⟨t.l, up64 t.ch, t.room⟩ : Th) k1 with change := up64 t.ch }) k2 { atT (setT (⟨t.l, up64 t.ch, t.room⟩ : Th) k1 { atT (⟨t.l, up64 t.ch, t.room⟩ : Th) k1 with change := up64 t.ch }) k2 with change := up64 t.ch }) k3 with change := up64 t.ch }) k4 with change := up64 t.ch }).l ps)) :: R) [] ?_
  unfold wkC
  (first|refine Qr 0 ?_|refine Qs 0 ?_|refine Qxa 0 ?_|refine Qya 0 ?_|refine Qt 0 ?_|refine Qu 0 ?_|fail)
  (first|refine Qr 1 ?_|refine Qs 1 ?_|refine Qxa 1 ?_|refine Qya 1 ?_|refine Qt 1 ?_|refine Qu 1 ?_|fail)
  (first|refine Qr 2 ?_|refine Qs 2 ?_|refine Qxa 2 ?_|refine Qya 2 ?_|refine Qt 2 ?_|refine Qu 2 ?_|fail)
  (first|refine Qr 3 ?_|refine Qs 3 ?_|refine Qxa 3 ?_|refine Qya 3 ?_|refine Qt 3 ?_|refine Qu 3 ?_|fail)
  (first|refine Qr 5 ?_|refine Qs 5 ?_|refine Qxa 5 ?_|refine Qya 5 ?_|refine Qt 5 ?_|refine Qu 5 ?_|fail)
  (first|refine Qr 6 ?_|refine Qs 6 ?_|refine Qxa 6 ?_|refine Qya 6 ?_|refine Qt 6 ?_|refine Qu 6 ?_|fail)
  (first|refine Qr 7 ?_|refine Qs 7 ?_|refine Qxa 7 ?_|refine Qya 7 ?_|refine Qt 7 ?_|refine Qu 7 ?_|fail)
  (first|refine Qr 8 ?_|refine Qs 8 ?_|refine Qxa 8 ?_|refine Qya 8 ?_|refine Qt 8 ?_|refine Qu 8 ?_|fail)
  (first|refine Qr 9 ?_|refine Qs 9 ?_|refine Qxa 9 ?_|refine Qya 9 ?_|refine Qt 9 ?_|refine Qu 9 ?_|fail)
  refine Qw 4 ?_
  refine SXL.call rfl rfl rfl ?_
  refine (Used_P (ts := (setT (setT (setT (setT (⟨t.l, up64 t.ch, t.room⟩ : Th) k1 { atT (⟨t.l, up64 t.ch, t.room⟩ : Th) k1 with change := up64 t.ch }) k2 { atT (setT (⟨t.l, up64 t.ch, t.room⟩ : Th) k1 { atT (⟨t.l, up64 t.ch, t.room⟩ : Th) k1 with change := up64 t.ch }) k2 with change := up64 t.ch }) k3 { atT (setT (setT (⟨t.l, up64 t.ch, t.room⟩ : Th) k1 { atT (⟨t.l, up64 t.ch, t.room⟩ : Th) k1 with change := up64 t.ch }) k2 { atT (setT (⟨t.l, up64 t.ch, t.room⟩ : Th) k1 { atT (⟨t.l, up64 t.ch, t.room⟩ : Th) k1 with change := up64 t.ch }) k2 with change := up64 t.ch }) k3 with change := up64 t.ch }) k4 { atT (setT (setT (setT (⟨t.l, up64 t.ch, t.room⟩ : Th) k1 { atT (⟨t.l, up64 t.ch, t.room⟩ : Th) k1 with change := up64 t.ch }) k2 { atT (setT (⟨t.l, up64 t.ch, t.room⟩ : Th) k1 { atT (⟨t.l, up64 t.ch, t.room⟩ : Th) k1 with change := up64 t.ch }) k2 with change := up64 t.ch }) k3 { atT (setT (setT (⟨t.l, up64 t.ch, t.room⟩ : Th) k1 { atT (⟨t.l, up64 t.ch, t.room⟩ : Th) k1 with change := up64 t.ch }) k2 { atT (setT (⟨t.l, up64 t.ch, t.room⟩ : Th) k1 { atT (⟨t.l, up64 t.ch, t.room⟩ : Th) k1 with change := up64 t.ch }) k2 with change := up64 t.ch }) k3 with change := up64 t.ch }) k4 with change := up64 t.ch }).l) (ps := ps) inferInstance hmm.n hps hcap hmm.m (callK.ret ?_))
  refine SXL.nil (SXA.next inferInstance ?_)
  (first|refine Qr 10 ?_|refine Qs 10 ?_|refine Qxa 10 ?_|refine Qya 10 ?_|refine Qt 10 ?_|refine Qu 10 ?_|fail)
  refine Qw 11 ?_
  refine SXL.call rfl rfl rfl ?_
  refine (need_S (F' := R) inferInstance (fun hg => callK.ret ?_) (fun hg => callK.panic ?_))
  rotate_left
  · refine h2 66 ?_
    show (do needE (decide ((usedT (setT (setT (setT (setT (⟨t.l, up64 t.ch, t.room⟩ : Th) k1 { atT (⟨t.l, up64 t.ch, t.room⟩ : Th) k1 with change := up64 t.ch }) k2 { atT (setT (⟨t.l, up64 t.ch, t.room⟩ : Th) k1 { atT (⟨t.l, up64 t.ch, t.room⟩ : Th) k1 with change := up64 t.ch }) k2 with change := up64 t.ch }) k3 { atT (setT (setT (⟨t.l, up64 t.ch, t.room⟩ : Th) k1 { atT (⟨t.l, up64 t.ch, t.room⟩ : Th) k1 with change := up64 t.ch }) k2 { atT (setT (⟨t.l, up64 t.ch, t.room⟩ : Th) k1 { atT (⟨t.l, up64 t.ch, t.room⟩ : Th) k1 with change := up64 t.ch }) k2 with change := up64 t.ch }) k3 with change := up64 t.ch }) k4 { atT (setT (setT (setT (⟨t.l, up64 t.ch, t.room⟩ : Th) k1 { atT (⟨t.l, up64 t.ch, t.room⟩ : Th) k1 with change := up64 t.ch }) k2 { atT (setT (⟨t.l, up64 t.ch, t.room⟩ : Th) k1 { atT (⟨t.l, up64 t.ch, t.room⟩ : Th) k1 with change := up64 t.ch }) k2 with change := up64 t.ch }) k3 { atT (setT (setT (⟨t.l, up64 t.ch, t.room⟩ : Th) k1 { atT (⟨t.l, up64 t.ch, t.room⟩ : Th) k1 with change := up64 t.ch }) k2 { atT (setT (⟨t.l, up64 t.ch, t.room⟩ : Th) k1 { atT (⟨t.l, up64 t.ch, t.room⟩ : Th) k1 with change := up64 t.ch }) k2 with change := up64 t.ch }) k3 with change := up64 t.ch }) k4 with change := up64 t.ch }).l : Int) ≤ t.room)) 66; pure (setT (setT (setT (setT (⟨t.l, up64 t.ch, t.room⟩ : Th) k1 { atT (⟨t.l, up64 t.ch, t.room⟩ : Th) k1 with change := up64 t.ch }) k2 { atT (setT (⟨t.l, up64 t.ch, t.room⟩ : Th) k1 { atT (⟨t.l, up64 t.ch, t.room⟩ : Th) k1 with change := up64 t.ch }) k2 with change := up64 t.ch }) k3 { atT (setT (setT (⟨t.l, up64 t.ch, t.room⟩ : Th) k1 { atT (⟨t.l, up64 t.ch, t.room⟩ : Th) k1 with change := up64 t.ch }) k2 { atT (setT (⟨t.l, up64 t.ch, t.room⟩ : Th) k1 { atT (⟨t.l, up64 t.ch, t.room⟩ : Th) k1 with change := up64 t.ch }) k2 with change := up64 t.ch }) k3 with change := up64 t.ch }) k4 { atT (setT (setT (setT (⟨t.l, up64 t.ch, t.room⟩ : Th) k1 { atT (⟨t.l, up64 t.ch, t.room⟩ : Th) k1 with change := up64 t.ch }) k2 { atT (setT (⟨t.l, up64 t.ch, t.room⟩ : Th) k1 { atT (⟨t.l, up64 t.ch, t.room⟩ : Th) k1 with change := up64 t.ch }) k2 with change := up64 t.ch }) k3 { atT (setT (setT (⟨t.l, up64 t.ch, t.room⟩ : Th) k1 { atT (⟨t.l, up64 t.ch, t.room⟩ : Th) k1 with change := up64 t.ch }) k2 { atT (setT (⟨t.l, up64 t.ch, t.room⟩ : Th) k1 { atT (⟨t.l, up64 t.ch, t.room⟩ : Th) k1 with change := up64 t.ch }) k2 with change := up64 t.ch }) k3 with change := up64 t.ch }) k4 with change := up64 t.ch }) : Ex Th) = _
    rw [hg]
    rfl
  refine SXL.nil (SXA.next inferInstance ?_)
  refine Qv ?_
  refine SX.fin (M' := (.own (some ⟨pw, 0, none⟩) (cellsR pw (wkC (some ⟨b, 0, none⟩) 24 cap (up64 t.ch) t.room c Ac cc r Ad cd Ae ce) 100) :: .own (some ⟨b, 0, none⟩) (rowR (cellsK 9) 92 (.slice (some ⟨b, 0, none⟩) 24 cap) (slZ (setT (setT (setT (setT (⟨t.l, up64 t.ch, t.room⟩ : Th) k1 { atT (⟨t.l, up64 t.ch, t.room⟩ : Th) k1 with change := up64 t.ch }) k2 { atT (setT (⟨t.l, up64 t.ch, t.room⟩ : Th) k1 { atT (⟨t.l, up64 t.ch, t.room⟩ : Th) k1 with change := up64 t.ch }) k2 with change := up64 t.ch }) k3 { atT (setT (setT (⟨t.l, up64 t.ch, t.room⟩ : Th) k1 { atT (⟨t.l, up64 t.ch, t.room⟩ : Th) k1 with change := up64 t.ch }) k2 { atT (setT (⟨t.l, up64 t.ch, t.room⟩ : Th) k1 { atT (⟨t.l, up64 t.ch, t.room⟩ : Th) k1 with change := up64 t.ch }) k2 with change := up64 t.ch }) k3 with change := up64 t.ch }) k4 { atT (setT (setT (setT (⟨t.l, up64 t.ch, t.room⟩ : Th) k1 { atT (⟨t.l, up64 t.ch, t.room⟩ : Th) k1 with change := up64 t.ch }) k2 { atT (setT (⟨t.l, up64 t.ch, t.room⟩ : Th) k1 { atT (⟨t.l, up64 t.ch, t.room⟩ : Th) k1 with change := up64 t.ch }) k2 with change := up64 t.ch }) k3 { atT (setT (setT (⟨t.l, up64 t.ch, t.room⟩ : Th) k1 { atT (⟨t.l, up64 t.ch, t.room⟩ : Th) k1 with change := up64 t.ch }) k2 { atT (setT (⟨t.l, up64 t.ch, t.room⟩ : Th) k1 { atT (⟨t.l, up64 t.ch, t.room⟩ : Th) k1 with change := up64 t.ch }) k2 with change := up64 t.ch }) k3 with change := up64 t.ch }) k4 with change := up64 t.ch }).l ps)) :: R)) rfl Evals.nil ?_ inferInstance
  refine h1 (setT (setT (setT (setT (⟨t.l, up64 t.ch, t.room⟩ : Th) k1 { atT (⟨t.l, up64 t.ch, t.room⟩ : Th) k1 with change := up64 t.ch }) k2 { atT (setT (⟨t.l, up64 t.ch, t.room⟩ : Th) k1 { atT (⟨t.l, up64 t.ch, t.room⟩ : Th) k1 with change := up64 t.ch }) k2 with change := up64 t.ch }) k3 { atT (setT (setT (⟨t.l, up64 t.ch, t.room⟩ : Th) k1 { atT (⟨t.l, up64 t.ch, t.room⟩ : Th) k1 with change := up64 t.ch }) k2 { atT (setT (⟨t.l, up64 t.ch, t.room⟩ : Th) k1 { atT (⟨t.l, up64 t.ch, t.room⟩ : Th) k1 with change := up64 t.ch }) k2 with change := up64 t.ch }) k3 with change := up64 t.ch }) k4 { atT (setT (setT (setT (⟨t.l, up64 t.ch, t.room⟩ : Th) k1 { atT (⟨t.l, up64 t.ch, t.room⟩ : Th) k1 with change := up64 t.ch }) k2 { atT (setT (⟨t.l, up64 t.ch, t.room⟩ : Th) k1 { atT (⟨t.l, up64 t.ch, t.room⟩ : Th) k1 with change := up64 t.ch }) k2 with change := up64 t.ch }) k3 { atT (setT (setT (⟨t.l, up64 t.ch, t.room⟩ : Th) k1 { atT (⟨t.l, up64 t.ch, t.room⟩ : Th) k1 with change := up64 t.ch }) k2 { atT (setT (⟨t.l, up64 t.ch, t.room⟩ : Th) k1 { atT (⟨t.l, up64 t.ch, t.room⟩ : Th) k1 with change := up64 t.ch }) k2 with change := up64 t.ch }) k3 with change := up64 t.ch }) k4 with change := up64 t.ch }) ?_ hmm hdd
  show (do needE (decide ((usedT (setT (setT (setT (setT (⟨t.l, up64 t.ch, t.room⟩ : Th) k1 { atT (⟨t.l, up64 t.ch, t.room⟩ : Th) k1 with change := up64 t.ch }) k2 { atT (setT (⟨t.l, up64 t.ch, t.room⟩ : Th) k1 { atT (⟨t.l, up64 t.ch, t.room⟩ : Th) k1 with change := up64 t.ch }) k2 with change := up64 t.ch }) k3 { atT (setT (setT (⟨t.l, up64 t.ch, t.room⟩ : Th) k1 { atT (⟨t.l, up64 t.ch, t.room⟩ : Th) k1 with change := up64 t.ch }) k2 { atT (setT (⟨t.l, up64 t.ch, t.room⟩ : Th) k1 { atT (⟨t.l, up64 t.ch, t.room⟩ : Th) k1 with change := up64 t.ch }) k2 with change := up64 t.ch }) k3 with change := up64 t.ch }) k4 { atT (setT (setT (setT (⟨t.l, up64 t.ch, t.room⟩ : Th) k1 { atT (⟨t.l, up64 t.ch, t.room⟩ : Th) k1 with change := up64 t.ch }) k2 { atT (setT (⟨t.l, up64 t.ch, t.room⟩ : Th) k1 { atT (⟨t.l, up64 t.ch, t.room⟩ : Th) k1 with change := up64 t.ch }) k2 with change := up64 t.ch }) k3 { atT (setT (setT (⟨t.l, up64 t.ch, t.room⟩ : Th) k1 { atT (⟨t.l, up64 t.ch, t.room⟩ : Th) k1 with change := up64 t.ch }) k2 { atT (setT (⟨t.l, up64 t.ch, t.room⟩ : Th) k1 { atT (⟨t.l, up64 t.ch, t.room⟩ : Th) k1 with change := up64 t.ch }) k2 with change := up64 t.ch }) k3 with change := up64 t.ch }) k4 with change := up64 t.ch }).l : Int) ≤ t.room)) 66; pure (setT (setT (setT (setT (⟨t.l, up64 t.ch, t.room⟩ : Th) k1 { atT (⟨t.l, up64 t.ch, t.room⟩ : Th) k1 with change := up64 t.ch }) k2 { atT (setT (⟨t.l, up64 t.ch, t.room⟩ : Th) k1 { atT (⟨t.l, up64 t.ch, t.room⟩ : Th) k1 with change := up64 t.ch }) k2 with change := up64 t.ch }) k3 { atT (setT (setT (⟨t.l, up64 t.ch, t.room⟩ : Th) k1 { atT (⟨t.l, up64 t.ch, t.room⟩ : Th) k1 with change := up64 t.ch }) k2 { atT (setT (⟨t.l, up64 t.ch, t.room⟩ : Th) k1 { atT (⟨t.l, up64 t.ch, t.room⟩ : Th) k1 with change := up64 t.ch }) k2 with change := up64 t.ch }) k3 with change := up64 t.ch }) k4 { atT (setT (setT (setT (⟨t.l, up64 t.ch, t.room⟩ : Th) k1 { atT (⟨t.l, up64 t.ch, t.room⟩ : Th) k1 with change := up64 t.ch }) k2 { atT (setT (⟨t.l, up64 t.ch, t.room⟩ : Th) k1 { atT (⟨t.l, up64 t.ch, t.room⟩ : Th) k1 with change := up64 t.ch }) k2 with change := up64 t.ch }) k3 { atT (setT (setT (⟨t.l, up64 t.ch, t.room⟩ : Th) k1 { atT (⟨t.l, up64 t.ch, t.room⟩ : Th) k1 with change := up64 t.ch }) k2 { atT (setT (⟨t.l, up64 t.ch, t.room⟩ : Th) k1 { atT (⟨t.l, up64 t.ch, t.room⟩ : Th) k1 with change := up64 t.ch }) k2 with change := up64 t.ch }) k3 with change := up64 t.ch }) k4 with change := up64 t.ch }) : Ex Th) = _
  rw [hg]
  rfl
end
end Go.Proofs.YtanemmcddgkpdaaGreat.Sx
end
section
/- Chapter 13: what is no directory renamed, walked; conditions: those that each theorem names. -/
namespace Go.Proofs.YtanemmcddgkpdaaGreat.Sx
open Go.RowKit Go.Proofs.YtanemmcddgkpdaaGreat.Hm Go.Proofs.YtanemmcddgkpdaaGreatW.PrintWords Go.Proofs.YtanemmcddgkpdaaGreatW.PrintLast Go.Proofs.YtanemmcddgkpdaaGreatW.PrintMore
set_option linter.unusedVariables false
set_option linter.unusedSimpArgs false
attribute [local irreducible] SX SXL SXA St callK Post Evals
section
variable {P : Program} {fn : Func} {K : Ending → List Thing → Prop} {N : Nat} {k : List It} {a : Fr} {M R : List Thing} {ops : Array Oper} {rest : List Oper} {T : List (Nat × TI)} {d : Nat} {ty : TypeId} {pos : String} {af : Array Edge}
theorem SXL.eqPtr [hT : TOk P T] {x y : Operand} {t t' e b o1 o2 : Nat} {te : TI} (hx : evalO a x = some (.pointer (some ⟨b, o1, none⟩))) (hy : evalO a y = some (.pointer (some ⟨b, o2, none⟩))) (hu : P.underlying t = some (.pointer e)) (hl : lookT T e = some te) (hsz : Nat.beq te.size 0 = false) (hd : Nat.blt d N = true)
    (hK : SXL P fn K N k ops rest ((d, .bool (decide (o1 = o2))) :: a) M) : SXL P fn K N k ops (⟨some d, .binOp .eql t x y t', ty, pos, af, none⟩ :: rest) a M :=
  SXL.val hd (fun act w s => by
    have hs := (tok (P := P) hl).size w
    have hne : te.size ≠ 0 := fun h => by rw [h] at hsz; cases hsz
    have hq : (Op.equal t (.pointer (some ⟨b, o1, none⟩)) (.pointer (some ⟨b, o2, none⟩))).run P w = .ok (decide (o1 = o2)) w := by
      show (Op.equalIn (9999 + 1) t _ _).run P w = _
      unfold Op.equalIn
      simp only [Sem.run_bind, run_underlying hu, Result.andThen_ok, hs]
      rw [if_pos hne]
      unfold sameAddr
      have h9 : ((⟨b, o1, none⟩ : Addr) == ⟨b, o2, none⟩) = decide (o1 = o2) := by
        by_cases h : o1 = o2
        · subst h; simp
        · simp [h]
      simp [h9]
    have hg : eqGuard .eql t x y (.pointer (some ⟨b, o1, none⟩)) (.pointer (some ⟨b, o2, none⟩)) = (Pure.pure () : Sem Unit) := by cases x <;> cases y <;> rfl
    simp [execOp, evalO_ok s.fits hx, evalO_ok s.fits hy, binOp, hg, hq]) hK
end
theorem rename_A {t : Th} {r : Re} {c : Ca} (hC : ∀ fr k, folderE t c.ai c.ag = .ok fr → childE t fr c.name = .ok k → (atT t k).kind ≠ 2) : OpA Tryz.prog 44 renameE t r c := by
  intro R K b pw cap cc Ac ps hps hcap hm hcw hcl hcc hd hro hrd hre h1 h2
  haveI n1 : IsNil r.d := ⟨hrd⟩
  haveI n2 : IsNil r.e := ⟨hre⟩
  refine Fn.enter Tryz.call44 Tryz.func44 rfl rfl rfl ?_
  repeat (first|refine Qa ?_|refine Qb ?_|refine Qc ?_|refine Qd ?_|refine Qe ?_|refine Qf ?_|refine Qg ?_|refine Qh ?_|refine Qi ?_|refine Qj ?_|refine Qk ?_|refine Ql ?_|refine Qm ?_|refine Qn ?_|refine Qo ?_|refine Qp ?_|refine Qq ?_|fail)
  refine SXA.begin (.own (some ⟨pw, 0, none⟩) (wkM pw b cap t c Ac cc r none 0 none 0) :: .own (some ⟨b, 0, none⟩) (thR b 24 cap t.l ps) :: R) [] ?_
  unfold wkM wkC
  (first|refine Qr 0 ?_|refine Qs 0 ?_|refine Qxa 0 ?_|refine Qya 0 ?_|refine Qt 0 ?_|refine Qu 0 ?_|fail)
  (first|refine Qr 1 ?_|refine Qs 1 ?_|refine Qxa 1 ?_|refine Qya 1 ?_|refine Qt 1 ?_|refine Qu 1 ?_|fail)
  (first|refine Qr 2 ?_|refine Qs 2 ?_|refine Qxa 2 ?_|refine Qya 2 ?_|refine Qt 2 ?_|refine Qu 2 ?_|fail)
  (first|refine Qr 3 ?_|refine Qs 3 ?_|refine Qxa 3 ?_|refine Qya 3 ?_|refine Qt 3 ?_|refine Qu 3 ?_|fail)
  (first|refine Qr 4 ?_|refine Qs 4 ?_|refine Qxa 4 ?_|refine Qya 4 ?_|refine Qt 4 ?_|refine Qu 4 ?_|fail)
  (first|refine Qr 5 ?_|refine Qs 5 ?_|refine Qxa 5 ?_|refine Qya 5 ?_|refine Qt 5 ?_|refine Qu 5 ?_|fail)
  (first|refine Qr 7 ?_|refine Qs 7 ?_|refine Qxa 7 ?_|refine Qya 7 ?_|refine Qt 7 ?_|refine Qu 7 ?_|fail)
  (first|refine Qr 8 ?_|refine Qs 8 ?_|refine Qxa 8 ?_|refine Qya 8 ?_|refine Qt 8 ?_|refine Qu 8 ?_|fail)
  (first|refine Qr 9 ?_|refine Qs 9 ?_|refine Qxa 9 ?_|refine Qya 9 ?_|refine Qt 9 ?_|refine Qu 9 ?_|fail)
  (first|refine Qr 10 ?_|refine Qs 10 ?_|refine Qxa 10 ?_|refine Qya 10 ?_|refine Qt 10 ?_|refine Qu 10 ?_|fail)
  (first|refine Qr 11 ?_|refine Qs 11 ?_|refine Qxa 11 ?_|refine Qya 11 ?_|refine Qt 11 ?_|refine Qu 11 ?_|fail)
  (first|refine Qr 12 ?_|refine Qs 12 ?_|refine Qxa 12 ?_|refine Qya 12 ?_|refine Qt 12 ?_|refine Qu 12 ?_|fail)
  refine Qw 6 ?_
  refine SXL.call rfl rfl rfl ?_
  refine (folder_P t ps (c := c) (r := r) hm hps hcap inferInstance inferInstance hcw.ai.1 (fun fr sf xf hfr hsf hxf haf hsfm hf24 g1 g2 => callK.ret ?_) (fun e he => callK.panic (h2 e _ (by unfold renameE; simp only [he, erE]) inferInstance)))
  refine SXL.nil (SXA.next inferInstance ?_)
  refine Qw 13 ?_
  refine SXL.call rfl rfl rfl ?_
  refine (folder_P t ps (c := c) (r := r) hm hps hcap inferInstance inferInstance hcw.ti.1 (fun to' st xt hto hst hxt hat hstm ht24 g3 g4 => callK.ret ?_) (fun e he => callK.panic (h2 e _ (by unfold renameE; simp only [hfr, okE, he, erE]) inferInstance)))
  refine SXL.nil (SXA.next inferInstance ?_)
  (first|refine Qr 14 ?_|refine Qs 14 ?_|refine Qxa 14 ?_|refine Qya 14 ?_|refine Qt 14 ?_|refine Qu 14 ?_|fail)
  (first|refine Qr 15 ?_|refine Qs 15 ?_|refine Qxa 15 ?_|refine Qya 15 ?_|refine Qt 15 ?_|refine Qu 15 ?_|fail)
  refine Qv ?_
  have hstl := hstm.l
  repeat (first|refine Qa ?_|refine Qb ?_|refine Qc ?_|refine Qd ?_|refine Qe ?_|refine Qf ?_|refine Qg ?_|refine Qh ?_|refine Qi ?_|refine Qj ?_|refine Qk ?_|refine Ql ?_|refine Qm ?_|refine Qn ?_|refine Qo ?_|refine Qp ?_|refine Qq ?_|fail)
  refine SXL.call rfl rfl rfl ?_
  refine (named_S (fun hn => callK.ret ?_) (fun e he => callK.panic (h2 e _ (by unfold renameE; simp only [hfr, hto, okE, he, erE]) inferInstance)))
  repeat (first|refine Qa ?_|refine Qb ?_|refine Qc ?_|refine Qd ?_|refine Qe ?_|refine Qf ?_|refine Qg ?_|refine Qh ?_|refine Qi ?_|refine Qj ?_|refine Qk ?_|refine Ql ?_|refine Qm ?_|refine Qn ?_|refine Qo ?_|refine Qp ?_|refine Qq ?_|fail)
  refine SXL.call rfl rfl rfl ?_
  refine (named_S (fun hn2 => callK.ret ?_) (fun e he => callK.panic (h2 e _ (by unfold renameE; simp only [hfr, hto, hn, okE, he, erE]) inferInstance)))
  repeat (first|refine Qa ?_|refine Qb ?_|refine Qc ?_|refine Qd ?_|refine Qe ?_|refine Qf ?_|refine Qg ?_|refine Qh ?_|refine Qi ?_|refine Qj ?_|refine Qk ?_|refine Ql ?_|refine Qm ?_|refine Qn ?_|refine Qo ?_|refine Qp ?_|refine Qq ?_|fail)
  refine SXL.call rfl rfl rfl ?_
  refine (child_P t ps (c := c) (r := r) hm hps hcap inferInstance inferInstance inferInstance hsf hxf (fun k s x hk hs hx ha hsm hk24 g5 g6 => callK.ret ?_) (fun e he => callK.panic (h2 e _ (by unfold renameE; simp only [hfr, hto, hn, hn2, okE, he, erE]) inferInstance)))
  have hkd : s.kind ≠ 2 := by have := hC fr k hfr hk; rwa [ha] at this
  have hkb : (s.kind != 2) = true := by simpa using hkd
  repeat (first|refine Qa ?_|refine Qb ?_|refine Qc ?_|refine Qd ?_|refine Qe ?_|refine Qf ?_|refine Qg ?_|refine Qh ?_|refine Qi ?_|refine Qj ?_|refine Qk ?_|refine Ql ?_|refine Qm ?_|refine Qn ?_|refine Qo ?_|refine Qp ?_|refine Qq ?_|fail)
  refine SXL.lit rfl rfl (fun gg => ?_)
  repeat (first|refine Qa ?_|refine Qb ?_|refine Qc ?_|refine Qd ?_|refine Qe ?_|refine Qf ?_|refine Qg ?_|refine Qh ?_|refine Qi ?_|refine Qj ?_|refine Qk ?_|refine Ql ?_|refine Qm ?_|refine Qn ?_|refine Qo ?_|refine Qp ?_|refine Qq ?_|fail)
  refine SXL.call rfl rfl rfl ?_
  refine (found_S (ts := t.l) (ps := ps) (name := c.toName) inferInstance inferInstance hst hxt hstm.w.d (by omega) (fun hf => callK.ret ?_) (fun e hf => callK.ret ?_))
  · skip
    repeat (first|refine Qa ?_|refine Qb ?_|refine Qc ?_|refine Qd ?_|refine Qe ?_|refine Qf ?_|refine Qg ?_|refine Qh ?_|refine Qi ?_|refine Qj ?_|refine Qk ?_|refine Ql ?_|refine Qm ?_|refine Qn ?_|refine Qo ?_|refine Qp ?_|refine Qq ?_|fail)
    refine SXL.alloc rfl rfl (fun z => ?_)
    repeat (first|refine Qa ?_|refine Qb ?_|refine Qc ?_|refine Qd ?_|refine Qe ?_|refine Qf ?_|refine Qg ?_|refine Qh ?_|refine Qi ?_|refine Qj ?_|refine Qk ?_|refine Ql ?_|refine Qm ?_|refine Qn ?_|refine Qo ?_|refine Qp ?_|refine Qq ?_|refine Qx ?_|refine Qy ?_|fail)
    refine SXL.know 97 true rfl hkb ?_
    repeat (first|refine Qa ?_|refine Qb ?_|refine Qc ?_|refine Qd ?_|refine Qe ?_|refine Qf ?_|refine Qg ?_|refine Qh ?_|refine Qi ?_|refine Qj ?_|refine Qk ?_|refine Ql ?_|refine Qm ?_|refine Qn ?_|refine Qo ?_|refine Qp ?_|refine Qq ?_|refine Qx ?_|refine Qy ?_|fail)
    refine SXL.call rfl rfl rfl ?_
    refine (need_S (F' := R) inferInstance (fun hg => callK.ret ?_) (fun hg => by cases hg))
    have hE : renameE t r c = (leaveE t fr c.name >>= fun t2 => enterE t2 to' c.toName (atT t2 k).ino (atT t2 k).gen >>= fun t3 => touchE t3 [fr, to', k] >>= fun t4 => pure (t4, tellS (atT t4 k) r)) := by
      unfold renameE
      simp only [hfr, hto, hn, hn2, hk, okE, hf, hat, ha, hkb, Bool.true_or, needT]
    rw [hE] at h2
    simp only [hE] at h1
    obtain ⟨sf0, hsf0⟩ : ∃ sf, t.l[fr]? = some sf := ⟨_, List.getElem?_eq_getElem (by rw [hm.n]; exact hf24)⟩
    obtain ⟨xf0, hxf0⟩ : ∃ xf, ps[fr]? = some xf := ⟨_, List.getElem?_eq_getElem (by omega)⟩
    rw [leaveE_at (atT_get hsf0)] at h2
    simp only [leaveE_at (atT_get hsf0)] at h1
    repeat (first|refine Qa ?_|refine Qb ?_|refine Qc ?_|refine Qd ?_|refine Qe ?_|refine Qf ?_|refine Qg ?_|refine Qh ?_|refine Qi ?_|refine Qj ?_|refine Qk ?_|refine Ql ?_|refine Qm ?_|refine Qn ?_|refine Qo ?_|refine Qp ?_|refine Qq ?_|fail)
    refine SXL.call rfl rfl rfl ?_
    refine (Fn.sub (leave_S (R := .own (some ⟨pw, 0, none⟩) (wkM pw b cap t c Ac cc r none 0 none 0) :: .own (some ⟨gg, 0, none⟩) (cellsR gg [.pointer (some ⟨b, fr * 9, none⟩), .pointer (some ⟨b, to' * 9, none⟩), .pointer (some ⟨b, k * 9, none⟩)] 116) :: .per (datR t.l ps) :: R) (ts := t.l) (ps := ps) (m := 24) (cap := cap) (b := b) inferInstance hsf0 hxf0 (hm.at hsf0) (fun s2 x2 he2 => callK.ret ?_) (fun e M' he hM' => callK.panic (h2 e M' (by rw [he]; rfl) (hM'.trans inferInstance)))) inferInstance)
    have hs2m : s2.mid := (leaveS_ok (hm.at hsf0) he2).1
    have hE2 : ∀ (G : Th → Ex (Th × Re)), (Except.map (setT t fr) (Except.ok s2 : Ex Sl) >>= G) = G (setT t fr s2) := fun G => rfl
    rw [he2, hE2] at h2
    simp only [he2, hE2] at h1
    have hm2 : (setT t fr s2).mid := hm.set hs2m
    have hp2 : (ps.set fr x2).length = 24 := by rw [List.length_set]; exact hps
    obtain ⟨sk, hsk⟩ : ∃ sk, (t.l.set fr s2)[k]? = some sk := ⟨_, List.getElem?_eq_getElem (by rw [List.length_set, hm.n]; exact hk24)⟩
    obtain ⟨xk, hxk⟩ : ∃ xk, (ps.set fr x2)[k]? = some xk := ⟨_, List.getElem?_eq_getElem (by omega)⟩
    obtain ⟨st2, hst2⟩ : ∃ sk, (t.l.set fr s2)[to']? = some sk := ⟨_, List.getElem?_eq_getElem (by rw [List.length_set, hm.n]; exact ht24)⟩
    obtain ⟨xt2, hxt2⟩ : ∃ xk, (ps.set fr x2)[to']? = some xk := ⟨_, List.getElem?_eq_getElem (by omega)⟩
    haveI gk1 : GetIs (t.l.set fr s2) k sk := ⟨hsk⟩
    haveI gk2 : GetIs (ps.set fr x2) k xk := ⟨hxk⟩
    have hskm := hm2.at hsk
    have hak : atT (setT t fr s2) k = sk := atT_get hsk
    rw [hak, enterE_at (show atT (setT t fr s2) to' = st2 from atT_get hst2)] at h2
    simp only [hak, enterE_at (show atT (setT t fr s2) to' = st2 from atT_get hst2)] at h1
    repeat (first|refine Qa ?_|refine Qb ?_|refine Qc ?_|refine Qd ?_|refine Qe ?_|refine Qf ?_|refine Qg ?_|refine Qh ?_|refine Qi ?_|refine Qj ?_|refine Qk ?_|refine Ql ?_|refine Qm ?_|refine Qn ?_|refine Qo ?_|refine Qp ?_|refine Qq ?_|fail)
    refine SXA.begin (.own (some ⟨pw, 0, none⟩) (wkM pw b cap t c Ac cc r none 0 none 0) :: .own (some ⟨b, 0, none⟩) (thR b 24 cap (t.l.set fr s2) (ps.set fr x2)) :: .own (some ⟨gg, 0, none⟩) (cellsR gg [.pointer (some ⟨b, fr * 9, none⟩), .pointer (some ⟨b, to' * 9, none⟩), .pointer (some ⟨b, k * 9, none⟩)] 116) :: .per (datR (t.l.set fr s2) (ps.set fr x2)) :: R) [10] ?_
    unfold wkM wkC
    (first|refine Qr 0 ?_|refine Qs 0 ?_|refine Qxa 0 ?_|refine Qya 0 ?_|refine Qt 0 ?_|refine Qu 0 ?_|fail)
    (first|refine Qr 1 ?_|refine Qs 1 ?_|refine Qxa 1 ?_|refine Qya 1 ?_|refine Qt 1 ?_|refine Qu 1 ?_|fail)
    (first|refine Qr 2 ?_|refine Qs 2 ?_|refine Qxa 2 ?_|refine Qya 2 ?_|refine Qt 2 ?_|refine Qu 2 ?_|fail)
    (first|refine Qr 3 ?_|refine Qs 3 ?_|refine Qxa 3 ?_|refine Qya 3 ?_|refine Qt 3 ?_|refine Qu 3 ?_|fail)
    (first|refine Qr 4 ?_|refine Qs 4 ?_|refine Qxa 4 ?_|refine Qya 4 ?_|refine Qt 4 ?_|refine Qu 4 ?_|fail)
    (first|refine Qr 5 ?_|refine Qs 5 ?_|refine Qxa 5 ?_|refine Qya 5 ?_|refine Qt 5 ?_|refine Qu 5 ?_|fail)
    (first|refine Qr 6 ?_|refine Qs 6 ?_|refine Qxa 6 ?_|refine Qya 6 ?_|refine Qt 6 ?_|refine Qu 6 ?_|fail)
    (first|refine Qr 7 ?_|refine Qs 7 ?_|refine Qxa 7 ?_|refine Qya 7 ?_|refine Qt 7 ?_|refine Qu 7 ?_|fail)
    (first|refine Qr 8 ?_|refine Qs 8 ?_|refine Qxa 8 ?_|refine Qya 8 ?_|refine Qt 8 ?_|refine Qu 8 ?_|fail)
    refine Qw 9 ?_
    refine SXL.call rfl rfl rfl ?_
    refine (Handle_S (s := sk) (A := xk.1) (c := xk.2) (callK.ret ?_))
    refine SXL.nil (SXA.next inferInstance ?_)
    refine Qw 10 ?_
    refine SXL.call rfl rfl rfl ?_
    refine (Fn.sub (enter_S (R := .own (some ⟨pw, 0, none⟩) (wkM pw b cap t c Ac cc r none 0 none 0) :: .own (some ⟨gg, 0, none⟩) (cellsR gg [.pointer (some ⟨b, fr * 9, none⟩), .pointer (some ⟨b, to' * 9, none⟩), .pointer (some ⟨b, k * 9, none⟩)] 116) :: .per (datR (t.l.set fr s2) (ps.set fr x2)) :: R) (ts := t.l.set fr s2) (ps := ps.set fr x2) (m := 24) (cap := cap) (b := b) inferInstance hst2 hxt2 (hm2.at hst2) hskm.w.ino hskm.w.gen (fun s3 x3 he3 => callK.ret ?_) (fun e M' he hM' => callK.panic (h2 e M' (by rw [he]; rfl) (hM'.trans inferInstance)))) inferInstance)
    have hE3 : ∀ (G : Th → Ex (Th × Re)), (Except.map (setT (setT t fr s2) to') (Except.ok s3 : Ex Sl) >>= G) = G (setT (setT t fr s2) to' s3) := fun G => rfl
    rw [he3, hE3] at h2
    simp only [he3, hE3] at h1
    have hs3m : s3.mid := (enterS_ok (hm2.at hst2) hskm.w.ino hskm.w.gen he3).1
    have hm3 : (setT (setT t fr s2) to' s3).mid := hm2.set hs3m
    obtain ⟨ps3, hps3⟩ : ∃ p : List Pl, p = (ps.set fr x2).set to' x3 := ⟨_, rfl⟩
    have hp3 : ps3.length = 24 := by rw [hps3, List.length_set]; exact hp2
    rw [← hps3]
    refine SXL.nil (SXA.nextLast rfl ?_)
    refine Qv ?_
    repeat (first|refine Qa ?_|refine Qb ?_|refine Qc ?_|refine Qd ?_|refine Qe ?_|refine Qf ?_|refine Qg ?_|refine Qh ?_|refine Qi ?_|refine Qj ?_|refine Qk ?_|refine Ql ?_|refine Qm ?_|refine Qn ?_|refine Qo ?_|refine Qp ?_|refine Qq ?_|fail)
    refine SXL.call rfl rfl rfl ?_
    refine (change_P3 (setT (setT t fr s2) to' s3) ps3 (c := c) (r := r) hm3 hp3 hcap inferInstance inferInstance inferInstance hf24 ht24 hk24 (fun t' ht hm' hdd => callK.ret ?_) (fun e he => callK.panic (h2 e _ (by rw [he]; rfl) inferInstance)))
    refine SXL.derive (datR ((t.l.set fr s2).set to' s3) ps3) (datR t'.l ps3) (datR_d hdd) ?_
    have hs'' := at_some (t := t') (k := k) (by have := hm'.n; omega)
    obtain ⟨x4, hx4⟩ : ∃ x4, ps3[k]? = some x4 := ⟨_, List.getElem?_eq_getElem (by omega)⟩
    repeat (first|refine Qa ?_|refine Qb ?_|refine Qc ?_|refine Qd ?_|refine Qe ?_|refine Qf ?_|refine Qg ?_|refine Qh ?_|refine Qi ?_|refine Qj ?_|refine Qk ?_|refine Ql ?_|refine Qm ?_|refine Qn ?_|refine Qo ?_|refine Qp ?_|refine Qq ?_|fail)
    refine SXL.call rfl rfl rfl ?_
    refine (tell_P t' ps3 (c := c) (r := r) inferInstance inferInstance hs'' hx4 (hm'.at hs'') (callK.ret ?_))
    repeat (first|refine Qa ?_|refine Qb ?_|refine Qc ?_|refine Qd ?_|refine Qe ?_|refine Qf ?_|refine Qg ?_|refine Qh ?_|refine Qi ?_|refine Qj ?_|refine Qk ?_|refine Ql ?_|refine Qm ?_|refine Qn ?_|refine Qo ?_|refine Qp ?_|refine Qq ?_|fail)
    refine SX.fin (M' := (.own (some ⟨pw, 0, none⟩) (wkM pw b cap t' c Ac cc (tellS (atT t' k) r) none 0 none 0) :: .own (some ⟨b, 0, none⟩) (thR b 24 cap t'.l ps3) :: .per (datR t'.l ps3) :: .per (roR (Kd.int .u8) none (tellS (atT t' k) r).d) :: .per (roR kE none (tellS (atT t' k) r).e) :: R)) rfl Evals.nil ?_ inferInstance
    exact h1 t' (tellS (atT t' k) r) ps3 none 0 none 0 (by rw [ht]; rfl) (by rw [hrd]; exact Nat.le_refl _) (by rw [hre]; exact Nat.le_refl _) hp3 hm'
  · skip
    have hei : 0 ≤ e.i := by
      obtain ⟨_, _, h, _⟩ := (entS_ok hstm.w).1 e (foundS_mem hf)
      exact h
    repeat (first|refine Qa ?_|refine Qb ?_|refine Qc ?_|refine Qd ?_|refine Qe ?_|refine Qf ?_|refine Qg ?_|refine Qh ?_|refine Qi ?_|refine Qj ?_|refine Qk ?_|refine Ql ?_|refine Qm ?_|refine Qn ?_|refine Qo ?_|refine Qp ?_|refine Qq ?_|fail)
    refine SXL.alloc rfl rfl (fun z => ?_)
    repeat (first|refine Qa ?_|refine Qb ?_|refine Qc ?_|refine Qd ?_|refine Qe ?_|refine Qf ?_|refine Qg ?_|refine Qh ?_|refine Qi ?_|refine Qj ?_|refine Qk ?_|refine Ql ?_|refine Qm ?_|refine Qn ?_|refine Qo ?_|refine Qp ?_|refine Qq ?_|fail)
    refine SXL.call rfl rfl rfl ?_
    refine (thing_P t ps (c := c) (r := r) hm hps hcap inferInstance inferInstance hei (fun old so xo hold hso hxo hao hsom ho24 g7 g8 => callK.ret ?_) (fun e' he => callK.panic (h2 e' _ (by unfold renameE; simp only [hfr, hto, hn, hn2, hk, okE, hf, hat, he, erE]) inferInstance)))
    repeat (first|refine Qa ?_|refine Qb ?_|refine Qc ?_|refine Qd ?_|refine Qe ?_|refine Qf ?_|refine Qg ?_|refine Qh ?_|refine Qi ?_|refine Qj ?_|refine Qk ?_|refine Ql ?_|refine Qm ?_|refine Qn ?_|refine Qo ?_|refine Qp ?_|refine Qq ?_|fail)
    refine SXL.eqPtr rfl rfl Tryz.underlying116 rfl rfl rfl ?_
    repeat (first|refine Qa ?_|refine Qb ?_|refine Qc ?_|refine Qd ?_|refine Qe ?_|refine Qf ?_|refine Qg ?_|refine Qh ?_|refine Qi ?_|refine Qj ?_|refine Qk ?_|refine Ql ?_|refine Qm ?_|refine Qn ?_|refine Qo ?_|refine Qp ?_|refine Qq ?_|fail)
    refine SX.condp rfl (fun hok => ?_) (fun hok => ?_)
    · have hok' : old = k := by omega
      repeat (first|refine Qa ?_|refine Qb ?_|refine Qc ?_|refine Qd ?_|refine Qe ?_|refine Qf ?_|refine Qg ?_|refine Qh ?_|refine Qi ?_|refine Qj ?_|refine Qk ?_|refine Ql ?_|refine Qm ?_|refine Qn ?_|refine Qo ?_|refine Qp ?_|refine Qq ?_|fail)
      refine SXL.call rfl rfl rfl ?_
      refine (tell_P t ps (c := c) (r := r) inferInstance inferInstance hs hx hsm (callK.ret ?_))
      repeat (first|refine Qa ?_|refine Qb ?_|refine Qc ?_|refine Qd ?_|refine Qe ?_|refine Qf ?_|refine Qg ?_|refine Qh ?_|refine Qi ?_|refine Qj ?_|refine Qk ?_|refine Ql ?_|refine Qm ?_|refine Qn ?_|refine Qo ?_|refine Qp ?_|refine Qq ?_|fail)
      refine SX.ret (M' := .own (some ⟨pw, 0, none⟩) (wkM pw b cap t c Ac cc (tellS s r) none 0 none 0) :: .own (some ⟨b, 0, none⟩) (thR b 24 cap t.l ps) :: .per (datR t.l ps) :: .per (roR (Kd.int .u8) none (tellS s r).d) :: .per (roR kE none (tellS s r).e) :: R) rfl Evals.nil ?_ inferInstance
      exact h1 t (tellS s r) ps none 0 none 0 (by unfold renameE; simp only [hfr, hto, hn, hn2, hk, okE, hf, hat, hold, if_pos hok', ha, puE]) (by rw [hrd]; exact Nat.le_refl _) (by rw [hre]; exact Nat.le_refl _) hps hm
    have hne : ¬ old = k := by omega
    repeat (first|refine Qa ?_|refine Qb ?_|refine Qc ?_|refine Qd ?_|refine Qe ?_|refine Qf ?_|refine Qg ?_|refine Qh ?_|refine Qi ?_|refine Qj ?_|refine Qk ?_|refine Ql ?_|refine Qm ?_|refine Qn ?_|refine Qo ?_|refine Qp ?_|refine Qq ?_|refine Qx ?_|refine Qy ?_|fail)
    refine SX.know 75 false rfl (by simpa using hkd) ?_
    repeat (first|refine Qa ?_|refine Qb ?_|refine Qc ?_|refine Qd ?_|refine Qe ?_|refine Qf ?_|refine Qg ?_|refine Qh ?_|refine Qi ?_|refine Qj ?_|refine Qk ?_|refine Ql ?_|refine Qm ?_|refine Qn ?_|refine Qo ?_|refine Qp ?_|refine Qq ?_|refine Qx ?_|refine Qy ?_|fail)
    refine SXL.call rfl rfl rfl ?_
    refine (need_S (F' := R) inferInstance (fun hg => callK.ret ?_) (fun hg => callK.panic (h2 63 _ (by unfold renameE; simp only [hfr, hto, hn, hn2, hk, okE, hf, hat, hold, if_neg hne, ha, if_neg hkd, hao]; rw [show (so.kind != 2) = false from hg]; rfl) inferInstance)))
    have hob : (so.kind != 2) = true := hg
    have hE0 : renameE t r c = (leaveE t to' c.toName >>= fun t1 => leaveE (setT t1 old (unlinkS (atT t1 old))) fr c.name >>= fun t2 => enterE t2 to' c.toName (atT t2 k).ino (atT t2 k).gen >>= fun t3 => touchE t3 [fr, to', k, old] >>= fun t4 => pure (t4, tellS (atT t4 k) r)) := by
      unfold renameE
      simp only [hfr, hto, hn, hn2, hk, okE, hf, hat, hold, if_neg hne, ha, if_neg hkd, hao, hob, needT, hkb, Bool.true_or]
    rw [hE0, leaveE_at hat] at h2
    simp only [hE0, leaveE_at hat] at h1
    repeat (first|refine Qa ?_|refine Qb ?_|refine Qc ?_|refine Qd ?_|refine Qe ?_|refine Qf ?_|refine Qg ?_|refine Qh ?_|refine Qi ?_|refine Qj ?_|refine Qk ?_|refine Ql ?_|refine Qm ?_|refine Qn ?_|refine Qo ?_|refine Qp ?_|refine Qq ?_|refine Qx ?_|refine Qy ?_|fail)
    refine SXL.know 97 true rfl hkb ?_
    repeat (first|refine Qa ?_|refine Qb ?_|refine Qc ?_|refine Qd ?_|refine Qe ?_|refine Qf ?_|refine Qg ?_|refine Qh ?_|refine Qi ?_|refine Qj ?_|refine Qk ?_|refine Ql ?_|refine Qm ?_|refine Qn ?_|refine Qo ?_|refine Qp ?_|refine Qq ?_|refine Qx ?_|refine Qy ?_|fail)
    refine SXL.call rfl rfl rfl ?_
    refine (need_S (F' := R) inferInstance (fun hg9 => callK.ret ?_) (fun hg9 => by cases hg9))
    repeat (first|refine Qa ?_|refine Qb ?_|refine Qc ?_|refine Qd ?_|refine Qe ?_|refine Qf ?_|refine Qg ?_|refine Qh ?_|refine Qi ?_|refine Qj ?_|refine Qk ?_|refine Ql ?_|refine Qm ?_|refine Qn ?_|refine Qo ?_|refine Qp ?_|refine Qq ?_|fail)
    refine SXL.call rfl rfl rfl ?_
    refine (Fn.sub (leave_S (R := .own (some ⟨pw, 0, none⟩) (wkM pw b cap t c Ac cc r none 0 none 0) :: .own (some ⟨gg, 0, none⟩) (cellsR gg [.pointer (some ⟨b, fr * 9, none⟩), .pointer (some ⟨b, to' * 9, none⟩), .pointer (some ⟨b, k * 9, none⟩)] 116) :: R) (ts := t.l) (ps := ps) (m := 24) (cap := cap) (b := b) inferInstance hst hxt hstm (fun s1 x1 he1 => callK.ret ?_) (fun e M' he hM' => callK.panic (h2 e M' (by rw [he]; rfl) (hM'.trans inferInstance)))) inferInstance)
    have hs1m : s1.mid := (leaveS_ok hstm he1).1
    have hEm : ∀ (G : Th → Ex (Th × Re)), (Except.map (setT t to') (Except.ok s1 : Ex Sl) >>= G) = G (setT t to' s1) := fun G => rfl
    have hmA : (setT t to' s1).mid := hm.set hs1m
    have hpA : (ps.set to' x1).length = 24 := by rw [List.length_set]; exact hps
    obtain ⟨so1, hso1⟩ : ∃ sk, (t.l.set to' s1)[old]? = some sk := ⟨_, List.getElem?_eq_getElem (by rw [List.length_set, hm.n]; exact ho24)⟩
    obtain ⟨xo1, hxo1⟩ : ∃ xk, (ps.set to' x1)[old]? = some xk := ⟨_, List.getElem?_eq_getElem (by omega)⟩
    have hao1 : atT (setT t to' s1) old = so1 := atT_get hso1
    repeat (first|refine Qa ?_|refine Qb ?_|refine Qc ?_|refine Qd ?_|refine Qe ?_|refine Qf ?_|refine Qg ?_|refine Qh ?_|refine Qi ?_|refine Qj ?_|refine Qk ?_|refine Ql ?_|refine Qm ?_|refine Qn ?_|refine Qo ?_|refine Qp ?_|refine Qq ?_|fail)
    refine SXL.call rfl rfl rfl ?_
    refine (Fn.sub (unlink_S (R := .own (some ⟨pw, 0, none⟩) (wkM pw b cap t c Ac cc r none 0 none 0) :: .own (some ⟨gg, 0, none⟩) (cellsR gg [.pointer (some ⟨b, fr * 9, none⟩), .pointer (some ⟨b, to' * 9, none⟩), .pointer (some ⟨b, k * 9, none⟩)] 116) :: .per (datR (t.l.set to' s1) (ps.set to' x1)) :: R) (ts := t.l.set to' s1) (ps := ps.set to' x1) (m := 24) (cap := cap) (b := b) inferInstance hso1 hxo1 (fun x2 => callK.ret ?_)) inferInstance)
    obtain ⟨t1, ht1⟩ : ∃ t1 : Th, t1 = setT (setT t to' s1) old (unlinkS so1) := ⟨_, rfl⟩
    obtain ⟨ps1, hps1⟩ : ∃ p : List Pl, p = (ps.set to' x1).set old x2 := ⟨_, rfl⟩
    have hm1 : t1.mid := by rw [ht1]; exact hmA.set (unlinkS_mid (hmA.at hso1))
    have hp1 : ps1.length = 24 := by rw [hps1, List.length_set]; exact hpA
    rw [he1, hEm, hao1, ← ht1] at h2
    simp only [he1, hEm, hao1, ← ht1] at h1
    have q1 : (t.l.set to' s1).set old (unlinkS so1) = t1.l := by rw [ht1]
    have q2 : t.ch = t1.ch := by rw [ht1]
    have q3 : t.room = t1.room := by rw [ht1]
    unfold wkM wkC
    rw [q1, ← hps1, q2, q3]
    repeat (first|refine Qa ?_|refine Qb ?_|refine Qc ?_|refine Qd ?_|refine Qe ?_|refine Qf ?_|refine Qg ?_|refine Qh ?_|refine Qi ?_|refine Qj ?_|refine Qk ?_|refine Ql ?_|refine Qm ?_|refine Qn ?_|refine Qo ?_|refine Qp ?_|refine Qq ?_|fail)
    refine SXL.lit rfl rfl (fun g1 => ?_)
    refine SXL.litRow (cellsK 1) g1 [ptX b old] inferInstance rfl (fun x => x.2.1) (by simp) ?_
    refine SXL.ownLit (cellsK 1) gg [ptX b fr, ptX b to', ptX b k] inferInstance (fun w ok => (((Reps.none _ _).snoc (Flat.inM (d := cellsK 1) w 0 ok (ptX b fr)) rfl).snoc (Flat.inM (d := cellsK 1) w 0 ok (ptX b to')) rfl).snoc (Flat.inM (d := cellsK 1) w 0 ok (ptX b k)) rfl) (by simp) ?_
    repeat (first|refine Qa ?_|refine Qb ?_|refine Qc ?_|refine Qd ?_|refine Qe ?_|refine Qf ?_|refine Qg ?_|refine Qh ?_|refine Qi ?_|refine Qj ?_|refine Qk ?_|refine Ql ?_|refine Qm ?_|refine Qn ?_|refine Qo ?_|refine Qp ?_|refine Qq ?_|fail)
    refine SXL.appendW (cellsK 1) rfl rfl inferInstance inferInstance rfl inferInstance (by simp) rfl (fun A' cp hcp => ?_)
    have eap : ([ptX b fr, ptX b to', ptX b k] ++ [ptX b old] : List (CellsN 1)) = [ptX b fr, ptX b to', ptX b k, ptX b old] := rfl
    rw [eap] at hcp ⊢
    refine SXL.addrOwn (A := A') (cellsK 1) inferInstance (by simp) (fun g4 e4 => ?_)
    subst e4
    refine SXL.keepRow (some ⟨g4, 0, none⟩) inferInstance ?_
    refine SXL.same 122 (.slice (some ⟨g4, 0, none⟩) 4 cp) rfl rfl ?_
    repeat (first|refine Qa ?_|refine Qb ?_|refine Qc ?_|refine Qd ?_|refine Qe ?_|refine Qf ?_|refine Qg ?_|refine Qh ?_|refine Qi ?_|refine Qj ?_|refine Qk ?_|refine Ql ?_|refine Qm ?_|refine Qn ?_|refine Qo ?_|refine Qp ?_|refine Qq ?_|fail)
    obtain ⟨sf0, hsf0⟩ : ∃ sf, t1.l[fr]? = some sf := ⟨_, List.getElem?_eq_getElem (by rw [hm1.n]; exact hf24)⟩
    obtain ⟨xf0, hxf0⟩ : ∃ xf, ps1[fr]? = some xf := ⟨_, List.getElem?_eq_getElem (by omega)⟩
    rw [leaveE_at (atT_get hsf0)] at h2
    simp only [leaveE_at (atT_get hsf0)] at h1
    repeat (first|refine Qa ?_|refine Qb ?_|refine Qc ?_|refine Qd ?_|refine Qe ?_|refine Qf ?_|refine Qg ?_|refine Qh ?_|refine Qi ?_|refine Qj ?_|refine Qk ?_|refine Ql ?_|refine Qm ?_|refine Qn ?_|refine Qo ?_|refine Qp ?_|refine Qq ?_|fail)
    refine SXL.call rfl rfl rfl ?_
    refine (Fn.sub (leave_S (R := .own (some ⟨pw, 0, none⟩) (wkM pw b cap t1 c Ac cc r none 0 none 0) :: .per (roR (cellsK 1) (some ⟨g4, 0, none⟩) [ptX b fr, ptX b to', ptX b k, ptX b old]) :: .per (datR t1.l ps1) :: R) (ts := t1.l) (ps := ps1) (m := 24) (cap := cap) (b := b) inferInstance hsf0 hxf0 (hm1.at hsf0) (fun s2 x2 he2 => callK.ret ?_) (fun e M' he hM' => callK.panic (h2 e M' (by rw [he]; rfl) (hM'.trans inferInstance)))) inferInstance)
    have hs2m : s2.mid := (leaveS_ok (hm1.at hsf0) he2).1
    have hE2 : ∀ (G : Th → Ex (Th × Re)), (Except.map (setT t1 fr) (Except.ok s2 : Ex Sl) >>= G) = G (setT t1 fr s2) := fun G => rfl
    rw [he2, hE2] at h2
    simp only [he2, hE2] at h1
    have hm2 : (setT t1 fr s2).mid := hm1.set hs2m
    have hp2 : (ps1.set fr x2).length = 24 := by rw [List.length_set]; exact hp1
    obtain ⟨sk, hsk⟩ : ∃ sk, (t1.l.set fr s2)[k]? = some sk := ⟨_, List.getElem?_eq_getElem (by rw [List.length_set, hm1.n]; exact hk24)⟩
    obtain ⟨xk, hxk⟩ : ∃ xk, (ps1.set fr x2)[k]? = some xk := ⟨_, List.getElem?_eq_getElem (by omega)⟩
    obtain ⟨st2, hst2⟩ : ∃ sk, (t1.l.set fr s2)[to']? = some sk := ⟨_, List.getElem?_eq_getElem (by rw [List.length_set, hm1.n]; exact ht24)⟩
    obtain ⟨xt2, hxt2⟩ : ∃ xk, (ps1.set fr x2)[to']? = some xk := ⟨_, List.getElem?_eq_getElem (by omega)⟩
    haveI gk1 : GetIs (t1.l.set fr s2) k sk := ⟨hsk⟩
    haveI gk2 : GetIs (ps1.set fr x2) k xk := ⟨hxk⟩
    have hskm := hm2.at hsk
    have hak : atT (setT t1 fr s2) k = sk := atT_get hsk
    rw [hak, enterE_at (show atT (setT t1 fr s2) to' = st2 from atT_get hst2)] at h2
    simp only [hak, enterE_at (show atT (setT t1 fr s2) to' = st2 from atT_get hst2)] at h1
    repeat (first|refine Qa ?_|refine Qb ?_|refine Qc ?_|refine Qd ?_|refine Qe ?_|refine Qf ?_|refine Qg ?_|refine Qh ?_|refine Qi ?_|refine Qj ?_|refine Qk ?_|refine Ql ?_|refine Qm ?_|refine Qn ?_|refine Qo ?_|refine Qp ?_|refine Qq ?_|fail)
    refine SXA.begin (.own (some ⟨pw, 0, none⟩) (wkM pw b cap t1 c Ac cc r none 0 none 0) :: .own (some ⟨b, 0, none⟩) (thR b 24 cap (t1.l.set fr s2) (ps1.set fr x2)) :: .per (roR (cellsK 1) (some ⟨g4, 0, none⟩) [ptX b fr, ptX b to', ptX b k, ptX b old]) :: .per (datR (t1.l.set fr s2) (ps1.set fr x2)) :: R) [10] ?_
    unfold wkM wkC
    (first|refine Qr 0 ?_|refine Qs 0 ?_|refine Qxa 0 ?_|refine Qya 0 ?_|refine Qt 0 ?_|refine Qu 0 ?_|fail)
    (first|refine Qr 1 ?_|refine Qs 1 ?_|refine Qxa 1 ?_|refine Qya 1 ?_|refine Qt 1 ?_|refine Qu 1 ?_|fail)
    (first|refine Qr 2 ?_|refine Qs 2 ?_|refine Qxa 2 ?_|refine Qya 2 ?_|refine Qt 2 ?_|refine Qu 2 ?_|fail)
    (first|refine Qr 3 ?_|refine Qs 3 ?_|refine Qxa 3 ?_|refine Qya 3 ?_|refine Qt 3 ?_|refine Qu 3 ?_|fail)
    (first|refine Qr 4 ?_|refine Qs 4 ?_|refine Qxa 4 ?_|refine Qya 4 ?_|refine Qt 4 ?_|refine Qu 4 ?_|fail)
    (first|refine Qr 5 ?_|refine Qs 5 ?_|refine Qxa 5 ?_|refine Qya 5 ?_|refine Qt 5 ?_|refine Qu 5 ?_|fail)
    (first|refine Qr 6 ?_|refine Qs 6 ?_|refine Qxa 6 ?_|refine Qya 6 ?_|refine Qt 6 ?_|refine Qu 6 ?_|fail)
    (first|refine Qr 7 ?_|refine Qs 7 ?_|refine Qxa 7 ?_|refine Qya 7 ?_|refine Qt 7 ?_|refine Qu 7 ?_|fail)
    (first|refine Qr 8 ?_|refine Qs 8 ?_|refine Qxa 8 ?_|refine Qya 8 ?_|refine Qt 8 ?_|refine Qu 8 ?_|fail)
    refine Qw 9 ?_
    refine SXL.call rfl rfl rfl ?_
    refine (Handle_S (s := sk) (A := xk.1) (c := xk.2) (callK.ret ?_))
    refine SXL.nil (SXA.next inferInstance ?_)
    refine Qw 10 ?_
    refine SXL.call rfl rfl rfl ?_
    refine (Fn.sub (enter_S (R := .own (some ⟨pw, 0, none⟩) (wkM pw b cap t1 c Ac cc r none 0 none 0) :: .per (roR (cellsK 1) (some ⟨g4, 0, none⟩) [ptX b fr, ptX b to', ptX b k, ptX b old]) :: .per (datR (t1.l.set fr s2) (ps1.set fr x2)) :: R) (ts := t1.l.set fr s2) (ps := ps1.set fr x2) (m := 24) (cap := cap) (b := b) inferInstance hst2 hxt2 (hm2.at hst2) hskm.w.ino hskm.w.gen (fun s3 x3 he3 => callK.ret ?_) (fun e M' he hM' => callK.panic (h2 e M' (by rw [he]; rfl) (hM'.trans inferInstance)))) inferInstance)
    have hE3 : ∀ (G : Th → Ex (Th × Re)), (Except.map (setT (setT t1 fr s2) to') (Except.ok s3 : Ex Sl) >>= G) = G (setT (setT t1 fr s2) to' s3) := fun G => rfl
    rw [he3, hE3] at h2
    simp only [he3, hE3] at h1
    have hs3m : s3.mid := (enterS_ok (hm2.at hst2) hskm.w.ino hskm.w.gen he3).1
    have hm3 : (setT (setT t1 fr s2) to' s3).mid := hm2.set hs3m
    obtain ⟨ps3, hps3⟩ : ∃ p : List Pl, p = (ps1.set fr x2).set to' x3 := ⟨_, rfl⟩
    have hp3 : ps3.length = 24 := by rw [hps3, List.length_set]; exact hp2
    rw [← hps3]
    refine SXL.nil (SXA.nextLast rfl ?_)
    refine Qv ?_
    repeat (first|refine Qa ?_|refine Qb ?_|refine Qc ?_|refine Qd ?_|refine Qe ?_|refine Qf ?_|refine Qg ?_|refine Qh ?_|refine Qi ?_|refine Qj ?_|refine Qk ?_|refine Ql ?_|refine Qm ?_|refine Qn ?_|refine Qo ?_|refine Qp ?_|refine Qq ?_|fail)
    refine SXL.call rfl rfl rfl ?_
    refine (Fn.sub (change4R_P (R := .per (roR (cellsK 1) (some ⟨g4, 0, none⟩) [ptX b fr, ptX b to', ptX b k, ptX b old]) :: .per (datR ((t1.l.set fr s2).set to' s3) ps3) :: R) (Ac := Ac) (cc := cc) (Ad := none) (cd := 0) (Ae := none) (ce := 0) (pw := pw) (b := b) (cap := cap) (setT (setT t1 fr s2) to' s3) ps3 (c := c) (r := r) hm3 hp3 hcap hf24 ht24 hk24 ho24 (by simpa using hcp) inferInstance (fun t' ht hm' hdd => callK.ret ?_) (fun e he => callK.panic (h2 e _ (by rw [he]; rfl) inferInstance))) inferInstance)
    refine SXL.derive (datR ((t1.l.set fr s2).set to' s3) ps3) (datR t'.l ps3) (datR_d hdd) ?_
    have hs'' := at_some (t := t') (k := k) (by have := hm'.n; omega)
    obtain ⟨x4, hx4⟩ : ∃ x4, ps3[k]? = some x4 := ⟨_, List.getElem?_eq_getElem (by omega)⟩
    repeat (first|refine Qa ?_|refine Qb ?_|refine Qc ?_|refine Qd ?_|refine Qe ?_|refine Qf ?_|refine Qg ?_|refine Qh ?_|refine Qi ?_|refine Qj ?_|refine Qk ?_|refine Ql ?_|refine Qm ?_|refine Qn ?_|refine Qo ?_|refine Qp ?_|refine Qq ?_|fail)
    refine SXL.call rfl rfl rfl ?_
    refine (tell_P t' ps3 (c := c) (r := r) inferInstance inferInstance hs'' hx4 (hm'.at hs'') (callK.ret ?_))
    repeat (first|refine Qa ?_|refine Qb ?_|refine Qc ?_|refine Qd ?_|refine Qe ?_|refine Qf ?_|refine Qg ?_|refine Qh ?_|refine Qi ?_|refine Qj ?_|refine Qk ?_|refine Ql ?_|refine Qm ?_|refine Qn ?_|refine Qo ?_|refine Qp ?_|refine Qq ?_|fail)
    refine SX.fin (M' := (.own (some ⟨pw, 0, none⟩) (wkM pw b cap t' c Ac cc (tellS (atT t' k) r) none 0 none 0) :: .own (some ⟨b, 0, none⟩) (thR b 24 cap t'.l ps3) :: .per (datR t'.l ps3) :: .per (roR (Kd.int .u8) none (tellS (atT t' k) r).d) :: .per (roR kE none (tellS (atT t' k) r).e) :: R)) rfl Evals.nil ?_ inferInstance
    exact h1 t' (tellS (atT t' k) r) ps3 none 0 none 0 (by rw [ht]; rfl) (by rw [hrd]; exact Nat.le_refl _) (by rw [hre]; exact Nat.le_refl _) hp3 hm'
end Go.Proofs.YtanemmcddgkpdaaGreat.Sx
end
