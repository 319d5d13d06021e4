/- Part N0 of the lemmas and walks of the Go functions that these statements reach; conditions: those that each theorem names. -/
import Derived.Test.YtanemmcddgkpdaaGreatJN6
import Derived.Test.YtanemmcddgkpdaaGreatJX8
import Derived.Test.YtanemmcddgkpdaaGreatJY6
import Derived.Test.YtanemmcddgkpdaaGreatJX2
import Derived.Test.YtanemmcddgkpdaaGreatJN7
section
/- Chapter 13: a change that touches four things out of a row that grew, walked; conditions: those that each theorem names. -/
namespace Go.Proofs.YtanemmcddgkpdaaGreat.Sx
open Go.RowKit Go.Proofs.YtanemmcddgkpdaaGreat.Hm Go.Proofs.YtanemmcddgkpdaaGreatW.PrintWords Go.Proofs.YtanemmcddgkpdaaGreatW.PrintLast Go.Proofs.YtanemmcddgkpdaaGreatW.PrintMore
set_option linter.unusedVariables false
set_option linter.unusedSimpArgs false
attribute [local irreducible] SX SXL SXA St callK Post Evals
section
variable {P : Program} {fn : Func} {K : Ending → List Thing → Prop} {N : Nat} {k : List It} {a : Fr} {M R : List Thing} {ops : Array Oper} {α : Type} {enc : α → List Value}
/-- A literal's cells as a row of the call's own. -/
theorem SXL.ownLit {l : List Oper} (D : Kd α) (b : Nat) (ys : List α) {cs : List Value} {ty' : TypeId} (hat : At (some ⟨b, 0, none⟩) M (cellsR b cs ty') R) (hrep : ∀ w ok, Reps (D.M w 0 ok) D.sz ys cs) (hl : ys.length ≤ 9223372036854775807)
    (h : SXL P fn K N k ops l a (.own (some ⟨b, 0, none⟩) (rowR D ty' (.slice (some ⟨b, 0, none⟩) ys.length ys.length) ys) :: R)) : SXL P fn K N k ops l a M := by
  refine SXL.mem h (fun w hw => ?_)
  obtain ⟨I, hI, S, hS, hr, hL⟩ := hw.at_ hat
  have hlen := (hrep w (fun k => S k ∧ some k ≠ (Value.slice (some ⟨b, 0, none⟩) ys.length ys.length).ownBlock)).1
  refine ⟨I, hI, S, hS, ⟨fun k hk => ?_, cs, ⟨hlen, .inr ⟨b, ys.length, cs.toArray, rfl, Nat.zero_le _, hr.2, Nat.le_refl _, by simpa [maxLen] using hl, by simpa using hlen, by rw [← hlen]; simp⟩⟩, hrep _ _⟩, hL⟩
  have h1 : b = k := by simpa [Value.ownBlock] using hk
  exact h1 ▸ hr.1
end
def ptX (b k : Nat) : CellsN 1 := ⟨[.pointer (some ⟨b, k * 9, none⟩)], rfl, fun u hu => by obtain rfl := List.mem_singleton.1 hu; rfl⟩
theorem infoPt : ((Tryz.prog).info? 116).map (fun i => (i.zero, i.size, i.bytes)) = some (some (.pointer none), 1, 8) := by kernel_rfl
instance rowPt : RowT Tryz.prog (cellsK 1) 133 116 8 := ⟨Tryz.underlying133, ⟨_, infoPt, rfl⟩, by decide, by decide⟩
section
variable {F R R1 R2 : List Thing} {K : Ending → List Thing → Prop} {b pw gg cp cap cc cd ce k1 k2 k3 k4 : Nat} {Ac Ad Ae : Option Addr} {c : Ca} {r : Re}
theorem change_P3 (t : Th) (ps : List Pl) (hm : t.mid) (hps : ps.length = 24) (hcap : 24 ≤ cap) (hat : At (some ⟨pw, 0, none⟩) F (wkM pw b cap t c Ac cc r Ad cd Ae ce) R1) (hat2 : At (some ⟨b, 0, none⟩) R1 (thR b 24 cap t.l ps) R2) (hat3 : At (some ⟨gg, 0, none⟩) R2 (cellsR gg [.pointer (some ⟨b, k1 * 9, none⟩), .pointer (some ⟨b, k2 * 9, none⟩), .pointer (some ⟨b, k3 * 9, none⟩)] 116) R) (hk1 : k1 < 24) (hk2 : k2 < 24) (hk3 : k3 < 24)
    (h1 : ∀ t', touchE t [k1, k2, k3] = .ok t' → t'.mid → t'.l.map Sl.d = t.l.map Sl.d → K (.returned (.tuple #[])) (.own (some ⟨pw, 0, none⟩) (wkM pw b cap t' c Ac cc r Ad cd Ae ce) :: .own (some ⟨b, 0, none⟩) (thR b 24 cap t'.l ps) :: .own (some ⟨gg, 0, none⟩) (cellsR gg [.pointer (some ⟨b, k1 * 9, none⟩), .pointer (some ⟨b, k2 * 9, none⟩), .pointer (some ⟨b, k3 * 9, none⟩)] 116) :: R))
    (h2 : ∀ e, touchE t [k1, k2, k3] = .error e → K (.panicked (failP e)) R) :
    Fn (Tryz.prog) 73 [.pointer (some ⟨pw, 0, none⟩), .slice (some ⟨gg, 0, none⟩) 3 3] F K := by
  have hn := hm.n
  unfold wkM at hat
  unfold thR at hat2
  rw [← hn] at hat hat2
  refine change3_S hat hat2 hat3 (by omega) (by omega) hn (fun s hs => by have := (hm.m s hs).l; omega) hk1 hk2 hk3 (fun t' ht hl hroom => ?_) h2
  obtain ⟨_, _, _, hd, hmm, _⟩ := touchE_ok ht
  have h9 := h1 t' ht (hmm hm) hd
  unfold wkM thR at h9
  rw [hroom, ← hn] at h9
  exact h9
set_option maxRecDepth 20000 in
theorem change4R_P (t : Th) (ps : List Pl) (hm : t.mid) (hps : ps.length = 24) (hcap : 24 ≤ cap) (hk1 : k1 < 24) (hk2 : k2 < 24) (hk3 : k3 < 24) (hk4 : k4 < 24) (hcp : 4 ≤ cp) (hr3 : Ro (cellsK 1) (some ⟨gg, 0, none⟩) R [ptX b k1, ptX b k2, ptX b k3, ptX b k4])
    (h1 : ∀ t', touchE t [k1, k2, k3, k4] = .ok t' → t'.mid → t'.l.map Sl.d = t.l.map Sl.d → K (.returned (.tuple #[])) (.own (some ⟨pw, 0, none⟩) (wkM pw b cap t' c Ac cc r Ad cd Ae ce) :: .own (some ⟨b, 0, none⟩) (thR b 24 cap t'.l ps) :: R))
    (h2 : ∀ e, touchE t [k1, k2, k3, k4] = .error e → K (.panicked (failP e)) R) :
    Fn (Tryz.prog) 73 [.pointer (some ⟨pw, 0, none⟩), .slice (some ⟨gg, 0, none⟩) 4 cp] (.own (some ⟨pw, 0, none⟩) (wkM pw b cap t c Ac cc r Ad cd Ae ce) :: .own (some ⟨b, 0, none⟩) (thR b 24 cap t.l ps) :: R) K := by
  have hwr : IntKind.u64.wrap (t.ch + 1) = up64 t.ch := rfl
  have h24 := hm.n
  have hd : ∀ s ∈ t.l, s.d.length ≤ 4000000000 := fun s hs => by have := (hm.m s hs).l; omega
  unfold wkM wkC
  refine Fn.enter Tryz.call73 Tryz.func73 rfl rfl rfl ?_
  repeat (first|refine Qa ?_|refine Qb ?_|refine Qc ?_|refine Qd ?_|refine Qe ?_|refine Qf ?_|refine Qh ?_|fail)
  rw [hwr]
  refine SX.unroll 4 ?_
  have l0 : (⟨t.l, up64 t.ch, t.room⟩ : Th).l.length = 24 := by simp [h24]
  have s0 := at_some (t := (⟨t.l, up64 t.ch, t.room⟩ : Th)) (k := k1) (by rw [l0]; exact hk1)
  obtain ⟨q0, hq0⟩ : ∃ q, ps[k1]? = some q := ⟨_, List.getElem?_eq_getElem (by omega)⟩
  haveI gi0 : GetIs [ptX b k1, ptX b k2, ptX b k3, ptX b k4] 0 (ptX b k1) := ⟨rfl⟩
  repeat (first|refine Qa ?_|refine Qd ?_|refine Qe ?_|refine Qf ?_|refine Qg ?_|refine Qh ?_|refine Qk ?_|fail)
  refine SXL.idx rfl rfl rfl rfl rfl (by omega) (by omega) rfl ?_
  refine SXL.same 19 (.pointer (some ⟨gg, 0 * 1, none⟩)) rfl rfl ?_
  repeat (first|refine Qa ?_|refine Qb ?_|refine Qd ?_|refine Qe ?_|refine Qy ?_|fail)
  refine SXL.stSl (ts := (⟨t.l, up64 t.ch, t.room⟩ : Th).l) (ps := ps) { atT (⟨t.l, up64 t.ch, t.room⟩ : Th) k1 with change := up64 t.ch } q0 rfl rfl inferInstance s0 hq0 rfl ?_
  rw [set_same hq0]
  repeat (first|refine Qa ?_|refine Qd ?_|refine Qe ?_|refine Qi ?_|fail)
  refine SX.round ?_
  have l1 : (setT (⟨t.l, up64 t.ch, t.room⟩ : Th) k1 { atT (⟨t.l, up64 t.ch, t.room⟩ : Th) k1 with change := up64 t.ch }).l.length = 24 := by simp [h24]
  have s1 := at_some (t := (setT (⟨t.l, up64 t.ch, t.room⟩ : Th) k1 { atT (⟨t.l, up64 t.ch, t.room⟩ : Th) k1 with change := up64 t.ch })) (k := k2) (by rw [l1]; exact hk2)
  obtain ⟨q1, hq1⟩ : ∃ q, ps[k2]? = some q := ⟨_, List.getElem?_eq_getElem (by omega)⟩
  haveI gi1 : GetIs [ptX b k1, ptX b k2, ptX b k3, ptX b k4] 1 (ptX b k2) := ⟨rfl⟩
  repeat (first|refine Qa ?_|refine Qd ?_|refine Qe ?_|refine Qf ?_|refine Qg ?_|refine Qh ?_|refine Qk ?_|fail)
  rw [show IntKind.i64.wrap (0 + 1) = 1 from rfl]
  refine SXL.idx rfl rfl rfl rfl rfl (by omega) (by omega) rfl ?_
  refine SXL.same 19 (.pointer (some ⟨gg, 1 * 1, none⟩)) rfl rfl ?_
  repeat (first|refine Qa ?_|refine Qb ?_|refine Qd ?_|refine Qe ?_|refine Qy ?_|fail)
  refine SXL.stSl (ts := (setT (⟨t.l, up64 t.ch, t.room⟩ : Th) k1 { atT (⟨t.l, up64 t.ch, t.room⟩ : Th) k1 with change := up64 t.ch }).l) (ps := ps) { atT (setT (⟨t.l, up64 t.ch, t.room⟩ : Th) k1 { atT (⟨t.l, up64 t.ch, t.room⟩ : Th) k1 with change := up64 t.ch }) k2 with change := up64 t.ch } q1 rfl rfl inferInstance s1 hq1 rfl ?_
  rw [set_same hq1]
  repeat (first|refine Qa ?_|refine Qd ?_|refine Qe ?_|refine Qi ?_|fail)
  refine SX.round ?_
  have l2 : (setT (setT (⟨t.l, up64 t.ch, t.room⟩ : Th) k1 { atT (⟨t.l, up64 t.ch, t.room⟩ : Th) k1 with change := up64 t.ch }) k2 { atT (setT (⟨t.l, up64 t.ch, t.room⟩ : Th) k1 { atT (⟨t.l, up64 t.ch, t.room⟩ : Th) k1 with change := up64 t.ch }) k2 with change := up64 t.ch }).l.length = 24 := by simp [h24]
  have s2 := at_some (t := (setT (setT (⟨t.l, up64 t.ch, t.room⟩ : Th) k1 { atT (⟨t.l, up64 t.ch, t.room⟩ : Th) k1 with change := up64 t.ch }) k2 { atT (setT (⟨t.l, up64 t.ch, t.room⟩ : Th) k1 { atT (⟨t.l, up64 t.ch, t.room⟩ : Th) k1 with change := up64 t.ch }) k2 with change := up64 t.ch })) (k := k3) (by rw [l2]; exact hk3)
  obtain ⟨q2, hq2⟩ : ∃ q, ps[k3]? = some q := ⟨_, List.getElem?_eq_getElem (by omega)⟩
  haveI gi2 : GetIs [ptX b k1, ptX b k2, ptX b k3, ptX b k4] 2 (ptX b k3) := ⟨rfl⟩
  repeat (first|refine Qa ?_|refine Qd ?_|refine Qe ?_|refine Qf ?_|refine Qg ?_|refine Qh ?_|refine Qk ?_|fail)
  rw [show IntKind.i64.wrap (1 + 1) = 2 from rfl]
  refine SXL.idx rfl rfl rfl rfl rfl (by omega) (by omega) rfl ?_
  refine SXL.same 19 (.pointer (some ⟨gg, 2 * 1, none⟩)) rfl rfl ?_
  repeat (first|refine Qa ?_|refine Qb ?_|refine Qd ?_|refine Qe ?_|refine Qy ?_|fail)
  refine SXL.stSl (ts := (setT (setT (⟨t.l, up64 t.ch, t.room⟩ : Th) k1 { atT (⟨t.l, up64 t.ch, t.room⟩ : Th) k1 with change := up64 t.ch }) k2 { atT (setT (⟨t.l, up64 t.ch, t.room⟩ : Th) k1 { atT (⟨t.l, up64 t.ch, t.room⟩ : Th) k1 with change := up64 t.ch }) k2 with change := up64 t.ch }).l) (ps := ps) { atT (setT (setT (⟨t.l, up64 t.ch, t.room⟩ : Th) k1 { atT (⟨t.l, up64 t.ch, t.room⟩ : Th) k1 with change := up64 t.ch }) k2 { atT (setT (⟨t.l, up64 t.ch, t.room⟩ : Th) k1 { atT (⟨t.l, up64 t.ch, t.room⟩ : Th) k1 with change := up64 t.ch }) k2 with change := up64 t.ch }) k3 with change := up64 t.ch } q2 rfl rfl inferInstance s2 hq2 rfl ?_
  rw [set_same hq2]
  repeat (first|refine Qa ?_|refine Qd ?_|refine Qe ?_|refine Qi ?_|fail)
  refine SX.round ?_
  have l3 : (setT (setT (setT (⟨t.l, up64 t.ch, t.room⟩ : Th) k1 { atT (⟨t.l, up64 t.ch, t.room⟩ : Th) k1 with change := up64 t.ch }) k2 { atT (setT (⟨t.l, up64 t.ch, t.room⟩ : Th) k1 { atT (⟨t.l, up64 t.ch, t.room⟩ : Th) k1 with change := up64 t.ch }) k2 with change := up64 t.ch }) k3 { atT (setT (setT (⟨t.l, up64 t.ch, t.room⟩ : Th) k1 { atT (⟨t.l, up64 t.ch, t.room⟩ : Th) k1 with change := up64 t.ch }) k2 { atT (setT (⟨t.l, up64 t.ch, t.room⟩ : Th) k1 { atT (⟨t.l, up64 t.ch, t.room⟩ : Th) k1 with change := up64 t.ch }) k2 with change := up64 t.ch }) k3 with change := up64 t.ch }).l.length = 24 := by simp [h24]
  have s3 := at_some (t := (setT (setT (setT (⟨t.l, up64 t.ch, t.room⟩ : Th) k1 { atT (⟨t.l, up64 t.ch, t.room⟩ : Th) k1 with change := up64 t.ch }) k2 { atT (setT (⟨t.l, up64 t.ch, t.room⟩ : Th) k1 { atT (⟨t.l, up64 t.ch, t.room⟩ : Th) k1 with change := up64 t.ch }) k2 with change := up64 t.ch }) k3 { atT (setT (setT (⟨t.l, up64 t.ch, t.room⟩ : Th) k1 { atT (⟨t.l, up64 t.ch, t.room⟩ : Th) k1 with change := up64 t.ch }) k2 { atT (setT (⟨t.l, up64 t.ch, t.room⟩ : Th) k1 { atT (⟨t.l, up64 t.ch, t.room⟩ : Th) k1 with change := up64 t.ch }) k2 with change := up64 t.ch }) k3 with change := up64 t.ch })) (k := k4) (by rw [l3]; exact hk4)
  obtain ⟨q3, hq3⟩ : ∃ q, ps[k4]? = some q := ⟨_, List.getElem?_eq_getElem (by omega)⟩
  haveI gi3 : GetIs [ptX b k1, ptX b k2, ptX b k3, ptX b k4] 3 (ptX b k4) := ⟨rfl⟩
  repeat (first|refine Qa ?_|refine Qd ?_|refine Qe ?_|refine Qf ?_|refine Qg ?_|refine Qh ?_|refine Qk ?_|fail)
  rw [show IntKind.i64.wrap (2 + 1) = 3 from rfl]
  refine SXL.idx rfl rfl rfl rfl rfl (by omega) (by omega) rfl ?_
  refine SXL.same 19 (.pointer (some ⟨gg, 3 * 1, none⟩)) rfl rfl ?_
  repeat (first|refine Qa ?_|refine Qb ?_|refine Qd ?_|refine Qe ?_|refine Qy ?_|fail)
  refine SXL.stSl (ts := (setT (setT (setT (⟨t.l, up64 t.ch, t.room⟩ : Th) k1 { atT (⟨t.l, up64 t.ch, t.room⟩ : Th) k1 with change := up64 t.ch }) k2 { atT (setT (⟨t.l, up64 t.ch, t.room⟩ : Th) k1 { atT (⟨t.l, up64 t.ch, t.room⟩ : Th) k1 with change := up64 t.ch }) k2 with change := up64 t.ch }) k3 { atT (setT (setT (⟨t.l, up64 t.ch, t.room⟩ : Th) k1 { atT (⟨t.l, up64 t.ch, t.room⟩ : Th) k1 with change := up64 t.ch }) k2 { atT (setT (⟨t.l, up64 t.ch, t.room⟩ : Th) k1 { atT (⟨t.l, up64 t.ch, t.room⟩ : Th) k1 with change := up64 t.ch }) k2 with change := up64 t.ch }) k3 with change := up64 t.ch }).l) (ps := ps) { atT (setT (setT (setT (⟨t.l, up64 t.ch, t.room⟩ : Th) k1 { atT (⟨t.l, up64 t.ch, t.room⟩ : Th) k1 with change := up64 t.ch }) k2 { atT (setT (⟨t.l, up64 t.ch, t.room⟩ : Th) k1 { atT (⟨t.l, up64 t.ch, t.room⟩ : Th) k1 with change := up64 t.ch }) k2 with change := up64 t.ch }) k3 { atT (setT (setT (⟨t.l, up64 t.ch, t.room⟩ : Th) k1 { atT (⟨t.l, up64 t.ch, t.room⟩ : Th) k1 with change := up64 t.ch }) k2 { atT (setT (⟨t.l, up64 t.ch, t.room⟩ : Th) k1 { atT (⟨t.l, up64 t.ch, t.room⟩ : Th) k1 with change := up64 t.ch }) k2 with change := up64 t.ch }) k3 with change := up64 t.ch }) k4 with change := up64 t.ch } q3 rfl rfl inferInstance s3 hq3 rfl ?_
  rw [set_same hq3]
  repeat (first|refine Qa ?_|refine Qd ?_|refine Qe ?_|refine Qi ?_|fail)
  refine SX.round ?_
  repeat (first|refine Qa ?_|refine Qd ?_|refine Qe ?_|refine Qf ?_|refine Qj ?_|refine Ql ?_|fail)
  have htch : (setT (setT (setT (setT (⟨t.l, up64 t.ch, t.room⟩ : Th) k1 { atT (⟨t.l, up64 t.ch, t.room⟩ : Th) k1 with change := up64 t.ch }) k2 { atT (setT (⟨t.l, up64 t.ch, t.room⟩ : Th) k1 { atT (⟨t.l, up64 t.ch, t.room⟩ : Th) k1 with change := up64 t.ch }) k2 with change := up64 t.ch }) k3 { atT (setT (setT (⟨t.l, up64 t.ch, t.room⟩ : Th) k1 { atT (⟨t.l, up64 t.ch, t.room⟩ : Th) k1 with change := up64 t.ch }) k2 { atT (setT (⟨t.l, up64 t.ch, t.room⟩ : Th) k1 { atT (⟨t.l, up64 t.ch, t.room⟩ : Th) k1 with change := up64 t.ch }) k2 with change := up64 t.ch }) k3 with change := up64 t.ch }) k4 { atT (setT (setT (setT (⟨t.l, up64 t.ch, t.room⟩ : Th) k1 { atT (⟨t.l, up64 t.ch, t.room⟩ : Th) k1 with change := up64 t.ch }) k2 { atT (setT (⟨t.l, up64 t.ch, t.room⟩ : Th) k1 { atT (⟨t.l, up64 t.ch, t.room⟩ : Th) k1 with change := up64 t.ch }) k2 with change := up64 t.ch }) k3 { atT (setT (setT (⟨t.l, up64 t.ch, t.room⟩ : Th) k1 { atT (⟨t.l, up64 t.ch, t.room⟩ : Th) k1 with change := up64 t.ch }) k2 { atT (setT (⟨t.l, up64 t.ch, t.room⟩ : Th) k1 { atT (⟨t.l, up64 t.ch, t.room⟩ : Th) k1 with change := up64 t.ch }) k2 with change := up64 t.ch }) k3 with change := up64 t.ch }) k4 with change := up64 t.ch }) = [k1, k2, k3, k4].foldl (fun t k => setT t k { atT t k with change := t.ch }) ⟨t.l, up64 t.ch, t.room⟩ := rfl
  have hmm : (setT (setT (setT (setT (⟨t.l, up64 t.ch, t.room⟩ : Th) k1 { atT (⟨t.l, up64 t.ch, t.room⟩ : Th) k1 with change := up64 t.ch }) k2 { atT (setT (⟨t.l, up64 t.ch, t.room⟩ : Th) k1 { atT (⟨t.l, up64 t.ch, t.room⟩ : Th) k1 with change := up64 t.ch }) k2 with change := up64 t.ch }) k3 { atT (setT (setT (⟨t.l, up64 t.ch, t.room⟩ : Th) k1 { atT (⟨t.l, up64 t.ch, t.room⟩ : Th) k1 with change := up64 t.ch }) k2 { atT (setT (⟨t.l, up64 t.ch, t.room⟩ : Th) k1 { atT (⟨t.l, up64 t.ch, t.room⟩ : Th) k1 with change := up64 t.ch }) k2 with change := up64 t.ch }) k3 with change := up64 t.ch }) k4 { atT (setT (setT (setT (⟨t.l, up64 t.ch, t.room⟩ : Th) k1 { atT (⟨t.l, up64 t.ch, t.room⟩ : Th) k1 with change := up64 t.ch }) k2 { atT (setT (⟨t.l, up64 t.ch, t.room⟩ : Th) k1 { atT (⟨t.l, up64 t.ch, t.room⟩ : Th) k1 with change := up64 t.ch }) k2 with change := up64 t.ch }) k3 { atT (setT (setT (⟨t.l, up64 t.ch, t.room⟩ : Th) k1 { atT (⟨t.l, up64 t.ch, t.room⟩ : Th) k1 with change := up64 t.ch }) k2 { atT (setT (⟨t.l, up64 t.ch, t.room⟩ : Th) k1 { atT (⟨t.l, up64 t.ch, t.room⟩ : Th) k1 with change := up64 t.ch }) k2 with change := up64 t.ch }) k3 with change := up64 t.ch }) k4 with change := up64 t.ch }).mid := (touch_fold [k1, k2, k3, k4] ⟨t.l, up64 t.ch, t.room⟩).2.2.2 ⟨hm.n, up64_ok _, hm.m, hm.r⟩
  have hdd : (setT (setT (setT (setT (⟨t.l, up64 t.ch, t.room⟩ : Th) k1 { atT (⟨t.l, up64 t.ch, t.room⟩ : Th) k1 with change := up64 t.ch }) k2 { atT (setT (⟨t.l, up64 t.ch, t.room⟩ : Th) k1 { atT (⟨t.l, up64 t.ch, t.room⟩ : Th) k1 with change := up64 t.ch }) k2 with change := up64 t.ch }) k3 { atT (setT (setT (⟨t.l, up64 t.ch, t.room⟩ : Th) k1 { atT (⟨t.l, up64 t.ch, t.room⟩ : Th) k1 with change := up64 t.ch }) k2 { atT (setT (⟨t.l, up64 t.ch, t.room⟩ : Th) k1 { atT (⟨t.l, up64 t.ch, t.room⟩ : Th) k1 with change := up64 t.ch }) k2 with change := up64 t.ch }) k3 with change := up64 t.ch }) k4 { atT (setT (setT (setT (⟨t.l, up64 t.ch, t.room⟩ : Th) k1 { atT (⟨t.l, up64 t.ch, t.room⟩ : Th) k1 with change := up64 t.ch }) k2 { atT (setT (⟨t.l, up64 t.ch, t.room⟩ : Th) k1 { atT (⟨t.l, up64 t.ch, t.room⟩ : Th) k1 with change := up64 t.ch }) k2 with change := up64 t.ch }) k3 { atT (setT (setT (⟨t.l, up64 t.ch, t.room⟩ : Th) k1 { atT (⟨t.l, up64 t.ch, t.room⟩ : Th) k1 with change := up64 t.ch }) k2 { atT (setT (⟨t.l, up64 t.ch, t.room⟩ : Th) k1 { atT (⟨t.l, up64 t.ch, t.room⟩ : Th) k1 with change := up64 t.ch }) k2 with change := up64 t.ch }) k3 with change := up64 t.ch }) k4 with change := up64 t.ch }).l.map Sl.d = t.l.map Sl.d := (touch_fold [k1, k2, k3, k4] ⟨t.l, up64 t.ch, t.room⟩).2.2.1
  refine SXA.begin (.own (some ⟨pw, 0, none⟩) (cellsR pw (wkC (some ⟨b, 0, none⟩) 24 cap (up64 t.ch) t.room c Ac cc r Ad cd Ae ce) 100) :: .own (some ⟨b, 0, none⟩) (rowR (cellsK 9) 92 (.slice (some ⟨b, 0, none⟩) 24 cap) (slZ (setT (setT (setT (setT (⟨t.l, up64 t.ch, t.room⟩ : Th) k1 { atT (⟨t.l, up64 t.ch, t.room⟩ : Th) k1 with change := up64 t.ch }) k2 { atT (setT (⟨t.l, up64 t.ch, t.room⟩ : Th) k1 { atT (⟨t.l, up64 t.ch, t.room⟩ : Th) k1 with change := up64 t.ch }) k2 with change := up64 t.ch }) k3 { atT (setT (setT (⟨t.l, up64 t.ch, t.room⟩ : Th) k1 { atT (⟨t.l, up64 t.ch, t.room⟩ : Th) k1 with change := up64 t.ch }) k2 { atT (setT (⟨t.l, up64 t.ch, t.room⟩ : Th) k1 { atT (⟨t.l, up64 t.ch, t.room⟩ : Th) k1 with change := up64 t.ch }) k2 with change := up64 t.ch }) k3 with change := up64 t.ch }) k4 { atT (setT (setT (setT (⟨t.l, up64 t.ch, t.room⟩ : Th) k1 { atT (⟨t.l, up64 t.ch, t.room⟩ : Th) k1 with change := up64 t.ch }) k2 { atT (setT (⟨t.l, up64 t.ch, t.room⟩ : Th) k1 { atT (⟨t.l, up64 t.ch, t.room⟩ : Th) k1 with change := up64 t.ch }) k2 with change := up64 t.ch }) k3 { atT (setT (setT (⟨t.l, up64 t.ch, t.room⟩ : Th) k1 { atT (⟨t.l, up64 t.ch, t.room⟩ : Th) k1 with change := up64 t.ch }) k2 { atT (setT (⟨t.l, up64 t.ch, t.room⟩ : Th) k1 { atT (⟨t.l, up64 t.ch, t.room⟩ : Th) k1 with change := up64 t.ch }) k2 with change := up64 t.ch }) k3 with change := up64 t.ch }) k4 with change := up64 t.ch }).l ps)) :: R) [] ?_
  unfold wkC
  refine Qr 0 ?_
  refine Qr 1 ?_
  refine Qr 2 ?_
  refine Qt 3 ?_
  refine Qr 5 ?_
  refine Qr 6 ?_
  refine Qr 7 ?_
  refine Qr 8 ?_
  refine Qt 9 ?_
  refine Qw 4 ?_
  refine SXL.call rfl rfl rfl ?_
  refine (Used_P (ts := (setT (setT (setT (setT (⟨t.l, up64 t.ch, t.room⟩ : Th) k1 { atT (⟨t.l, up64 t.ch, t.room⟩ : Th) k1 with change := up64 t.ch }) k2 { atT (setT (⟨t.l, up64 t.ch, t.room⟩ : Th) k1 { atT (⟨t.l, up64 t.ch, t.room⟩ : Th) k1 with change := up64 t.ch }) k2 with change := up64 t.ch }) k3 { atT (setT (setT (⟨t.l, up64 t.ch, t.room⟩ : Th) k1 { atT (⟨t.l, up64 t.ch, t.room⟩ : Th) k1 with change := up64 t.ch }) k2 { atT (setT (⟨t.l, up64 t.ch, t.room⟩ : Th) k1 { atT (⟨t.l, up64 t.ch, t.room⟩ : Th) k1 with change := up64 t.ch }) k2 with change := up64 t.ch }) k3 with change := up64 t.ch }) k4 { atT (setT (setT (setT (⟨t.l, up64 t.ch, t.room⟩ : Th) k1 { atT (⟨t.l, up64 t.ch, t.room⟩ : Th) k1 with change := up64 t.ch }) k2 { atT (setT (⟨t.l, up64 t.ch, t.room⟩ : Th) k1 { atT (⟨t.l, up64 t.ch, t.room⟩ : Th) k1 with change := up64 t.ch }) k2 with change := up64 t.ch }) k3 { atT (setT (setT (⟨t.l, up64 t.ch, t.room⟩ : Th) k1 { atT (⟨t.l, up64 t.ch, t.room⟩ : Th) k1 with change := up64 t.ch }) k2 { atT (setT (⟨t.l, up64 t.ch, t.room⟩ : Th) k1 { atT (⟨t.l, up64 t.ch, t.room⟩ : Th) k1 with change := up64 t.ch }) k2 with change := up64 t.ch }) k3 with change := up64 t.ch }) k4 with change := up64 t.ch }).l) (ps := ps) inferInstance hmm.n hps hcap hmm.m (callK.ret ?_))
  refine SXL.nil (SXA.next inferInstance ?_)
  refine Qr 10 ?_
  refine Qw 11 ?_
  refine SXL.call rfl rfl rfl ?_
  refine (need_S (F' := R) inferInstance (fun hg => callK.ret ?_) (fun hg => callK.panic ?_))
  rotate_left
  · refine h2 66 ?_
    show (do needE (decide ((usedT (setT (setT (setT (setT (⟨t.l, up64 t.ch, t.room⟩ : Th) k1 { atT (⟨t.l, up64 t.ch, t.room⟩ : Th) k1 with change := up64 t.ch }) k2 { atT (setT (⟨t.l, up64 t.ch, t.room⟩ : Th) k1 { atT (⟨t.l, up64 t.ch, t.room⟩ : Th) k1 with change := up64 t.ch }) k2 with change := up64 t.ch }) k3 { atT (setT (setT (⟨t.l, up64 t.ch, t.room⟩ : Th) k1 { atT (⟨t.l, up64 t.ch, t.room⟩ : Th) k1 with change := up64 t.ch }) k2 { atT (setT (⟨t.l, up64 t.ch, t.room⟩ : Th) k1 { atT (⟨t.l, up64 t.ch, t.room⟩ : Th) k1 with change := up64 t.ch }) k2 with change := up64 t.ch }) k3 with change := up64 t.ch }) k4 { atT (setT (setT (setT (⟨t.l, up64 t.ch, t.room⟩ : Th) k1 { atT (⟨t.l, up64 t.ch, t.room⟩ : Th) k1 with change := up64 t.ch }) k2 { atT (setT (⟨t.l, up64 t.ch, t.room⟩ : Th) k1 { atT (⟨t.l, up64 t.ch, t.room⟩ : Th) k1 with change := up64 t.ch }) k2 with change := up64 t.ch }) k3 { atT (setT (setT (⟨t.l, up64 t.ch, t.room⟩ : Th) k1 { atT (⟨t.l, up64 t.ch, t.room⟩ : Th) k1 with change := up64 t.ch }) k2 { atT (setT (⟨t.l, up64 t.ch, t.room⟩ : Th) k1 { atT (⟨t.l, up64 t.ch, t.room⟩ : Th) k1 with change := up64 t.ch }) k2 with change := up64 t.ch }) k3 with change := up64 t.ch }) k4 with change := up64 t.ch }).l : Int) ≤ t.room)) 66; pure (setT (setT (setT (setT (⟨t.l, up64 t.ch, t.room⟩ : Th) k1 { atT (⟨t.l, up64 t.ch, t.room⟩ : Th) k1 with change := up64 t.ch }) k2 { atT (setT (⟨t.l, up64 t.ch, t.room⟩ : Th) k1 { atT (⟨t.l, up64 t.ch, t.room⟩ : Th) k1 with change := up64 t.ch }) k2 with change := up64 t.ch }) k3 { atT (setT (setT (⟨t.l, up64 t.ch, t.room⟩ : Th) k1 { atT (⟨t.l, up64 t.ch, t.room⟩ : Th) k1 with change := up64 t.ch }) k2 { atT (setT (⟨t.l, up64 t.ch, t.room⟩ : Th) k1 { atT (⟨t.l, up64 t.ch, t.room⟩ : Th) k1 with change := up64 t.ch }) k2 with change := up64 t.ch }) k3 with change := up64 t.ch }) k4 { atT (setT (setT (setT (⟨t.l, up64 t.ch, t.room⟩ : Th) k1 { atT (⟨t.l, up64 t.ch, t.room⟩ : Th) k1 with change := up64 t.ch }) k2 { atT (setT (⟨t.l, up64 t.ch, t.room⟩ : Th) k1 { atT (⟨t.l, up64 t.ch, t.room⟩ : Th) k1 with change := up64 t.ch }) k2 with change := up64 t.ch }) k3 { atT (setT (setT (⟨t.l, up64 t.ch, t.room⟩ : Th) k1 { atT (⟨t.l, up64 t.ch, t.room⟩ : Th) k1 with change := up64 t.ch }) k2 { atT (setT (⟨t.l, up64 t.ch, t.room⟩ : Th) k1 { atT (⟨t.l, up64 t.ch, t.room⟩ : Th) k1 with change := up64 t.ch }) k2 with change := up64 t.ch }) k3 with change := up64 t.ch }) k4 with change := up64 t.ch }) : Ex Th) = _
    rw [hg]
    rfl
  refine SXL.nil (SXA.next inferInstance ?_)
  refine Qv ?_
  refine SX.fin (M' := (.own (some ⟨pw, 0, none⟩) (cellsR pw (wkC (some ⟨b, 0, none⟩) 24 cap (up64 t.ch) t.room c Ac cc r Ad cd Ae ce) 100) :: .own (some ⟨b, 0, none⟩) (rowR (cellsK 9) 92 (.slice (some ⟨b, 0, none⟩) 24 cap) (slZ (setT (setT (setT (setT (⟨t.l, up64 t.ch, t.room⟩ : Th) k1 { atT (⟨t.l, up64 t.ch, t.room⟩ : Th) k1 with change := up64 t.ch }) k2 { atT (setT (⟨t.l, up64 t.ch, t.room⟩ : Th) k1 { atT (⟨t.l, up64 t.ch, t.room⟩ : Th) k1 with change := up64 t.ch }) k2 with change := up64 t.ch }) k3 { atT (setT (setT (⟨t.l, up64 t.ch, t.room⟩ : Th) k1 { atT (⟨t.l, up64 t.ch, t.room⟩ : Th) k1 with change := up64 t.ch }) k2 { atT (setT (⟨t.l, up64 t.ch, t.room⟩ : Th) k1 { atT (⟨t.l, up64 t.ch, t.room⟩ : Th) k1 with change := up64 t.ch }) k2 with change := up64 t.ch }) k3 with change := up64 t.ch }) k4 { atT (setT (setT (setT (⟨t.l, up64 t.ch, t.room⟩ : Th) k1 { atT (⟨t.l, up64 t.ch, t.room⟩ : Th) k1 with change := up64 t.ch }) k2 { atT (setT (⟨t.l, up64 t.ch, t.room⟩ : Th) k1 { atT (⟨t.l, up64 t.ch, t.room⟩ : Th) k1 with change := up64 t.ch }) k2 with change := up64 t.ch }) k3 { atT (setT (setT (⟨t.l, up64 t.ch, t.room⟩ : Th) k1 { atT (⟨t.l, up64 t.ch, t.room⟩ : Th) k1 with change := up64 t.ch }) k2 { atT (setT (⟨t.l, up64 t.ch, t.room⟩ : Th) k1 { atT (⟨t.l, up64 t.ch, t.room⟩ : Th) k1 with change := up64 t.ch }) k2 with change := up64 t.ch }) k3 with change := up64 t.ch }) k4 with change := up64 t.ch }).l ps)) :: R)) rfl Evals.nil ?_ inferInstance
  refine h1 (setT (setT (setT (setT (⟨t.l, up64 t.ch, t.room⟩ : Th) k1 { atT (⟨t.l, up64 t.ch, t.room⟩ : Th) k1 with change := up64 t.ch }) k2 { atT (setT (⟨t.l, up64 t.ch, t.room⟩ : Th) k1 { atT (⟨t.l, up64 t.ch, t.room⟩ : Th) k1 with change := up64 t.ch }) k2 with change := up64 t.ch }) k3 { atT (setT (setT (⟨t.l, up64 t.ch, t.room⟩ : Th) k1 { atT (⟨t.l, up64 t.ch, t.room⟩ : Th) k1 with change := up64 t.ch }) k2 { atT (setT (⟨t.l, up64 t.ch, t.room⟩ : Th) k1 { atT (⟨t.l, up64 t.ch, t.room⟩ : Th) k1 with change := up64 t.ch }) k2 with change := up64 t.ch }) k3 with change := up64 t.ch }) k4 { atT (setT (setT (setT (⟨t.l, up64 t.ch, t.room⟩ : Th) k1 { atT (⟨t.l, up64 t.ch, t.room⟩ : Th) k1 with change := up64 t.ch }) k2 { atT (setT (⟨t.l, up64 t.ch, t.room⟩ : Th) k1 { atT (⟨t.l, up64 t.ch, t.room⟩ : Th) k1 with change := up64 t.ch }) k2 with change := up64 t.ch }) k3 { atT (setT (setT (⟨t.l, up64 t.ch, t.room⟩ : Th) k1 { atT (⟨t.l, up64 t.ch, t.room⟩ : Th) k1 with change := up64 t.ch }) k2 { atT (setT (⟨t.l, up64 t.ch, t.room⟩ : Th) k1 { atT (⟨t.l, up64 t.ch, t.room⟩ : Th) k1 with change := up64 t.ch }) k2 with change := up64 t.ch }) k3 with change := up64 t.ch }) k4 with change := up64 t.ch }) ?_ hmm hdd
  show (do needE (decide ((usedT (setT (setT (setT (setT (⟨t.l, up64 t.ch, t.room⟩ : Th) k1 { atT (⟨t.l, up64 t.ch, t.room⟩ : Th) k1 with change := up64 t.ch }) k2 { atT (setT (⟨t.l, up64 t.ch, t.room⟩ : Th) k1 { atT (⟨t.l, up64 t.ch, t.room⟩ : Th) k1 with change := up64 t.ch }) k2 with change := up64 t.ch }) k3 { atT (setT (setT (⟨t.l, up64 t.ch, t.room⟩ : Th) k1 { atT (⟨t.l, up64 t.ch, t.room⟩ : Th) k1 with change := up64 t.ch }) k2 { atT (setT (⟨t.l, up64 t.ch, t.room⟩ : Th) k1 { atT (⟨t.l, up64 t.ch, t.room⟩ : Th) k1 with change := up64 t.ch }) k2 with change := up64 t.ch }) k3 with change := up64 t.ch }) k4 { atT (setT (setT (setT (⟨t.l, up64 t.ch, t.room⟩ : Th) k1 { atT (⟨t.l, up64 t.ch, t.room⟩ : Th) k1 with change := up64 t.ch }) k2 { atT (setT (⟨t.l, up64 t.ch, t.room⟩ : Th) k1 { atT (⟨t.l, up64 t.ch, t.room⟩ : Th) k1 with change := up64 t.ch }) k2 with change := up64 t.ch }) k3 { atT (setT (setT (⟨t.l, up64 t.ch, t.room⟩ : Th) k1 { atT (⟨t.l, up64 t.ch, t.room⟩ : Th) k1 with change := up64 t.ch }) k2 { atT (setT (⟨t.l, up64 t.ch, t.room⟩ : Th) k1 { atT (⟨t.l, up64 t.ch, t.room⟩ : Th) k1 with change := up64 t.ch }) k2 with change := up64 t.ch }) k3 with change := up64 t.ch }) k4 with change := up64 t.ch }).l : Int) ≤ t.room)) 66; pure (setT (setT (setT (setT (⟨t.l, up64 t.ch, t.room⟩ : Th) k1 { atT (⟨t.l, up64 t.ch, t.room⟩ : Th) k1 with change := up64 t.ch }) k2 { atT (setT (⟨t.l, up64 t.ch, t.room⟩ : Th) k1 { atT (⟨t.l, up64 t.ch, t.room⟩ : Th) k1 with change := up64 t.ch }) k2 with change := up64 t.ch }) k3 { atT (setT (setT (⟨t.l, up64 t.ch, t.room⟩ : Th) k1 { atT (⟨t.l, up64 t.ch, t.room⟩ : Th) k1 with change := up64 t.ch }) k2 { atT (setT (⟨t.l, up64 t.ch, t.room⟩ : Th) k1 { atT (⟨t.l, up64 t.ch, t.room⟩ : Th) k1 with change := up64 t.ch }) k2 with change := up64 t.ch }) k3 with change := up64 t.ch }) k4 { atT (setT (setT (setT (⟨t.l, up64 t.ch, t.room⟩ : Th) k1 { atT (⟨t.l, up64 t.ch, t.room⟩ : Th) k1 with change := up64 t.ch }) k2 { atT (setT (⟨t.l, up64 t.ch, t.room⟩ : Th) k1 { atT (⟨t.l, up64 t.ch, t.room⟩ : Th) k1 with change := up64 t.ch }) k2 with change := up64 t.ch }) k3 { atT (setT (setT (⟨t.l, up64 t.ch, t.room⟩ : Th) k1 { atT (⟨t.l, up64 t.ch, t.room⟩ : Th) k1 with change := up64 t.ch }) k2 { atT (setT (⟨t.l, up64 t.ch, t.room⟩ : Th) k1 { atT (⟨t.l, up64 t.ch, t.room⟩ : Th) k1 with change := up64 t.ch }) k2 with change := up64 t.ch }) k3 with change := up64 t.ch }) k4 with change := up64 t.ch }) : Ex Th) = _
  rw [hg]
  rfl
end
end Go.Proofs.YtanemmcddgkpdaaGreat.Sx
end
section
/- Chapter 13: what is no directory renamed, walked; conditions: those that each theorem names. -/
namespace Go.Proofs.YtanemmcddgkpdaaGreat.Sx
open Go.RowKit Go.Proofs.YtanemmcddgkpdaaGreat.Hm Go.Proofs.YtanemmcddgkpdaaGreatW.PrintWords Go.Proofs.YtanemmcddgkpdaaGreatW.PrintLast Go.Proofs.YtanemmcddgkpdaaGreatW.PrintMore
set_option linter.unusedVariables false
set_option linter.unusedSimpArgs false
attribute [local irreducible] SX SXL SXA St callK Post Evals
section
variable {P : Program} {fn : Func} {K : Ending → List Thing → Prop} {N : Nat} {k : List It} {a : Fr} {M R : List Thing} {ops : Array Oper} {rest : List Oper} {T : List (Nat × TI)} {d : Nat} {ty : TypeId} {pos : String} {af : Array Edge}
theorem SXL.eqPtr [hT : TOk P T] {x y : Operand} {t t' e b o1 o2 : Nat} {te : TI} (hx : evalO a x = some (.pointer (some ⟨b, o1, none⟩))) (hy : evalO a y = some (.pointer (some ⟨b, o2, none⟩))) (hu : P.underlying t = some (.pointer e)) (hl : lookT T e = some te) (hsz : Nat.beq te.size 0 = false) (hd : Nat.blt d N = true)
    (hK : SXL P fn K N k ops rest ((d, .bool (decide (o1 = o2))) :: a) M) : SXL P fn K N k ops (⟨some d, .binOp .eql t x y t', ty, pos, af, none⟩ :: rest) a M :=
  SXL.val hd (fun act w s => by
    have hs := (tok (P := P) hl).size w
    have hne : te.size ≠ 0 := fun h => by rw [h] at hsz; cases hsz
    have hq : (Op.equal t (.pointer (some ⟨b, o1, none⟩)) (.pointer (some ⟨b, o2, none⟩))).run P w = .ok (decide (o1 = o2)) w := by
      show (Op.equalIn (9999 + 1) t _ _).run P w = _
      unfold Op.equalIn
      simp only [Sem.run_bind, run_underlying hu, Result.andThen_ok, hs]
      rw [if_pos hne]
      unfold sameAddr
      have h9 : ((⟨b, o1, none⟩ : Addr) == ⟨b, o2, none⟩) = decide (o1 = o2) := by
        by_cases h : o1 = o2
        · subst h; simp
        · simp [h]
      simp [h9]
    have hg : eqGuard .eql t x y (.pointer (some ⟨b, o1, none⟩)) (.pointer (some ⟨b, o2, none⟩)) = (Pure.pure () : Sem Unit) := by cases x <;> cases y <;> rfl
    simp [execOp, evalO_ok s.fits hx, evalO_ok s.fits hy, binOp, hg, hq]) hK
end
end Go.Proofs.YtanemmcddgkpdaaGreat.Sx
end
