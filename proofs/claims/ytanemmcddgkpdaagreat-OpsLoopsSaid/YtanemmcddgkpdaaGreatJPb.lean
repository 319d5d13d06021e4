/- Chapter 13: is a handle a directory's, or one's below it, walked; conditions: those that each theorem names. -/
import Derived.Test.YtanemmcddgkpdaaGreatJYv
import Derived.Test.YtanemmcddgkpdaaGreatJSu
import Derived.Test.YtanemmcddgkpdaaGreatJPa
import Derived.Test.YtanemmcddgkpdaaGreatJN0
namespace Go.Proofs.YtanemmcddgkpdaaGreat.Sx
open Go.RowKit Go.Proofs.YtanemmcddgkpdaaGreat.Hm Go.Proofs.YtanemmcddgkpdaaGreatW.PrintWords Go.Proofs.YtanemmcddgkpdaaGreatW.PrintLast Go.Proofs.YtanemmcddgkpdaaGreatW.PrintMore
set_option linter.unusedVariables false
set_option linter.unusedSimpArgs false
attribute [local irreducible] SX SXL SXA St callK Post Evals
set_option maxRecDepth 20000 in
instance pairH : PairT Tryz.prog 35 := PairT.mk' (T := te) eqH13 Tryz.underlying35 rfl rfl rfl Tryz.underlying33 Tryz.underlying33 (fun _ _ => rfl)
section
variable {F R : List Thing} {K : Ending → List Thing → Prop} {b pw cap cc cd ce k to' : Nat} {Ac Ad Ae : Option Addr} {c : Ca} {r : Re} {s : Sl} {x : Pl} {hi hg : Int}
set_option maxRecDepth 20000 in
set_option maxHeartbeats 8000000 in
theorem below_S (t : Th) (ps : List Pl) (hm : t.mid) (hps : ps.length = 24) (hcap : 24 ≤ cap) (hat : At (some ⟨pw, 0, none⟩) F (wkM pw b cap t c Ac cc r Ad cd Ae ce) R) (hr : Ro (cellsK 9) (some ⟨b, 0, none⟩) F (slZ t.l ps)) (hd : Has (datR t.l ps) F)
    (hs : t.l[k]? = some s) (hx : ps[k]? = some x) (hdir : s.kind = 2) (hno : s.ino = (k : Int)) (hh : u32ok hi ∧ u32ok hg) (hf : folderE t hi hg = .ok to') (h : K (.returned (.bool (belowB t k to'))) F) :
    Fn (Tryz.prog) 81 [.pointer (some ⟨pw, 0, none⟩), .pointer (some ⟨b, k * 9, none⟩), .agg #[.int .u32 hi, .int .u32 hg]] F K := by
  unfold wkM wkC at hat
  haveI gs1 : GetIs t.l k s := ⟨hs⟩
  haveI gs2 : GetIs ps k x := ⟨hx⟩
  have hk24 : k < 24 := by have := (List.getElem?_eq_some_iff.1 hs).1; rw [hm.n] at this; exact this
  have hsm := hm.at hs
  have ha : atT t k = s := atT_get hs
  have hI0 : BI t k (hi, hg) 0 [((k : Int), (atT t k).gen)] [] := BI.start hk24 (by rw [ha]; exact hdir) (by rw [ha]; exact hsm.w.gen)
  refine Fn.enter Tryz.call81 Tryz.func81 rfl rfl rfl ?_
  repeat (first|refine Qa ?_|refine Qb ?_|refine Qc ?_|refine Qd ?_|refine Qe ?_|refine Qf ?_|refine Qg ?_|refine Qh ?_|refine Qi ?_|refine Qj ?_|refine Qk ?_|refine Ql ?_|refine Qm ?_|refine Qn ?_|refine Qo ?_|refine Qp ?_|refine Qq ?_|fail)
  refine SXL.box rfl rfl rfl (fun q => ?_)
  repeat (first|refine Qa ?_|refine Qb ?_|refine Qc ?_|refine Qd ?_|refine Qe ?_|refine Qf ?_|refine Qg ?_|refine Qh ?_|refine Qi ?_|refine Qj ?_|refine Qk ?_|refine Ql ?_|refine Qm ?_|refine Qn ?_|refine Qo ?_|refine Qp ?_|refine Qq ?_|fail)
  refine SXL.mkPairs rfl (fun gm => ?_)
  repeat (first|refine Qa ?_|refine Qb ?_|refine Qc ?_|refine Qd ?_|refine Qe ?_|refine Qf ?_|refine Qg ?_|refine Qh ?_|refine Qi ?_|refine Qj ?_|refine Qk ?_|refine Ql ?_|refine Qm ?_|refine Qn ?_|refine Qo ?_|refine Qp ?_|refine Qq ?_|refine Qx ?_|refine Qy ?_|fail)
  refine SXL.call rfl rfl rfl ?_
  refine (Handle_S (s := s) (A := x.1) (c := x.2) (callK.ret ?_))
  rw [hno]
  repeat (first|refine Qa ?_|refine Qb ?_|refine Qc ?_|refine Qd ?_|refine Qe ?_|refine Qf ?_|refine Qg ?_|refine Qh ?_|refine Qi ?_|refine Qj ?_|refine Qk ?_|refine Ql ?_|refine Qm ?_|refine Qn ?_|refine Qo ?_|refine Qp ?_|refine Qq ?_|fail)
  refine SXL.lit rfl rfl (fun g => ?_)
  refine SXL.ownLit (cellsK 2) g [hX ((k : Int), s.gen)] inferInstance (fun w ok => (Reps.none _ _).snoc (Flat.inM (d := cellsK 2) w 0 ok (hX ((k : Int), s.gen))) rfl) (by simp) ?_
  rw [ha] at hI0
  repeat (first|refine Qa ?_|refine Qb ?_|refine Qc ?_|refine Qd ?_|refine Qe ?_|refine Qf ?_|refine Qg ?_|refine Qh ?_|refine Qi ?_|refine Qj ?_|refine Qk ?_|refine Ql ?_|refine Qm ?_|refine Qn ?_|refine Qo ?_|refine Qp ?_|refine Qq ?_|fail)
  refine SX.loop (fun z a M => ∃ (i : Nat) (row seen : List (Int × Int)) (A8 : Option Addr) (c8 : Nat), BI t k (hi, hg) i row seen ∧ z = 1000 * newN t seen + (row.length - i) ∧ (row.map hX).length ≤ c8 ∧ a = [(0, .pointer (some ⟨pw, 0, none⟩)), (5, .pointer (some ⟨q, 0, none⟩)), (7, .map (some gm)), (8, .slice A8 ((row).map hX).length c8), (9, .int .i64 i)] ∧ (.own A8 (rowR (cellsK 2) 35 (.slice A8 ((row).map hX).length c8) ((row).map hX)) :: .own (some ⟨gm, 0, none⟩) (hmapR gm seen) :: .own (some ⟨q, 0, none⟩) (cellsR q [.int .u32 hi, .int .u32 hg] 35) :: F) = M)
    _ ⟨0, [((k : Int), s.gen)], [], some ⟨g, 0, none⟩, 1, hI0, rfl, by simp, rfl, rfl⟩ (by repeat (first | exact trivial | refine ⟨rfl, ?_⟩)) (by rw [List.map_cons, List.map_nil]; infer_instance) ?_
  clear hI0
  rintro z _ _ ⟨i, row, seen, A8, c8, hI, hz, hc8, rfl, rfl⟩
  have hsz := hI.sz
  have hrl : row.length ≤ 18433 := by omega
  have hml : (row.map hX).length = row.length := List.length_map ..
  repeat (first|refine Qa ?_|refine Qb ?_|refine Qc ?_|refine Qd ?_|refine Qe ?_|refine Qf ?_|refine Qg ?_|refine Qh ?_|refine Qi ?_|refine Qj ?_|refine Qk ?_|refine Ql ?_|refine Qm ?_|refine Qn ?_|refine Qo ?_|refine Qp ?_|refine Qq ?_|fail)
  refine SX.condp rfl (fun hil => ?_) (fun hil => ?_)
  rotate_left
  · have hie : i = row.length := by have := hI.le; omega
    subst hie
    have hnr := hI.done hk24 (by rw [ha]; exact hdir) hf hh
    rw [belowB_f hnr] at h
    repeat (first|refine Qa ?_|refine Qb ?_|refine Qc ?_|refine Qd ?_|refine Qe ?_|refine Qf ?_|refine Qg ?_|refine Qh ?_|refine Qi ?_|refine Qj ?_|refine Qk ?_|refine Ql ?_|refine Qm ?_|refine Qn ?_|refine Qo ?_|refine Qp ?_|refine Qq ?_|fail)
    refine SX.ret (M' := F) rfl (Evals.tmp rfl Evals.nil) ?_ inferInstance
    exact h
  have hil2 : i < row.length := by omega
  obtain ⟨p, hp⟩ : ∃ p, row[i]? = some p := ⟨_, List.getElem?_eq_getElem hil2⟩
  have hpo := hI.ok p (List.mem_of_getElem? hp)
  have hpx : (row.map hX)[i]? = some (hX p) := by rw [List.getElem?_map, hp]; rfl
  refine SX.addrOwn (A := A8) (cellsK 2) inferInstance (by omega) (fun b8 e8 => ?_)
  subst e8
  repeat (first|refine Qa ?_|refine Qb ?_|refine Qc ?_|refine Qd ?_|refine Qe ?_|refine Qf ?_|refine Qg ?_|refine Qh ?_|refine Qi ?_|refine Qj ?_|refine Qk ?_|refine Ql ?_|refine Qm ?_|refine Qn ?_|refine Qo ?_|refine Qp ?_|refine Qq ?_|fail)
  refine SXA.begin (.own (some ⟨b8, 0, none⟩) (rowR (cellsK 2) 35 (.slice (some ⟨b8, 0, none⟩) ((row).map hX).length c8) ((row).map hX)) :: .own (some ⟨gm, 0, none⟩) (hmapR gm seen) :: .own (some ⟨q, 0, none⟩) (cellsR q [.int .u32 hi, .int .u32 hg] 35) :: F) [] ?_
  (first|refine Qr 0 ?_|refine Qs 0 ?_|refine Qt 0 ?_|refine Qu 0 ?_|fail)
  (first|refine Qr 1 ?_|refine Qs 1 ?_|refine Qt 1 ?_|refine Qu 1 ?_|fail)
  refine SXA.idx 2 rfl (by decide +kernel) rfl rfl rfl rfl rfl rfl (by omega) (by omega) rfl inferInstance ?_
  refine SXA.loadRow 3 (cellsK 2) rfl (by decide +kernel) rfl rfl rfl inferInstance (by rw [Int.toNat_natCast]; exact hpx) rfl rfl inferInstance ?_
  (first|refine Qr 4 ?_|refine Qs 4 ?_|refine Qt 4 ?_|refine Qu 4 ?_|fail)
  refine Qw 5 ?_
  refine SXL.eqAgg rfl rfl eqH13 rfl rfl rfl rfl ?_
  refine SXL.nil (SXA.next inferInstance ?_)
  refine Qv ?_
  refine SX.cond rfl (fun he => ?_) (fun he => ?_)
  · have hpe : p = (hi, hg) := by rw [Bool.and_eq_true, beq_iff_eq, beq_iff_eq] at he; exact Prod.ext he.1 he.2
    rw [belowB_t (hI.found (by rw [hp, hpe]) hf)] at h
    repeat (first|refine Qa ?_|refine Qb ?_|refine Qc ?_|refine Qd ?_|refine Qe ?_|refine Qf ?_|refine Qg ?_|refine Qh ?_|refine Qi ?_|refine Qj ?_|refine Qk ?_|refine Ql ?_|refine Qm ?_|refine Qn ?_|refine Qo ?_|refine Qp ?_|refine Qq ?_|fail)
    refine SX.ret (M' := F) rfl (Evals.tmp rfl Evals.nil) ?_ inferInstance
    exact h
  have hpe : p ≠ (hi, hg) := fun e => by rw [e] at he; simp at he
  repeat (first|refine Qa ?_|refine Qb ?_|refine Qc ?_|refine Qd ?_|refine Qe ?_|refine Qf ?_|refine Qg ?_|refine Qh ?_|refine Qi ?_|refine Qj ?_|refine Qk ?_|refine Ql ?_|refine Qm ?_|refine Qn ?_|refine Qo ?_|refine Qp ?_|refine Qq ?_|fail)
  refine SXL.idx rfl rfl rfl rfl rfl (by omega) (by omega) rfl ?_
  repeat (first|refine Qa ?_|refine Qb ?_|refine Qc ?_|refine Qd ?_|refine Qe ?_|refine Qf ?_|refine Qg ?_|refine Qh ?_|refine Qi ?_|refine Qj ?_|refine Qk ?_|refine Ql ?_|refine Qm ?_|refine Qn ?_|refine Qo ?_|refine Qp ?_|refine Qq ?_|fail)
  refine SXL.loadRow (cellsK 2) rfl rfl inferInstance (by rw [Int.toNat_natCast]; exact hpx) rfl rfl ?_
  repeat (first|refine Qa ?_|refine Qb ?_|refine Qc ?_|refine Qd ?_|refine Qe ?_|refine Qf ?_|refine Qg ?_|refine Qh ?_|refine Qi ?_|refine Qj ?_|refine Qk ?_|refine Ql ?_|refine Qm ?_|refine Qn ?_|refine Qo ?_|refine Qp ?_|refine Qq ?_|fail)
  refine SXL.hasPair (p := p) rfl rfl inferInstance Tryz.underlying173 rfl rfl rfl ?_
  repeat (first|refine Qa ?_|refine Qb ?_|refine Qc ?_|refine Qd ?_|refine Qe ?_|refine Qf ?_|refine Qg ?_|refine Qh ?_|refine Qi ?_|refine Qj ?_|refine Qk ?_|refine Ql ?_|refine Qm ?_|refine Qn ?_|refine Qo ?_|refine Qp ?_|refine Qq ?_|fail)
  by_cases hin : p ∈ seen
  · refine SXL.know 37 true rfl (decide_eq_true hin) ?_
    repeat (first|refine Qa ?_|refine Qb ?_|refine Qc ?_|refine Qd ?_|refine Qe ?_|refine Qf ?_|refine Qg ?_|refine Qh ?_|refine Qi ?_|refine Qj ?_|refine Qk ?_|refine Ql ?_|refine Qm ?_|refine Qn ?_|refine Qo ?_|refine Qp ?_|refine Qq ?_|fail)
    refine SX.same 9 (.int .i64 ((i + 1 : Nat) : Int)) rfl (by simp (disch := omega) only [IntWalk.i64_in, IntWalk.u8_in, IntWalk.u32_in, IntWalk.u64_in, IntWalk.rem_in, Int.natCast_add, Int.natCast_one]) ?_
    refine SX.again (1000 * newN t seen + (row.length - (i + 1))) (by omega) ⟨i + 1, row, seen, some ⟨b8, 0, none⟩, c8, hI.skip hp hpe (Or.inl hin), rfl, hc8, rfl, rfl⟩ (by repeat (first | exact trivial | refine ⟨rfl, ?_⟩)) inferInstance
  refine SXL.know 37 false rfl (decide_eq_false hin) ?_
  repeat (first|refine Qa ?_|refine Qb ?_|refine Qc ?_|refine Qd ?_|refine Qe ?_|refine Qf ?_|refine Qg ?_|refine Qh ?_|refine Qi ?_|refine Qj ?_|refine Qk ?_|refine Ql ?_|refine Qm ?_|refine Qn ?_|refine Qo ?_|refine Qp ?_|refine Qq ?_|fail)
  refine SXL.idx rfl rfl rfl rfl rfl (by omega) (by omega) rfl ?_
  repeat (first|refine Qa ?_|refine Qb ?_|refine Qc ?_|refine Qd ?_|refine Qe ?_|refine Qf ?_|refine Qg ?_|refine Qh ?_|refine Qi ?_|refine Qj ?_|refine Qk ?_|refine Ql ?_|refine Qm ?_|refine Qn ?_|refine Qo ?_|refine Qp ?_|refine Qq ?_|fail)
  refine SXL.loadRow1 (cellsK 2) rfl rfl inferInstance (by rw [Int.toNat_natCast]; exact hpx) rfl rfl ?_
  repeat (first|refine Qa ?_|refine Qb ?_|refine Qc ?_|refine Qd ?_|refine Qe ?_|refine Qf ?_|refine Qg ?_|refine Qh ?_|refine Qi ?_|refine Qj ?_|refine Qk ?_|refine Ql ?_|refine Qm ?_|refine Qn ?_|refine Qo ?_|refine Qp ?_|refine Qq ?_|fail)
  refine SX.condp rfl (fun h24 => ?_) (fun h24 => ?_)
  · repeat (first|refine Qa ?_|refine Qb ?_|refine Qc ?_|refine Qd ?_|refine Qe ?_|refine Qf ?_|refine Qg ?_|refine Qh ?_|refine Qi ?_|refine Qj ?_|refine Qk ?_|refine Ql ?_|refine Qm ?_|refine Qn ?_|refine Qo ?_|refine Qp ?_|refine Qq ?_|fail)
    refine SX.same 9 (.int .i64 ((i + 1 : Nat) : Int)) rfl (by simp (disch := omega) only [IntWalk.i64_in, IntWalk.u8_in, IntWalk.u32_in, IntWalk.u64_in, IntWalk.rem_in, Int.natCast_add, Int.natCast_one]) ?_
    refine SX.again (1000 * newN t seen + (row.length - (i + 1))) (by omega) ⟨i + 1, row, seen, some ⟨b8, 0, none⟩, c8, hI.skip hp hpe (Or.inr (by omega)), rfl, hc8, rfl, rfl⟩ (by repeat (first | exact trivial | refine ⟨rfl, ?_⟩)) inferInstance
  have hp24 : p.1 < 24 := by omega
  have hp0 := hpo.1.1
  repeat (first|refine Qa ?_|refine Qb ?_|refine Qc ?_|refine Qd ?_|refine Qe ?_|refine Qf ?_|refine Qg ?_|refine Qh ?_|refine Qi ?_|refine Qj ?_|refine Qk ?_|refine Ql ?_|refine Qm ?_|refine Qn ?_|refine Qo ?_|refine Qp ?_|refine Qq ?_|fail)
  refine SXL.idx rfl rfl rfl rfl rfl (by omega) (by omega) rfl ?_
  repeat (first|refine Qa ?_|refine Qb ?_|refine Qc ?_|refine Qd ?_|refine Qe ?_|refine Qf ?_|refine Qg ?_|refine Qh ?_|refine Qi ?_|refine Qj ?_|refine Qk ?_|refine Ql ?_|refine Qm ?_|refine Qn ?_|refine Qo ?_|refine Qp ?_|refine Qq ?_|fail)
  refine SXL.loadRow (cellsK 2) rfl rfl inferInstance (by rw [Int.toNat_natCast]; exact hpx) rfl rfl ?_
  refine SXL.putPair (p := p) rfl rfl rfl inferInstance Tryz.underlying173 hin ?_
  repeat (first|refine Qa ?_|refine Qb ?_|refine Qc ?_|refine Qd ?_|refine Qe ?_|refine Qf ?_|refine Qg ?_|refine Qh ?_|refine Qi ?_|refine Qj ?_|refine Qk ?_|refine Ql ?_|refine Qm ?_|refine Qn ?_|refine Qo ?_|refine Qp ?_|refine Qq ?_|fail)
  obtain ⟨s', hs'⟩ : ∃ s', t.l[p.1.toNat]? = some s' := ⟨_, List.getElem?_eq_getElem (by rw [hm.n]; omega)⟩
  obtain ⟨x', hx'⟩ : ∃ x', ps[p.1.toNat]? = some x' := ⟨_, List.getElem?_eq_getElem (by omega)⟩
  haveI gs3 : GetIs t.l p.1.toNat s' := ⟨hs'⟩
  haveI gs4 : GetIs ps p.1.toNat x' := ⟨hx'⟩
  have ha' : atT t p.1.toNat = s' := atT_get hs'
  have hsm' := hm.at hs'
  refine SXA.begin (.own (some ⟨b8, 0, none⟩) (rowR (cellsK 2) 35 (.slice (some ⟨b8, 0, none⟩) ((row).map hX).length c8) ((row).map hX)) :: .own (some ⟨gm, 0, none⟩) (hmapR gm (seen ++ [p])) :: .own (some ⟨q, 0, none⟩) (cellsR q [.int .u32 hi, .int .u32 hg] 35) :: F) [] ?_
  (first|refine Qr 0 ?_|refine Qs 0 ?_|refine Qt 0 ?_|refine Qu 0 ?_|fail)
  (first|refine Qr 1 ?_|refine Qs 1 ?_|refine Qt 1 ?_|refine Qu 1 ?_|fail)
  (first|refine Qr 2 ?_|refine Qs 2 ?_|refine Qt 2 ?_|refine Qu 2 ?_|fail)
  (first|refine Qr 3 ?_|refine Qs 3 ?_|refine Qt 3 ?_|refine Qu 3 ?_|fail)
  (first|refine Qr 4 ?_|refine Qs 4 ?_|refine Qt 4 ?_|refine Qu 4 ?_|fail)
  (first|refine Qr 5 ?_|refine Qs 5 ?_|refine Qt 5 ?_|refine Qu 5 ?_|fail)
  (first|refine Qr 6 ?_|refine Qs 6 ?_|refine Qt 6 ?_|refine Qu 6 ?_|fail)
  refine SXA.idx 7 rfl (by decide +kernel) rfl rfl rfl rfl rfl rfl (by omega) (by omega) rfl inferInstance ?_
  (first|refine Qr 8 ?_|refine Qs 8 ?_|refine Qt 8 ?_|refine Qu 8 ?_|fail)
  refine SXA.loadRow1 9 (cellsK 2) rfl (by decide +kernel) rfl rfl rfl inferInstance (by rw [Int.toNat_natCast]; exact hpx) rfl rfl inferInstance ?_
  refine SXA.idx 10 rfl (by decide +kernel) rfl rfl rfl rfl rfl rfl (by omega) (by omega) rfl inferInstance ?_
  (first|refine Qr 11 ?_|refine Qs 11 ?_|refine Qt 11 ?_|refine Qu 11 ?_|fail)
  refine Qv ?_
  refine SX.same 10 (.pointer (some ⟨b, p.1.toNat * 9, none⟩)) rfl (by simp) ?_
  repeat (first|refine Qa ?_|refine Qb ?_|refine Qc ?_|refine Qd ?_|refine Qe ?_|refine Qf ?_|refine Qg ?_|refine Qh ?_|refine Qi ?_|refine Qj ?_|refine Qk ?_|refine Ql ?_|refine Qm ?_|refine Qn ?_|refine Qo ?_|refine Qp ?_|refine Qq ?_|fail)
  refine SXA.begin (.own (some ⟨b8, 0, none⟩) (rowR (cellsK 2) 35 (.slice (some ⟨b8, 0, none⟩) ((row).map hX).length c8) ((row).map hX)) :: .own (some ⟨gm, 0, none⟩) (hmapR gm (seen ++ [p])) :: .own (some ⟨q, 0, none⟩) (cellsR q [.int .u32 hi, .int .u32 hg] 35) :: F) [] ?_
  (first|refine Qr 0 ?_|refine Qs 0 ?_|refine Qxa 0 ?_|refine Qya 0 ?_|refine Qt 0 ?_|refine Qu 0 ?_|fail)
  (first|refine Qr 1 ?_|refine Qs 1 ?_|refine Qxa 1 ?_|refine Qya 1 ?_|refine Qt 1 ?_|refine Qu 1 ?_|fail)
  (first|refine Qr 2 ?_|refine Qs 2 ?_|refine Qxa 2 ?_|refine Qya 2 ?_|refine Qt 2 ?_|refine Qu 2 ?_|fail)
  (first|refine Qr 3 ?_|refine Qs 3 ?_|refine Qxa 3 ?_|refine Qya 3 ?_|refine Qt 3 ?_|refine Qu 3 ?_|fail)
  (first|refine Qr 4 ?_|refine Qs 4 ?_|refine Qxa 4 ?_|refine Qya 4 ?_|refine Qt 4 ?_|refine Qu 4 ?_|fail)
  (first|refine Qr 5 ?_|refine Qs 5 ?_|refine Qxa 5 ?_|refine Qya 5 ?_|refine Qt 5 ?_|refine Qu 5 ?_|fail)
  by_cases hkd : s'.kind = 2
  rotate_left
  · refine SXA.know 66 true rfl (by simpa using hkd) ?_
    (first|refine Qr 6 ?_|refine Qs 6 ?_|refine Qt 6 ?_|refine Qu 6 ?_|fail)
    (first|refine Qr 7 ?_|refine Qs 7 ?_|refine Qt 7 ?_|refine Qu 7 ?_|fail)
    (first|refine Qr 8 ?_|refine Qs 8 ?_|refine Qt 8 ?_|refine Qu 8 ?_|fail)
    (first|refine Qr 9 ?_|refine Qs 9 ?_|refine Qt 9 ?_|refine Qu 9 ?_|fail)
    (first|refine Qr 10 ?_|refine Qs 10 ?_|refine Qt 10 ?_|refine Qu 10 ?_|fail)
    (first|refine Qr 11 ?_|refine Qs 11 ?_|refine Qt 11 ?_|refine Qu 11 ?_|fail)
    (first|refine Qr 12 ?_|refine Qs 12 ?_|refine Qt 12 ?_|refine Qu 12 ?_|fail)
    (first|refine Qr 13 ?_|refine Qs 13 ?_|refine Qt 13 ?_|refine Qu 13 ?_|fail)
    (first|refine Qr 14 ?_|refine Qs 14 ?_|refine Qt 14 ?_|refine Qu 14 ?_|fail)
    (first|refine Qr 15 ?_|refine Qs 15 ?_|refine Qt 15 ?_|refine Qu 15 ?_|fail)
    (first|refine Qr 16 ?_|refine Qs 16 ?_|refine Qt 16 ?_|refine Qu 16 ?_|fail)
    refine Qv ?_
    repeat (first|refine Qa ?_|refine Qb ?_|refine Qc ?_|refine Qd ?_|refine Qe ?_|refine Qf ?_|refine Qg ?_|refine Qh ?_|refine Qi ?_|refine Qj ?_|refine Qk ?_|refine Ql ?_|refine Qm ?_|refine Qn ?_|refine Qo ?_|refine Qp ?_|refine Qq ?_|fail)
    have hn9 := newN_le t seen p
    refine SX.same 9 (.int .i64 ((i + 1 : Nat) : Int)) rfl (by simp (disch := omega) only [IntWalk.i64_in, IntWalk.u8_in, IntWalk.u32_in, IntWalk.u64_in, IntWalk.rem_in, Int.natCast_add, Int.natCast_one]) ?_
    refine SX.again (1000 * newN t (seen ++ [p]) + (row.length - (i + 1))) (by omega) ⟨i + 1, row, (seen ++ [p]), some ⟨b8, 0, none⟩, c8, hI.leaf hp hpe (fun a ha9 => hkd (by have h9 := folderE_ok ha9; rw [← h9.2.1, ha'] at h9; exact h9.2.2.1)), rfl, hc8, rfl, rfl⟩ (by repeat (first | exact trivial | refine ⟨rfl, ?_⟩)) inferInstance
  refine SXA.know 66 false rfl (by simpa using hkd) ?_
  (first|refine Qr 6 ?_|refine Qs 6 ?_|refine Qxa 6 ?_|refine Qya 6 ?_|refine Qt 6 ?_|refine Qu 6 ?_|fail)
  (first|refine Qr 7 ?_|refine Qs 7 ?_|refine Qxa 7 ?_|refine Qya 7 ?_|refine Qt 7 ?_|refine Qu 7 ?_|fail)
  (first|refine Qr 8 ?_|refine Qs 8 ?_|refine Qxa 8 ?_|refine Qya 8 ?_|refine Qt 8 ?_|refine Qu 8 ?_|fail)
  (first|refine Qr 9 ?_|refine Qs 9 ?_|refine Qxa 9 ?_|refine Qya 9 ?_|refine Qt 9 ?_|refine Qu 9 ?_|fail)
  (first|refine Qr 10 ?_|refine Qs 10 ?_|refine Qxa 10 ?_|refine Qya 10 ?_|refine Qt 10 ?_|refine Qu 10 ?_|fail)
  (first|refine Qr 11 ?_|refine Qs 11 ?_|refine Qxa 11 ?_|refine Qya 11 ?_|refine Qt 11 ?_|refine Qu 11 ?_|fail)
  refine SXA.idx 12 rfl (by decide +kernel) rfl rfl rfl rfl rfl rfl (by omega) (by omega) rfl inferInstance ?_
  (first|refine Qr 13 ?_|refine Qs 13 ?_|refine Qt 13 ?_|refine Qu 13 ?_|fail)
  refine SXA.loadRow1 14 (cellsK 2) rfl (by decide +kernel) rfl rfl rfl inferInstance (by rw [Int.toNat_natCast]; exact hpx) rfl rfl inferInstance ?_
  (first|refine Qr 15 ?_|refine Qs 15 ?_|refine Qt 15 ?_|refine Qu 15 ?_|fail)
  (first|refine Qr 16 ?_|refine Qs 16 ?_|refine Qt 16 ?_|refine Qu 16 ?_|fail)
  refine Qv ?_
  by_cases hgn : s'.gen = p.2
  rotate_left
  · refine SX.know 77 true rfl (by simpa using hgn) ?_
    repeat (first|refine Qa ?_|refine Qb ?_|refine Qc ?_|refine Qd ?_|refine Qe ?_|refine Qf ?_|refine Qg ?_|refine Qh ?_|refine Qi ?_|refine Qj ?_|refine Qk ?_|refine Ql ?_|refine Qm ?_|refine Qn ?_|refine Qo ?_|refine Qp ?_|refine Qq ?_|fail)
    have hn9 := newN_le t seen p
    refine SX.same 9 (.int .i64 ((i + 1 : Nat) : Int)) rfl (by simp (disch := omega) only [IntWalk.i64_in, IntWalk.u8_in, IntWalk.u32_in, IntWalk.u64_in, IntWalk.rem_in, Int.natCast_add, Int.natCast_one]) ?_
    refine SX.again (1000 * newN t (seen ++ [p]) + (row.length - (i + 1))) (by omega) ⟨i + 1, row, (seen ++ [p]), some ⟨b8, 0, none⟩, c8, hI.leaf hp hpe (fun a ha9 => hgn (by have h9 := folderE_ok ha9; rw [← h9.2.1, ha'] at h9; exact h9.2.2.2)), rfl, hc8, rfl, rfl⟩ (by repeat (first | exact trivial | refine ⟨rfl, ?_⟩)) inferInstance
  refine SX.know 77 false rfl (by simpa using hgn) ?_
  have hfp : folderE t p.1 p.2 = .ok p.1.toNat := folderE_of hp24 rfl (by rw [ha']; exact hkd) (by rw [ha']; exact hgn)
  have hsl' := hsm'.l
  have heo := entS_ok hsm'.w
  obtain ⟨hI2, hn9⟩ := hI.step hp hpe hfp hin (by rw [ha']; omega) (by rw [ha']; exact heo.1)
  rw [ha'] at hI2
  repeat (first|refine Qa ?_|refine Qb ?_|refine Qc ?_|refine Qd ?_|refine Qe ?_|refine Qf ?_|refine Qg ?_|refine Qh ?_|refine Qi ?_|refine Qj ?_|refine Qk ?_|refine Ql ?_|refine Qm ?_|refine Qn ?_|refine Qo ?_|refine Qp ?_|refine Qq ?_|fail)
  refine SXL.call rfl rfl rfl ?_
  refine (entries_S (ts := t.l) (ps := ps) inferInstance inferInstance hs' hx' hsm'.w.d (by omega) (fun A' c' hc' => callK.ret ?_))
  repeat (first|refine Qa ?_|refine Qb ?_|refine Qc ?_|refine Qd ?_|refine Qe ?_|refine Qf ?_|refine Qg ?_|refine Qh ?_|refine Qi ?_|refine Qj ?_|refine Qk ?_|refine Ql ?_|refine Qm ?_|refine Qn ?_|refine Qo ?_|refine Qp ?_|refine Qq ?_|fail)
  refine SX.loop (fun z a M => ∃ (j : Nat) (A8 : Option Addr) (c8 : Nat), j + z = (entS s').length ∧ ((row ++ (kidsH s').take j).map hX).length ≤ c8 ∧ a = [(0, .pointer (some ⟨pw, 0, none⟩)), (5, .pointer (some ⟨q, 0, none⟩)), (7, .map (some gm)), (8, .slice A8 ((row ++ (kidsH s').take j).map hX).length c8), (9, .int .i64 i), (79, .slice A' (entS s').length c'), (80, .int .i64 (entS s').length), (81, .int .i64 j)] ∧ (.own A8 (rowR (cellsK 2) 35 (.slice A8 ((row ++ (kidsH s').take j).map hX).length c8) ((row ++ (kidsH s').take j).map hX)) :: .own A' (rowR kE 87 (.slice A' (entS s').length c') (entS s')) :: .own (some ⟨gm, 0, none⟩) (hmapR gm (seen ++ [p])) :: .own (some ⟨q, 0, none⟩) (cellsR q [.int .u32 hi, .int .u32 hg] 35) :: F) = M)
    (entS s').length ⟨0, some ⟨b8, 0, none⟩, c8, by omega, by rw [List.take_zero, List.append_nil]; exact hc8, by rw [List.take_zero, List.append_nil], rfl⟩ (by repeat (first | exact trivial | refine ⟨rfl, ?_⟩)) (by rw [List.take_zero, List.append_nil]; infer_instance) ?_
  rintro z2 _ _ ⟨j, A9, c9, hj, hc9, rfl, rfl⟩
  repeat (first|refine Qa ?_|refine Qb ?_|refine Qc ?_|refine Qd ?_|refine Qe ?_|refine Qf ?_|refine Qg ?_|refine Qh ?_|refine Qi ?_|refine Qj ?_|refine Qk ?_|refine Ql ?_|refine Qm ?_|refine Qn ?_|refine Qo ?_|refine Qp ?_|refine Qq ?_|fail)
  refine SX.condp rfl (fun hjl => ?_) (fun hjl => ?_)
  rotate_left
  · have hje : (kidsH s').take j = kidsH s' := List.take_of_length_le (by unfold kidsH; rw [List.length_map]; omega)
    rw [hje] at hc9 ⊢
    have hkl : (kidsH s').length = (entS s').length := by unfold kidsH; rw [List.length_map]
    repeat (first|refine Qa ?_|refine Qb ?_|refine Qc ?_|refine Qd ?_|refine Qe ?_|refine Qf ?_|refine Qg ?_|refine Qh ?_|refine Qi ?_|refine Qj ?_|refine Qk ?_|refine Ql ?_|refine Qm ?_|refine Qn ?_|refine Qo ?_|refine Qp ?_|refine Qq ?_|fail)
    refine SX.same 9 (.int .i64 ((i + 1 : Nat) : Int)) rfl (by simp (disch := omega) only [IntWalk.i64_in, IntWalk.u8_in, IntWalk.u32_in, IntWalk.u64_in, IntWalk.rem_in, Int.natCast_add, Int.natCast_one]) ?_
    refine SX.again (1000 * newN t (seen ++ [p]) + ((row ++ kidsH s').length - (i + 1))) (by rw [List.length_append]; omega) ⟨i + 1, row ++ kidsH s', seen ++ [p], A9, c9, hI2, rfl, hc9, rfl, rfl⟩ (by repeat (first | exact trivial | refine ⟨rfl, ?_⟩)) inferInstance
  obtain ⟨e, he⟩ : ∃ e, (entS s')[j]? = some e := ⟨_, List.getElem?_eq_getElem (by omega)⟩
  have hke : (kidsH s')[j]? = some (e.i, e.g) := by unfold kidsH; rw [List.getElem?_map, he]; rfl
  have hlen : (row ++ (kidsH s').take j).length ≤ 19500 := by rw [List.length_append, List.length_take]; have : (kidsH s').length = (entS s').length := by { unfold kidsH; rw [List.length_map] }; omega
  refine SX.addrOwn (A := A') kE inferInstance (by omega) (fun b4 e4 => ?_)
  subst e4
  repeat (first|refine Qa ?_|refine Qb ?_|refine Qc ?_|refine Qd ?_|refine Qe ?_|refine Qf ?_|refine Qg ?_|refine Qh ?_|refine Qi ?_|refine Qj ?_|refine Qk ?_|refine Ql ?_|refine Qm ?_|refine Qn ?_|refine Qo ?_|refine Qp ?_|refine Qq ?_|fail)
  refine SXL.idx rfl rfl rfl rfl rfl (by omega) (by omega) rfl ?_
  repeat (first|refine Qa ?_|refine Qb ?_|refine Qc ?_|refine Qd ?_|refine Qe ?_|refine Qf ?_|refine Qg ?_|refine Qh ?_|refine Qi ?_|refine Qj ?_|refine Qk ?_|refine Ql ?_|refine Qm ?_|refine Qn ?_|refine Qo ?_|refine Qp ?_|refine Qq ?_|fail)
  refine SXL.loadRow kE rfl rfl inferInstance (by rw [Int.toNat_natCast]; exact he) rfl rfl ?_
  refine SXL.alloc rfl rfl (fun z9 => ?_)
  repeat (first|refine Qa ?_|refine Qb ?_|refine Qc ?_|refine Qd ?_|refine Qe ?_|refine Qf ?_|refine Qg ?_|refine Qh ?_|refine Qi ?_|refine Qj ?_|refine Qk ?_|refine Ql ?_|refine Qm ?_|refine Qn ?_|refine Qo ?_|refine Qp ?_|refine Qq ?_|fail)
  refine SXL.lit rfl rfl (fun g9 => ?_)
  refine SXL.litRow (cellsK 2) g9 [hX (e.i, e.g)] inferInstance rfl (fun x => x.2.1) (by simp) ?_
  refine SXL.appendW (cellsK 2) rfl rfl inferInstance inferInstance rfl inferInstance (by rw [List.length_map]; show (_ + 1 + (_ + 1) / 4 + 192) * 8 ≤ _; omega) rfl (fun A9' c9' hc9' => ?_)
  have e9 : (row ++ (kidsH s').take j).map hX ++ [hX (e.i, e.g)] = (row ++ (kidsH s').take (j + 1)).map hX := by
    obtain ⟨hil9, hv9⟩ := List.getElem?_eq_some_iff.1 hke
    rw [List.take_succ_eq_append_getElem hil9, hv9, ← List.append_assoc, List.map_append (l₂ := [(e.i, e.g)])]
    rfl
  rw [e9] at hc9' ⊢
  repeat (first|refine Qa ?_|refine Qb ?_|refine Qc ?_|refine Qd ?_|refine Qe ?_|refine Qf ?_|refine Qg ?_|refine Qh ?_|refine Qi ?_|refine Qj ?_|refine Qk ?_|refine Ql ?_|refine Qm ?_|refine Qn ?_|refine Qo ?_|refine Qp ?_|refine Qq ?_|fail)
  refine SX.same 81 (.int .i64 ((j + 1 : Nat) : Int)) rfl (by simp (disch := omega) only [IntWalk.i64_in, IntWalk.u8_in, IntWalk.u32_in, IntWalk.u64_in, IntWalk.rem_in, Int.natCast_add, Int.natCast_one]) ?_
  refine SX.again (z2 - 1) (by omega) ⟨j + 1, A9', c9', by omega, hc9', rfl, rfl⟩ (by repeat (first | exact trivial | refine ⟨rfl, ?_⟩)) inferInstance
end
end Go.Proofs.YtanemmcddgkpdaaGreat.Sx
