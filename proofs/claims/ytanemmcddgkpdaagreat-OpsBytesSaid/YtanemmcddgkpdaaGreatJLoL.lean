/- Chapter 13: what is written at places of a file is read from them, walked; conditions: those that each theorem names. -/
import Derived.Test.YtanemmcddgkpdaaGreatJPf
import Derived.Test.YtanemmcddgkpdaaGreatJN6
import Derived.Test.YtanemmcddgkpdaaGreatJN7
import Derived.Test.YtanemmcddgkpdaaGreatJZ1
namespace Go.Proofs.YtanemmcddgkpdaaGreat.Sx
open Go.RowKit Go.Proofs.YtanemmcddgkpdaaGreat.Hm Go.Proofs.YtanemmcddgkpdaaGreatW.PrintWords Go.Proofs.YtanemmcddgkpdaaGreatW.PrintLast Go.Proofs.YtanemmcddgkpdaaGreatW.PrintMore
set_option linter.unusedVariables false
set_option linter.unusedSimpArgs false
attribute [local irreducible] SX SXL SXA St callK Post Evals
attribute [local irreducible] doT putM b0T wrL sizedL
/-- A row of bytes, as an element. -/
def kRow : Kd (List Int) := (Kd.slice 5 (Kd.int .u8))
theorem row_open {w : World} {S : Nat → Prop} {l : List Int} {cs : List Value} (h : Kd.FK kRow w S l cs) : ∃ x : Option Addr × Nat, cs = [.slice x.1 l.length x.2] ∧ ∀ r ∈ [pureR (l.length ≤ x.2), roR (Kd.int .u8) x.1 l], r.P w S := by
  obtain ⟨A, c, h1, h2, h3⟩ := fk_row h
  refine ⟨(A, c), h1, fun r hr => ?_⟩
  simp only [List.mem_cons, List.not_mem_nil, or_false] at hr
  rcases hr with rfl | rfl
  · exact h2
  · exact h3
theorem eofB (x y : Nat) : (decide (x = y) != ((x : Int) == (y : Int))) = false := by
  by_cases h : x = y
  · simp [h]
  · have h2 : ¬ (x : Int) = (y : Int) := by omega
    simp [h, h2]
theorem ptrQ {b k : Nat} : some (Value.pointer (some ⟨b, 0 + ((k : Nat) : Int).toNat * 1 + 0, none⟩)) = some (Value.pointer (some ⟨b, k, none⟩)) := by rw [show 0 + ((k : Nat) : Int).toNat * 1 + 0 = k by omega]
section
variable {F : List Thing} {K : Ending → List Thing → Prop} {A A2 : Option Addr} {c c2 : Nat} {xs : List (List Int)} {pl : List Int} {fr cn : Int}
set_option maxRecDepth 20000 in
set_option maxHeartbeats 8000000 in
theorem OpsBytes_S (hp : Ro (Kd.int .u16) A2 F pl) (hc : xs.length ≤ c) (hc2 : pl.length ≤ c2) (hxs : ∀ e ∈ xs, bytesB e = true) (hpl : ∀ x ∈ pl, (Lit.int .u16 x).wf = true) (hf0 : 0 ≤ fr) (hf1 : fr < 65536) (hn0 : 0 ≤ cn) (hn1 : cn < 65536) [hr : Has (roR kRow A xs) F] (h : K (.returned (.bool true)) F) :
    Fn (Tryz.prog) 5 [.slice A xs.length c, .slice A2 pl.length c2, .int .u16 fr, .int .u16 cn] F K := by
  refine Fn.flat (A := A) (xs := xs) kRow (by decide) (fun css hcs => ?_) (fun w => rfl)
  obtain ⟨hb1, hb2, hb3⟩ := b0_st
  refine Fn.enter Tryz.call5 Tryz.func5 rfl rfl rfl ?_
  repeat (first|refine Qa ?_|refine Qb ?_|refine Qc ?_|refine Qd ?_|refine Qe ?_|refine Qf ?_|refine Qg ?_|refine Qh ?_|refine Qi ?_|refine Qj ?_|refine Qk ?_|refine Ql ?_|refine Qm ?_|refine Qn ?_|refine Qo ?_|refine Qp ?_|refine Qq ?_|fail)
  refine SXL.call rfl rfl rfl ?_
  refine (awake13_S (callK.ret ?_))
  repeat (first|refine Qa ?_|refine Qb ?_|refine Qc ?_|refine Qd ?_|refine Qe ?_|refine Qf ?_|refine Qg ?_|refine Qh ?_|refine Qi ?_|refine Qj ?_|refine Qk ?_|refine Ql ?_|refine Qm ?_|refine Qn ?_|refine Qo ?_|refine Qp ?_|refine Qq ?_|fail)
  refine SXL.split (s := 33) rfl (fun hl => ?_) (fun hl => ?_)
  · repeat (first|refine Qa ?_|refine Qb ?_|refine Qc ?_|refine Qd ?_|refine Qe ?_|refine Qf ?_|refine Qg ?_|refine Qh ?_|refine Qi ?_|refine Qj ?_|refine Qk ?_|refine Ql ?_|refine Qm ?_|refine Qn ?_|refine Qo ?_|refine Qp ?_|refine Qq ?_|fail)
    refine SX.ret (M' := F) rfl (Evals.tmp rfl Evals.nil) ?_ inferInstance
    exact h
  have hl10 : xs.length ≤ 10 := by have := of_decide_eq_false hl; omega
  repeat (first|refine Qa ?_|refine Qb ?_|refine Qc ?_|refine Qd ?_|refine Qe ?_|refine Qf ?_|refine Qg ?_|refine Qh ?_|refine Qi ?_|refine Qj ?_|refine Qk ?_|refine Ql ?_|refine Qm ?_|refine Qn ?_|refine Qo ?_|refine Qp ?_|refine Qq ?_|fail)
  refine SX.condp rfl (fun hl2 => ?_) (fun hl2 => ?_)
  · repeat (first|refine Qa ?_|refine Qb ?_|refine Qc ?_|refine Qd ?_|refine Qe ?_|refine Qf ?_|refine Qg ?_|refine Qh ?_|refine Qi ?_|refine Qj ?_|refine Qk ?_|refine Ql ?_|refine Qm ?_|refine Qn ?_|refine Qo ?_|refine Qp ?_|refine Qq ?_|fail)
    refine SX.ret (M' := F) rfl (Evals.tmp rfl Evals.nil) ?_ inferInstance
    exact h
  have hlp : xs.length ≤ pl.length := by omega
  clear hl
  repeat (first|refine Qa ?_|refine Qb ?_|refine Qc ?_|refine Qd ?_|refine Qe ?_|refine Qf ?_|refine Qg ?_|refine Qh ?_|refine Qi ?_|refine Qj ?_|refine Qk ?_|refine Ql ?_|refine Qm ?_|refine Qn ?_|refine Qo ?_|refine Qp ?_|refine Qq ?_|fail)
  refine SXL.call rfl rfl rfl ?_
  refine (Format_S (room := 30) (fun b0 cap0 hcap0 => callK.ret ?_))
  have m0 : (formT 30).mid := formT_mid ⟨by decide, by decide⟩
  repeat (first|refine Qa ?_|refine Qb ?_|refine Qc ?_|refine Qd ?_|refine Qe ?_|refine Qf ?_|refine Qg ?_|refine Qh ?_|refine Qi ?_|refine Qj ?_|refine Qk ?_|refine Ql ?_|refine Qm ?_|refine Qn ?_|refine Qo ?_|refine Qp ?_|refine Qq ?_|fail)
  refine SXL.call rfl rfl rfl ?_
  refine (Do_S (t := formT 30) (ps := nonesP 24) (c := ca 6 0 1 ⟨#[102]⟩ 0 0 []) (Ac := none) (cc := 0) inferInstance inferInstance m0 rfl hcap0 (ca_wf ⟨by decide, by decide⟩ u32_0 ⟨by decide, by decide⟩ u32_0 u64_0 rfl) (Nat.zero_le _) (Nat.le_refl _) inferInstance (fun _ _ => ⟨createE, create_S, fun t r => rfl⟩) (fun t1 r1 b1 cap1 ps1 Ad1 cd1 Ae1 ce1 he1 hcap1 hps1 m1 hd1 hx1 => callK.ret ?_))
  obtain ⟨e1, e2⟩ : t1 = b0T ∧ r1 = (doT (formT 30) (ca 6 0 1 ⟨#[102]⟩ 0 0 [])).2 := by unfold b0T; rw [he1]; exact ⟨rfl, rfl⟩
  clear he1
  subst e1
  rw [← e2] at hb1 hb2 hb3
  clear e2
  repeat (first|refine Qa ?_|refine Qb ?_|refine Qc ?_|refine Qd ?_|refine Qe ?_|refine Qf ?_|refine Qg ?_|refine Qh ?_|refine Qi ?_|refine Qj ?_|refine Qk ?_|refine Ql ?_|refine Qm ?_|refine Qn ?_|refine Qo ?_|refine Qp ?_|refine Qq ?_|fail)
  refine SXL.alloc rfl rfl (fun p10 => ?_)
  repeat (first|refine Qa ?_|refine Qb ?_|refine Qc ?_|refine Qd ?_|refine Qe ?_|refine Qf ?_|refine Qg ?_|refine Qh ?_|refine Qi ?_|refine Qj ?_|refine Qk ?_|refine Ql ?_|refine Qm ?_|refine Qn ?_|refine Qo ?_|refine Qp ?_|refine Qq ?_|fail)
  refine SXL.alloc rfl rfl (fun p11 => ?_)
  repeat (first|refine Qa ?_|refine Qb ?_|refine Qc ?_|refine Qd ?_|refine Qe ?_|refine Qf ?_|refine Qg ?_|refine Qh ?_|refine Qi ?_|refine Qj ?_|refine Qk ?_|refine Ql ?_|refine Qm ?_|refine Qn ?_|refine Qo ?_|refine Qp ?_|refine Qq ?_|fail)
  unfold reK
  rw [hb1, hb2, hb3]
  clear hb1 hb2 hb3
  refine SX.loop (fun z a M => ∃ (i b cap : Nat) (t : Th) (ps : List Pl) (d : List Int) (A12 : Option Addr) (c12 : Nat), i + z = xs.length ∧ FI d t ∧ d.length ≤ c12 ∧ 24 ≤ cap ∧ ps.length = 24 ∧ t.mid ∧ a = [(0, .slice A xs.length c), (1, .slice A2 pl.length c2), (2, .int .u16 fr), (3, .int .u16 cn), (10, .pointer (some ⟨p10, 0, none⟩)), (11, .pointer (some ⟨p11, 0, none⟩)), (12, .slice A12 (d).length c12), (13, .int .i64 i)] ∧ (.own A12 (rowR (Kd.int .u8) 5 (.slice A12 (d).length c12) (d)) :: .own (some ⟨p10, 0, none⟩) (cellsR p10 (thC (some ⟨b, 0, none⟩) 24 cap (t).ch (t).room) 27) :: thP b (t).l ps :: .per (datR (t).l ps) :: .own (some ⟨p11, 0, none⟩) (cellsR p11 (reK { r1 with st := 0, ai := 1, ag := 1 } Ad1 cd1 Ae1 ce1) 49) :: .per (roR (cellsK (kRow).sz) A css) :: .per (fksR kRow xs css) :: F) = M)
    xs.length ⟨0, b1, cap1, b0T, ps1, [], none, 0, by omega, FI.start, Nat.le_refl _, hcap1, hps1, m1, rfl, rfl⟩ (by repeat (first | exact trivial | refine ⟨rfl, ?_⟩)) inferInstance ?_
  clear m1 hps1 hcap1
  rintro z _ _ ⟨i, b, cap, t, ps, d, A12, c12, hz, hI, hc12, hcap, hps, hm, rfl, rfl⟩
  have hd768 := hI.d
  repeat (first|refine Qa ?_|refine Qb ?_|refine Qc ?_|refine Qd ?_|refine Qe ?_|refine Qf ?_|refine Qg ?_|refine Qh ?_|refine Qi ?_|refine Qj ?_|refine Qk ?_|refine Ql ?_|refine Qm ?_|refine Qn ?_|refine Qo ?_|refine Qp ?_|refine Qq ?_|fail)
  refine SX.condp rfl (fun hi => ?_) (fun hi => ?_)
  · obtain ⟨e, he⟩ : ∃ e, xs[i]? = some e := ⟨_, List.getElem?_eq_getElem (by omega)⟩
    obtain ⟨cc, hcc⟩ : ∃ cc, css[i]? = some cc := ⟨_, List.getElem?_eq_getElem (by omega)⟩
    obtain ⟨y, hy⟩ : ∃ y, pl[i]? = some y := ⟨_, List.getElem?_eq_getElem (by omega)⟩
    obtain ⟨hy0, hy1⟩ := u16_of_wf _ (hpl y (List.mem_of_getElem? hy))
    have heb := hxs e (List.mem_of_getElem? he)
    obtain ⟨q, hq⟩ : ∃ q : Nat, q = (y % 900).toNat := ⟨_, rfl⟩
    have hqw : IntKind.i64.wrap (y.tmod 900) = (q : Int) := by rw [Int.tmod_eq_emod_of_nonneg hy0, IntWalk.i64_in _ (by omega)]; omega
    have hqu : IntKind.u64.wrap (q : Int) = (q : Int) := IntWalk.u64_in _ (by omega)
    refine SX.fk (D := kRow) (fun x : Option Addr × Nat => [.slice x.1 e.length x.2]) (fun x : Option Addr × Nat => [pureR (e.length ≤ x.2), roR (Kd.int .u8) x.1 e]) he hcc (fun w S h => row_open h) (fun x hx => ?_)
    show SX _ _ _ _ _ _ (.per (pureR (e.length ≤ x.2)) :: .per (roR (Kd.int .u8) x.1 e) :: .own A12 (rowR (Kd.int .u8) 5 (.slice A12 (d).length c12) (d)) :: .own (some ⟨p10, 0, none⟩) (cellsR p10 (thC (some ⟨b, 0, none⟩) 24 cap (t).ch (t).room) 27) :: thP b (t).l ps :: .per (datR (t).l ps) :: .own (some ⟨p11, 0, none⟩) (cellsR p11 (reK { r1 with st := 0, ai := 1, ag := 1 } Ad1 cd1 Ae1 ce1) 49) :: .per (roR (cellsK (kRow).sz) A css) :: .per (fksR kRow xs css) :: F)
    refine SX.pure (e.length ≤ x.2) (fun hfit => ?_)
    obtain ⟨cl, hcl⟩ := cc
    simp only at hx
    subst hx
    refine SX.addr (A := A) (cellsK (kRow).sz) (by decide) (xs := css) (by omega) (fun bA oA e9 => ?_)
    subst e9
    refine SX.addr (A := A2) (Kd.int .u16) (by decide) (xs := pl) (by omega) (fun bP oP e9 => ?_)
    subst e9
    repeat (first|refine Qa ?_|refine Qb ?_|refine Qc ?_|refine Qd ?_|refine Qe ?_|refine Qf ?_|refine Qg ?_|refine Qh ?_|refine Qi ?_|refine Qj ?_|refine Qk ?_|refine Ql ?_|refine Qm ?_|refine Qn ?_|refine Qo ?_|refine Qp ?_|refine Qq ?_|fail)
    refine SXL.idx rfl rfl rfl rfl rfl (by omega) (by omega) rfl ?_
    repeat (first|refine Qa ?_|refine Qb ?_|refine Qc ?_|refine Qd ?_|refine Qe ?_|refine Qf ?_|refine Qg ?_|refine Qh ?_|refine Qi ?_|refine Qj ?_|refine Qk ?_|refine Ql ?_|refine Qm ?_|refine Qn ?_|refine Qo ?_|refine Qp ?_|refine Qq ?_|fail)
    refine SXL.loadRow (cellsK (kRow).sz) rfl rfl inferInstance (by rw [Int.toNat_natCast]; exact hcc) rfl rfl ?_
    repeat (first|refine Qa ?_|refine Qb ?_|refine Qc ?_|refine Qd ?_|refine Qe ?_|refine Qf ?_|refine Qg ?_|refine Qh ?_|refine Qi ?_|refine Qj ?_|refine Qk ?_|refine Ql ?_|refine Qm ?_|refine Qn ?_|refine Qo ?_|refine Qp ?_|refine Qq ?_|fail)
    refine SX.condp rfl (fun he2 => ?_) (fun he2 => ?_)
    · repeat (first|refine Qa ?_|refine Qb ?_|refine Qc ?_|refine Qd ?_|refine Qe ?_|refine Qf ?_|refine Qg ?_|refine Qh ?_|refine Qi ?_|refine Qj ?_|refine Qk ?_|refine Ql ?_|refine Qm ?_|refine Qn ?_|refine Qo ?_|refine Qp ?_|refine Qq ?_|fail)
      refine SX.ret (M' := F) rfl (Evals.tmp rfl Evals.nil) ?_ inferInstance
      exact h
    have he200 : e.length ≤ 200 := by omega
    repeat (first|refine Qa ?_|refine Qb ?_|refine Qc ?_|refine Qd ?_|refine Qe ?_|refine Qf ?_|refine Qg ?_|refine Qh ?_|refine Qi ?_|refine Qj ?_|refine Qk ?_|refine Ql ?_|refine Qm ?_|refine Qn ?_|refine Qo ?_|refine Qp ?_|refine Qq ?_|fail)
    refine SXL.idx rfl rfl rfl rfl rfl (by omega) (by omega) rfl ?_
    repeat (first|refine Qa ?_|refine Qb ?_|refine Qc ?_|refine Qd ?_|refine Qe ?_|refine Qf ?_|refine Qg ?_|refine Qh ?_|refine Qi ?_|refine Qj ?_|refine Qk ?_|refine Ql ?_|refine Qm ?_|refine Qn ?_|refine Qo ?_|refine Qp ?_|refine Qq ?_|fail)
    refine SXL.loadRow (Kd.int .u16) rfl rfl inferInstance (by rw [Int.toNat_natCast]; exact hy) rfl rfl ?_
    repeat (first|refine Qa ?_|refine Qb ?_|refine Qc ?_|refine Qd ?_|refine Qe ?_|refine Qf ?_|refine Qg ?_|refine Qh ?_|refine Qi ?_|refine Qj ?_|refine Qk ?_|refine Ql ?_|refine Qm ?_|refine Qn ?_|refine Qo ?_|refine Qp ?_|refine Qq ?_|fail)
    rw [hqw]
    repeat (first|refine Qa ?_|refine Qb ?_|refine Qc ?_|refine Qd ?_|refine Qe ?_|refine Qf ?_|refine Qg ?_|refine Qh ?_|refine Qi ?_|refine Qj ?_|refine Qk ?_|refine Ql ?_|refine Qm ?_|refine Qn ?_|refine Qo ?_|refine Qp ?_|refine Qq ?_|fail)
    refine SX.cut (fun a' M' => ∃ (p15 p16 b2 cap2 : Nat) (t2 : Th) (ps2 : List Pl) (r2 : Re) (Ad2 : Option Addr) (cd2 : Nat) (Ae2 : Option Addr) (ce2 : Nat), ((768 < q + e.length ∧ r2.st = 65 ∧ t2 = t) ∨ (q + e.length ≤ 768 ∧ r2.st = 0 ∧ FI (wrL d q e) t2)) ∧ 24 ≤ cap2 ∧ ps2.length = 24 ∧ t2.mid ∧ a' = [(0, .slice (some ⟨bA, oA, none⟩) xs.length c), (1, .slice (some ⟨bP, oP, none⟩) pl.length c2), (2, .int .u16 fr), (3, .int .u16 cn), (10, .pointer (some ⟨p10, 0, none⟩)), (11, .pointer (some ⟨p11, 0, none⟩)), (12, .slice A12 (d).length c12), (13, .int .i64 i), (14, .int .i64 q), (15, .pointer (some ⟨p15, 0, none⟩)), (16, .pointer (some ⟨p16, 0, none⟩))] ∧ (.own (some ⟨p15, 0, none⟩) (cellsR p15 (thC (some ⟨b2, 0, none⟩) 24 cap2 (t2).ch (t2).room) 27) :: .own (some ⟨p16, 0, none⟩) (cellsR p16 (reK r2 Ad2 cd2 Ae2 ce2) 49) :: thP b2 t2.l ps2 :: .per (datR t2.l ps2) :: .per (pureR (e.length ≤ x.2)) :: .per (roR (Kd.int .u8) x.1 e) :: .own A12 (rowR (Kd.int .u8) 5 (.slice A12 (d).length c12) (d)) :: .own (some ⟨p10, 0, none⟩) (cellsR p10 (thC (some ⟨b, 0, none⟩) 24 cap (t).ch (t).room) 27) :: thP b (t).l ps :: .per (datR (t).l ps) :: .own (some ⟨p11, 0, none⟩) (cellsR p11 (reK { r1 with st := 0, ai := 1, ag := 1 } Ad1 cd1 Ae1 ce1) 49) :: .per (roR (cellsK (kRow).sz) (some ⟨bA, oA, none⟩) css) :: .per (fksR kRow xs css) :: F) = M') ?_ ?_
    · refine SXA.begin (.per (pureR (e.length ≤ x.2)) :: .per (roR (Kd.int .u8) x.1 e) :: .own A12 (rowR (Kd.int .u8) 5 (.slice A12 (d).length c12) (d)) :: .own (some ⟨p10, 0, none⟩) (cellsR p10 (thC (some ⟨b, 0, none⟩) 24 cap (t).ch (t).room) 27) :: thP b (t).l ps :: .per (datR (t).l ps) :: .own (some ⟨p11, 0, none⟩) (cellsR p11 (reK { r1 with st := 0, ai := 1, ag := 1 } Ad1 cd1 Ae1 ce1) 49) :: .per (roR (cellsK (kRow).sz) (some ⟨bA, oA, none⟩) css) :: .per (fksR kRow xs css) :: F) [16, 17] ?_
      unfold reK
      dsimp only
      (first|refine Qr 0 ?_|refine Qs 0 ?_|refine Qxa 0 ?_|refine Qya 0 ?_|refine Qt 0 ?_|refine Qu 0 ?_|fail)
      (first|refine Qr 1 ?_|refine Qs 1 ?_|refine Qxa 1 ?_|refine Qya 1 ?_|refine Qt 1 ?_|refine Qu 1 ?_|fail)
      (first|refine Qr 3 ?_|refine Qs 3 ?_|refine Qxa 3 ?_|refine Qya 3 ?_|refine Qt 3 ?_|refine Qu 3 ?_|fail)
      (first|refine Qr 5 ?_|refine Qs 5 ?_|refine Qxa 5 ?_|refine Qya 5 ?_|refine Qt 5 ?_|refine Qu 5 ?_|fail)
      (first|refine Qr 6 ?_|refine Qs 6 ?_|refine Qxa 6 ?_|refine Qya 6 ?_|refine Qt 6 ?_|refine Qu 6 ?_|fail)
      (first|refine Qr 2 ?_|refine Qs 2 ?_|refine Qxa 2 ?_|refine Qya 2 ?_|refine Qt 2 ?_|refine Qu 2 ?_|fail)
      (first|refine Qr 4 ?_|refine Qs 4 ?_|refine Qt 4 ?_|refine Qu 4 ?_|fail)
      rw [hqu]
      refine SXA.idx 7 rfl (by decide +kernel) rfl rfl rfl rfl rfl rfl (by omega) (by omega) rfl inferInstance ?_
      refine SXA.loadRow 8 (cellsK (kRow).sz) rfl (by decide +kernel) rfl rfl rfl inferInstance (by rw [Int.toNat_natCast]; exact hcc) rfl rfl inferInstance ?_
      (first|refine Qr 9 ?_|refine Qs 9 ?_|refine Qxa 9 ?_|refine Qya 9 ?_|refine Qt 9 ?_|refine Qu 9 ?_|fail)
      refine SXA.all [10, 14, 15] (by decide +kernel) (Each.cons rfl ?_ (Each.cons rfl ?_ (Each.cons rfl ?_ Each.nil)))
      · skip
        refine SXL.call rfl rfl rfl ?_
        refine (Do_S (t := t) (ps := ps) (c := ca 5 1 1 ⟨#[]⟩ 0 (q : Int) e) (Ac := x.1) (cc := x.2) inferInstance inferInstance hm hps hcap (ca_wf ⟨by decide, by decide⟩ ⟨by decide, by decide⟩ ⟨by decide, by decide⟩ u32_0 ⟨by omega, by omega⟩ heb) (by show e.length ≤ 4000000000; omega) hfit inferInstance (fun _ _ => ⟨writeE, write_S, fun t r => rfl⟩) (fun t2 r2 b2 cap2 ps2 Ad2 cd2 Ae2 ce2 he2' hcap2 hps2 m2 hd2 hx2 => callK.ret ?_))
        have hW := hI.write he2'
        clear he2'
        refine SXL.nil (SXA.next inferInstance ?_)
        (first|refine Qr 11 ?_|refine Qs 11 ?_|refine Qxa 11 ?_|refine Qya 11 ?_|refine Qt 11 ?_|refine Qu 11 ?_|fail)
        (first|refine Qr 12 ?_|refine Qs 12 ?_|refine Qxa 12 ?_|refine Qya 12 ?_|refine Qt 12 ?_|refine Qu 12 ?_|fail)
        (first|refine Qr 13 ?_|refine Qs 13 ?_|refine Qxa 13 ?_|refine Qya 13 ?_|refine Qt 13 ?_|refine Qu 13 ?_|fail)
        refine SXA.all [14, 15] (by decide +kernel) (Each.cons rfl ?_ (Each.cons rfl ?_ Each.nil))
        · skip
          refine SXL.alloc rfl rfl (fun p15 => ?_)
          refine SXL.nil (SXA.next inferInstance ?_)
          refine Qw 15 ?_
          refine SXL.alloc rfl rfl (fun p16 => ?_)
          refine SXL.nil (SXA.next inferInstance ?_)
          refine Qw 16 ?_
          refine Qc ?_
          refine SXL.nil (SXA.nextLast rfl ?_)
          refine Qw 17 ?_
          refine Qc ?_
          refine SXL.nil (SXA.nextLast rfl ?_)
          refine Qv ?_
          refine SX.meet ⟨p15, p16, b2, cap2, t2, ps2, r2, Ad2, cd2, Ae2, ce2, hW, hcap2, hps2, m2, rfl, rfl⟩ (by repeat (first | exact trivial | refine ⟨rfl, ?_⟩)) inferInstance
        · skip
          refine SXL.alloc rfl rfl (fun p16 => ?_)
          refine SXL.nil (SXA.next inferInstance ?_)
          refine Qw 14 ?_
          refine SXL.alloc rfl rfl (fun p15 => ?_)
          refine SXL.nil (SXA.next inferInstance ?_)
          refine Qw 16 ?_
          refine Qc ?_
          refine SXL.nil (SXA.nextLast rfl ?_)
          refine Qw 17 ?_
          refine Qc ?_
          refine SXL.nil (SXA.nextLast rfl ?_)
          refine Qv ?_
          refine SX.meet ⟨p15, p16, b2, cap2, t2, ps2, r2, Ad2, cd2, Ae2, ce2, hW, hcap2, hps2, m2, rfl, rfl⟩ (by repeat (first | exact trivial | refine ⟨rfl, ?_⟩)) inferInstance
      · skip
        refine SXL.alloc rfl rfl (fun p15 => ?_)
        refine SXL.nil (SXA.next inferInstance ?_)
        refine SXA.all [10, 15] (by decide +kernel) (Each.cons rfl ?_ (Each.cons rfl ?_ Each.nil))
        · skip
          refine SXL.call rfl rfl rfl ?_
          refine (Do_S (t := t) (ps := ps) (c := ca 5 1 1 ⟨#[]⟩ 0 (q : Int) e) (Ac := x.1) (cc := x.2) inferInstance inferInstance hm hps hcap (ca_wf ⟨by decide, by decide⟩ ⟨by decide, by decide⟩ ⟨by decide, by decide⟩ u32_0 ⟨by omega, by omega⟩ heb) (by show e.length ≤ 4000000000; omega) hfit inferInstance (fun _ _ => ⟨writeE, write_S, fun t r => rfl⟩) (fun t2 r2 b2 cap2 ps2 Ad2 cd2 Ae2 ce2 he2' hcap2 hps2 m2 hd2 hx2 => callK.ret ?_))
          have hW := hI.write he2'
          clear he2'
          refine SXL.nil (SXA.next inferInstance ?_)
          (first|refine Qr 11 ?_|refine Qs 11 ?_|refine Qxa 11 ?_|refine Qya 11 ?_|refine Qt 11 ?_|refine Qu 11 ?_|fail)
          (first|refine Qr 12 ?_|refine Qs 12 ?_|refine Qxa 12 ?_|refine Qya 12 ?_|refine Qt 12 ?_|refine Qu 12 ?_|fail)
          (first|refine Qr 13 ?_|refine Qs 13 ?_|refine Qxa 13 ?_|refine Qya 13 ?_|refine Qt 13 ?_|refine Qu 13 ?_|fail)
          refine Qw 15 ?_
          refine SXL.alloc rfl rfl (fun p16 => ?_)
          refine SXL.nil (SXA.next inferInstance ?_)
          refine Qw 16 ?_
          refine Qc ?_
          refine SXL.nil (SXA.nextLast rfl ?_)
          refine Qw 17 ?_
          refine Qc ?_
          refine SXL.nil (SXA.nextLast rfl ?_)
          refine Qv ?_
          refine SX.meet ⟨p15, p16, b2, cap2, t2, ps2, r2, Ad2, cd2, Ae2, ce2, hW, hcap2, hps2, m2, rfl, rfl⟩ (by repeat (first | exact trivial | refine ⟨rfl, ?_⟩)) inferInstance
        · skip
          refine SXL.alloc rfl rfl (fun p16 => ?_)
          refine SXL.nil (SXA.next inferInstance ?_)
          refine Qw 10 ?_
          refine SXL.call rfl rfl rfl ?_
          refine (Do_S (t := t) (ps := ps) (c := ca 5 1 1 ⟨#[]⟩ 0 (q : Int) e) (Ac := x.1) (cc := x.2) inferInstance inferInstance hm hps hcap (ca_wf ⟨by decide, by decide⟩ ⟨by decide, by decide⟩ ⟨by decide, by decide⟩ u32_0 ⟨by omega, by omega⟩ heb) (by show e.length ≤ 4000000000; omega) hfit inferInstance (fun _ _ => ⟨writeE, write_S, fun t r => rfl⟩) (fun t2 r2 b2 cap2 ps2 Ad2 cd2 Ae2 ce2 he2' hcap2 hps2 m2 hd2 hx2 => callK.ret ?_))
          have hW := hI.write he2'
          clear he2'
          refine SXL.nil (SXA.next inferInstance ?_)
          (first|refine Qr 11 ?_|refine Qs 11 ?_|refine Qxa 11 ?_|refine Qya 11 ?_|refine Qt 11 ?_|refine Qu 11 ?_|fail)
          (first|refine Qr 12 ?_|refine Qs 12 ?_|refine Qxa 12 ?_|refine Qya 12 ?_|refine Qt 12 ?_|refine Qu 12 ?_|fail)
          (first|refine Qr 13 ?_|refine Qs 13 ?_|refine Qxa 13 ?_|refine Qya 13 ?_|refine Qt 13 ?_|refine Qu 13 ?_|fail)
          refine Qw 16 ?_
          refine Qc ?_
          refine SXL.nil (SXA.nextLast rfl ?_)
          refine Qw 17 ?_
          refine Qc ?_
          refine SXL.nil (SXA.nextLast rfl ?_)
          refine Qv ?_
          refine SX.meet ⟨p15, p16, b2, cap2, t2, ps2, r2, Ad2, cd2, Ae2, ce2, hW, hcap2, hps2, m2, rfl, rfl⟩ (by repeat (first | exact trivial | refine ⟨rfl, ?_⟩)) inferInstance
      · skip
        refine SXL.alloc rfl rfl (fun p16 => ?_)
        refine SXL.nil (SXA.next inferInstance ?_)
        refine SXA.all [10, 14] (by decide +kernel) (Each.cons rfl ?_ (Each.cons rfl ?_ Each.nil))
        · skip
          refine SXL.call rfl rfl rfl ?_
          refine (Do_S (t := t) (ps := ps) (c := ca 5 1 1 ⟨#[]⟩ 0 (q : Int) e) (Ac := x.1) (cc := x.2) inferInstance inferInstance hm hps hcap (ca_wf ⟨by decide, by decide⟩ ⟨by decide, by decide⟩ ⟨by decide, by decide⟩ u32_0 ⟨by omega, by omega⟩ heb) (by show e.length ≤ 4000000000; omega) hfit inferInstance (fun _ _ => ⟨writeE, write_S, fun t r => rfl⟩) (fun t2 r2 b2 cap2 ps2 Ad2 cd2 Ae2 ce2 he2' hcap2 hps2 m2 hd2 hx2 => callK.ret ?_))
          have hW := hI.write he2'
          clear he2'
          refine SXL.nil (SXA.next inferInstance ?_)
          (first|refine Qr 11 ?_|refine Qs 11 ?_|refine Qxa 11 ?_|refine Qya 11 ?_|refine Qt 11 ?_|refine Qu 11 ?_|fail)
          (first|refine Qr 12 ?_|refine Qs 12 ?_|refine Qxa 12 ?_|refine Qya 12 ?_|refine Qt 12 ?_|refine Qu 12 ?_|fail)
          (first|refine Qr 13 ?_|refine Qs 13 ?_|refine Qxa 13 ?_|refine Qya 13 ?_|refine Qt 13 ?_|refine Qu 13 ?_|fail)
          refine Qw 14 ?_
          refine SXL.alloc rfl rfl (fun p15 => ?_)
          refine SXL.nil (SXA.next inferInstance ?_)
          refine Qw 16 ?_
          refine Qc ?_
          refine SXL.nil (SXA.nextLast rfl ?_)
          refine Qw 17 ?_
          refine Qc ?_
          refine SXL.nil (SXA.nextLast rfl ?_)
          refine Qv ?_
          refine SX.meet ⟨p15, p16, b2, cap2, t2, ps2, r2, Ad2, cd2, Ae2, ce2, hW, hcap2, hps2, m2, rfl, rfl⟩ (by repeat (first | exact trivial | refine ⟨rfl, ?_⟩)) inferInstance
        · skip
          refine SXL.alloc rfl rfl (fun p15 => ?_)
          refine SXL.nil (SXA.next inferInstance ?_)
          refine Qw 10 ?_
          refine SXL.call rfl rfl rfl ?_
          refine (Do_S (t := t) (ps := ps) (c := ca 5 1 1 ⟨#[]⟩ 0 (q : Int) e) (Ac := x.1) (cc := x.2) inferInstance inferInstance hm hps hcap (ca_wf ⟨by decide, by decide⟩ ⟨by decide, by decide⟩ ⟨by decide, by decide⟩ u32_0 ⟨by omega, by omega⟩ heb) (by show e.length ≤ 4000000000; omega) hfit inferInstance (fun _ _ => ⟨writeE, write_S, fun t r => rfl⟩) (fun t2 r2 b2 cap2 ps2 Ad2 cd2 Ae2 ce2 he2' hcap2 hps2 m2 hd2 hx2 => callK.ret ?_))
          have hW := hI.write he2'
          clear he2'
          refine SXL.nil (SXA.next inferInstance ?_)
          (first|refine Qr 11 ?_|refine Qs 11 ?_|refine Qxa 11 ?_|refine Qya 11 ?_|refine Qt 11 ?_|refine Qu 11 ?_|fail)
          (first|refine Qr 12 ?_|refine Qs 12 ?_|refine Qxa 12 ?_|refine Qya 12 ?_|refine Qt 12 ?_|refine Qu 12 ?_|fail)
          (first|refine Qr 13 ?_|refine Qs 13 ?_|refine Qxa 13 ?_|refine Qya 13 ?_|refine Qt 13 ?_|refine Qu 13 ?_|fail)
          refine Qw 16 ?_
          refine Qc ?_
          refine SXL.nil (SXA.nextLast rfl ?_)
          refine Qw 17 ?_
          refine Qc ?_
          refine SXL.nil (SXA.nextLast rfl ?_)
          refine Qv ?_
          refine SX.meet ⟨p15, p16, b2, cap2, t2, ps2, r2, Ad2, cd2, Ae2, ce2, hW, hcap2, hps2, m2, rfl, rfl⟩ (by repeat (first | exact trivial | refine ⟨rfl, ?_⟩)) inferInstance
    rintro _ _ ⟨p15, p16, b2, cap2, t2, ps2, r2, Ad2, cd2, Ae2, ce2, hW, hcap2, hps2, m2, rfl, rfl⟩
    repeat (first|refine Qa ?_|refine Qb ?_|refine Qc ?_|refine Qd ?_|refine Qe ?_|refine Qf ?_|refine Qg ?_|refine Qh ?_|refine Qi ?_|refine Qj ?_|refine Qk ?_|refine Ql ?_|refine Qm ?_|refine Qn ?_|refine Qo ?_|refine Qp ?_|refine Qq ?_|fail)
    refine SXL.idx rfl rfl rfl rfl rfl (by omega) (by omega) rfl ?_
    repeat (first|refine Qa ?_|refine Qb ?_|refine Qc ?_|refine Qd ?_|refine Qe ?_|refine Qf ?_|refine Qg ?_|refine Qh ?_|refine Qi ?_|refine Qj ?_|refine Qk ?_|refine Ql ?_|refine Qm ?_|refine Qn ?_|refine Qo ?_|refine Qp ?_|refine Qq ?_|fail)
    refine SXL.loadRow (cellsK (kRow).sz) rfl rfl inferInstance (by rw [Int.toNat_natCast]; exact hcc) rfl rfl ?_
    repeat (first|refine Qa ?_|refine Qb ?_|refine Qc ?_|refine Qd ?_|refine Qe ?_|refine Qf ?_|refine Qg ?_|refine Qh ?_|refine Qi ?_|refine Qj ?_|refine Qk ?_|refine Ql ?_|refine Qm ?_|refine Qn ?_|refine Qo ?_|refine Qp ?_|refine Qq ?_|fail)
    have hqe : IntKind.i64.wrap ((q : Int) + (e.length : Int)) = ((q + e.length : Nat) : Int) := by rw [IntWalk.i64_in _ (by omega)]; omega
    rw [hqe]
    refine SX.condp rfl (fun hb => ?_) (fun hb => ?_)
    · rcases hW with ⟨w1, w2, w3⟩ | ⟨w1, -, -⟩
      rotate_left
      · omega
      unfold reK
      rw [w2]
      repeat (first|refine Qa ?_|refine Qb ?_|refine Qc ?_|refine Qd ?_|refine Qe ?_|refine Qf ?_|refine Qg ?_|refine Qh ?_|refine Qi ?_|refine Qj ?_|refine Qk ?_|refine Ql ?_|refine Qm ?_|refine Qn ?_|refine Qo ?_|refine Qp ?_|refine Qq ?_|fail)
      refine SX.same 13 (.int .i64 ((i + 1 : Nat) : Int)) rfl (by simp (disch := omega) only [IntWalk.i64_in, IntWalk.u8_in, IntWalk.u32_in, IntWalk.u64_in, IntWalk.rem_in, Int.natCast_add, Int.natCast_one]) ?_
      refine SX.again (z - 1) (by omega) ⟨i + 1, b2, cap2, t2, ps2, d, A12, c12, by omega, by rw [w3]; exact hI, hc12, hcap2, hps2, m2, rfl, rfl⟩ (by repeat (first | exact trivial | refine ⟨rfl, ?_⟩)) inferInstance
    rcases hW with ⟨w1, -, -⟩ | ⟨w1, w2, hI2⟩
    · omega
    unfold reK
    rw [w2]
    repeat (first|refine Qa ?_|refine Qb ?_|refine Qc ?_|refine Qd ?_|refine Qe ?_|refine Qf ?_|refine Qg ?_|refine Qh ?_|refine Qi ?_|refine Qj ?_|refine Qk ?_|refine Ql ?_|refine Qm ?_|refine Qn ?_|refine Qo ?_|refine Qp ?_|refine Qq ?_|fail)
    obtain ⟨W, hW⟩ : ∃ W : List Int, W = if e.length = 0 then d else sizedL d (max d.length (q + e.length)) := ⟨_, rfl⟩
    have hWl : W.length = (wrL d q e).length := by
      rw [hW, wrL_len]
      split
      · rfl
      · rw [sizedL_length]
    have hsz : ∀ j : Nat, d.length + j = max d.length (q + e.length) → sizedL d (max d.length (q + e.length)) = d ++ List.replicate j 0 := fun j hj => by
      rw [sized_app (Nat.le_max_left _ _), show max d.length (q + e.length) - d.length = j by omega]
    refine SX.loop (fun z a M => ∃ (j : Nat) (A12 : Option Addr) (c12 : Nat), (j = 0 ∨ (0 < e.length ∧ d.length + j ≤ q + e.length)) ∧ z = 2000 - j ∧ (d ++ List.replicate j 0).length ≤ c12 ∧ a = [(0, .slice (some ⟨bA, oA, none⟩) xs.length c), (1, .slice (some ⟨bP, oP, none⟩) pl.length c2), (2, .int .u16 fr), (3, .int .u16 cn), (10, .pointer (some ⟨p10, 0, none⟩)), (11, .pointer (some ⟨p11, 0, none⟩)), (12, .slice A12 (d ++ List.replicate j 0).length c12), (13, .int .i64 i), (14, .int .i64 q)] ∧ (.per (pureR (e.length ≤ x.2)) :: .per (roR (Kd.int .u8) x.1 e) :: .own A12 (rowR (Kd.int .u8) 5 (.slice A12 (d ++ List.replicate j 0).length c12) (d ++ List.replicate j 0)) :: .own (some ⟨p10, 0, none⟩) (cellsR p10 (thC (some ⟨b2, 0, none⟩) 24 cap2 (t2).ch (t2).room) 27) :: thP b2 (t2).l ps2 :: .per (datR (t2).l ps2) :: .own (some ⟨p11, 0, none⟩) (cellsR p11 (reK { r1 with st := 0, ai := 1, ag := 1 } Ad1 cd1 Ae1 ce1) 49) :: .per (roR (cellsK (kRow).sz) (some ⟨bA, oA, none⟩) css) :: .per (fksR kRow xs css) :: F) = M)
      2000 ⟨0, A12, c12, Or.inl rfl, rfl, by rw [List.replicate_zero, List.append_nil]; exact hc12, by rw [List.replicate_zero, List.append_nil], rfl⟩ (by repeat (first | exact trivial | refine ⟨rfl, ?_⟩)) (by rw [List.replicate_zero, List.append_nil]; infer_instance) ?_
    clear hc12
    rintro z2 _ _ ⟨j, A12, c12, hj, hz2, hc12, rfl, rfl⟩
    have hjl : (d ++ List.replicate j 0).length = d.length + j := by rw [List.length_append, List.length_replicate]
    refine Qf ?_
    refine Qf ?_
    refine SX.cut (fun a' M' => a' = [(0, .slice (some ⟨bA, oA, none⟩) xs.length c), (1, .slice (some ⟨bP, oP, none⟩) pl.length c2), (2, .int .u16 fr), (3, .int .u16 cn), (10, .pointer (some ⟨p10, 0, none⟩)), (11, .pointer (some ⟨p11, 0, none⟩)), (12, .slice A12 (d ++ List.replicate j 0).length c12), (13, .int .i64 i), (14, .int .i64 q), (111, .bool (decide (0 < e.length ∧ d.length + j < q + e.length)))] ∧ (.per (pureR (e.length ≤ x.2)) :: .per (roR (Kd.int .u8) x.1 e) :: .own A12 (rowR (Kd.int .u8) 5 (.slice A12 (d ++ List.replicate j 0).length c12) (d ++ List.replicate j 0)) :: .own (some ⟨p10, 0, none⟩) (cellsR p10 (thC (some ⟨b2, 0, none⟩) 24 cap2 (t2).ch (t2).room) 27) :: thP b2 (t2).l ps2 :: .per (datR (t2).l ps2) :: .own (some ⟨p11, 0, none⟩) (cellsR p11 (reK { r1 with st := 0, ai := 1, ag := 1 } Ad1 cd1 Ae1 ce1) 49) :: .per (roR (cellsK (kRow).sz) (some ⟨bA, oA, none⟩) css) :: .per (fksR kRow xs css) :: F) = M') ?_ ?_
    · repeat (first|refine Qa ?_|refine Qb ?_|refine Qc ?_|refine Qd ?_|refine Qe ?_|refine Qf ?_|refine Qg ?_|refine Qh ?_|refine Qi ?_|refine Qj ?_|refine Qk ?_|refine Ql ?_|refine Qm ?_|refine Qn ?_|refine Qo ?_|refine Qp ?_|refine Qq ?_|fail)
      refine SXL.idx rfl rfl rfl rfl rfl (by omega) (by omega) rfl ?_
      repeat (first|refine Qa ?_|refine Qb ?_|refine Qc ?_|refine Qd ?_|refine Qe ?_|refine Qf ?_|refine Qg ?_|refine Qh ?_|refine Qi ?_|refine Qj ?_|refine Qk ?_|refine Ql ?_|refine Qm ?_|refine Qn ?_|refine Qo ?_|refine Qp ?_|refine Qq ?_|fail)
      refine SXL.loadRow (cellsK (kRow).sz) rfl rfl inferInstance (by rw [Int.toNat_natCast]; exact hcc) rfl rfl ?_
      repeat (first|refine Qa ?_|refine Qb ?_|refine Qc ?_|refine Qd ?_|refine Qe ?_|refine Qf ?_|refine Qg ?_|refine Qh ?_|refine Qi ?_|refine Qj ?_|refine Qk ?_|refine Ql ?_|refine Qm ?_|refine Qn ?_|refine Qo ?_|refine Qp ?_|refine Qq ?_|fail)
      by_cases h0 : e.length = 0
      · refine SXL.know 100 false rfl (decide_eq_false (by omega)) ?_
        repeat (first|refine Qa ?_|refine Qb ?_|refine Qc ?_|refine Qd ?_|refine Qe ?_|refine Qf ?_|refine Qg ?_|refine Qh ?_|refine Qi ?_|refine Qj ?_|refine Qk ?_|refine Ql ?_|refine Qm ?_|refine Qn ?_|refine Qo ?_|refine Qp ?_|refine Qq ?_|fail)
        refine SX.same 111 (.bool (decide (0 < e.length ∧ d.length + j < q + e.length))) rfl (by rw [decide_eq_false (by omega)]) ?_
        refine SX.meet ⟨rfl, rfl⟩ (by repeat (first | exact trivial | refine ⟨rfl, ?_⟩)) inferInstance
      · refine SXL.know 100 true rfl (decide_eq_true (by omega)) ?_
        repeat (first|refine Qa ?_|refine Qb ?_|refine Qc ?_|refine Qd ?_|refine Qe ?_|refine Qf ?_|refine Qg ?_|refine Qh ?_|refine Qi ?_|refine Qj ?_|refine Qk ?_|refine Ql ?_|refine Qm ?_|refine Qn ?_|refine Qo ?_|refine Qp ?_|refine Qq ?_|fail)
        refine SXL.idx rfl rfl rfl rfl rfl (by omega) (by omega) rfl ?_
        repeat (first|refine Qa ?_|refine Qb ?_|refine Qc ?_|refine Qd ?_|refine Qe ?_|refine Qf ?_|refine Qg ?_|refine Qh ?_|refine Qi ?_|refine Qj ?_|refine Qk ?_|refine Ql ?_|refine Qm ?_|refine Qn ?_|refine Qo ?_|refine Qp ?_|refine Qq ?_|fail)
        refine SXL.loadRow (cellsK (kRow).sz) rfl rfl inferInstance (by rw [Int.toNat_natCast]; exact hcc) rfl rfl ?_
        repeat (first|refine Qa ?_|refine Qb ?_|refine Qc ?_|refine Qd ?_|refine Qe ?_|refine Qf ?_|refine Qg ?_|refine Qh ?_|refine Qi ?_|refine Qj ?_|refine Qk ?_|refine Ql ?_|refine Qm ?_|refine Qn ?_|refine Qo ?_|refine Qp ?_|refine Qq ?_|fail)
        rw [hqe]
        repeat (first|refine Qa ?_|refine Qb ?_|refine Qc ?_|refine Qd ?_|refine Qe ?_|refine Qf ?_|refine Qg ?_|refine Qh ?_|refine Qi ?_|refine Qj ?_|refine Qk ?_|refine Ql ?_|refine Qm ?_|refine Qn ?_|refine Qo ?_|refine Qp ?_|refine Qq ?_|fail)
        refine SX.same 111 (.bool (decide (0 < e.length ∧ d.length + j < q + e.length))) rfl (by congr 1; exact decide_eq_decide.2 (by rw [hjl]; omega)) ?_
        refine SX.meet ⟨rfl, rfl⟩ (by repeat (first | exact trivial | refine ⟨rfl, ?_⟩)) inferInstance
    rintro _ _ ⟨rfl, rfl⟩
    refine SX.condp rfl (fun hb2 => ?_) (fun hb2 => ?_)
    · repeat (first|refine Qa ?_|refine Qb ?_|refine Qc ?_|refine Qd ?_|refine Qe ?_|refine Qf ?_|refine Qg ?_|refine Qh ?_|refine Qi ?_|refine Qj ?_|refine Qk ?_|refine Ql ?_|refine Qm ?_|refine Qn ?_|refine Qo ?_|refine Qp ?_|refine Qq ?_|fail)
      refine SXL.lit rfl rfl (fun g1 => ?_)
      refine SXL.litRow (Kd.int .u8) g1 [0] inferInstance rfl (fun _ => rfl) (by simp) ?_
      refine SXL.appendW (Kd.int .u8) rfl rfl inferInstance inferInstance rfl inferInstance (by rw [hjl]; show (_ + 1 + (_ + 1) / 4 + 192) * 1 ≤ _; omega) rfl (fun A12' c12' hc12' => ?_)
      have ej : d ++ List.replicate j 0 ++ [(0 : Int)] = d ++ List.replicate (j + 1) 0 := by rw [List.append_assoc, ← List.replicate_succ']
      rw [ej] at hc12' ⊢
      repeat (first|refine Qa ?_|refine Qb ?_|refine Qc ?_|refine Qd ?_|refine Qe ?_|refine Qf ?_|refine Qg ?_|refine Qh ?_|refine Qi ?_|refine Qj ?_|refine Qk ?_|refine Ql ?_|refine Qm ?_|refine Qn ?_|refine Qo ?_|refine Qp ?_|refine Qq ?_|fail)
      refine SX.again (2000 - (j + 1)) (by omega) ⟨j + 1, A12', c12', Or.inr (by omega), rfl, hc12', rfl, rfl⟩ (by repeat (first | exact trivial | refine ⟨rfl, ?_⟩)) inferInstance
    have hWd : d ++ List.replicate j 0 = W := by
      rw [hW]
      by_cases h0 : e.length = 0
      · rw [if_pos h0]
        obtain rfl : j = 0 := by omega
        rw [List.replicate_zero, List.append_nil]
      · rw [if_neg h0]
        exact (hsz j (by omega)).symm
    have hWn : W.length ≤ 2000 := by rw [← hWd, hjl]; omega
    have hWq : 0 < e.length → q + e.length ≤ W.length := fun h0 => by rw [← hWd, hjl]; omega
    rw [hWd] at hc12 ⊢
    repeat (first|refine Qa ?_|refine Qb ?_|refine Qc ?_|refine Qd ?_|refine Qe ?_|refine Qf ?_|refine Qg ?_|refine Qh ?_|refine Qi ?_|refine Qj ?_|refine Qk ?_|refine Ql ?_|refine Qm ?_|refine Qn ?_|refine Qo ?_|refine Qp ?_|refine Qq ?_|fail)
    refine SX.loop (fun z a M => ∃ k : Nat, k + z = e.length ∧ a = [(0, .slice (some ⟨bA, oA, none⟩) xs.length c), (1, .slice (some ⟨bP, oP, none⟩) pl.length c2), (2, .int .u16 fr), (3, .int .u16 cn), (10, .pointer (some ⟨p10, 0, none⟩)), (11, .pointer (some ⟨p11, 0, none⟩)), (12, .slice A12 (W).length c12), (13, .int .i64 i), (14, .int .i64 q), (17, .int .i64 k)] ∧ (.per (pureR (e.length ≤ x.2)) :: .per (roR (Kd.int .u8) x.1 e) :: .own A12 (rowR (Kd.int .u8) 5 (.slice A12 (W).length c12) (W.take q ++ e.take k ++ W.drop (q + k))) :: .own (some ⟨p10, 0, none⟩) (cellsR p10 (thC (some ⟨b2, 0, none⟩) 24 cap2 (t2).ch (t2).room) 27) :: thP b2 (t2).l ps2 :: .per (datR (t2).l ps2) :: .own (some ⟨p11, 0, none⟩) (cellsR p11 (reK { r1 with st := 0, ai := 1, ag := 1 } Ad1 cd1 Ae1 ce1) 49) :: .per (roR (cellsK (kRow).sz) (some ⟨bA, oA, none⟩) css) :: .per (fksR kRow xs css) :: F) = M)
      e.length ⟨0, by omega, rfl, rfl⟩ (by repeat (first | exact trivial | refine ⟨rfl, ?_⟩)) (by rw [List.take_zero, List.append_nil, Nat.add_zero, List.take_append_drop]; infer_instance) ?_
    rintro z3 _ _ ⟨k, hk, rfl, rfl⟩
    repeat (first|refine Qa ?_|refine Qb ?_|refine Qc ?_|refine Qd ?_|refine Qe ?_|refine Qf ?_|refine Qg ?_|refine Qh ?_|refine Qi ?_|refine Qj ?_|refine Qk ?_|refine Ql ?_|refine Qm ?_|refine Qn ?_|refine Qo ?_|refine Qp ?_|refine Qq ?_|fail)
    refine SXL.idx rfl rfl rfl rfl rfl (by omega) (by omega) rfl ?_
    repeat (first|refine Qa ?_|refine Qb ?_|refine Qc ?_|refine Qd ?_|refine Qe ?_|refine Qf ?_|refine Qg ?_|refine Qh ?_|refine Qi ?_|refine Qj ?_|refine Qk ?_|refine Ql ?_|refine Qm ?_|refine Qn ?_|refine Qo ?_|refine Qp ?_|refine Qq ?_|fail)
    refine SXL.loadRow (cellsK (kRow).sz) rfl rfl inferInstance (by rw [Int.toNat_natCast]; exact hcc) rfl rfl ?_
    repeat (first|refine Qa ?_|refine Qb ?_|refine Qc ?_|refine Qd ?_|refine Qe ?_|refine Qf ?_|refine Qg ?_|refine Qh ?_|refine Qi ?_|refine Qj ?_|refine Qk ?_|refine Ql ?_|refine Qm ?_|refine Qn ?_|refine Qo ?_|refine Qp ?_|refine Qq ?_|fail)
    refine SX.condp rfl (fun hkl => ?_) (fun hkl => ?_)
    · obtain ⟨v, hv⟩ : ∃ v, e[k]? = some v := ⟨_, List.getElem?_eq_getElem (by omega)⟩
      have hqk : IntKind.i64.wrap ((q : Int) + (k : Int)) = ((q + k : Nat) : Int) := by rw [IntWalk.i64_in _ (by omega)]; omega
      have hWq2 := hWq (by omega)
      refine SX.addrOwn (A := A12) (Kd.int .u8) inferInstance (by rw [List.length_append, List.length_append, List.length_take, List.length_take, List.length_drop]; omega) (fun b12 e12 => ?_)
      subst e12
      refine SX.addr (A := x.1) (Kd.int .u8) (by decide) (xs := e) (by omega) (fun bx ox ex => ?_)
      obtain ⟨xA, xc⟩ := x
      simp only at ex hfit
      subst ex
      repeat (first|refine Qa ?_|refine Qb ?_|refine Qc ?_|refine Qd ?_|refine Qe ?_|refine Qf ?_|refine Qg ?_|refine Qh ?_|refine Qi ?_|refine Qj ?_|refine Qk ?_|refine Ql ?_|refine Qm ?_|refine Qn ?_|refine Qo ?_|refine Qp ?_|refine Qq ?_|fail)
      rw [hqk]
      repeat (first|refine Qa ?_|refine Qb ?_|refine Qc ?_|fail)
      refine SXL.idx rfl rfl rfl rfl rfl (by omega) (by omega) rfl ?_
      repeat (first|refine Qa ?_|refine Qb ?_|refine Qc ?_|refine Qd ?_|refine Qe ?_|refine Qf ?_|refine Qg ?_|refine Qh ?_|refine Qi ?_|refine Qj ?_|refine Qk ?_|refine Ql ?_|refine Qm ?_|refine Qn ?_|refine Qo ?_|refine Qp ?_|refine Qq ?_|fail)
      refine SXL.loadRow (cellsK (kRow).sz) rfl rfl inferInstance (by rw [Int.toNat_natCast]; exact hcc) rfl rfl ?_
      repeat (first|refine Qa ?_|refine Qb ?_|refine Qc ?_|refine Qd ?_|refine Qe ?_|refine Qf ?_|refine Qg ?_|refine Qh ?_|refine Qi ?_|refine Qj ?_|refine Qk ?_|refine Ql ?_|refine Qm ?_|refine Qn ?_|refine Qo ?_|refine Qp ?_|refine Qq ?_|fail)
      refine SXL.idx rfl rfl rfl rfl rfl (by omega) (by omega) rfl ?_
      repeat (first|refine Qa ?_|refine Qb ?_|refine Qc ?_|refine Qd ?_|refine Qe ?_|refine Qf ?_|refine Qg ?_|refine Qh ?_|refine Qi ?_|refine Qj ?_|refine Qk ?_|refine Ql ?_|refine Qm ?_|refine Qn ?_|refine Qo ?_|refine Qp ?_|refine Qq ?_|fail)
      refine SXL.loadRow (Kd.int .u8) rfl rfl inferInstance (by rw [Int.toNat_natCast]; exact hv) rfl rfl ?_
      repeat (first|refine Qa ?_|refine Qb ?_|refine Qc ?_|refine Qd ?_|refine Qe ?_|refine Qf ?_|refine Qg ?_|refine Qh ?_|refine Qi ?_|refine Qj ?_|refine Qk ?_|refine Ql ?_|refine Qm ?_|refine Qn ?_|refine Qo ?_|refine Qp ?_|refine Qq ?_|fail)
      refine SXL.idx rfl rfl rfl rfl rfl (by omega) (by omega) rfl ?_
      repeat (first|refine Qa ?_|refine Qb ?_|refine Qc ?_|refine Qd ?_|refine Qe ?_|refine Qf ?_|refine Qg ?_|refine Qh ?_|refine Qi ?_|refine Qj ?_|refine Qk ?_|refine Ql ?_|refine Qm ?_|refine Qn ?_|refine Qo ?_|refine Qp ?_|refine Qq ?_|fail)
      refine SXL.storeElem (off := q + k) ptrQ rfl inferInstance rfl rfl (by omega) ?_
      rw [put_set hv hWq2]
      repeat (first|refine Qa ?_|refine Qb ?_|refine Qc ?_|refine Qd ?_|refine Qe ?_|refine Qf ?_|refine Qg ?_|refine Qh ?_|refine Qi ?_|refine Qj ?_|refine Qk ?_|refine Ql ?_|refine Qm ?_|refine Qn ?_|refine Qo ?_|refine Qp ?_|refine Qq ?_|fail)
      refine SX.same 17 (.int .i64 ((k + 1 : Nat) : Int)) rfl (by simp (disch := omega) only [IntWalk.i64_in, IntWalk.u8_in, IntWalk.u32_in, IntWalk.u64_in, IntWalk.rem_in, Int.natCast_add, Int.natCast_one]) ?_
      refine SX.again (z3 - 1) (by omega) ⟨k + 1, by omega, rfl, rfl⟩ (by repeat (first | exact trivial | refine ⟨rfl, ?_⟩)) inferInstance
    obtain rfl : k = e.length := by omega
    have hfin : W.take q ++ e.take e.length ++ W.drop (q + e.length) = wrL d q e := by
      rw [List.take_length, hW]
      unfold wrL
      by_cases h0 : e.length = 0
      · rw [if_pos h0, if_pos h0, h0, List.eq_nil_of_length_eq_zero h0, List.append_nil, Nat.add_zero, List.take_append_drop]
      · rw [if_neg h0, if_neg h0]
    rw [hfin, hWl]
    rw [hWl] at hc12
    repeat (first|refine Qa ?_|refine Qb ?_|refine Qc ?_|refine Qd ?_|refine Qe ?_|refine Qf ?_|refine Qg ?_|refine Qh ?_|refine Qi ?_|refine Qj ?_|refine Qk ?_|refine Ql ?_|refine Qm ?_|refine Qn ?_|refine Qo ?_|refine Qp ?_|refine Qq ?_|fail)
    refine SX.same 13 (.int .i64 ((i + 1 : Nat) : Int)) rfl (by simp (disch := omega) only [IntWalk.i64_in, IntWalk.u8_in, IntWalk.u32_in, IntWalk.u64_in, IntWalk.rem_in, Int.natCast_add, Int.natCast_one]) ?_
    refine SX.again (z - 1) (by omega) ⟨i + 1, b2, cap2, t2, ps2, wrL d q e, A12, c12, by omega, hI2, hc12, hcap2, hps2, m2, rfl, rfl⟩ (by repeat (first | exact trivial | refine ⟨rfl, ?_⟩)) inferInstance
  clear hi hz
  obtain ⟨fn, rfl⟩ : ∃ fn : Nat, fr = (fn : Int) := ⟨fr.toNat, by omega⟩
  obtain ⟨nn, rfl⟩ : ∃ nn : Nat, cn = (nn : Int) := ⟨cn.toNat, by omega⟩
  have hfw : IntKind.i64.wrap (fn : Int) = (fn : Int) := IntWalk.i64_in _ (by omega)
  have hfu : IntKind.u64.wrap (fn : Int) = (fn : Int) := IntWalk.u64_in _ (by omega)
  have hnw : IntKind.i64.wrap (nn : Int) = (nn : Int) := IntWalk.i64_in _ (by omega)
  have hnu : IntKind.u32.wrap (nn : Int) = (nn : Int) := IntWalk.u32_in _ (by omega)
  obtain ⟨q, hq⟩ : ∃ q : Nat, q = min fn d.length := ⟨_, rfl⟩
  obtain ⟨n, hn⟩ : ∃ n : Nat, n = min nn (d.length - q) := ⟨_, rfl⟩
  obtain ⟨m, hm7⟩ : ∃ m : Nat, m = nn % 700 := ⟨_, rfl⟩
  have hmu : IntKind.u32.wrap ((nn : Int).tmod 700) = (m : Int) := by rw [Int.tmod_eq_emod_of_nonneg (by omega), IntWalk.u32_in _ (by omega)]; omega
  have hmw : IntKind.i64.wrap ((nn : Int).tmod 700) = (m : Int) := by rw [Int.tmod_eq_emod_of_nonneg (by omega), IntWalk.i64_in _ (by omega)]; omega
  have hqn : IntKind.i64.wrap ((q : Int) + (n : Int)) = ((q + n : Nat) : Int) := by rw [IntWalk.i64_in _ (by omega)]; omega
  refine SX.keepRow A12 inferInstance ?_
  repeat (first|refine Qa ?_|refine Qb ?_|refine Qc ?_|refine Qd ?_|refine Qe ?_|refine Qf ?_|refine Qg ?_|refine Qh ?_|refine Qi ?_|refine Qj ?_|refine Qk ?_|refine Ql ?_|refine Qm ?_|refine Qn ?_|refine Qo ?_|refine Qp ?_|refine Qq ?_|fail)
  refine SXL.min rfl rfl rfl ?_
  refine SXL.same 140 (.int .i64 (q : Int)) rfl (congrArg (Value.int .i64) (by rw [hfw]; split <;> omega)) ?_
  repeat (first|refine Qa ?_|refine Qb ?_|refine Qc ?_|refine Qd ?_|refine Qe ?_|refine Qf ?_|refine Qg ?_|refine Qh ?_|refine Qi ?_|refine Qj ?_|refine Qk ?_|refine Ql ?_|refine Qm ?_|refine Qn ?_|refine Qo ?_|refine Qp ?_|refine Qq ?_|fail)
  refine SXL.min rfl rfl rfl ?_
  refine SXL.same 147 (.int .i64 (n : Int)) rfl (congrArg (Value.int .i64) (by rw [hnw, IntWalk.i64_in _ (by omega)]; split <;> omega)) ?_
  repeat (first|refine Qa ?_|refine Qb ?_|refine Qc ?_|refine Qd ?_|refine Qe ?_|refine Qf ?_|refine Qg ?_|refine Qh ?_|refine Qi ?_|refine Qj ?_|refine Qk ?_|refine Ql ?_|refine Qm ?_|refine Qn ?_|refine Qo ?_|refine Qp ?_|refine Qq ?_|fail)
  rw [hfu, hnu]
  unfold reK
  dsimp only
  repeat (first|refine Qa ?_|refine Qb ?_|refine Qc ?_|refine Qd ?_|refine Qe ?_|refine Qf ?_|refine Qg ?_|refine Qh ?_|refine Qi ?_|refine Qj ?_|refine Qk ?_|refine Ql ?_|refine Qm ?_|refine Qn ?_|refine Qo ?_|refine Qp ?_|refine Qq ?_|fail)
  refine SXL.call rfl rfl rfl ?_
  refine (Do_S (t := t) (ps := ps) (c := ca 4 1 1 ⟨#[]⟩ (nn : Int) (fn : Int) []) (Ac := none) (cc := 0) inferInstance inferInstance hm hps hcap (ca_wf ⟨by decide, by decide⟩ ⟨by decide, by decide⟩ ⟨by decide, by decide⟩ ⟨by omega, by omega⟩ ⟨by omega, by omega⟩ rfl) (Nat.zero_le _) (Nat.le_refl _) inferInstance (fun _ _ => ⟨readE, read_S, fun t r => rfl⟩) (fun t3 r3 b3 cap3 ps3 Ad3 cd3 Ae3 ce3 he3 hcap3 hps3 m3 hd3 hx3 => callK.ret ?_))
  obtain ⟨rs3, rd3, re3⟩ := hI.read he3
  clear he3
  rw [← hq, ← hn] at rd3 re3
  rw [rd3]
  repeat (first|refine Qa ?_|refine Qb ?_|refine Qc ?_|refine Qd ?_|refine Qe ?_|refine Qf ?_|refine Qg ?_|refine Qh ?_|refine Qi ?_|refine Qj ?_|refine Qk ?_|refine Ql ?_|refine Qm ?_|refine Qn ?_|refine Qo ?_|refine Qp ?_|refine Qq ?_|fail)
  refine SXL.alloc rfl rfl (fun p20 => ?_)
  repeat (first|refine Qa ?_|refine Qb ?_|refine Qc ?_|refine Qd ?_|refine Qe ?_|refine Qf ?_|refine Qg ?_|refine Qh ?_|refine Qi ?_|refine Qj ?_|refine Qk ?_|refine Ql ?_|refine Qm ?_|refine Qn ?_|refine Qo ?_|refine Qp ?_|refine Qq ?_|fail)
  refine SXL.alloc rfl rfl (fun p21 => ?_)
  repeat (first|refine Qa ?_|refine Qb ?_|refine Qc ?_|refine Qd ?_|refine Qe ?_|refine Qf ?_|refine Qg ?_|refine Qh ?_|refine Qi ?_|refine Qj ?_|refine Qk ?_|refine Ql ?_|refine Qm ?_|refine Qn ?_|refine Qo ?_|refine Qp ?_|refine Qq ?_|fail)
  rw [hmu]
  repeat (first|refine Qa ?_|refine Qb ?_|refine Qc ?_|refine Qd ?_|refine Qe ?_|refine Qf ?_|refine Qg ?_|refine Qh ?_|refine Qi ?_|refine Qj ?_|refine Qk ?_|refine Ql ?_|refine Qm ?_|refine Qn ?_|refine Qo ?_|refine Qp ?_|refine Qq ?_|fail)
  refine SXL.call rfl rfl rfl ?_
  refine (Do_S (t := t) (ps := ps) (c := ca 3 1 1 ⟨#[]⟩ (m : Int) 1 []) (Ac := none) (cc := 0) inferInstance inferInstance hm hps hcap (ca_wf ⟨by decide, by decide⟩ ⟨by decide, by decide⟩ ⟨by decide, by decide⟩ ⟨by omega, by omega⟩ ⟨by decide, by decide⟩ rfl) (Nat.zero_le _) (Nat.le_refl _) inferInstance (fun _ _ => ⟨setattrE, setattr_S, fun t r => rfl⟩) (fun t4 r4 b4 cap4 ps4 Ad4 cd4 Ae4 ce4 he4 hcap4 hps4 m4 hd4 hx4 => callK.ret ?_))
  obtain ⟨rs4, hI4⟩ := hI.size (by omega) he4
  clear he4
  repeat (first|refine Qa ?_|refine Qb ?_|refine Qc ?_|refine Qd ?_|refine Qe ?_|refine Qf ?_|refine Qg ?_|refine Qh ?_|refine Qi ?_|refine Qj ?_|refine Qk ?_|refine Ql ?_|refine Qm ?_|refine Qn ?_|refine Qo ?_|refine Qp ?_|refine Qq ?_|fail)
  refine SXL.alloc rfl rfl (fun p22 => ?_)
  repeat (first|refine Qa ?_|refine Qb ?_|refine Qc ?_|refine Qd ?_|refine Qe ?_|refine Qf ?_|refine Qg ?_|refine Qh ?_|refine Qi ?_|refine Qj ?_|refine Qk ?_|refine Ql ?_|refine Qm ?_|refine Qn ?_|refine Qo ?_|refine Qp ?_|refine Qq ?_|fail)
  refine SXL.alloc rfl rfl (fun p23 => ?_)
  repeat (first|refine Qa ?_|refine Qb ?_|refine Qc ?_|refine Qd ?_|refine Qe ?_|refine Qf ?_|refine Qg ?_|refine Qh ?_|refine Qi ?_|refine Qj ?_|refine Qk ?_|refine Ql ?_|refine Qm ?_|refine Qn ?_|refine Qo ?_|refine Qp ?_|refine Qq ?_|fail)
  refine SXL.call rfl rfl rfl ?_
  refine (Do_S (t := t4) (ps := ps4) (c := ca 4 1 1 ⟨#[]⟩ 900 0 []) (Ac := none) (cc := 0) inferInstance inferInstance m4 hps4 hcap4 (ca_wf ⟨by decide, by decide⟩ ⟨by decide, by decide⟩ ⟨by decide, by decide⟩ ⟨by decide, by decide⟩ u64_0 rfl) (Nat.zero_le _) (Nat.le_refl _) inferInstance (fun _ _ => ⟨readE, read_S, fun t r => rfl⟩) (fun t5 r5 b5 cap5 ps5 Ad5 cd5 Ae5 ce5 he5 hcap5 hps5 m5 hd5 hx5 => callK.ret ?_))
  obtain ⟨rs5, rd5, -⟩ := hI4.read (off := 0) (cnt := 900) he5
  clear he5
  have hzl : (sizedL d m).length = m := sizedL_length d m
  rw [Nat.zero_min, List.drop_zero, List.take_of_length_le (by rw [hzl]; omega)] at rd5
  rw [rd5] at hd5 ⊢
  rw [rd3] at hd3
  repeat (first|refine Qa ?_|refine Qb ?_|refine Qc ?_|refine Qd ?_|refine Qe ?_|refine Qf ?_|refine Qg ?_|refine Qh ?_|refine Qi ?_|refine Qj ?_|refine Qk ?_|refine Ql ?_|refine Qm ?_|refine Qn ?_|refine Qo ?_|refine Qp ?_|refine Qq ?_|fail)
  refine SXL.alloc rfl rfl (fun p24 => ?_)
  repeat (first|refine Qa ?_|refine Qb ?_|refine Qc ?_|refine Qd ?_|refine Qe ?_|refine Qf ?_|refine Qg ?_|refine Qh ?_|refine Qi ?_|refine Qj ?_|refine Qk ?_|refine Ql ?_|refine Qm ?_|refine Qn ?_|refine Qo ?_|refine Qp ?_|refine Qq ?_|fail)
  refine SXL.alloc rfl rfl (fun p25 => ?_)
  repeat (first|refine Qa ?_|refine Qb ?_|refine Qc ?_|refine Qd ?_|refine Qe ?_|refine Qf ?_|refine Qg ?_|refine Qh ?_|refine Qi ?_|refine Qj ?_|refine Qk ?_|refine Ql ?_|refine Qm ?_|refine Qn ?_|refine Qo ?_|refine Qp ?_|refine Qq ?_|fail)
  unfold reK
  rw [rs3, re3, rs4, rs5, rd3, rd5]
  repeat (first|refine Qa ?_|refine Qb ?_|refine Qc ?_|refine Qd ?_|refine Qe ?_|refine Qf ?_|refine Qg ?_|refine Qh ?_|refine Qi ?_|refine Qj ?_|refine Qk ?_|refine Ql ?_|refine Qm ?_|refine Qn ?_|refine Qo ?_|refine Qp ?_|refine Qq ?_|fail)
  have hdq : (d.drop q).length = d.length - q := List.length_drop
  have hdn : ((d.drop q).take n).length = n := by rw [List.length_take, hdq]; omega
  refine SXA.begin (.own (some ⟨p21, 0, none⟩) (cellsR p21 (reK { r3 with st := 0, d := (d.drop q).take n, eof := decide (q + n = d.length) } Ad3 cd3 Ae3 ce3) 49) :: .own (some ⟨p23, 0, none⟩) (cellsR p23 (reK { r4 with st := 0 } Ad4 cd4 Ae4 ce4) 49) :: .own (some ⟨p25, 0, none⟩) (cellsR p25 (reK { r5 with st := 0, d := sizedL d m } Ad5 cd5 Ae5 ce5) 49) :: .per (roR (Kd.int .u8) Ad3 ((d.drop q).take n)) :: .per (roR (Kd.int .u8) Ad5 (sizedL d m)) :: .per (roR (Kd.int .u8) A12 d) :: F) [] ?_
  unfold reK
  dsimp only
  (first|refine Qr 0 ?_|refine Qs 0 ?_|refine Qxa 0 ?_|refine Qya 0 ?_|refine Qt 0 ?_|refine Qu 0 ?_|fail)
  (first|refine Qr 1 ?_|refine Qs 1 ?_|refine Qxa 1 ?_|refine Qya 1 ?_|refine Qt 1 ?_|refine Qu 1 ?_|fail)
  (first|refine Qr 2 ?_|refine Qs 2 ?_|refine Qxa 2 ?_|refine Qya 2 ?_|refine Qt 2 ?_|refine Qu 2 ?_|fail)
  (first|refine Qr 3 ?_|refine Qs 3 ?_|refine Qxa 3 ?_|refine Qya 3 ?_|refine Qt 3 ?_|refine Qu 3 ?_|fail)
  (first|refine Qr 4 ?_|refine Qs 4 ?_|refine Qxa 4 ?_|refine Qya 4 ?_|refine Qt 4 ?_|refine Qu 4 ?_|fail)
  (first|refine Qr 7 ?_|refine Qs 7 ?_|refine Qxa 7 ?_|refine Qya 7 ?_|refine Qt 7 ?_|refine Qu 7 ?_|fail)
  (first|refine Qr 8 ?_|refine Qs 8 ?_|refine Qxa 8 ?_|refine Qya 8 ?_|refine Qt 8 ?_|refine Qu 8 ?_|fail)
  (first|refine Qr 9 ?_|refine Qs 9 ?_|refine Qxa 9 ?_|refine Qya 9 ?_|refine Qt 9 ?_|refine Qu 9 ?_|fail)
  (first|refine Qr 10 ?_|refine Qs 10 ?_|refine Qxa 10 ?_|refine Qya 10 ?_|refine Qt 10 ?_|refine Qu 10 ?_|fail)
  (first|refine Qr 5 ?_|refine Qs 5 ?_|refine Qxa 5 ?_|refine Qya 5 ?_|refine Qt 5 ?_|refine Qu 5 ?_|fail)
  (first|refine Qr 11 ?_|refine Qs 11 ?_|refine Qt 11 ?_|refine Qu 11 ?_|fail)
  rw [hqn]
  refine SXA.bytesStr 6 rfl (by decide +kernel) rfl rfl inferInstance rfl Tryz.underlying38 Tryz.underlying5 Tryz.underlying9 rfl inferInstance ?_
  refine Qw 12 ?_
  refine Qm ?_
  refine SXL.cut rfl rfl rfl rfl rfl rfl hc12 (by omega) (by omega) (by omega) rfl ?_
  refine SXL.nil (SXA.next inferInstance ?_)
  refine Qw 13 ?_
  refine Qm ?_
  refine SXL.dropRow (Kd.int .u8) (A := A12) (xs := d) q inferInstance hc12 (fun B hB => ?_)
  refine SXL.takeRow (Kd.int .u8) (A := B) (xs := d.drop q) n inferInstance ?_
  refine SXL.same 191 (.slice B ((d.drop q).take n).length (c12 - q)) rfl (by rw [hdn, hB]; simp only [Int.toNat_natCast, Nat.add_sub_cancel_left]; rfl) ?_
  refine SXL.bytesStr rfl inferInstance rfl Tryz.underlying38 Tryz.underlying5 Tryz.underlying9 rfl ?_
  refine SXL.nil (SXA.next inferInstance ?_)
  (first|refine Qr 14 ?_|refine Qs 14 ?_|refine Qxa 14 ?_|refine Qya 14 ?_|refine Qt 14 ?_|refine Qu 14 ?_|fail)
  (first|refine Qr 15 ?_|refine Qs 15 ?_|refine Qxa 15 ?_|refine Qya 15 ?_|refine Qt 15 ?_|refine Qu 15 ?_|fail)
  (first|refine Qr 16 ?_|refine Qs 16 ?_|refine Qt 16 ?_|refine Qu 16 ?_|fail)
  refine SXA.know 195 false rfl (by simp) ?_
  (first|refine Qr 17 ?_|refine Qs 17 ?_|refine Qxa 17 ?_|refine Qya 17 ?_|refine Qt 17 ?_|refine Qu 17 ?_|fail)
  (first|refine Qr 19 ?_|refine Qs 19 ?_|refine Qxa 19 ?_|refine Qya 19 ?_|refine Qt 19 ?_|refine Qu 19 ?_|fail)
  (first|refine Qr 20 ?_|refine Qs 20 ?_|refine Qxa 20 ?_|refine Qya 20 ?_|refine Qt 20 ?_|refine Qu 20 ?_|fail)
  (first|refine Qr 22 ?_|refine Qs 22 ?_|refine Qxa 22 ?_|refine Qya 22 ?_|refine Qt 22 ?_|refine Qu 22 ?_|fail)
  (first|refine Qr 18 ?_|refine Qs 18 ?_|refine Qxa 18 ?_|refine Qya 18 ?_|refine Qt 18 ?_|refine Qu 18 ?_|fail)
  (first|refine Qr 21 ?_|refine Qs 21 ?_|refine Qt 21 ?_|refine Qu 21 ?_|fail)
  rw [hqn]
  (first|refine Qr 23 ?_|refine Qs 23 ?_|refine Qxa 23 ?_|refine Qya 23 ?_|refine Qt 23 ?_|refine Qu 23 ?_|fail)
  (first|refine Qr 24 ?_|refine Qs 24 ?_|refine Qxa 24 ?_|refine Qya 24 ?_|refine Qt 24 ?_|refine Qu 24 ?_|fail)
  (first|refine Qr 25 ?_|refine Qs 25 ?_|refine Qxa 25 ?_|refine Qya 25 ?_|refine Qt 25 ?_|refine Qu 25 ?_|fail)
  (first|refine Qr 26 ?_|refine Qs 26 ?_|refine Qxa 26 ?_|refine Qya 26 ?_|refine Qt 26 ?_|refine Qu 26 ?_|fail)
  (first|refine Qr 27 ?_|refine Qs 27 ?_|refine Qt 27 ?_|refine Qu 27 ?_|fail)
  refine SXA.know 206 false rfl (eofB _ _) ?_
  (first|refine Qr 28 ?_|refine Qs 28 ?_|refine Qxa 28 ?_|refine Qya 28 ?_|refine Qt 28 ?_|refine Qu 28 ?_|fail)
  (first|refine Qr 29 ?_|refine Qs 29 ?_|refine Qxa 29 ?_|refine Qya 29 ?_|refine Qt 29 ?_|refine Qu 29 ?_|fail)
  (first|refine Qr 30 ?_|refine Qs 30 ?_|refine Qxa 30 ?_|refine Qya 30 ?_|refine Qt 30 ?_|refine Qu 30 ?_|fail)
  (first|refine Qr 31 ?_|refine Qs 31 ?_|refine Qxa 31 ?_|refine Qya 31 ?_|refine Qt 31 ?_|refine Qu 31 ?_|fail)
  (first|refine Qr 32 ?_|refine Qs 32 ?_|refine Qxa 32 ?_|refine Qya 32 ?_|refine Qt 32 ?_|refine Qu 32 ?_|fail)
  (first|refine Qr 33 ?_|refine Qs 33 ?_|refine Qxa 33 ?_|refine Qya 33 ?_|refine Qt 33 ?_|refine Qu 33 ?_|fail)
  (first|refine Qr 36 ?_|refine Qs 36 ?_|refine Qxa 36 ?_|refine Qya 36 ?_|refine Qt 36 ?_|refine Qu 36 ?_|fail)
  (first|refine Qr 34 ?_|refine Qs 34 ?_|refine Qxa 34 ?_|refine Qya 34 ?_|refine Qt 34 ?_|refine Qu 34 ?_|fail)
  (first|refine Qr 37 ?_|refine Qs 37 ?_|refine Qxa 37 ?_|refine Qya 37 ?_|refine Qt 37 ?_|refine Qu 37 ?_|fail)
  (first|refine Qr 35 ?_|refine Qs 35 ?_|refine Qxa 35 ?_|refine Qya 35 ?_|refine Qt 35 ?_|refine Qu 35 ?_|fail)
  (first|refine Qr 38 ?_|refine Qs 38 ?_|refine Qt 38 ?_|refine Qu 38 ?_|fail)
  rw [hmw]
  (first|refine Qr 39 ?_|refine Qs 39 ?_|refine Qxa 39 ?_|refine Qya 39 ?_|refine Qt 39 ?_|refine Qu 39 ?_|fail)
  (first|refine Qr 40 ?_|refine Qs 40 ?_|refine Qxa 40 ?_|refine Qya 40 ?_|refine Qt 40 ?_|refine Qu 40 ?_|fail)
  refine Qv ?_
  refine SX.know 219 false rfl (by rw [hzl]; simp) ?_
  repeat (first|refine Qa ?_|refine Qb ?_|refine Qc ?_|refine Qd ?_|refine Qe ?_|refine Qf ?_|refine Qg ?_|refine Qh ?_|refine Qi ?_|refine Qj ?_|refine Qk ?_|refine Ql ?_|refine Qm ?_|refine Qn ?_|refine Qo ?_|refine Qp ?_|refine Qq ?_|fail)
  have hz1 : ∀ i : Nat, i < m → i < d.length → (sizedL d m)[i]? = d[i]? := fun i h1 h2 => by
    unfold sizedL
    rw [List.getElem?_append_left (by rw [List.length_take]; omega), List.getElem?_take, if_pos h1]
  have hz2 : ∀ i : Nat, i < m → ¬ i < d.length → (sizedL d m)[i]? = some 0 := fun i h1 h2 => by
    unfold sizedL
    rw [List.getElem?_append_right (by rw [List.length_take]; omega), List.length_take, List.getElem?_replicate, if_pos (by omega)]
  refine SX.loop (fun z a M => ∃ i : Nat, i + z = m ∧ a = [(12, .slice A12 d.length c12), (25, .pointer (some ⟨p25, 0, none⟩)), (26, .int .i64 i)] ∧ (.own (some ⟨p25, 0, none⟩) (cellsR p25 (reK { r5 with st := 0, d := sizedL d m } Ad5 cd5 Ae5 ce5) 49) :: .per (roR (Kd.int .u8) Ad5 (sizedL d m)) :: .per (roR (Kd.int .u8) A12 d) :: F) = M) m ⟨0, by omega, rfl, rfl⟩ (by repeat (first | exact trivial | refine ⟨rfl, ?_⟩)) inferInstance ?_
  rintro z _ _ ⟨i, hz, rfl, rfl⟩
  unfold reK
  dsimp only
  repeat (first|refine Qa ?_|refine Qb ?_|refine Qc ?_|refine Qd ?_|refine Qe ?_|refine Qf ?_|refine Qg ?_|refine Qh ?_|refine Qi ?_|refine Qj ?_|refine Qk ?_|refine Ql ?_|refine Qm ?_|refine Qn ?_|refine Qo ?_|refine Qp ?_|refine Qq ?_|fail)
  refine SX.condp rfl (fun hi => ?_) (fun hi => ?_)
  rotate_left
  · repeat (first|refine Qa ?_|refine Qb ?_|refine Qc ?_|refine Qd ?_|refine Qe ?_|refine Qf ?_|refine Qg ?_|refine Qh ?_|refine Qi ?_|refine Qj ?_|refine Qk ?_|refine Ql ?_|refine Qm ?_|refine Qn ?_|refine Qo ?_|refine Qp ?_|refine Qq ?_|fail)
    refine SX.ret (M' := F) rfl (Evals.tmp rfl Evals.nil) ?_ inferInstance
    exact h
  have him : i < m := by omega
  refine SX.addr (A := Ad5) (Kd.int .u8) (by decide) (xs := sizedL d m) (by omega) (fun b5 o5 e5 => ?_)
  subst e5
  by_cases hid : i < d.length
  · obtain ⟨v, hv⟩ : ∃ v, d[i]? = some v := ⟨_, List.getElem?_eq_getElem hid⟩
    have hzv : (sizedL d m)[i]? = some v := by rw [hz1 i him hid]; exact hv
    refine SX.addr (A := A12) (Kd.int .u8) (by decide) (xs := d) (by omega) (fun b9 o9 e9 => ?_)
    subst e9
    repeat (first|refine Qa ?_|refine Qb ?_|refine Qc ?_|refine Qd ?_|refine Qe ?_|refine Qf ?_|refine Qg ?_|refine Qh ?_|refine Qi ?_|refine Qj ?_|refine Qk ?_|refine Ql ?_|refine Qm ?_|refine Qn ?_|refine Qo ?_|refine Qp ?_|refine Qq ?_|fail)
    refine SXA.begin (.own (some ⟨p25, 0, none⟩) (cellsR p25 (reK { r5 with st := 0, d := sizedL d m } (some ⟨b5, o5, none⟩) cd5 Ae5 ce5) 49) :: .per (roR (Kd.int .u8) (some ⟨b5, o5, none⟩) (sizedL d m)) :: .per (roR (Kd.int .u8) (some ⟨b9, o9, none⟩) d) :: F) [] ?_
    (first|refine Qr 0 ?_|refine Qs 0 ?_|refine Qxa 0 ?_|refine Qya 0 ?_|refine Qt 0 ?_|refine Qu 0 ?_|fail)
    (first|refine Qr 1 ?_|refine Qs 1 ?_|refine Qxa 1 ?_|refine Qya 1 ?_|refine Qt 1 ?_|refine Qu 1 ?_|fail)
    (first|refine Qr 2 ?_|refine Qs 2 ?_|refine Qxa 2 ?_|refine Qya 2 ?_|refine Qt 2 ?_|refine Qu 2 ?_|fail)
    (first|refine Qr 3 ?_|refine Qs 3 ?_|refine Qxa 3 ?_|refine Qya 3 ?_|refine Qt 3 ?_|refine Qu 3 ?_|fail)
    (first|refine Qr 4 ?_|refine Qs 4 ?_|refine Qt 4 ?_|refine Qu 4 ?_|fail)
    refine SXA.know 231 true rfl (decide_eq_true (by omega)) ?_
    (first|refine Qr 5 ?_|refine Qs 5 ?_|refine Qxa 5 ?_|refine Qya 5 ?_|refine Qt 5 ?_|refine Qu 5 ?_|fail)
    (first|refine Qr 7 ?_|refine Qs 7 ?_|refine Qxa 7 ?_|refine Qya 7 ?_|refine Qt 7 ?_|refine Qu 7 ?_|fail)
    (first|refine Qr 10 ?_|refine Qs 10 ?_|refine Qxa 10 ?_|refine Qya 10 ?_|refine Qt 10 ?_|refine Qu 10 ?_|fail)
    (first|refine Qr 11 ?_|refine Qs 11 ?_|refine Qxa 11 ?_|refine Qya 11 ?_|refine Qt 11 ?_|refine Qu 11 ?_|fail)
    (first|refine Qr 6 ?_|refine Qs 6 ?_|refine Qxa 6 ?_|refine Qya 6 ?_|refine Qt 6 ?_|refine Qu 6 ?_|fail)
    refine SXA.idx 12 rfl (by decide +kernel) rfl rfl rfl rfl rfl rfl (by omega) (by omega) rfl inferInstance ?_
    refine SXA.idx 8 rfl (by decide +kernel) rfl rfl rfl rfl rfl rfl (by omega) (by omega) rfl inferInstance ?_
    refine SXA.loadRow 13 (Kd.int .u8) rfl (by decide +kernel) rfl rfl rfl inferInstance (by rw [Int.toNat_natCast]; exact hv) rfl rfl inferInstance ?_
    refine SXA.loadRow 9 (Kd.int .u8) rfl (by decide +kernel) rfl rfl rfl inferInstance (by rw [Int.toNat_natCast]; exact hzv) rfl rfl inferInstance ?_
    (first|refine Qr 14 ?_|refine Qs 14 ?_|refine Qxa 14 ?_|refine Qya 14 ?_|refine Qt 14 ?_|refine Qu 14 ?_|fail)
    (first|refine Qr 15 ?_|refine Qs 15 ?_|refine Qxa 15 ?_|refine Qya 15 ?_|refine Qt 15 ?_|refine Qu 15 ?_|fail)
    (first|refine Qr 16 ?_|refine Qs 16 ?_|refine Qt 16 ?_|refine Qu 16 ?_|fail)
    refine SXA.know 243 false rfl (by simp) ?_
    (first|refine Qr 17 ?_|refine Qs 17 ?_|refine Qxa 17 ?_|refine Qya 17 ?_|refine Qt 17 ?_|refine Qu 17 ?_|fail)
    (first|refine Qr 18 ?_|refine Qs 18 ?_|refine Qxa 18 ?_|refine Qya 18 ?_|refine Qt 18 ?_|refine Qu 18 ?_|fail)
    (first|refine Qr 19 ?_|refine Qs 19 ?_|refine Qxa 19 ?_|refine Qya 19 ?_|refine Qt 19 ?_|refine Qu 19 ?_|fail)
    (first|refine Qr 20 ?_|refine Qs 20 ?_|refine Qxa 20 ?_|refine Qya 20 ?_|refine Qt 20 ?_|refine Qu 20 ?_|fail)
    (first|refine Qr 21 ?_|refine Qs 21 ?_|refine Qt 21 ?_|refine Qu 21 ?_|fail)
    refine SXA.know 248 false rfl (decide_eq_false (by omega)) ?_
    (first|refine Qr 22 ?_|refine Qs 22 ?_|refine Qxa 22 ?_|refine Qya 22 ?_|refine Qt 22 ?_|refine Qu 22 ?_|fail)
    (first|refine Qr 24 ?_|refine Qs 24 ?_|refine Qxa 24 ?_|refine Qya 24 ?_|refine Qt 24 ?_|refine Qu 24 ?_|fail)
    (first|refine Qr 23 ?_|refine Qs 23 ?_|refine Qxa 23 ?_|refine Qya 23 ?_|refine Qt 23 ?_|refine Qu 23 ?_|fail)
    (first|refine Qr 25 ?_|refine Qs 25 ?_|refine Qxa 25 ?_|refine Qya 25 ?_|refine Qt 25 ?_|refine Qu 25 ?_|fail)
    (first|refine Qr 26 ?_|refine Qs 26 ?_|refine Qxa 26 ?_|refine Qya 26 ?_|refine Qt 26 ?_|refine Qu 26 ?_|fail)
    (first|refine Qr 27 ?_|refine Qs 27 ?_|refine Qxa 27 ?_|refine Qya 27 ?_|refine Qt 27 ?_|refine Qu 27 ?_|fail)
    (first|refine Qr 28 ?_|refine Qs 28 ?_|refine Qxa 28 ?_|refine Qya 28 ?_|refine Qt 28 ?_|refine Qu 28 ?_|fail)
    (first|refine Qr 29 ?_|refine Qs 29 ?_|refine Qxa 29 ?_|refine Qya 29 ?_|refine Qt 29 ?_|refine Qu 29 ?_|fail)
    refine Qv ?_
    refine SX.know 256 false rfl (by first | rfl | simp) ?_
    repeat (first|refine Qa ?_|refine Qb ?_|refine Qc ?_|refine Qd ?_|refine Qe ?_|refine Qf ?_|refine Qg ?_|refine Qh ?_|refine Qi ?_|refine Qj ?_|refine Qk ?_|refine Ql ?_|refine Qm ?_|refine Qn ?_|refine Qo ?_|refine Qp ?_|refine Qq ?_|fail)
    refine SX.same 26 (.int .i64 ((i + 1 : Nat) : Int)) rfl (by simp (disch := omega) only [IntWalk.i64_in, IntWalk.u8_in, IntWalk.u32_in, IntWalk.u64_in, IntWalk.rem_in, Int.natCast_add, Int.natCast_one]) ?_
    refine SX.again (z - 1) (by omega) ⟨i + 1, by omega, rfl, rfl⟩ (by repeat (first | exact trivial | refine ⟨rfl, ?_⟩)) inferInstance
  · have hzv := hz2 i him hid
    repeat (first|refine Qa ?_|refine Qb ?_|refine Qc ?_|refine Qd ?_|refine Qe ?_|refine Qf ?_|refine Qg ?_|refine Qh ?_|refine Qi ?_|refine Qj ?_|refine Qk ?_|refine Ql ?_|refine Qm ?_|refine Qn ?_|refine Qo ?_|refine Qp ?_|refine Qq ?_|fail)
    refine SXA.begin (.own (some ⟨p25, 0, none⟩) (cellsR p25 (reK { r5 with st := 0, d := sizedL d m } (some ⟨b5, o5, none⟩) cd5 Ae5 ce5) 49) :: .per (roR (Kd.int .u8) (some ⟨b5, o5, none⟩) (sizedL d m)) :: .per (roR (Kd.int .u8) A12 d) :: F) [] ?_
    (first|refine Qr 0 ?_|refine Qs 0 ?_|refine Qxa 0 ?_|refine Qya 0 ?_|refine Qt 0 ?_|refine Qu 0 ?_|fail)
    (first|refine Qr 1 ?_|refine Qs 1 ?_|refine Qxa 1 ?_|refine Qya 1 ?_|refine Qt 1 ?_|refine Qu 1 ?_|fail)
    (first|refine Qr 2 ?_|refine Qs 2 ?_|refine Qxa 2 ?_|refine Qya 2 ?_|refine Qt 2 ?_|refine Qu 2 ?_|fail)
    (first|refine Qr 3 ?_|refine Qs 3 ?_|refine Qxa 3 ?_|refine Qya 3 ?_|refine Qt 3 ?_|refine Qu 3 ?_|fail)
    (first|refine Qr 4 ?_|refine Qs 4 ?_|refine Qt 4 ?_|refine Qu 4 ?_|fail)
    refine SXA.know 231 false rfl (decide_eq_false (by omega)) ?_
    (first|refine Qr 5 ?_|refine Qs 5 ?_|refine Qxa 5 ?_|refine Qya 5 ?_|refine Qt 5 ?_|refine Qu 5 ?_|fail)
    (first|refine Qr 7 ?_|refine Qs 7 ?_|refine Qxa 7 ?_|refine Qya 7 ?_|refine Qt 7 ?_|refine Qu 7 ?_|fail)
    (first|refine Qr 10 ?_|refine Qs 10 ?_|refine Qxa 10 ?_|refine Qya 10 ?_|refine Qt 10 ?_|refine Qu 10 ?_|fail)
    (first|refine Qr 11 ?_|refine Qs 11 ?_|refine Qxa 11 ?_|refine Qya 11 ?_|refine Qt 11 ?_|refine Qu 11 ?_|fail)
    (first|refine Qr 6 ?_|refine Qs 6 ?_|refine Qxa 6 ?_|refine Qya 6 ?_|refine Qt 6 ?_|refine Qu 6 ?_|fail)
    (first|refine Qr 12 ?_|refine Qs 12 ?_|refine Qxa 12 ?_|refine Qya 12 ?_|refine Qt 12 ?_|refine Qu 12 ?_|fail)
    (first|refine Qr 8 ?_|refine Qs 8 ?_|refine Qxa 8 ?_|refine Qya 8 ?_|refine Qt 8 ?_|refine Qu 8 ?_|fail)
    (first|refine Qr 13 ?_|refine Qs 13 ?_|refine Qxa 13 ?_|refine Qya 13 ?_|refine Qt 13 ?_|refine Qu 13 ?_|fail)
    (first|refine Qr 9 ?_|refine Qs 9 ?_|refine Qxa 9 ?_|refine Qya 9 ?_|refine Qt 9 ?_|refine Qu 9 ?_|fail)
    (first|refine Qr 14 ?_|refine Qs 14 ?_|refine Qxa 14 ?_|refine Qya 14 ?_|refine Qt 14 ?_|refine Qu 14 ?_|fail)
    (first|refine Qr 15 ?_|refine Qs 15 ?_|refine Qxa 15 ?_|refine Qya 15 ?_|refine Qt 15 ?_|refine Qu 15 ?_|fail)
    (first|refine Qr 16 ?_|refine Qs 16 ?_|refine Qt 16 ?_|refine Qu 16 ?_|fail)
    refine SXA.know 243 false rfl rfl ?_
    (first|refine Qr 17 ?_|refine Qs 17 ?_|refine Qxa 17 ?_|refine Qya 17 ?_|refine Qt 17 ?_|refine Qu 17 ?_|fail)
    (first|refine Qr 18 ?_|refine Qs 18 ?_|refine Qxa 18 ?_|refine Qya 18 ?_|refine Qt 18 ?_|refine Qu 18 ?_|fail)
    (first|refine Qr 19 ?_|refine Qs 19 ?_|refine Qxa 19 ?_|refine Qya 19 ?_|refine Qt 19 ?_|refine Qu 19 ?_|fail)
    (first|refine Qr 20 ?_|refine Qs 20 ?_|refine Qxa 20 ?_|refine Qya 20 ?_|refine Qt 20 ?_|refine Qu 20 ?_|fail)
    (first|refine Qr 21 ?_|refine Qs 21 ?_|refine Qt 21 ?_|refine Qu 21 ?_|fail)
    refine SXA.know 248 true rfl (decide_eq_true (by omega)) ?_
    (first|refine Qr 22 ?_|refine Qs 22 ?_|refine Qxa 22 ?_|refine Qya 22 ?_|refine Qt 22 ?_|refine Qu 22 ?_|fail)
    (first|refine Qr 24 ?_|refine Qs 24 ?_|refine Qxa 24 ?_|refine Qya 24 ?_|refine Qt 24 ?_|refine Qu 24 ?_|fail)
    (first|refine Qr 23 ?_|refine Qs 23 ?_|refine Qxa 23 ?_|refine Qya 23 ?_|refine Qt 23 ?_|refine Qu 23 ?_|fail)
    refine SXA.idx 25 rfl (by decide +kernel) rfl rfl rfl rfl rfl rfl (by omega) (by omega) rfl inferInstance ?_
    refine SXA.loadRow 26 (Kd.int .u8) rfl (by decide +kernel) rfl rfl rfl inferInstance (by rw [Int.toNat_natCast]; exact hzv) rfl rfl inferInstance ?_
    (first|refine Qr 27 ?_|refine Qs 27 ?_|refine Qxa 27 ?_|refine Qya 27 ?_|refine Qt 27 ?_|refine Qu 27 ?_|fail)
    (first|refine Qr 28 ?_|refine Qs 28 ?_|refine Qxa 28 ?_|refine Qya 28 ?_|refine Qt 28 ?_|refine Qu 28 ?_|fail)
    (first|refine Qr 29 ?_|refine Qs 29 ?_|refine Qxa 29 ?_|refine Qya 29 ?_|refine Qt 29 ?_|refine Qu 29 ?_|fail)
    refine Qv ?_
    refine SX.know 256 false rfl (by first | rfl | simp) ?_
    repeat (first|refine Qa ?_|refine Qb ?_|refine Qc ?_|refine Qd ?_|refine Qe ?_|refine Qf ?_|refine Qg ?_|refine Qh ?_|refine Qi ?_|refine Qj ?_|refine Qk ?_|refine Ql ?_|refine Qm ?_|refine Qn ?_|refine Qo ?_|refine Qp ?_|refine Qq ?_|fail)
    refine SX.same 26 (.int .i64 ((i + 1 : Nat) : Int)) rfl (by simp (disch := omega) only [IntWalk.i64_in, IntWalk.u8_in, IntWalk.u32_in, IntWalk.u64_in, IntWalk.rem_in, Int.natCast_add, Int.natCast_one]) ?_
    refine SX.again (z - 1) (by omega) ⟨i + 1, by omega, rfl, rfl⟩ (by repeat (first | exact trivial | refine ⟨rfl, ?_⟩)) inferInstance
end
theorem OpsBytes_any (Aw : Option Addr) (cw : Nat) (lw : List (List Int)) (Ap : Option Addr) (cp : Nat) (lp : List Int) (f : Int) (n : Int) (W : World) (rw : Kd.C (Kd.slice 5 (Kd.int .u8)) W Aw lw.length lw) (hw : lw.length ≤ cw) (ww : lw.length ≤ maxLen ∧ ∀ x ∈ lw, (x.length ≤ maxLen ∧ ∀ y ∈ x, (Lit.int .u8 y).wf = true)) (rp : Kd.C (Kd.int .u16) W Ap lp.length lp) (hp : lp.length ≤ cp) (wp : lp.length ≤ maxLen ∧ ∀ x ∈ lp, (Lit.int .u16 x).wf = true) (wf : (Lit.int .u16 f).wf = true) (wn : (Lit.int .u16 n).wf = true) :
    Calls Tryz.prog 5 #[.slice Aw lw.length cw, .slice Ap lp.length cp, .int .u16 f, .int .u16 n] W fun e w' => e = .returned (.bool true) ∧ Below W.heap.size W w' :=
  Fn.out W [.per (roR kRow Aw lw), .per (roR (Kd.int .u16) Ap lp), .per (oldR W)] (Holds.ofStart (Holds.startRow (Holds.startRow (Holds.start0 W) (Kd.C_F (Kd.heap_int _) rp)) (Kd.C_F (Kd.heap_slice _ (Kd.heap_int _)) rw))) inferInstance
    (OpsBytes_S (Ro.there (a := Ro.here)) hw hp (fun e he => bytesB_of_wf e (ww.2 e he).2) wp.2 (u16_of_wf _ wf).1 (u16_of_wf _ wf).2 (u16_of_wf _ wn).1 (u16_of_wf _ wn).2 ⟨rfl, inferInstance⟩)
end Go.Proofs.YtanemmcddgkpdaaGreat.Sx
