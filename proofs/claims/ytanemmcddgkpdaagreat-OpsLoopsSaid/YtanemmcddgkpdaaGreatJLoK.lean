/- Chapter 13: a directory never comes below itself, walked; conditions: those that each theorem names. -/
import Derived.Test.YtanemmcddgkpdaaGreatJPd
import Derived.Test.YtanemmcddgkpdaaGreatJPe
import Derived.Test.YtanemmcddgkpdaaGreatJN7
namespace Go.Proofs.YtanemmcddgkpdaaGreat.Sx
open Go.RowKit Go.Proofs.YtanemmcddgkpdaaGreat.Hm Go.Proofs.YtanemmcddgkpdaaGreatW.PrintWords Go.Proofs.YtanemmcddgkpdaaGreatW.PrintLast Go.Proofs.YtanemmcddgkpdaaGreatW.PrintMore
set_option linter.unusedVariables false
set_option linter.unusedSimpArgs false
attribute [local irreducible] SX SXL SXA St callK Post Evals
theorem pT_s (i : Nat) : pT (i + 1) = (doT (pT i) (ca 7 (i : Int) 1 ⟨#[100]⟩ 0 0 [])).1 := rfl
theorem pT_0 : pT 0 = formT 40 := rfl
attribute [local irreducible] doT putM pT
def hdL (n : Nat) : List (CellsN 2) := (List.range (n + 1)).map fun j : Nat => hX ((j : Int), 1)
theorem hdL_len (n : Nat) : (hdL n).length = n + 1 := by unfold hdL; rw [List.length_map, List.length_range]
theorem hdL_get {n j : Nat} (h : j ≤ n) : (hdL n)[j]? = some (hX ((j : Int), 1)) := by
  unfold hdL
  rw [List.getElem?_map, List.getElem?_range (by omega)]
  rfl
theorem hdL_succ (n : Nat) : hdL n ++ [hX ((n : Int) + 1, 1)] = hdL (n + 1) := by
  unfold hdL
  rw [List.range_succ (n := n + 1), List.map_append]
  rfl
theorem rnC_wf {a b : Nat} (ha : a < 100) (hb : b < 100) : (rnC a b).wf :=
  ⟨u32_0, u32_0, ⟨by show (0:Int) ≤ 12; decide, by show (12:Int) < 4294967296; decide⟩, ⟨by show (0:Int) ≤ (a : Int); omega, by show (a : Int) < 4294967296; omega⟩, ⟨by show (0:Int) ≤ 1; decide, by show (1:Int) < 4294967296; decide⟩, ⟨by show (0:Int) ≤ (b : Int); omega, by show (b : Int) < 4294967296; omega⟩, ⟨by show (0:Int) ≤ 1; decide, by show (1:Int) < 4294967296; decide⟩, u64_0, u64_0, u32_0, u32_0, rfl⟩
section
variable {F : List Thing} {K : Ending → List Thing → Prop} {d f g : Int}
set_option maxRecDepth 20000 in
set_option maxHeartbeats 8000000 in
theorem OpsLoops_S (hd0 : 0 ≤ d) (hd1 : d < 256) (hf0 : 0 ≤ f) (hf1 : f < 256) (hg0 : 0 ≤ g) (hg1 : g < 256) (h : K (.returned (.bool true)) F) : Fn (Tryz.prog) 8 [.int .u8 d, .int .u8 f, .int .u8 g] F K := by
  obtain ⟨n, hn⟩ : ∃ n : Nat, n = (d % 8).toNat + 1 := ⟨_, rfl⟩
  have hn1 : 1 ≤ n := by omega
  have hn8 : n ≤ 8 := by omega
  have hdt : IntKind.i64.wrap (IntKind.i64.wrap (d.tmod 8) + 1) = (n : Int) := by rw [Int.tmod_eq_emod_of_nonneg hd0, IntWalk.i64_in (d % 8) (by omega), IntWalk.i64_in _ (by omega)]; omega
  obtain ⟨a, ha⟩ : ∃ a : Nat, a = (f % (n : Int)).toNat := ⟨_, rfl⟩
  obtain ⟨b', hb'⟩ : ∃ b : Nat, b = (g % ((n : Int) + 1)).toNat := ⟨_, rfl⟩
  have hap : (a : Int) = f % (n : Int) := by have := Int.emod_nonneg f (show (n : Int) ≠ 0 by omega); omega
  have hbp : (b' : Int) = g % ((n : Int) + 1) := by have := Int.emod_nonneg g (show (n : Int) + 1 ≠ 0 by omega); omega
  have han : a < n := by have := Int.emod_lt_of_pos f (show (0 : Int) < (n : Int) by omega); omega
  have hbn : b' ≤ n := by have := Int.emod_lt_of_pos g (show (0 : Int) < (n : Int) + 1 by omega); omega
  have hfw : IntKind.i64.wrap f = f := IntWalk.i64_in _ (by omega)
  have hgw : IntKind.i64.wrap g = g := IntWalk.i64_in _ (by omega)
  have hnw : IntKind.i64.wrap ((n : Int) + 1) = (n : Int) + 1 := IntWalk.i64_in _ (by omega)
  have hat : f.tmod (n : Int) = (a : Int) := by rw [Int.tmod_eq_emod_of_nonneg hf0, hap]
  have hbt : g.tmod ((n : Int) + 1) = (b' : Int) := by rw [Int.tmod_eq_emod_of_nonneg hg0, hbp]
  refine Fn.enter Tryz.call8 Tryz.func8 rfl rfl rfl ?_
  repeat (first|refine Qa ?_|refine Qb ?_|refine Qc ?_|refine Qd ?_|refine Qe ?_|refine Qf ?_|refine Qg ?_|refine Qh ?_|refine Qi ?_|refine Qj ?_|refine Qk ?_|refine Ql ?_|refine Qm ?_|refine Qn ?_|refine Qo ?_|refine Qp ?_|refine Qq ?_|fail)
  refine SXL.call rfl rfl rfl ?_
  refine (awake13_S (callK.ret ?_))
  repeat (first|refine Qa ?_|refine Qb ?_|refine Qc ?_|refine Qd ?_|refine Qe ?_|refine Qf ?_|refine Qg ?_|refine Qh ?_|refine Qi ?_|refine Qj ?_|refine Qk ?_|refine Ql ?_|refine Qm ?_|refine Qn ?_|refine Qo ?_|refine Qp ?_|refine Qq ?_|fail)
  rw [hdt]
  repeat (first|refine Qa ?_|refine Qb ?_|refine Qc ?_|refine Qd ?_|refine Qe ?_|refine Qf ?_|refine Qg ?_|refine Qh ?_|refine Qi ?_|refine Qj ?_|refine Qk ?_|refine Ql ?_|refine Qm ?_|refine Qn ?_|refine Qo ?_|refine Qp ?_|refine Qq ?_|fail)
  refine SXL.call rfl rfl rfl ?_
  refine (Format_S (room := 40) (fun b0 cap0 hcap0 => callK.ret ?_))
  have m0 : (formT 40).mid := formT_mid ⟨by decide, by decide⟩
  have hp0 : formT 40 = pT 0 := pT_0.symm
  repeat (first|refine Qa ?_|refine Qb ?_|refine Qc ?_|refine Qd ?_|refine Qe ?_|refine Qf ?_|refine Qg ?_|refine Qh ?_|refine Qi ?_|refine Qj ?_|refine Qk ?_|refine Ql ?_|refine Qm ?_|refine Qn ?_|refine Qo ?_|refine Qp ?_|refine Qq ?_|fail)
  refine SXL.alloc rfl rfl (fun p9 => ?_)
  repeat (first|refine Qa ?_|refine Qb ?_|refine Qc ?_|refine Qd ?_|refine Qe ?_|refine Qf ?_|refine Qg ?_|refine Qh ?_|refine Qi ?_|refine Qj ?_|refine Qk ?_|refine Ql ?_|refine Qm ?_|refine Qn ?_|refine Qo ?_|refine Qp ?_|refine Qq ?_|fail)
  refine SXL.lit rfl rfl (fun g0 => ?_)
  refine SXL.ownLit (cellsK 2) g0 [hX (0, 1)] inferInstance (fun w ok => (Reps.none _ _).snoc (Flat.inM (d := cellsK 2) w 0 ok (hX (0, 1))) rfl) (by simp) ?_
  repeat (first|refine Qa ?_|refine Qb ?_|refine Qc ?_|refine Qd ?_|refine Qe ?_|refine Qf ?_|refine Qg ?_|refine Qh ?_|refine Qi ?_|refine Qj ?_|refine Qk ?_|refine Ql ?_|refine Qm ?_|refine Qn ?_|refine Qo ?_|refine Qp ?_|refine Qq ?_|fail)
  refine SX.loop (fun z a M => ∃ (i : Nat) (b cap : Nat) (ps : List Pl) (A10 : Option Addr) (c10 : Nat), i + z = n ∧ (hdL i).length ≤ c10 ∧ 24 ≤ cap ∧ ps.length = 24 ∧ (pT i).mid ∧ a = [(1, .int .u8 f), (2, .int .u8 g), (8, .int .i64 n), (9, .pointer (some ⟨p9, 0, none⟩)), (10, .slice A10 (hdL i).length c10), (11, .int .i64 i)] ∧ (.own A10 (rowR (cellsK 2) 35 (.slice A10 (hdL i).length c10) (hdL i)) :: .own (some ⟨p9, 0, none⟩) (cellsR p9 (thC (some ⟨b, 0, none⟩) 24 cap (pT i).ch (pT i).room) 27) :: thP b (pT i).l ps :: .per (datR (pT i).l ps) :: F) = M)
    n ⟨0, b0, cap0, nonesP 24, some ⟨g0, 0, none⟩, 1, by omega, by rw [hdL_len]; exact Nat.le_refl _, hcap0, rfl, by rw [← hp0]; exact m0, rfl, rfl⟩ (by repeat (first | exact trivial | refine ⟨rfl, ?_⟩)) (by rw [← hp0, show (formT 40).ch = 1 from rfl, show (formT 40).room = 40 from rfl, show hdL 0 = [hX (0, 1)] from rfl]; infer_instance) ?_
  rintro z _ _ ⟨i, b, cap, ps, A10, c10, hz, hc10, hcap, hps, hm, rfl, rfl⟩
  have hhl := hdL_len i
  repeat (first|refine Qa ?_|refine Qb ?_|refine Qc ?_|refine Qd ?_|refine Qe ?_|refine Qf ?_|refine Qg ?_|refine Qh ?_|refine Qi ?_|refine Qj ?_|refine Qk ?_|refine Ql ?_|refine Qm ?_|refine Qn ?_|refine Qo ?_|refine Qp ?_|refine Qq ?_|fail)
  refine SX.condp rfl (fun hi => ?_) (fun hi => ?_)
  · obtain ⟨hs1, hi1, hg1'⟩ := pB_st (i := i) (by omega)
    have hlg := hdL_get (n := i) (j := i) (Nat.le_refl _)
    refine SX.addrOwn (A := A10) (cellsK 2) inferInstance (by rw [hdL_len]; omega) (fun b10 e10 => ?_)
    subst e10
    repeat (first|refine Qa ?_|refine Qb ?_|refine Qc ?_|refine Qd ?_|refine Qe ?_|refine Qf ?_|refine Qg ?_|refine Qh ?_|refine Qi ?_|refine Qj ?_|refine Qk ?_|refine Ql ?_|refine Qm ?_|refine Qn ?_|refine Qo ?_|refine Qp ?_|refine Qq ?_|fail)
    refine SX.cut (fun a' M' => ∃ (p12 p13 : Nat) (b1 cap1 : Nat) (ps1 : List Pl) (r1 : Re) (Ad1 : Option Addr) (cd1 : Nat) (Ae1 : Option Addr) (ce1 : Nat), r1.st = 0 ∧ r1.ai = (i : Int) + 1 ∧ r1.ag = 1 ∧ 24 ≤ cap1 ∧ ps1.length = 24 ∧ (pT (i + 1)).mid ∧ a' = [(1, .int .u8 f), (2, .int .u8 g), (8, .int .i64 n), (9, .pointer (some ⟨p9, 0, none⟩)), (10, .slice (some ⟨b10, 0, none⟩) (hdL i).length c10), (11, .int .i64 i), (12, .pointer (some ⟨p12, 0, none⟩)), (13, .pointer (some ⟨p13, 0, none⟩))] ∧ (.own (some ⟨p12, 0, none⟩) (cellsR p12 (thC (some ⟨b1, 0, none⟩) 24 cap1 (pT (i + 1)).ch (pT (i + 1)).room) 27) :: .own (some ⟨p13, 0, none⟩) (cellsR p13 (reK r1 Ad1 cd1 Ae1 ce1) 49) :: thP b1 (pT (i + 1)).l ps1 :: .per (datR (pT (i + 1)).l ps1) :: .own (some ⟨b10, 0, none⟩) (rowR (cellsK 2) 35 (.slice (some ⟨b10, 0, none⟩) (hdL i).length c10) (hdL i)) :: .own (some ⟨p9, 0, none⟩) (cellsR p9 (thC (some ⟨b, 0, none⟩) 24 cap (pT i).ch (pT i).room) 27) :: thP b (pT i).l ps :: .per (datR (pT i).l ps) :: F) = M') ?_ ?_
    · refine SXA.begin (.own (some ⟨b10, 0, none⟩) (rowR (cellsK 2) 35 (.slice (some ⟨b10, 0, none⟩) (hdL i).length c10) (hdL i)) :: .own (some ⟨p9, 0, none⟩) (cellsR p9 (thC (some ⟨b, 0, none⟩) 24 cap (pT i).ch (pT i).room) 27) :: thP b (pT i).l ps :: .per (datR (pT i).l ps) :: F) [12, 13] ?_
      (first|refine Qr 0 ?_|refine Qs 0 ?_|refine Qxa 0 ?_|refine Qya 0 ?_|refine Qt 0 ?_|refine Qu 0 ?_|fail)
      (first|refine Qr 1 ?_|refine Qs 1 ?_|refine Qxa 1 ?_|refine Qya 1 ?_|refine Qt 1 ?_|refine Qu 1 ?_|fail)
      (first|refine Qr 2 ?_|refine Qs 2 ?_|refine Qxa 2 ?_|refine Qya 2 ?_|refine Qt 2 ?_|refine Qu 2 ?_|fail)
      refine SXA.idx 3 rfl (by decide +kernel) rfl rfl rfl rfl rfl rfl (by omega) (by omega) rfl inferInstance ?_
      refine SXA.loadRow 4 (cellsK 2) rfl (by decide +kernel) rfl rfl rfl inferInstance (by rw [Int.toNat_natCast]; exact hlg) rfl rfl inferInstance ?_
      (first|refine Qr 5 ?_|refine Qs 5 ?_|refine Qxa 5 ?_|refine Qya 5 ?_|refine Qt 5 ?_|refine Qu 5 ?_|fail)
      refine SXA.all [6, 10, 11] (by decide +kernel) (Each.cons rfl ?_ (Each.cons rfl ?_ (Each.cons rfl ?_ Each.nil)))
      · skip
        refine SXL.call rfl rfl rfl ?_
        refine (Do_S (t := pT i) (ps := ps) (c := ca 7 (i : Int) 1 ⟨#[100]⟩ 0 0 []) (Ac := none) (cc := 0) inferInstance inferInstance hm hps hcap (ca_wf ⟨by decide, by decide⟩ ⟨by omega, by omega⟩ ⟨by decide, by decide⟩ u32_0 u64_0 rfl) (Nat.zero_le _) (Nat.le_refl _) inferInstance (fun _ _ => ⟨mkdirE, mkdir_S, fun t r => rfl⟩) (fun t1 r1 b1 cap1 ps1 Ad1 cd1 Ae1 ce1 he1 hcap1 hps1 m1 hd1 hx1 => callK.ret ?_))
        obtain ⟨e1, e2⟩ : t1 = pT (i + 1) ∧ r1 = (doT (pT i) (ca 7 (i : Int) 1 ⟨#[100]⟩ 0 0 [])).2 := by rw [pT_s, he1]; exact ⟨rfl, rfl⟩
        clear he1
        subst e1
        rw [← e2] at hs1 hi1 hg1'
        clear e2
        refine SXL.nil (SXA.next inferInstance ?_)
        (first|refine Qr 7 ?_|refine Qs 7 ?_|refine Qxa 7 ?_|refine Qya 7 ?_|refine Qt 7 ?_|refine Qu 7 ?_|fail)
        (first|refine Qr 8 ?_|refine Qs 8 ?_|refine Qxa 8 ?_|refine Qya 8 ?_|refine Qt 8 ?_|refine Qu 8 ?_|fail)
        (first|refine Qr 9 ?_|refine Qs 9 ?_|refine Qxa 9 ?_|refine Qya 9 ?_|refine Qt 9 ?_|refine Qu 9 ?_|fail)
        refine SXA.all [10, 11] (by decide +kernel) (Each.cons rfl ?_ (Each.cons rfl ?_ Each.nil))
        · skip
          refine SXL.alloc rfl rfl (fun p12 => ?_)
          refine SXL.nil (SXA.next inferInstance ?_)
          refine Qw 11 ?_
          refine SXL.alloc rfl rfl (fun p13 => ?_)
          refine SXL.nil (SXA.next inferInstance ?_)
          refine Qw 12 ?_
          refine Qc ?_
          refine SXL.nil (SXA.nextLast rfl ?_)
          refine Qw 13 ?_
          refine Qc ?_
          refine SXL.nil (SXA.nextLast rfl ?_)
          refine Qv ?_
          refine SX.meet ⟨p12, p13, b1, cap1, ps1, r1, Ad1, cd1, Ae1, ce1, hs1, hi1, hg1', hcap1, hps1, m1, rfl, rfl⟩ (by repeat (first | exact trivial | refine ⟨rfl, ?_⟩)) inferInstance
        · skip
          refine SXL.alloc rfl rfl (fun p13 => ?_)
          refine SXL.nil (SXA.next inferInstance ?_)
          refine Qw 10 ?_
          refine SXL.alloc rfl rfl (fun p12 => ?_)
          refine SXL.nil (SXA.next inferInstance ?_)
          refine Qw 12 ?_
          refine Qc ?_
          refine SXL.nil (SXA.nextLast rfl ?_)
          refine Qw 13 ?_
          refine Qc ?_
          refine SXL.nil (SXA.nextLast rfl ?_)
          refine Qv ?_
          refine SX.meet ⟨p12, p13, b1, cap1, ps1, r1, Ad1, cd1, Ae1, ce1, hs1, hi1, hg1', hcap1, hps1, m1, rfl, rfl⟩ (by repeat (first | exact trivial | refine ⟨rfl, ?_⟩)) inferInstance
      · skip
        refine SXL.alloc rfl rfl (fun p12 => ?_)
        refine SXL.nil (SXA.next inferInstance ?_)
        refine SXA.all [6, 11] (by decide +kernel) (Each.cons rfl ?_ (Each.cons rfl ?_ Each.nil))
        · skip
          refine SXL.call rfl rfl rfl ?_
          refine (Do_S (t := pT i) (ps := ps) (c := ca 7 (i : Int) 1 ⟨#[100]⟩ 0 0 []) (Ac := none) (cc := 0) inferInstance inferInstance hm hps hcap (ca_wf ⟨by decide, by decide⟩ ⟨by omega, by omega⟩ ⟨by decide, by decide⟩ u32_0 u64_0 rfl) (Nat.zero_le _) (Nat.le_refl _) inferInstance (fun _ _ => ⟨mkdirE, mkdir_S, fun t r => rfl⟩) (fun t1 r1 b1 cap1 ps1 Ad1 cd1 Ae1 ce1 he1 hcap1 hps1 m1 hd1 hx1 => callK.ret ?_))
          obtain ⟨e1, e2⟩ : t1 = pT (i + 1) ∧ r1 = (doT (pT i) (ca 7 (i : Int) 1 ⟨#[100]⟩ 0 0 [])).2 := by rw [pT_s, he1]; exact ⟨rfl, rfl⟩
          clear he1
          subst e1
          rw [← e2] at hs1 hi1 hg1'
          clear e2
          refine SXL.nil (SXA.next inferInstance ?_)
          (first|refine Qr 7 ?_|refine Qs 7 ?_|refine Qxa 7 ?_|refine Qya 7 ?_|refine Qt 7 ?_|refine Qu 7 ?_|fail)
          (first|refine Qr 8 ?_|refine Qs 8 ?_|refine Qxa 8 ?_|refine Qya 8 ?_|refine Qt 8 ?_|refine Qu 8 ?_|fail)
          (first|refine Qr 9 ?_|refine Qs 9 ?_|refine Qxa 9 ?_|refine Qya 9 ?_|refine Qt 9 ?_|refine Qu 9 ?_|fail)
          refine Qw 11 ?_
          refine SXL.alloc rfl rfl (fun p13 => ?_)
          refine SXL.nil (SXA.next inferInstance ?_)
          refine Qw 12 ?_
          refine Qc ?_
          refine SXL.nil (SXA.nextLast rfl ?_)
          refine Qw 13 ?_
          refine Qc ?_
          refine SXL.nil (SXA.nextLast rfl ?_)
          refine Qv ?_
          refine SX.meet ⟨p12, p13, b1, cap1, ps1, r1, Ad1, cd1, Ae1, ce1, hs1, hi1, hg1', hcap1, hps1, m1, rfl, rfl⟩ (by repeat (first | exact trivial | refine ⟨rfl, ?_⟩)) inferInstance
        · skip
          refine SXL.alloc rfl rfl (fun p13 => ?_)
          refine SXL.nil (SXA.next inferInstance ?_)
          refine Qw 6 ?_
          refine SXL.call rfl rfl rfl ?_
          refine (Do_S (t := pT i) (ps := ps) (c := ca 7 (i : Int) 1 ⟨#[100]⟩ 0 0 []) (Ac := none) (cc := 0) inferInstance inferInstance hm hps hcap (ca_wf ⟨by decide, by decide⟩ ⟨by omega, by omega⟩ ⟨by decide, by decide⟩ u32_0 u64_0 rfl) (Nat.zero_le _) (Nat.le_refl _) inferInstance (fun _ _ => ⟨mkdirE, mkdir_S, fun t r => rfl⟩) (fun t1 r1 b1 cap1 ps1 Ad1 cd1 Ae1 ce1 he1 hcap1 hps1 m1 hd1 hx1 => callK.ret ?_))
          obtain ⟨e1, e2⟩ : t1 = pT (i + 1) ∧ r1 = (doT (pT i) (ca 7 (i : Int) 1 ⟨#[100]⟩ 0 0 [])).2 := by rw [pT_s, he1]; exact ⟨rfl, rfl⟩
          clear he1
          subst e1
          rw [← e2] at hs1 hi1 hg1'
          clear e2
          refine SXL.nil (SXA.next inferInstance ?_)
          (first|refine Qr 7 ?_|refine Qs 7 ?_|refine Qxa 7 ?_|refine Qya 7 ?_|refine Qt 7 ?_|refine Qu 7 ?_|fail)
          (first|refine Qr 8 ?_|refine Qs 8 ?_|refine Qxa 8 ?_|refine Qya 8 ?_|refine Qt 8 ?_|refine Qu 8 ?_|fail)
          (first|refine Qr 9 ?_|refine Qs 9 ?_|refine Qxa 9 ?_|refine Qya 9 ?_|refine Qt 9 ?_|refine Qu 9 ?_|fail)
          refine Qw 12 ?_
          refine Qc ?_
          refine SXL.nil (SXA.nextLast rfl ?_)
          refine Qw 13 ?_
          refine Qc ?_
          refine SXL.nil (SXA.nextLast rfl ?_)
          refine Qv ?_
          refine SX.meet ⟨p12, p13, b1, cap1, ps1, r1, Ad1, cd1, Ae1, ce1, hs1, hi1, hg1', hcap1, hps1, m1, rfl, rfl⟩ (by repeat (first | exact trivial | refine ⟨rfl, ?_⟩)) inferInstance
      · skip
        refine SXL.alloc rfl rfl (fun p13 => ?_)
        refine SXL.nil (SXA.next inferInstance ?_)
        refine SXA.all [6, 10] (by decide +kernel) (Each.cons rfl ?_ (Each.cons rfl ?_ Each.nil))
        · skip
          refine SXL.call rfl rfl rfl ?_
          refine (Do_S (t := pT i) (ps := ps) (c := ca 7 (i : Int) 1 ⟨#[100]⟩ 0 0 []) (Ac := none) (cc := 0) inferInstance inferInstance hm hps hcap (ca_wf ⟨by decide, by decide⟩ ⟨by omega, by omega⟩ ⟨by decide, by decide⟩ u32_0 u64_0 rfl) (Nat.zero_le _) (Nat.le_refl _) inferInstance (fun _ _ => ⟨mkdirE, mkdir_S, fun t r => rfl⟩) (fun t1 r1 b1 cap1 ps1 Ad1 cd1 Ae1 ce1 he1 hcap1 hps1 m1 hd1 hx1 => callK.ret ?_))
          obtain ⟨e1, e2⟩ : t1 = pT (i + 1) ∧ r1 = (doT (pT i) (ca 7 (i : Int) 1 ⟨#[100]⟩ 0 0 [])).2 := by rw [pT_s, he1]; exact ⟨rfl, rfl⟩
          clear he1
          subst e1
          rw [← e2] at hs1 hi1 hg1'
          clear e2
          refine SXL.nil (SXA.next inferInstance ?_)
          (first|refine Qr 7 ?_|refine Qs 7 ?_|refine Qxa 7 ?_|refine Qya 7 ?_|refine Qt 7 ?_|refine Qu 7 ?_|fail)
          (first|refine Qr 8 ?_|refine Qs 8 ?_|refine Qxa 8 ?_|refine Qya 8 ?_|refine Qt 8 ?_|refine Qu 8 ?_|fail)
          (first|refine Qr 9 ?_|refine Qs 9 ?_|refine Qxa 9 ?_|refine Qya 9 ?_|refine Qt 9 ?_|refine Qu 9 ?_|fail)
          refine Qw 10 ?_
          refine SXL.alloc rfl rfl (fun p12 => ?_)
          refine SXL.nil (SXA.next inferInstance ?_)
          refine Qw 12 ?_
          refine Qc ?_
          refine SXL.nil (SXA.nextLast rfl ?_)
          refine Qw 13 ?_
          refine Qc ?_
          refine SXL.nil (SXA.nextLast rfl ?_)
          refine Qv ?_
          refine SX.meet ⟨p12, p13, b1, cap1, ps1, r1, Ad1, cd1, Ae1, ce1, hs1, hi1, hg1', hcap1, hps1, m1, rfl, rfl⟩ (by repeat (first | exact trivial | refine ⟨rfl, ?_⟩)) inferInstance
        · skip
          refine SXL.alloc rfl rfl (fun p12 => ?_)
          refine SXL.nil (SXA.next inferInstance ?_)
          refine Qw 6 ?_
          refine SXL.call rfl rfl rfl ?_
          refine (Do_S (t := pT i) (ps := ps) (c := ca 7 (i : Int) 1 ⟨#[100]⟩ 0 0 []) (Ac := none) (cc := 0) inferInstance inferInstance hm hps hcap (ca_wf ⟨by decide, by decide⟩ ⟨by omega, by omega⟩ ⟨by decide, by decide⟩ u32_0 u64_0 rfl) (Nat.zero_le _) (Nat.le_refl _) inferInstance (fun _ _ => ⟨mkdirE, mkdir_S, fun t r => rfl⟩) (fun t1 r1 b1 cap1 ps1 Ad1 cd1 Ae1 ce1 he1 hcap1 hps1 m1 hd1 hx1 => callK.ret ?_))
          obtain ⟨e1, e2⟩ : t1 = pT (i + 1) ∧ r1 = (doT (pT i) (ca 7 (i : Int) 1 ⟨#[100]⟩ 0 0 [])).2 := by rw [pT_s, he1]; exact ⟨rfl, rfl⟩
          clear he1
          subst e1
          rw [← e2] at hs1 hi1 hg1'
          clear e2
          refine SXL.nil (SXA.next inferInstance ?_)
          (first|refine Qr 7 ?_|refine Qs 7 ?_|refine Qxa 7 ?_|refine Qya 7 ?_|refine Qt 7 ?_|refine Qu 7 ?_|fail)
          (first|refine Qr 8 ?_|refine Qs 8 ?_|refine Qxa 8 ?_|refine Qya 8 ?_|refine Qt 8 ?_|refine Qu 8 ?_|fail)
          (first|refine Qr 9 ?_|refine Qs 9 ?_|refine Qxa 9 ?_|refine Qya 9 ?_|refine Qt 9 ?_|refine Qu 9 ?_|fail)
          refine Qw 12 ?_
          refine Qc ?_
          refine SXL.nil (SXA.nextLast rfl ?_)
          refine Qw 13 ?_
          refine Qc ?_
          refine SXL.nil (SXA.nextLast rfl ?_)
          refine Qv ?_
          refine SX.meet ⟨p12, p13, b1, cap1, ps1, r1, Ad1, cd1, Ae1, ce1, hs1, hi1, hg1', hcap1, hps1, m1, rfl, rfl⟩ (by repeat (first | exact trivial | refine ⟨rfl, ?_⟩)) inferInstance
    clear hs1 hi1 hg1'
    rintro _ _ ⟨p12, p13, b1, cap1, ps1, r1, Ad1, cd1, Ae1, ce1, hs1, hi1, hg1', hcap1, hps1, m1, rfl, rfl⟩
    unfold reK
    rw [hs1, hi1, hg1']
    repeat (first|refine Qa ?_|refine Qb ?_|refine Qc ?_|refine Qd ?_|refine Qe ?_|refine Qf ?_|refine Qg ?_|refine Qh ?_|refine Qi ?_|refine Qj ?_|refine Qk ?_|refine Ql ?_|refine Qm ?_|refine Qn ?_|refine Qo ?_|refine Qp ?_|refine Qq ?_|fail)
    refine SXL.lit rfl rfl (fun g1 => ?_)
    refine SXL.litRow (cellsK 2) g1 [hX ((i : Int) + 1, 1)] inferInstance rfl (fun x => x.2.1) (by simp) ?_
    refine SXL.appendW (cellsK 2) rfl rfl inferInstance inferInstance rfl inferInstance (by rw [hdL_len]; show (_ + 1 + (_ + 1) / 4 + 192) * 8 ≤ _; omega) rfl (fun A10' c10' hc10' => ?_)
    rw [hdL_succ] at hc10' ⊢
    repeat (first|refine Qa ?_|refine Qb ?_|refine Qc ?_|refine Qd ?_|refine Qe ?_|refine Qf ?_|refine Qg ?_|refine Qh ?_|refine Qi ?_|refine Qj ?_|refine Qk ?_|refine Ql ?_|refine Qm ?_|refine Qn ?_|refine Qo ?_|refine Qp ?_|refine Qq ?_|fail)
    refine SX.same 11 (.int .i64 ((i + 1 : Nat) : Int)) rfl (by simp (disch := omega) only [IntWalk.i64_in, IntWalk.u8_in, IntWalk.u32_in, IntWalk.u64_in, IntWalk.rem_in, Int.natCast_add, Int.natCast_one]) ?_
    refine SX.again (z - 1) (by omega) ⟨i + 1, b1, cap1, ps1, A10', c10', by omega, hc10', hcap1, hps1, m1, rfl, rfl⟩ (by repeat (first | exact trivial | refine ⟨rfl, ?_⟩)) inferInstance
  obtain rfl : i = n := by omega
  repeat (first|refine Qa ?_|refine Qb ?_|refine Qc ?_|refine Qd ?_|refine Qe ?_|refine Qf ?_|refine Qg ?_|refine Qh ?_|refine Qi ?_|refine Qj ?_|refine Qk ?_|refine Ql ?_|refine Qm ?_|refine Qn ?_|refine Qo ?_|refine Qp ?_|refine Qq ?_|fail)
  rw [hfw]
  refine SXL.rem (v := (i : Int)) rfl rfl (by omega) rfl ?_
  rw [hat]
  repeat (first|refine Qa ?_|refine Qb ?_|refine Qc ?_|refine Qd ?_|refine Qe ?_|refine Qf ?_|refine Qg ?_|refine Qh ?_|refine Qi ?_|refine Qj ?_|refine Qk ?_|refine Ql ?_|refine Qm ?_|refine Qn ?_|refine Qo ?_|refine Qp ?_|refine Qq ?_|fail)
  rw [hgw, hnw]
  refine SXL.rem (v := (i : Int) + 1) rfl rfl (by omega) rfl ?_
  rw [hbt]
  have hla := hdL_get (n := i) (j := a) (by omega)
  have hlb := hdL_get (n := i) (j := b') hbn
  have hla1 := hdL_get (n := i) (j := a + 1) (by omega)
  have haw : IntKind.i64.wrap ((a : Int) + 1) = ((a + 1 : Nat) : Int) := by rw [IntWalk.i64_in _ (by omega)]; omega
  obtain ⟨rs1, rs2⟩ := ren_st hn1 hn8 han hbn
  refine SXL.addrOwn (A := A10) (cellsK 2) inferInstance (by rw [hdL_len]; omega) (fun b10 e10 => ?_)
  subst e10
  repeat (first|refine Qa ?_|refine Qb ?_|refine Qc ?_|refine Qd ?_|refine Qe ?_|refine Qf ?_|refine Qg ?_|refine Qh ?_|refine Qi ?_|refine Qj ?_|refine Qk ?_|refine Ql ?_|refine Qm ?_|refine Qn ?_|refine Qo ?_|refine Qp ?_|refine Qq ?_|fail)
  refine SX.cut (fun a' M' => ∃ (p16 p17 : Nat) (t2 : Th) (b2 cap2 : Nat) (ps2 : List Pl) (r2 : Re) (Ad2 : Option Addr) (cd2 : Nat) (Ae2 : Option Addr) (ce2 : Nat), doT (pT i) (rnC a b') = (t2, r2) ∧ 24 ≤ cap2 ∧ ps2.length = 24 ∧ t2.mid ∧ a' = [(1, .int .u8 f), (2, .int .u8 g), (8, .int .i64 i), (9, .pointer (some ⟨p9, 0, none⟩)), (10, .slice (some ⟨b10, 0, none⟩) (hdL i).length c10), (14, .int .i64 a), (15, .int .i64 b'), (16, .pointer (some ⟨p16, 0, none⟩)), (17, .pointer (some ⟨p17, 0, none⟩))] ∧ (.own (some ⟨p16, 0, none⟩) (cellsR p16 (thC (some ⟨b2, 0, none⟩) 24 cap2 (t2).ch (t2).room) 27) :: .own (some ⟨p17, 0, none⟩) (cellsR p17 (reK r2 Ad2 cd2 Ae2 ce2) 49) :: thP b2 t2.l ps2 :: .per (datR t2.l ps2) :: .own (some ⟨b10, 0, none⟩) (rowR (cellsK 2) 35 (.slice (some ⟨b10, 0, none⟩) (hdL i).length c10) (hdL i)) :: .own (some ⟨p9, 0, none⟩) (cellsR p9 (thC (some ⟨b, 0, none⟩) 24 cap (pT i).ch (pT i).room) 27) :: thP b (pT i).l ps :: .per (datR (pT i).l ps) :: F) = M') ?_ ?_
  · refine SXA.begin (.own (some ⟨b10, 0, none⟩) (rowR (cellsK 2) 35 (.slice (some ⟨b10, 0, none⟩) (hdL i).length c10) (hdL i)) :: .own (some ⟨p9, 0, none⟩) (cellsR p9 (thC (some ⟨b, 0, none⟩) 24 cap (pT i).ch (pT i).room) 27) :: thP b (pT i).l ps :: .per (datR (pT i).l ps) :: F) [16, 17] ?_
    (first|refine Qr 0 ?_|refine Qs 0 ?_|refine Qxa 0 ?_|refine Qya 0 ?_|refine Qt 0 ?_|refine Qu 0 ?_|fail)
    (first|refine Qr 1 ?_|refine Qs 1 ?_|refine Qxa 1 ?_|refine Qya 1 ?_|refine Qt 1 ?_|refine Qu 1 ?_|fail)
    (first|refine Qr 2 ?_|refine Qs 2 ?_|refine Qxa 2 ?_|refine Qya 2 ?_|refine Qt 2 ?_|refine Qu 2 ?_|fail)
    (first|refine Qr 5 ?_|refine Qs 5 ?_|refine Qxa 5 ?_|refine Qya 5 ?_|refine Qt 5 ?_|refine Qu 5 ?_|fail)
    (first|refine Qr 6 ?_|refine Qs 6 ?_|refine Qxa 6 ?_|refine Qya 6 ?_|refine Qt 6 ?_|refine Qu 6 ?_|fail)
    refine SXA.idx 3 rfl (by decide +kernel) rfl rfl rfl rfl rfl rfl (by omega) (by omega) rfl inferInstance ?_
    refine SXA.idx 7 rfl (by decide +kernel) rfl rfl rfl rfl rfl rfl (by omega) (by omega) rfl inferInstance ?_
    refine SXA.loadRow 4 (cellsK 2) rfl (by decide +kernel) rfl rfl rfl inferInstance (by rw [Int.toNat_natCast]; exact hla) rfl rfl inferInstance ?_
    refine SXA.loadRow 8 (cellsK 2) rfl (by decide +kernel) rfl rfl rfl inferInstance (by rw [Int.toNat_natCast]; exact hlb) rfl rfl inferInstance ?_
    (first|refine Qr 9 ?_|refine Qs 9 ?_|refine Qxa 9 ?_|refine Qya 9 ?_|refine Qt 9 ?_|refine Qu 9 ?_|fail)
    refine SXA.all [10, 14, 15] (by decide +kernel) (Each.cons rfl ?_ (Each.cons rfl ?_ (Each.cons rfl ?_ Each.nil)))
    · skip
      refine SXL.call rfl rfl rfl ?_
      refine (Do_M (t := pT i) (ps := ps) (c := rnC a b') (Ac := none) (cc := 0) inferInstance inferInstance hm hps hcap (rnC_wf (by omega) (by omega)) (Nat.zero_le _) (Nat.le_refl _) inferInstance (fun h8 h9 hmy => opT_all h8 h9 hmy) (fun t2 r2 b2 cap2 ps2 Ad2 cd2 Ae2 ce2 he2 hcap2 hps2 m2 hd2 hx2 => callK.ret ?_))
      refine SXL.nil (SXA.next inferInstance ?_)
      (first|refine Qr 11 ?_|refine Qs 11 ?_|refine Qxa 11 ?_|refine Qya 11 ?_|refine Qt 11 ?_|refine Qu 11 ?_|fail)
      (first|refine Qr 12 ?_|refine Qs 12 ?_|refine Qxa 12 ?_|refine Qya 12 ?_|refine Qt 12 ?_|refine Qu 12 ?_|fail)
      (first|refine Qr 13 ?_|refine Qs 13 ?_|refine Qxa 13 ?_|refine Qya 13 ?_|refine Qt 13 ?_|refine Qu 13 ?_|fail)
      refine SXA.all [14, 15] (by decide +kernel) (Each.cons rfl ?_ (Each.cons rfl ?_ Each.nil))
      · skip
        refine SXL.alloc rfl rfl (fun p16 => ?_)
        refine SXL.nil (SXA.next inferInstance ?_)
        refine Qw 15 ?_
        refine SXL.alloc rfl rfl (fun p17 => ?_)
        refine SXL.nil (SXA.next inferInstance ?_)
        refine Qw 16 ?_
        refine Qc ?_
        refine SXL.nil (SXA.nextLast rfl ?_)
        refine Qw 17 ?_
        refine Qc ?_
        refine SXL.nil (SXA.nextLast rfl ?_)
        refine Qv ?_
        refine SX.meet ⟨p16, p17, t2, b2, cap2, ps2, r2, Ad2, cd2, Ae2, ce2, he2, hcap2, hps2, m2, rfl, rfl⟩ (by repeat (first | exact trivial | refine ⟨rfl, ?_⟩)) inferInstance
      · skip
        refine SXL.alloc rfl rfl (fun p17 => ?_)
        refine SXL.nil (SXA.next inferInstance ?_)
        refine Qw 14 ?_
        refine SXL.alloc rfl rfl (fun p16 => ?_)
        refine SXL.nil (SXA.next inferInstance ?_)
        refine Qw 16 ?_
        refine Qc ?_
        refine SXL.nil (SXA.nextLast rfl ?_)
        refine Qw 17 ?_
        refine Qc ?_
        refine SXL.nil (SXA.nextLast rfl ?_)
        refine Qv ?_
        refine SX.meet ⟨p16, p17, t2, b2, cap2, ps2, r2, Ad2, cd2, Ae2, ce2, he2, hcap2, hps2, m2, rfl, rfl⟩ (by repeat (first | exact trivial | refine ⟨rfl, ?_⟩)) inferInstance
    · skip
      refine SXL.alloc rfl rfl (fun p16 => ?_)
      refine SXL.nil (SXA.next inferInstance ?_)
      refine SXA.all [10, 15] (by decide +kernel) (Each.cons rfl ?_ (Each.cons rfl ?_ Each.nil))
      · skip
        refine SXL.call rfl rfl rfl ?_
        refine (Do_M (t := pT i) (ps := ps) (c := rnC a b') (Ac := none) (cc := 0) inferInstance inferInstance hm hps hcap (rnC_wf (by omega) (by omega)) (Nat.zero_le _) (Nat.le_refl _) inferInstance (fun h8 h9 hmy => opT_all h8 h9 hmy) (fun t2 r2 b2 cap2 ps2 Ad2 cd2 Ae2 ce2 he2 hcap2 hps2 m2 hd2 hx2 => callK.ret ?_))
        refine SXL.nil (SXA.next inferInstance ?_)
        (first|refine Qr 11 ?_|refine Qs 11 ?_|refine Qxa 11 ?_|refine Qya 11 ?_|refine Qt 11 ?_|refine Qu 11 ?_|fail)
        (first|refine Qr 12 ?_|refine Qs 12 ?_|refine Qxa 12 ?_|refine Qya 12 ?_|refine Qt 12 ?_|refine Qu 12 ?_|fail)
        (first|refine Qr 13 ?_|refine Qs 13 ?_|refine Qxa 13 ?_|refine Qya 13 ?_|refine Qt 13 ?_|refine Qu 13 ?_|fail)
        refine Qw 15 ?_
        refine SXL.alloc rfl rfl (fun p17 => ?_)
        refine SXL.nil (SXA.next inferInstance ?_)
        refine Qw 16 ?_
        refine Qc ?_
        refine SXL.nil (SXA.nextLast rfl ?_)
        refine Qw 17 ?_
        refine Qc ?_
        refine SXL.nil (SXA.nextLast rfl ?_)
        refine Qv ?_
        refine SX.meet ⟨p16, p17, t2, b2, cap2, ps2, r2, Ad2, cd2, Ae2, ce2, he2, hcap2, hps2, m2, rfl, rfl⟩ (by repeat (first | exact trivial | refine ⟨rfl, ?_⟩)) inferInstance
      · skip
        refine SXL.alloc rfl rfl (fun p17 => ?_)
        refine SXL.nil (SXA.next inferInstance ?_)
        refine Qw 10 ?_
        refine SXL.call rfl rfl rfl ?_
        refine (Do_M (t := pT i) (ps := ps) (c := rnC a b') (Ac := none) (cc := 0) inferInstance inferInstance hm hps hcap (rnC_wf (by omega) (by omega)) (Nat.zero_le _) (Nat.le_refl _) inferInstance (fun h8 h9 hmy => opT_all h8 h9 hmy) (fun t2 r2 b2 cap2 ps2 Ad2 cd2 Ae2 ce2 he2 hcap2 hps2 m2 hd2 hx2 => callK.ret ?_))
        refine SXL.nil (SXA.next inferInstance ?_)
        (first|refine Qr 11 ?_|refine Qs 11 ?_|refine Qxa 11 ?_|refine Qya 11 ?_|refine Qt 11 ?_|refine Qu 11 ?_|fail)
        (first|refine Qr 12 ?_|refine Qs 12 ?_|refine Qxa 12 ?_|refine Qya 12 ?_|refine Qt 12 ?_|refine Qu 12 ?_|fail)
        (first|refine Qr 13 ?_|refine Qs 13 ?_|refine Qxa 13 ?_|refine Qya 13 ?_|refine Qt 13 ?_|refine Qu 13 ?_|fail)
        refine Qw 16 ?_
        refine Qc ?_
        refine SXL.nil (SXA.nextLast rfl ?_)
        refine Qw 17 ?_
        refine Qc ?_
        refine SXL.nil (SXA.nextLast rfl ?_)
        refine Qv ?_
        refine SX.meet ⟨p16, p17, t2, b2, cap2, ps2, r2, Ad2, cd2, Ae2, ce2, he2, hcap2, hps2, m2, rfl, rfl⟩ (by repeat (first | exact trivial | refine ⟨rfl, ?_⟩)) inferInstance
    · skip
      refine SXL.alloc rfl rfl (fun p17 => ?_)
      refine SXL.nil (SXA.next inferInstance ?_)
      refine SXA.all [10, 14] (by decide +kernel) (Each.cons rfl ?_ (Each.cons rfl ?_ Each.nil))
      · skip
        refine SXL.call rfl rfl rfl ?_
        refine (Do_M (t := pT i) (ps := ps) (c := rnC a b') (Ac := none) (cc := 0) inferInstance inferInstance hm hps hcap (rnC_wf (by omega) (by omega)) (Nat.zero_le _) (Nat.le_refl _) inferInstance (fun h8 h9 hmy => opT_all h8 h9 hmy) (fun t2 r2 b2 cap2 ps2 Ad2 cd2 Ae2 ce2 he2 hcap2 hps2 m2 hd2 hx2 => callK.ret ?_))
        refine SXL.nil (SXA.next inferInstance ?_)
        (first|refine Qr 11 ?_|refine Qs 11 ?_|refine Qxa 11 ?_|refine Qya 11 ?_|refine Qt 11 ?_|refine Qu 11 ?_|fail)
        (first|refine Qr 12 ?_|refine Qs 12 ?_|refine Qxa 12 ?_|refine Qya 12 ?_|refine Qt 12 ?_|refine Qu 12 ?_|fail)
        (first|refine Qr 13 ?_|refine Qs 13 ?_|refine Qxa 13 ?_|refine Qya 13 ?_|refine Qt 13 ?_|refine Qu 13 ?_|fail)
        refine Qw 14 ?_
        refine SXL.alloc rfl rfl (fun p16 => ?_)
        refine SXL.nil (SXA.next inferInstance ?_)
        refine Qw 16 ?_
        refine Qc ?_
        refine SXL.nil (SXA.nextLast rfl ?_)
        refine Qw 17 ?_
        refine Qc ?_
        refine SXL.nil (SXA.nextLast rfl ?_)
        refine Qv ?_
        refine SX.meet ⟨p16, p17, t2, b2, cap2, ps2, r2, Ad2, cd2, Ae2, ce2, he2, hcap2, hps2, m2, rfl, rfl⟩ (by repeat (first | exact trivial | refine ⟨rfl, ?_⟩)) inferInstance
      · skip
        refine SXL.alloc rfl rfl (fun p16 => ?_)
        refine SXL.nil (SXA.next inferInstance ?_)
        refine Qw 10 ?_
        refine SXL.call rfl rfl rfl ?_
        refine (Do_M (t := pT i) (ps := ps) (c := rnC a b') (Ac := none) (cc := 0) inferInstance inferInstance hm hps hcap (rnC_wf (by omega) (by omega)) (Nat.zero_le _) (Nat.le_refl _) inferInstance (fun h8 h9 hmy => opT_all h8 h9 hmy) (fun t2 r2 b2 cap2 ps2 Ad2 cd2 Ae2 ce2 he2 hcap2 hps2 m2 hd2 hx2 => callK.ret ?_))
        refine SXL.nil (SXA.next inferInstance ?_)
        (first|refine Qr 11 ?_|refine Qs 11 ?_|refine Qxa 11 ?_|refine Qya 11 ?_|refine Qt 11 ?_|refine Qu 11 ?_|fail)
        (first|refine Qr 12 ?_|refine Qs 12 ?_|refine Qxa 12 ?_|refine Qya 12 ?_|refine Qt 12 ?_|refine Qu 12 ?_|fail)
        (first|refine Qr 13 ?_|refine Qs 13 ?_|refine Qxa 13 ?_|refine Qya 13 ?_|refine Qt 13 ?_|refine Qu 13 ?_|fail)
        refine Qw 16 ?_
        refine Qc ?_
        refine SXL.nil (SXA.nextLast rfl ?_)
        refine Qw 17 ?_
        refine Qc ?_
        refine SXL.nil (SXA.nextLast rfl ?_)
        refine Qv ?_
        refine SX.meet ⟨p16, p17, t2, b2, cap2, ps2, r2, Ad2, cd2, Ae2, ce2, he2, hcap2, hps2, m2, rfl, rfl⟩ (by repeat (first | exact trivial | refine ⟨rfl, ?_⟩)) inferInstance
  rintro _ _ ⟨p16, p17, t2, b2, cap2, ps2, r2, Ad2, cd2, Ae2, ce2, he2, hcap2, hps2, m2, rfl, rfl⟩
  rw [he2] at rs1 rs2
  dsimp only at rs1 rs2
  repeat (first|refine Qa ?_|refine Qb ?_|refine Qc ?_|refine Qd ?_|refine Qe ?_|refine Qf ?_|refine Qg ?_|refine Qh ?_|refine Qi ?_|refine Qj ?_|refine Qk ?_|refine Ql ?_|refine Qm ?_|refine Qn ?_|refine Qo ?_|refine Qp ?_|refine Qq ?_|fail)
  refine SX.condp rfl (fun hlt => ?_) (fun hlt => ?_)
  · obtain ⟨hs, hch⟩ := rs1 (by omega)
    unfold reK thC
    rw [hs, hch]
    repeat (first|refine Qa ?_|refine Qb ?_|refine Qc ?_|refine Qd ?_|refine Qe ?_|refine Qf ?_|refine Qg ?_|refine Qh ?_|refine Qi ?_|refine Qj ?_|refine Qk ?_|refine Ql ?_|refine Qm ?_|refine Qn ?_|refine Qo ?_|refine Qp ?_|refine Qq ?_|fail)
    refine SX.ret (M' := F) rfl (Evals.tmp rfl Evals.nil) ?_ inferInstance
    rw [beq_self_eq_true]
    exact h
  obtain ⟨hs, hai, hag, hsn⟩ := rs2 (by omega)
  repeat (first|refine Qa ?_|refine Qb ?_|refine Qc ?_|refine Qd ?_|refine Qe ?_|refine Qf ?_|refine Qg ?_|refine Qh ?_|refine Qi ?_|refine Qj ?_|refine Qk ?_|refine Ql ?_|refine Qm ?_|refine Qn ?_|refine Qo ?_|refine Qp ?_|refine Qq ?_|fail)
  refine SX.cut (fun a' M' => ∃ (p19 : Nat) (r3 : Re) (Ad3 : Option Addr) (cd3 : Nat) (Ae3 : Option Addr) (ce3 : Nat), r3.ai = (a : Int) + 1 ∧ r3.ag = 1 ∧ a' = [(1, .int .u8 f), (2, .int .u8 g), (8, .int .i64 i), (9, .pointer (some ⟨p9, 0, none⟩)), (10, .slice (some ⟨b10, 0, none⟩) (hdL i).length c10), (14, .int .i64 a), (15, .int .i64 b'), (16, .pointer (some ⟨p16, 0, none⟩)), (17, .pointer (some ⟨p17, 0, none⟩)), (19, .pointer (some ⟨p19, 0, none⟩))] ∧ (.own (some ⟨p19, 0, none⟩) (cellsR p19 (reK r3 Ad3 cd3 Ae3 ce3) 49) :: .own (some ⟨p16, 0, none⟩) (cellsR p16 (thC (some ⟨b2, 0, none⟩) 24 cap2 (t2).ch (t2).room) 27) :: .own (some ⟨p17, 0, none⟩) (cellsR p17 (reK r2 Ad2 cd2 Ae2 ce2) 49) :: thP b2 t2.l ps2 :: .per (datR t2.l ps2) :: .own (some ⟨b10, 0, none⟩) (rowR (cellsK 2) 35 (.slice (some ⟨b10, 0, none⟩) (hdL i).length c10) (hdL i)) :: .own (some ⟨p9, 0, none⟩) (cellsR p9 (thC (some ⟨b, 0, none⟩) 24 cap (pT i).ch (pT i).room) 27) :: thP b (pT i).l ps :: .per (datR (pT i).l ps) :: F) = M') ?_ ?_
  · refine SXA.begin (.own (some ⟨p16, 0, none⟩) (cellsR p16 (thC (some ⟨b2, 0, none⟩) 24 cap2 (t2).ch (t2).room) 27) :: .own (some ⟨p17, 0, none⟩) (cellsR p17 (reK r2 Ad2 cd2 Ae2 ce2) 49) :: thP b2 t2.l ps2 :: .per (datR t2.l ps2) :: .own (some ⟨b10, 0, none⟩) (rowR (cellsK 2) 35 (.slice (some ⟨b10, 0, none⟩) (hdL i).length c10) (hdL i)) :: .own (some ⟨p9, 0, none⟩) (cellsR p9 (thC (some ⟨b, 0, none⟩) 24 cap (pT i).ch (pT i).room) 27) :: thP b (pT i).l ps :: .per (datR (pT i).l ps) :: F) [12, 13] ?_
    (first|refine Qr 0 ?_|refine Qs 0 ?_|refine Qxa 0 ?_|refine Qya 0 ?_|refine Qt 0 ?_|refine Qu 0 ?_|fail)
    (first|refine Qr 1 ?_|refine Qs 1 ?_|refine Qxa 1 ?_|refine Qya 1 ?_|refine Qt 1 ?_|refine Qu 1 ?_|fail)
    (first|refine Qr 2 ?_|refine Qs 2 ?_|refine Qxa 2 ?_|refine Qya 2 ?_|refine Qt 2 ?_|refine Qu 2 ?_|fail)
    refine SXA.idx 3 rfl (by decide +kernel) rfl rfl rfl rfl rfl rfl (by omega) (by omega) rfl inferInstance ?_
    refine SXA.loadRow 4 (cellsK 2) rfl (by decide +kernel) rfl rfl rfl inferInstance (by rw [Int.toNat_natCast]; exact hlb) rfl rfl inferInstance ?_
    (first|refine Qr 5 ?_|refine Qs 5 ?_|refine Qxa 5 ?_|refine Qya 5 ?_|refine Qt 5 ?_|refine Qu 5 ?_|fail)
    refine SXA.all [6, 10, 11] (by decide +kernel) (Each.cons rfl ?_ (Each.cons rfl ?_ (Each.cons rfl ?_ Each.nil)))
    · skip
      refine SXL.call rfl rfl rfl ?_
      refine (Do_S (t := t2) (ps := ps2) (c := ca 1 (b' : Int) 1 ⟨#[101]⟩ 0 0 []) (Ac := none) (cc := 0) inferInstance inferInstance m2 hps2 hcap2 (ca_wf ⟨by decide, by decide⟩ ⟨by omega, by omega⟩ ⟨by decide, by decide⟩ u32_0 u64_0 rfl) (Nat.zero_le _) (Nat.le_refl _) inferInstance (fun _ _ => ⟨lookupE, lookup_S, fun t r => rfl⟩) (fun t3 r3 b3 cap3 ps3 Ad3 cd3 Ae3 ce3 he3 hcap3 hps3 m3 hd3 hx3 => callK.ret ?_))
      rw [he3] at hai hag
      clear he3
      refine SXL.nil (SXA.next inferInstance ?_)
      (first|refine Qr 7 ?_|refine Qs 7 ?_|refine Qxa 7 ?_|refine Qya 7 ?_|refine Qt 7 ?_|refine Qu 7 ?_|fail)
      (first|refine Qr 8 ?_|refine Qs 8 ?_|refine Qxa 8 ?_|refine Qya 8 ?_|refine Qt 8 ?_|refine Qu 8 ?_|fail)
      (first|refine Qr 9 ?_|refine Qs 9 ?_|refine Qxa 9 ?_|refine Qya 9 ?_|refine Qt 9 ?_|refine Qu 9 ?_|fail)
      refine SXA.all [10, 11] (by decide +kernel) (Each.cons rfl ?_ (Each.cons rfl ?_ Each.nil))
      · skip
        refine SXL.alloc rfl rfl (fun p18 => ?_)
        refine SXL.nil (SXA.next inferInstance ?_)
        refine Qw 11 ?_
        refine SXL.alloc rfl rfl (fun p19 => ?_)
        refine SXL.nil (SXA.next inferInstance ?_)
        refine Qw 12 ?_
        refine Qc ?_
        refine SXL.nil (SXA.nextLast rfl ?_)
        refine Qw 13 ?_
        refine Qc ?_
        refine SXL.nil (SXA.nextLast rfl ?_)
        refine Qv ?_
        refine SX.meet ⟨p19, r3, Ad3, cd3, Ae3, ce3, hai, hag, rfl, rfl⟩ (by repeat (first | exact trivial | refine ⟨rfl, ?_⟩)) inferInstance
      · skip
        refine SXL.alloc rfl rfl (fun p19 => ?_)
        refine SXL.nil (SXA.next inferInstance ?_)
        refine Qw 10 ?_
        refine SXL.alloc rfl rfl (fun p18 => ?_)
        refine SXL.nil (SXA.next inferInstance ?_)
        refine Qw 12 ?_
        refine Qc ?_
        refine SXL.nil (SXA.nextLast rfl ?_)
        refine Qw 13 ?_
        refine Qc ?_
        refine SXL.nil (SXA.nextLast rfl ?_)
        refine Qv ?_
        refine SX.meet ⟨p19, r3, Ad3, cd3, Ae3, ce3, hai, hag, rfl, rfl⟩ (by repeat (first | exact trivial | refine ⟨rfl, ?_⟩)) inferInstance
    · skip
      refine SXL.alloc rfl rfl (fun p18 => ?_)
      refine SXL.nil (SXA.next inferInstance ?_)
      refine SXA.all [6, 11] (by decide +kernel) (Each.cons rfl ?_ (Each.cons rfl ?_ Each.nil))
      · skip
        refine SXL.call rfl rfl rfl ?_
        refine (Do_S (t := t2) (ps := ps2) (c := ca 1 (b' : Int) 1 ⟨#[101]⟩ 0 0 []) (Ac := none) (cc := 0) inferInstance inferInstance m2 hps2 hcap2 (ca_wf ⟨by decide, by decide⟩ ⟨by omega, by omega⟩ ⟨by decide, by decide⟩ u32_0 u64_0 rfl) (Nat.zero_le _) (Nat.le_refl _) inferInstance (fun _ _ => ⟨lookupE, lookup_S, fun t r => rfl⟩) (fun t3 r3 b3 cap3 ps3 Ad3 cd3 Ae3 ce3 he3 hcap3 hps3 m3 hd3 hx3 => callK.ret ?_))
        rw [he3] at hai hag
        clear he3
        refine SXL.nil (SXA.next inferInstance ?_)
        (first|refine Qr 7 ?_|refine Qs 7 ?_|refine Qxa 7 ?_|refine Qya 7 ?_|refine Qt 7 ?_|refine Qu 7 ?_|fail)
        (first|refine Qr 8 ?_|refine Qs 8 ?_|refine Qxa 8 ?_|refine Qya 8 ?_|refine Qt 8 ?_|refine Qu 8 ?_|fail)
        (first|refine Qr 9 ?_|refine Qs 9 ?_|refine Qxa 9 ?_|refine Qya 9 ?_|refine Qt 9 ?_|refine Qu 9 ?_|fail)
        refine Qw 11 ?_
        refine SXL.alloc rfl rfl (fun p19 => ?_)
        refine SXL.nil (SXA.next inferInstance ?_)
        refine Qw 12 ?_
        refine Qc ?_
        refine SXL.nil (SXA.nextLast rfl ?_)
        refine Qw 13 ?_
        refine Qc ?_
        refine SXL.nil (SXA.nextLast rfl ?_)
        refine Qv ?_
        refine SX.meet ⟨p19, r3, Ad3, cd3, Ae3, ce3, hai, hag, rfl, rfl⟩ (by repeat (first | exact trivial | refine ⟨rfl, ?_⟩)) inferInstance
      · skip
        refine SXL.alloc rfl rfl (fun p19 => ?_)
        refine SXL.nil (SXA.next inferInstance ?_)
        refine Qw 6 ?_
        refine SXL.call rfl rfl rfl ?_
        refine (Do_S (t := t2) (ps := ps2) (c := ca 1 (b' : Int) 1 ⟨#[101]⟩ 0 0 []) (Ac := none) (cc := 0) inferInstance inferInstance m2 hps2 hcap2 (ca_wf ⟨by decide, by decide⟩ ⟨by omega, by omega⟩ ⟨by decide, by decide⟩ u32_0 u64_0 rfl) (Nat.zero_le _) (Nat.le_refl _) inferInstance (fun _ _ => ⟨lookupE, lookup_S, fun t r => rfl⟩) (fun t3 r3 b3 cap3 ps3 Ad3 cd3 Ae3 ce3 he3 hcap3 hps3 m3 hd3 hx3 => callK.ret ?_))
        rw [he3] at hai hag
        clear he3
        refine SXL.nil (SXA.next inferInstance ?_)
        (first|refine Qr 7 ?_|refine Qs 7 ?_|refine Qxa 7 ?_|refine Qya 7 ?_|refine Qt 7 ?_|refine Qu 7 ?_|fail)
        (first|refine Qr 8 ?_|refine Qs 8 ?_|refine Qxa 8 ?_|refine Qya 8 ?_|refine Qt 8 ?_|refine Qu 8 ?_|fail)
        (first|refine Qr 9 ?_|refine Qs 9 ?_|refine Qxa 9 ?_|refine Qya 9 ?_|refine Qt 9 ?_|refine Qu 9 ?_|fail)
        refine Qw 12 ?_
        refine Qc ?_
        refine SXL.nil (SXA.nextLast rfl ?_)
        refine Qw 13 ?_
        refine Qc ?_
        refine SXL.nil (SXA.nextLast rfl ?_)
        refine Qv ?_
        refine SX.meet ⟨p19, r3, Ad3, cd3, Ae3, ce3, hai, hag, rfl, rfl⟩ (by repeat (first | exact trivial | refine ⟨rfl, ?_⟩)) inferInstance
    · skip
      refine SXL.alloc rfl rfl (fun p19 => ?_)
      refine SXL.nil (SXA.next inferInstance ?_)
      refine SXA.all [6, 10] (by decide +kernel) (Each.cons rfl ?_ (Each.cons rfl ?_ Each.nil))
      · skip
        refine SXL.call rfl rfl rfl ?_
        refine (Do_S (t := t2) (ps := ps2) (c := ca 1 (b' : Int) 1 ⟨#[101]⟩ 0 0 []) (Ac := none) (cc := 0) inferInstance inferInstance m2 hps2 hcap2 (ca_wf ⟨by decide, by decide⟩ ⟨by omega, by omega⟩ ⟨by decide, by decide⟩ u32_0 u64_0 rfl) (Nat.zero_le _) (Nat.le_refl _) inferInstance (fun _ _ => ⟨lookupE, lookup_S, fun t r => rfl⟩) (fun t3 r3 b3 cap3 ps3 Ad3 cd3 Ae3 ce3 he3 hcap3 hps3 m3 hd3 hx3 => callK.ret ?_))
        rw [he3] at hai hag
        clear he3
        refine SXL.nil (SXA.next inferInstance ?_)
        (first|refine Qr 7 ?_|refine Qs 7 ?_|refine Qxa 7 ?_|refine Qya 7 ?_|refine Qt 7 ?_|refine Qu 7 ?_|fail)
        (first|refine Qr 8 ?_|refine Qs 8 ?_|refine Qxa 8 ?_|refine Qya 8 ?_|refine Qt 8 ?_|refine Qu 8 ?_|fail)
        (first|refine Qr 9 ?_|refine Qs 9 ?_|refine Qxa 9 ?_|refine Qya 9 ?_|refine Qt 9 ?_|refine Qu 9 ?_|fail)
        refine Qw 10 ?_
        refine SXL.alloc rfl rfl (fun p18 => ?_)
        refine SXL.nil (SXA.next inferInstance ?_)
        refine Qw 12 ?_
        refine Qc ?_
        refine SXL.nil (SXA.nextLast rfl ?_)
        refine Qw 13 ?_
        refine Qc ?_
        refine SXL.nil (SXA.nextLast rfl ?_)
        refine Qv ?_
        refine SX.meet ⟨p19, r3, Ad3, cd3, Ae3, ce3, hai, hag, rfl, rfl⟩ (by repeat (first | exact trivial | refine ⟨rfl, ?_⟩)) inferInstance
      · skip
        refine SXL.alloc rfl rfl (fun p18 => ?_)
        refine SXL.nil (SXA.next inferInstance ?_)
        refine Qw 6 ?_
        refine SXL.call rfl rfl rfl ?_
        refine (Do_S (t := t2) (ps := ps2) (c := ca 1 (b' : Int) 1 ⟨#[101]⟩ 0 0 []) (Ac := none) (cc := 0) inferInstance inferInstance m2 hps2 hcap2 (ca_wf ⟨by decide, by decide⟩ ⟨by omega, by omega⟩ ⟨by decide, by decide⟩ u32_0 u64_0 rfl) (Nat.zero_le _) (Nat.le_refl _) inferInstance (fun _ _ => ⟨lookupE, lookup_S, fun t r => rfl⟩) (fun t3 r3 b3 cap3 ps3 Ad3 cd3 Ae3 ce3 he3 hcap3 hps3 m3 hd3 hx3 => callK.ret ?_))
        rw [he3] at hai hag
        clear he3
        refine SXL.nil (SXA.next inferInstance ?_)
        (first|refine Qr 7 ?_|refine Qs 7 ?_|refine Qxa 7 ?_|refine Qya 7 ?_|refine Qt 7 ?_|refine Qu 7 ?_|fail)
        (first|refine Qr 8 ?_|refine Qs 8 ?_|refine Qxa 8 ?_|refine Qya 8 ?_|refine Qt 8 ?_|refine Qu 8 ?_|fail)
        (first|refine Qr 9 ?_|refine Qs 9 ?_|refine Qxa 9 ?_|refine Qya 9 ?_|refine Qt 9 ?_|refine Qu 9 ?_|fail)
        refine Qw 12 ?_
        refine Qc ?_
        refine SXL.nil (SXA.nextLast rfl ?_)
        refine Qw 13 ?_
        refine Qc ?_
        refine SXL.nil (SXA.nextLast rfl ?_)
        refine Qv ?_
        refine SX.meet ⟨p19, r3, Ad3, cd3, Ae3, ce3, hai, hag, rfl, rfl⟩ (by repeat (first | exact trivial | refine ⟨rfl, ?_⟩)) inferInstance
  clear hai hag
  rintro _ _ ⟨p19, r3, Ad3, cd3, Ae3, ce3, hai, hag, rfl, rfl⟩
  unfold reK
  rw [hs, hai, hag]
  repeat (first|refine Qf ?_|refine Qg ?_|refine Qh ?_|refine Qi ?_|refine Qj ?_|refine Qk ?_|refine Ql ?_|fail)
  refine SXA.begin (.own (some ⟨p19, 0, none⟩) (cellsR p19 (reK { r3 with ai := (a : Int) + 1, ag := 1 } Ad3 cd3 Ae3 ce3) 49) :: .own (some ⟨p17, 0, none⟩) (cellsR p17 (reK { r2 with st := 0 } Ad2 cd2 Ae2 ce2) 49) :: .own (some ⟨p16, 0, none⟩) (cellsR p16 (thC (some ⟨b2, 0, none⟩) 24 cap2 (t2).ch (t2).room) 27) :: thP b2 t2.l ps2 :: .per (datR t2.l ps2) :: .own (some ⟨b10, 0, none⟩) (rowR (cellsK 2) 35 (.slice (some ⟨b10, 0, none⟩) (hdL i).length c10) (hdL i)) :: .own (some ⟨p9, 0, none⟩) (cellsR p9 (thC (some ⟨b, 0, none⟩) 24 cap (pT i).ch (pT i).room) 27) :: thP b (pT i).l ps :: .per (datR (pT i).l ps) :: F) [] ?_
  unfold reK
  dsimp only
  (first|refine Qr 0 ?_|refine Qs 0 ?_|refine Qxa 0 ?_|refine Qya 0 ?_|refine Qt 0 ?_|refine Qu 0 ?_|fail)
  (first|refine Qr 1 ?_|refine Qs 1 ?_|refine Qxa 1 ?_|refine Qya 1 ?_|refine Qt 1 ?_|refine Qu 1 ?_|fail)
  (first|refine Qr 2 ?_|refine Qs 2 ?_|refine Qxa 2 ?_|refine Qya 2 ?_|refine Qt 2 ?_|refine Qu 2 ?_|fail)
  (first|refine Qr 3 ?_|refine Qs 3 ?_|refine Qxa 3 ?_|refine Qya 3 ?_|refine Qt 3 ?_|refine Qu 3 ?_|fail)
  (first|refine Qr 4 ?_|refine Qs 4 ?_|refine Qxa 4 ?_|refine Qya 4 ?_|refine Qt 4 ?_|refine Qu 4 ?_|fail)
  (first|refine Qr 6 ?_|refine Qs 6 ?_|refine Qxa 6 ?_|refine Qya 6 ?_|refine Qt 6 ?_|refine Qu 6 ?_|fail)
  (first|refine Qr 7 ?_|refine Qs 7 ?_|refine Qxa 7 ?_|refine Qya 7 ?_|refine Qt 7 ?_|refine Qu 7 ?_|fail)
  (first|refine Qr 5 ?_|refine Qs 5 ?_|refine Qxa 5 ?_|refine Qya 5 ?_|refine Qt 5 ?_|refine Qu 5 ?_|fail)
  (first|refine Qr 8 ?_|refine Qs 8 ?_|refine Qt 8 ?_|refine Qu 8 ?_|fail)
  rw [haw]
  refine SXA.idx 9 rfl (by decide +kernel) rfl rfl rfl rfl rfl rfl (by omega) (by omega) rfl inferInstance ?_
  refine SXA.loadRow 10 (cellsK 2) rfl (by decide +kernel) rfl rfl rfl inferInstance (by rw [Int.toNat_natCast]; exact hla1) rfl rfl inferInstance ?_
  refine Qw 11 ?_
  refine Qm ?_
  refine SXL.eqAgg rfl rfl eqH13 rfl rfl rfl rfl ?_
  refine SXL.nil (SXA.next inferInstance ?_)
  (first|refine Qr 12 ?_|refine Qs 12 ?_|refine Qxa 12 ?_|refine Qya 12 ?_|refine Qt 12 ?_|refine Qu 12 ?_|fail)
  (first|refine Qr 13 ?_|refine Qs 13 ?_|refine Qt 13 ?_|refine Qu 13 ?_|fail)
  refine SXA.know 113 true rfl (by simp) ?_
  (first|refine Qr 14 ?_|refine Qs 14 ?_|refine Qxa 14 ?_|refine Qya 14 ?_|refine Qt 14 ?_|refine Qu 14 ?_|fail)
  refine Qw 15 ?_
  refine Qm ?_
  refine SXL.call rfl rfl rfl ?_
  refine sound_S (t := t2) (ps := ps2) hsn inferInstance inferInstance m2 hps2 hcap2 (callK.ret ?_)
  refine SXL.nil (SXA.next inferInstance ?_)
  (first|refine Qr 16 ?_|refine Qs 16 ?_|refine Qxa 16 ?_|refine Qya 16 ?_|refine Qt 16 ?_|refine Qu 16 ?_|fail)
  (first|refine Qr 17 ?_|refine Qs 17 ?_|refine Qxa 17 ?_|refine Qya 17 ?_|refine Qt 17 ?_|refine Qu 17 ?_|fail)
  refine Qv ?_
  repeat (first|refine Qa ?_|refine Qb ?_|refine Qc ?_|refine Qd ?_|refine Qe ?_|refine Qf ?_|refine Qg ?_|refine Qh ?_|refine Qi ?_|refine Qj ?_|refine Qk ?_|refine Ql ?_|refine Qm ?_|refine Qn ?_|refine Qo ?_|refine Qp ?_|refine Qq ?_|fail)
  refine SX.ret (M' := F) rfl (Evals.tmp rfl Evals.nil) ?_ inferInstance
  exact h
end
theorem OpsLoops_any (d : Int) (f : Int) (g : Int) (W : World) (wd : (Lit.int .u8 d).wf = true) (wf : (Lit.int .u8 f).wf = true) (wg : (Lit.int .u8 g).wf = true) :
    Calls Tryz.prog 8 #[.int .u8 d, .int .u8 f, .int .u8 g] W fun e w' => e = .returned (.bool true) ∧ Below W.heap.size W w' :=
  Fn.out W [.per (oldR W)] (Holds.ofStart (Holds.start0 W)) inferInstance
    (OpsLoops_S (u8_of_wf _ wd).1 (u8_of_wf _ wd).2 (u8_of_wf _ wf).1 (u8_of_wf _ wf).2 (u8_of_wf _ wg).1 (u8_of_wf _ wg).2 ⟨rfl, inferInstance⟩)
end Go.Proofs.YtanemmcddgkpdaaGreat.Sx
