/- Chapter 13: as many blocks are taken as there are, walked; conditions: those that each theorem names. -/
import Derived.Test.YtanemmcddgkpdaaGreatJO1
import Derived.Test.YtanemmcddgkpdaaGreatJN6
import Derived.Test.YtanemmcddgkpdaaGreatJN7
namespace Go.Proofs.YtanemmcddgkpdaaGreat.Sx
open Go.RowKit Go.Proofs.YtanemmcddgkpdaaGreat.Hm Go.Proofs.YtanemmcddgkpdaaGreatW.PrintWords Go.Proofs.YtanemmcddgkpdaaGreatW.PrintLast Go.Proofs.YtanemmcddgkpdaaGreatW.PrintMore
set_option linter.unusedVariables false
set_option linter.unusedSimpArgs false
attribute [local irreducible] SX SXL SXA St callK Post Evals
attribute [local irreducible] doT rootM fileM goneM putM
theorem fnm_s (i : Nat) : strOfNums [102, 97 + (i : Int)] = fnm i := by unfold fnm; rfl
theorem rep_flat {ys : List Int} (h : ys = List.replicate ys.length 0) : List.replicate ys.length (Value.int .u8 0) = ys.flatMap (fun x => [Value.int .u8 x]) := by rw [← u8s_flat]; unfold u8s; rw [h, List.map_replicate, List.length_replicate]
section
variable {F : List Thing} {K : Ending → List Thing → Prop} {q : Int} {A : Option Addr} {c : Nat} {xs : List Int}
set_option maxRecDepth 20000 in
set_option maxHeartbeats 8000000 in
theorem OpsRoom_S (hr : Ro (Kd.int .u16) A F xs) (hc : xs.length ≤ c) (hxs : ∀ x ∈ xs, (Lit.int .u16 x).wf = true) (h0 : 0 ≤ q) (h1 : q < 256) (h : K (.returned (.bool true)) F) : Fn (Tryz.prog) 13 [.int .u8 q, .slice A xs.length c] F K := by
  obtain ⟨n, hn⟩ : ∃ n : Nat, n = (q % 20).toNat + 1 := ⟨_, rfl⟩
  have hn20 : n ≤ 20 := by omega
  have hqt : IntKind.i64.wrap (IntKind.i64.wrap (q.tmod 20) + 1) = (n : Int) := by rw [Int.tmod_eq_emod_of_nonneg h0, IntWalk.i64_in (q % 20) (by omega), IntWalk.i64_in _ (by omega)]; omega
  refine Fn.enter Tryz.call13 Tryz.func13 rfl rfl rfl ?_
  repeat (first|refine Qa ?_|refine Qb ?_|refine Qc ?_|refine Qd ?_|refine Qe ?_|refine Qf ?_|refine Qg ?_|refine Qh ?_|refine Qi ?_|refine Qj ?_|refine Qk ?_|refine Ql ?_|refine Qm ?_|refine Qn ?_|refine Qo ?_|refine Qp ?_|refine Qq ?_|fail)
  refine SXL.call rfl rfl rfl ?_
  refine (awake13_S (callK.ret ?_))
  repeat (first|refine Qa ?_|refine Qb ?_|refine Qc ?_|refine Qd ?_|refine Qe ?_|refine Qf ?_|refine Qg ?_|refine Qh ?_|refine Qi ?_|refine Qj ?_|refine Qk ?_|refine Ql ?_|refine Qm ?_|refine Qn ?_|refine Qo ?_|refine Qp ?_|refine Qq ?_|fail)
  rw [hqt]
  repeat (first|refine Qa ?_|refine Qb ?_|refine Qc ?_|refine Qd ?_|refine Qe ?_|refine Qf ?_|refine Qg ?_|refine Qh ?_|refine Qi ?_|refine Qj ?_|refine Qk ?_|refine Ql ?_|refine Qm ?_|refine Qn ?_|refine Qo ?_|refine Qp ?_|refine Qq ?_|fail)
  refine SX.condp rfl (fun hl => ?_) (fun hl => ?_)
  · repeat (first|refine Qa ?_|refine Qb ?_|refine Qc ?_|refine Qd ?_|refine Qe ?_|refine Qf ?_|refine Qg ?_|refine Qh ?_|refine Qi ?_|refine Qj ?_|refine Qk ?_|refine Ql ?_|refine Qm ?_|refine Qn ?_|refine Qo ?_|refine Qp ?_|refine Qq ?_|fail)
    refine SX.ret (M' := F) rfl (Evals.tmp rfl Evals.nil) ?_ inferInstance
    exact h
  have hl12 : xs.length ≤ 12 := by omega
  repeat (first|refine Qa ?_|refine Qb ?_|refine Qc ?_|refine Qd ?_|refine Qe ?_|refine Qf ?_|refine Qg ?_|refine Qh ?_|refine Qi ?_|refine Qj ?_|refine Qk ?_|refine Ql ?_|refine Qm ?_|refine Qn ?_|refine Qo ?_|refine Qp ?_|refine Qq ?_|fail)
  refine SXL.call rfl rfl rfl ?_
  refine (Format_S (room := n) (fun b0 cap0 hcap0 => callK.ret ?_))
  have m0 : (formT n).mid := formT_mid ⟨by omega, by omega⟩
  repeat (first|refine Qa ?_|refine Qb ?_|refine Qc ?_|refine Qd ?_|refine Qe ?_|refine Qf ?_|refine Qg ?_|refine Qh ?_|refine Qi ?_|refine Qj ?_|refine Qk ?_|refine Ql ?_|refine Qm ?_|refine Qn ?_|refine Qo ?_|refine Qp ?_|refine Qq ?_|fail)
  refine SXL.alloc rfl rfl (fun p7 => ?_)
  repeat (first|refine Qa ?_|refine Qb ?_|refine Qc ?_|refine Qd ?_|refine Qe ?_|refine Qf ?_|refine Qg ?_|refine Qh ?_|refine Qi ?_|refine Qj ?_|refine Qk ?_|refine Ql ?_|refine Qm ?_|refine Qn ?_|refine Qo ?_|refine Qp ?_|refine Qq ?_|fail)
  refine SX.loop (fun z a M => ∃ (i b cap : Nat) (t : Th) (ps : List Pl), i + z = xs.length ∧ RI n i 0 t ∧ 24 ≤ cap ∧ ps.length = 24 ∧ t.mid ∧ a = [(1, .slice A xs.length c), (6, .int .i64 n), (7, .pointer (some ⟨p7, 0, none⟩)), (8, .int .i64 i)] ∧ (.own (some ⟨p7, 0, none⟩) (cellsR p7 (thC (some ⟨b, 0, none⟩) 24 cap (t).ch (t).room) 27) :: thP b (t).l ps :: .per (datR (t).l ps) :: F) = M)
    xs.length ⟨0, b0, cap0, formT n, nonesP 24, by omega, RI.form n, hcap0, rfl, m0, rfl, rfl⟩ (by repeat (first | exact trivial | refine ⟨rfl, ?_⟩)) (by rw [show (formT (n : Int)).ch = 1 from rfl, show (formT (n : Int)).room = n from rfl]; infer_instance) ?_
  rintro z _ _ ⟨i, b, cap, t, ps, hz, hI, hcap, hps, hm, rfl, rfl⟩
  repeat (first|refine Qa ?_|refine Qb ?_|refine Qc ?_|refine Qd ?_|refine Qe ?_|refine Qf ?_|refine Qg ?_|refine Qh ?_|refine Qi ?_|refine Qj ?_|refine Qk ?_|refine Ql ?_|refine Qm ?_|refine Qn ?_|refine Qo ?_|refine Qp ?_|refine Qq ?_|fail)
  refine SX.condp rfl (fun hi => ?_) (fun hi => ?_)
  · obtain ⟨x, hx⟩ : ∃ x, xs[i]? = some x := ⟨_, List.getElem?_eq_getElem (by omega)⟩
    obtain ⟨hx0, hx1⟩ := u16_of_wf _ (hxs x (List.mem_of_getElem? hx))
    have hw1 : IntKind.u8.wrap (97 + IntKind.u8.wrap (i : Int)) = 97 + (i : Int) := by rw [IntWalk.u8_in (i : Int) (by omega), IntWalk.u8_in _ (by omega)]
    repeat (first|refine Qa ?_|refine Qb ?_|refine Qc ?_|refine Qd ?_|refine Qe ?_|refine Qf ?_|refine Qg ?_|refine Qh ?_|refine Qi ?_|refine Qj ?_|refine Qk ?_|refine Ql ?_|refine Qm ?_|refine Qn ?_|refine Qo ?_|refine Qp ?_|refine Qq ?_|fail)
    rw [hw1]
    refine SXL.lit rfl rfl (fun g => ?_)
    refine SXL.litRow (Kd.int .u8) g [102, 97 + (i : Int)] inferInstance rfl (fun _ => rfl) (by simp) ?_
    refine SXL.bytesStr rfl inferInstance rfl Tryz.underlying38 Tryz.underlying5 Tryz.underlying9 rfl ?_
    rw [fnm_s]
    repeat (first|refine Qa ?_|refine Qb ?_|refine Qc ?_|refine Qd ?_|refine Qe ?_|refine Qf ?_|refine Qg ?_|refine Qh ?_|refine Qi ?_|refine Qj ?_|refine Qk ?_|refine Ql ?_|refine Qm ?_|refine Qn ?_|refine Qo ?_|refine Qp ?_|refine Qq ?_|fail)
    refine SXL.call rfl rfl rfl ?_
    refine (Do_S (t := t) (ps := ps) (c := ca 6 0 1 (fnm i) 0 0 []) (Ac := none) (cc := 0) inferInstance inferInstance hm hps hcap (ca_wf ⟨by decide, by decide⟩ u32_0 ⟨by decide, by decide⟩ u32_0 u64_0 rfl) (Nat.zero_le _) (Nat.le_refl _) inferInstance (fun _ _ => ⟨createE, create_S, fun t r => rfl⟩) (fun t1 r1 b1 cap1 ps1 Ad1 cd1 Ae1 ce1 he1 hcap1 hps1 m1 hd1 hx1 => callK.ret ?_))
    rw [doT_op hI.may (show (1 : Int) ≤ 6 by decide) (show (6 : Int) ≤ 16 by decide)] at he1
    change (match createE t (toldR (ca 6 0 1 (fnm i) 0 0 [])) (ca 6 0 1 (fnm i) 0 0 []) with | .ok p => p | .error e => (t, { toldR (ca 6 0 1 (fnm i) 0 0 []) with st := e })) = _ at he1
    rcases hI.make (m := i) (by omega) (toldR (ca 6 0 1 (fnm i) 0 0 [])) with he | ⟨t', he, hI1, ch, hf⟩
    · rw [he] at he1
      obtain rfl : t = t1 := (Prod.mk.inj he1).1
      have hs1 : r1.st = 66 := by rw [← (Prod.mk.inj he1).2]
      clear he1
      repeat (first|refine Qa ?_|refine Qb ?_|refine Qc ?_|refine Qd ?_|refine Qe ?_|refine Qf ?_|refine Qg ?_|refine Qh ?_|refine Qi ?_|refine Qj ?_|refine Qk ?_|refine Ql ?_|refine Qm ?_|refine Qn ?_|refine Qo ?_|refine Qp ?_|refine Qq ?_|fail)
      refine SXL.alloc rfl rfl (fun p10 => ?_)
      repeat (first|refine Qa ?_|refine Qb ?_|refine Qc ?_|refine Qd ?_|refine Qe ?_|refine Qf ?_|refine Qg ?_|refine Qh ?_|refine Qi ?_|refine Qj ?_|refine Qk ?_|refine Ql ?_|refine Qm ?_|refine Qn ?_|refine Qo ?_|refine Qp ?_|refine Qq ?_|fail)
      refine SXL.alloc rfl rfl (fun p11 => ?_)
      repeat (first|refine Qa ?_|refine Qb ?_|refine Qc ?_|refine Qd ?_|refine Qe ?_|refine Qf ?_|refine Qg ?_|refine Qh ?_|refine Qi ?_|refine Qj ?_|refine Qk ?_|refine Ql ?_|refine Qm ?_|refine Qn ?_|refine Qo ?_|refine Qp ?_|refine Qq ?_|fail)
      unfold reK thC
      rw [hs1]
      repeat (first|refine Qa ?_|refine Qb ?_|refine Qc ?_|refine Qd ?_|refine Qe ?_|refine Qf ?_|refine Qg ?_|refine Qh ?_|refine Qi ?_|refine Qj ?_|refine Qk ?_|refine Ql ?_|refine Qm ?_|refine Qn ?_|refine Qo ?_|refine Qp ?_|refine Qq ?_|fail)
      refine SX.ret (M' := F) rfl (Evals.tmp rfl Evals.nil) ?_ inferInstance
      rw [beq_self_eq_true]
      exact h
    rw [he] at he1
    obtain ⟨e1, e2⟩ := Prod.mk.inj he1
    subst e1
    have hs1 : r1.st = 0 := by rw [← e2]; rfl
    have hi1 : r1.ai = (i : Int) + 1 := by rw [← e2, hf]; unfold fileM; exact Int.natCast_succ i
    have hg1 : r1.ag = 1 := by rw [← e2, hf]; unfold fileM; rfl
    clear he1 e2
    repeat (first|refine Qa ?_|refine Qb ?_|refine Qc ?_|refine Qd ?_|refine Qe ?_|refine Qf ?_|refine Qg ?_|refine Qh ?_|refine Qi ?_|refine Qj ?_|refine Qk ?_|refine Ql ?_|refine Qm ?_|refine Qn ?_|refine Qo ?_|refine Qp ?_|refine Qq ?_|fail)
    refine SXL.alloc rfl rfl (fun p10 => ?_)
    repeat (first|refine Qa ?_|refine Qb ?_|refine Qc ?_|refine Qd ?_|refine Qe ?_|refine Qf ?_|refine Qg ?_|refine Qh ?_|refine Qi ?_|refine Qj ?_|refine Qk ?_|refine Ql ?_|refine Qm ?_|refine Qn ?_|refine Qo ?_|refine Qp ?_|refine Qq ?_|fail)
    refine SXL.alloc rfl rfl (fun p11 => ?_)
    repeat (first|refine Qa ?_|refine Qb ?_|refine Qc ?_|refine Qd ?_|refine Qe ?_|refine Qf ?_|refine Qg ?_|refine Qh ?_|refine Qi ?_|refine Qj ?_|refine Qk ?_|refine Ql ?_|refine Qm ?_|refine Qn ?_|refine Qo ?_|refine Qp ?_|refine Qq ?_|fail)
    unfold reK
    rw [hs1, hi1, hg1]
    repeat (first|refine Qa ?_|refine Qb ?_|refine Qc ?_|refine Qd ?_|refine Qe ?_|refine Qf ?_|refine Qg ?_|refine Qh ?_|refine Qi ?_|refine Qj ?_|refine Qk ?_|refine Ql ?_|refine Qm ?_|refine Qn ?_|refine Qo ?_|refine Qp ?_|refine Qq ?_|fail)
    refine SXL.addr (A := A) (xs := xs) (Kd.int .u16) (by decide) (by omega) (fun bA oA hA => ?_)
    subst hA
    refine SXL.idx rfl rfl rfl rfl rfl (by omega) (by omega) rfl ?_
    repeat (first|refine Qa ?_|refine Qb ?_|refine Qc ?_|refine Qd ?_|refine Qe ?_|refine Qf ?_|refine Qg ?_|refine Qh ?_|refine Qi ?_|refine Qj ?_|refine Qk ?_|refine Ql ?_|refine Qm ?_|refine Qn ?_|refine Qo ?_|refine Qp ?_|refine Qq ?_|fail)
    refine SXL.loadRow (Kd.int .u16) rfl rfl inferInstance (by rw [Int.toNat_natCast]; exact hx) rfl rfl ?_
    obtain ⟨z1, hz1⟩ : ∃ z1 : Nat, z1 = (x % 769).toNat := ⟨_, rfl⟩
    have hw2 : IntKind.i64.wrap (x.tmod 769) = (z1 : Int) := by rw [Int.tmod_eq_emod_of_nonneg hx0, IntWalk.i64_in _ (by omega)]; omega
    have hz2 : z1 ≤ 768 := by omega
    obtain ⟨ys, hys, hyl⟩ : ∃ ys : List Int, ys = List.replicate ys.length 0 ∧ ys.length = z1 := ⟨List.replicate z1 0, by rw [List.length_replicate], List.length_replicate⟩
    subst hyl
    have hu1 := hI1.used
    have hw3 : IntKind.i64.wrap ((usedT t'.l : Int) + IntKind.i64.wrap ((IntKind.i64.wrap ((ys.length : Int) + 95)).tdiv 96)) = ((usedT t'.l + needB ys.length : Nat) : Int) := by
      rw [IntWalk.i64_in ((ys.length : Int) + 95) (by omega), Int.tdiv_eq_ediv_of_nonneg (by omega), IntWalk.i64_in (((ys.length : Int) + 95) / 96) (by omega), IntWalk.i64_in _ (by omega)]
      unfold needB
      omega
    repeat (first|refine Qa ?_|refine Qb ?_|refine Qc ?_|refine Qd ?_|refine Qe ?_|refine Qf ?_|refine Qg ?_|refine Qh ?_|refine Qi ?_|refine Qj ?_|refine Qk ?_|refine Ql ?_|refine Qm ?_|refine Qn ?_|refine Qo ?_|refine Qp ?_|refine Qq ?_|fail)
    rw [hw2]
    repeat (first|refine Qa ?_|refine Qb ?_|refine Qc ?_|refine Qd ?_|refine Qe ?_|refine Qf ?_|refine Qg ?_|refine Qh ?_|refine Qi ?_|refine Qj ?_|refine Qk ?_|refine Ql ?_|refine Qm ?_|refine Qn ?_|refine Qo ?_|refine Qp ?_|refine Qq ?_|fail)
    repeat (first|refine Qf ?_|refine Qg ?_|refine Qh ?_|refine Qi ?_|refine Qj ?_|refine Qk ?_|refine Ql ?_|fail)
    refine SX.cut (fun a' M' => ∃ (p13 p14 : Nat) (t2 : Th) (b2 cap2 : Nat) (ps2 : List Pl) (r2 : Re) (Ad2 : Option Addr) (cd2 : Nat) (Ae2 : Option Addr) (ce2 : Nat), RI n (i + 1) 0 t2 ∧ ((usedT t'.l + needB ys.length ≤ n ∧ r2.st = 0) ∨ (n < usedT t'.l + needB ys.length ∧ r2.st = 66 ∧ t2.ch = t'.ch)) ∧ 24 ≤ cap2 ∧ ps2.length = 24 ∧ t2.mid ∧ a' = [(1, .slice (some ⟨bA, oA, none⟩) xs.length c), (6, .int .i64 n), (7, .pointer (some ⟨p7, 0, none⟩)), (8, .int .i64 i), (10, .pointer (some ⟨p10, 0, none⟩)), (12, .int .i64 ys.length), (13, .pointer (some ⟨p13, 0, none⟩)), (14, .pointer (some ⟨p14, 0, none⟩))] ∧ (.own (some ⟨p13, 0, none⟩) (cellsR p13 (thC (some ⟨b2, 0, none⟩) 24 cap2 (t2).ch (t2).room) 27) :: .own (some ⟨p14, 0, none⟩) (cellsR p14 (reK r2 Ad2 cd2 Ae2 ce2) 49) :: thP b2 t2.l ps2 :: .per (datR t2.l ps2) :: .own (some ⟨p10, 0, none⟩) (cellsR p10 (thC (some ⟨b1, 0, none⟩) 24 cap1 (t').ch (t').room) 27) :: thP b1 t'.l ps1 :: .per (datR t'.l ps1) :: .own (some ⟨p7, 0, none⟩) (cellsR p7 (thC (some ⟨b, 0, none⟩) 24 cap (t).ch (t).room) 27) :: F) = M') ?_ ?_
    · refine SXA.begin (.own (some ⟨p11, 0, none⟩) (cellsR p11 (reK { r1 with st := 0, ai := (i : Int) + 1, ag := 1 } Ad1 cd1 Ae1 ce1) 49) :: .own (some ⟨p10, 0, none⟩) (cellsR p10 (thC (some ⟨b1, 0, none⟩) 24 cap1 (t').ch (t').room) 27) :: thP b1 t'.l ps1 :: .per (datR t'.l ps1) :: .own (some ⟨p7, 0, none⟩) (cellsR p7 (thC (some ⟨b, 0, none⟩) 24 cap (t).ch (t).room) 27) :: F) [12, 13] ?_
      (first|refine Qr 0 ?_|refine Qs 0 ?_|refine Qxa 0 ?_|refine Qya 0 ?_|refine Qt 0 ?_|refine Qu 0 ?_|fail)
      (first|refine Qr 1 ?_|refine Qs 1 ?_|refine Qxa 1 ?_|refine Qya 1 ?_|refine Qt 1 ?_|refine Qu 1 ?_|fail)
      (first|refine Qr 3 ?_|refine Qs 3 ?_|refine Qxa 3 ?_|refine Qya 3 ?_|refine Qt 3 ?_|refine Qu 3 ?_|fail)
      (first|refine Qr 2 ?_|refine Qs 2 ?_|refine Qxa 2 ?_|refine Qya 2 ?_|refine Qt 2 ?_|refine Qu 2 ?_|fail)
      refine SXA.all [4, 10, 11] (by decide +kernel) (Each.cons rfl ?_ (Each.cons rfl ?_ (Each.cons rfl ?_ Each.nil)))
      · skip
        refine SXL.make (nb := 1) rfl rfl rfl rfl rfl rfl rfl rfl (by kernel_rfl) (by omega) (by omega) (by omega) rfl (fun g2 => ?_)
        rw [Int.toNat_natCast]
        refine SXL.litRow (Kd.int .u8) g2 ys inferInstance (rep_flat hys) (fun _ => rfl) (by omega) ?_
        refine SXL.nil (SXA.next inferInstance ?_)
        (first|refine Qr 5 ?_|refine Qs 5 ?_|refine Qxa 5 ?_|refine Qya 5 ?_|refine Qt 5 ?_|refine Qu 5 ?_|fail)
        refine SXA.all [6, 10, 11] (by decide +kernel) (Each.cons rfl ?_ (Each.cons rfl ?_ (Each.cons rfl ?_ Each.nil)))
        · skip
          refine SXL.call rfl rfl rfl ?_
          refine (Do_S (t := t') (ps := ps1) (c := ca 5 ((i : Int) + 1) 1 ⟨#[]⟩ 0 0 ys) (Ac := some ⟨g2, 0, none⟩) (cc := ys.length) inferInstance inferInstance m1 hps1 hcap1 (ca_wf ⟨by decide, by decide⟩ ⟨by omega, by omega⟩ ⟨by decide, by decide⟩ u32_0 u64_0 (by rw [hys]; exact bytesB_rep _)) (by show ys.length ≤ 4000000000; omega) (Nat.le_refl _) inferInstance (fun _ _ => ⟨writeE, write_S, fun t r => rfl⟩) (fun t2 r2 b2 cap2 ps2 Ad2 cd2 Ae2 ce2 he2 hcap2 hps2 m2 hd2 hx2 => callK.ret ?_))
          obtain ⟨hI2, hD⟩ := hI1.write_do hf (by omega) he2
          clear he2
          refine SXL.nil (SXA.next inferInstance ?_)
          (first|refine Qr 7 ?_|refine Qs 7 ?_|refine Qxa 7 ?_|refine Qya 7 ?_|refine Qt 7 ?_|refine Qu 7 ?_|fail)
          (first|refine Qr 8 ?_|refine Qs 8 ?_|refine Qxa 8 ?_|refine Qya 8 ?_|refine Qt 8 ?_|refine Qu 8 ?_|fail)
          (first|refine Qr 9 ?_|refine Qs 9 ?_|refine Qxa 9 ?_|refine Qya 9 ?_|refine Qt 9 ?_|refine Qu 9 ?_|fail)
          refine SXA.all [10, 11] (by decide +kernel) (Each.cons rfl ?_ (Each.cons rfl ?_ Each.nil))
          · skip
            refine SXL.alloc rfl rfl (fun p13 => ?_)
            refine SXL.nil (SXA.next inferInstance ?_)
            refine Qw 11 ?_
            refine SXL.alloc rfl rfl (fun p14 => ?_)
            refine SXL.nil (SXA.next inferInstance ?_)
            refine Qw 12 ?_
            refine Qc ?_
            refine SXL.nil (SXA.nextLast rfl ?_)
            refine Qw 13 ?_
            refine Qc ?_
            refine SXL.nil (SXA.nextLast rfl ?_)
            refine Qv ?_
            refine SX.meet ⟨p13, p14, t2, b2, cap2, ps2, r2, Ad2, cd2, Ae2, ce2, hI2, hD, hcap2, hps2, m2, rfl, rfl⟩ (by repeat (first | exact trivial | refine ⟨rfl, ?_⟩)) inferInstance
          · skip
            refine SXL.alloc rfl rfl (fun p14 => ?_)
            refine SXL.nil (SXA.next inferInstance ?_)
            refine Qw 10 ?_
            refine SXL.alloc rfl rfl (fun p13 => ?_)
            refine SXL.nil (SXA.next inferInstance ?_)
            refine Qw 12 ?_
            refine Qc ?_
            refine SXL.nil (SXA.nextLast rfl ?_)
            refine Qw 13 ?_
            refine Qc ?_
            refine SXL.nil (SXA.nextLast rfl ?_)
            refine Qv ?_
            refine SX.meet ⟨p13, p14, t2, b2, cap2, ps2, r2, Ad2, cd2, Ae2, ce2, hI2, hD, hcap2, hps2, m2, rfl, rfl⟩ (by repeat (first | exact trivial | refine ⟨rfl, ?_⟩)) inferInstance
        · skip
          refine SXL.alloc rfl rfl (fun p13 => ?_)
          refine SXL.nil (SXA.next inferInstance ?_)
          refine SXA.all [6, 11] (by decide +kernel) (Each.cons rfl ?_ (Each.cons rfl ?_ Each.nil))
          · skip
            refine SXL.call rfl rfl rfl ?_
            refine (Do_S (t := t') (ps := ps1) (c := ca 5 ((i : Int) + 1) 1 ⟨#[]⟩ 0 0 ys) (Ac := some ⟨g2, 0, none⟩) (cc := ys.length) inferInstance inferInstance m1 hps1 hcap1 (ca_wf ⟨by decide, by decide⟩ ⟨by omega, by omega⟩ ⟨by decide, by decide⟩ u32_0 u64_0 (by rw [hys]; exact bytesB_rep _)) (by show ys.length ≤ 4000000000; omega) (Nat.le_refl _) inferInstance (fun _ _ => ⟨writeE, write_S, fun t r => rfl⟩) (fun t2 r2 b2 cap2 ps2 Ad2 cd2 Ae2 ce2 he2 hcap2 hps2 m2 hd2 hx2 => callK.ret ?_))
            obtain ⟨hI2, hD⟩ := hI1.write_do hf (by omega) he2
            clear he2
            refine SXL.nil (SXA.next inferInstance ?_)
            (first|refine Qr 7 ?_|refine Qs 7 ?_|refine Qxa 7 ?_|refine Qya 7 ?_|refine Qt 7 ?_|refine Qu 7 ?_|fail)
            (first|refine Qr 8 ?_|refine Qs 8 ?_|refine Qxa 8 ?_|refine Qya 8 ?_|refine Qt 8 ?_|refine Qu 8 ?_|fail)
            (first|refine Qr 9 ?_|refine Qs 9 ?_|refine Qxa 9 ?_|refine Qya 9 ?_|refine Qt 9 ?_|refine Qu 9 ?_|fail)
            refine Qw 11 ?_
            refine SXL.alloc rfl rfl (fun p14 => ?_)
            refine SXL.nil (SXA.next inferInstance ?_)
            refine Qw 12 ?_
            refine Qc ?_
            refine SXL.nil (SXA.nextLast rfl ?_)
            refine Qw 13 ?_
            refine Qc ?_
            refine SXL.nil (SXA.nextLast rfl ?_)
            refine Qv ?_
            refine SX.meet ⟨p13, p14, t2, b2, cap2, ps2, r2, Ad2, cd2, Ae2, ce2, hI2, hD, hcap2, hps2, m2, rfl, rfl⟩ (by repeat (first | exact trivial | refine ⟨rfl, ?_⟩)) inferInstance
          · skip
            refine SXL.alloc rfl rfl (fun p14 => ?_)
            refine SXL.nil (SXA.next inferInstance ?_)
            refine Qw 6 ?_
            refine SXL.call rfl rfl rfl ?_
            refine (Do_S (t := t') (ps := ps1) (c := ca 5 ((i : Int) + 1) 1 ⟨#[]⟩ 0 0 ys) (Ac := some ⟨g2, 0, none⟩) (cc := ys.length) inferInstance inferInstance m1 hps1 hcap1 (ca_wf ⟨by decide, by decide⟩ ⟨by omega, by omega⟩ ⟨by decide, by decide⟩ u32_0 u64_0 (by rw [hys]; exact bytesB_rep _)) (by show ys.length ≤ 4000000000; omega) (Nat.le_refl _) inferInstance (fun _ _ => ⟨writeE, write_S, fun t r => rfl⟩) (fun t2 r2 b2 cap2 ps2 Ad2 cd2 Ae2 ce2 he2 hcap2 hps2 m2 hd2 hx2 => callK.ret ?_))
            obtain ⟨hI2, hD⟩ := hI1.write_do hf (by omega) he2
            clear he2
            refine SXL.nil (SXA.next inferInstance ?_)
            (first|refine Qr 7 ?_|refine Qs 7 ?_|refine Qxa 7 ?_|refine Qya 7 ?_|refine Qt 7 ?_|refine Qu 7 ?_|fail)
            (first|refine Qr 8 ?_|refine Qs 8 ?_|refine Qxa 8 ?_|refine Qya 8 ?_|refine Qt 8 ?_|refine Qu 8 ?_|fail)
            (first|refine Qr 9 ?_|refine Qs 9 ?_|refine Qxa 9 ?_|refine Qya 9 ?_|refine Qt 9 ?_|refine Qu 9 ?_|fail)
            refine Qw 12 ?_
            refine Qc ?_
            refine SXL.nil (SXA.nextLast rfl ?_)
            refine Qw 13 ?_
            refine Qc ?_
            refine SXL.nil (SXA.nextLast rfl ?_)
            refine Qv ?_
            refine SX.meet ⟨p13, p14, t2, b2, cap2, ps2, r2, Ad2, cd2, Ae2, ce2, hI2, hD, hcap2, hps2, m2, rfl, rfl⟩ (by repeat (first | exact trivial | refine ⟨rfl, ?_⟩)) inferInstance
        · skip
          refine SXL.alloc rfl rfl (fun p14 => ?_)
          refine SXL.nil (SXA.next inferInstance ?_)
          refine SXA.all [6, 10] (by decide +kernel) (Each.cons rfl ?_ (Each.cons rfl ?_ Each.nil))
          · skip
            refine SXL.call rfl rfl rfl ?_
            refine (Do_S (t := t') (ps := ps1) (c := ca 5 ((i : Int) + 1) 1 ⟨#[]⟩ 0 0 ys) (Ac := some ⟨g2, 0, none⟩) (cc := ys.length) inferInstance inferInstance m1 hps1 hcap1 (ca_wf ⟨by decide, by decide⟩ ⟨by omega, by omega⟩ ⟨by decide, by decide⟩ u32_0 u64_0 (by rw [hys]; exact bytesB_rep _)) (by show ys.length ≤ 4000000000; omega) (Nat.le_refl _) inferInstance (fun _ _ => ⟨writeE, write_S, fun t r => rfl⟩) (fun t2 r2 b2 cap2 ps2 Ad2 cd2 Ae2 ce2 he2 hcap2 hps2 m2 hd2 hx2 => callK.ret ?_))
            obtain ⟨hI2, hD⟩ := hI1.write_do hf (by omega) he2
            clear he2
            refine SXL.nil (SXA.next inferInstance ?_)
            (first|refine Qr 7 ?_|refine Qs 7 ?_|refine Qxa 7 ?_|refine Qya 7 ?_|refine Qt 7 ?_|refine Qu 7 ?_|fail)
            (first|refine Qr 8 ?_|refine Qs 8 ?_|refine Qxa 8 ?_|refine Qya 8 ?_|refine Qt 8 ?_|refine Qu 8 ?_|fail)
            (first|refine Qr 9 ?_|refine Qs 9 ?_|refine Qxa 9 ?_|refine Qya 9 ?_|refine Qt 9 ?_|refine Qu 9 ?_|fail)
            refine Qw 10 ?_
            refine SXL.alloc rfl rfl (fun p13 => ?_)
            refine SXL.nil (SXA.next inferInstance ?_)
            refine Qw 12 ?_
            refine Qc ?_
            refine SXL.nil (SXA.nextLast rfl ?_)
            refine Qw 13 ?_
            refine Qc ?_
            refine SXL.nil (SXA.nextLast rfl ?_)
            refine Qv ?_
            refine SX.meet ⟨p13, p14, t2, b2, cap2, ps2, r2, Ad2, cd2, Ae2, ce2, hI2, hD, hcap2, hps2, m2, rfl, rfl⟩ (by repeat (first | exact trivial | refine ⟨rfl, ?_⟩)) inferInstance
          · skip
            refine SXL.alloc rfl rfl (fun p13 => ?_)
            refine SXL.nil (SXA.next inferInstance ?_)
            refine Qw 6 ?_
            refine SXL.call rfl rfl rfl ?_
            refine (Do_S (t := t') (ps := ps1) (c := ca 5 ((i : Int) + 1) 1 ⟨#[]⟩ 0 0 ys) (Ac := some ⟨g2, 0, none⟩) (cc := ys.length) inferInstance inferInstance m1 hps1 hcap1 (ca_wf ⟨by decide, by decide⟩ ⟨by omega, by omega⟩ ⟨by decide, by decide⟩ u32_0 u64_0 (by rw [hys]; exact bytesB_rep _)) (by show ys.length ≤ 4000000000; omega) (Nat.le_refl _) inferInstance (fun _ _ => ⟨writeE, write_S, fun t r => rfl⟩) (fun t2 r2 b2 cap2 ps2 Ad2 cd2 Ae2 ce2 he2 hcap2 hps2 m2 hd2 hx2 => callK.ret ?_))
            obtain ⟨hI2, hD⟩ := hI1.write_do hf (by omega) he2
            clear he2
            refine SXL.nil (SXA.next inferInstance ?_)
            (first|refine Qr 7 ?_|refine Qs 7 ?_|refine Qxa 7 ?_|refine Qya 7 ?_|refine Qt 7 ?_|refine Qu 7 ?_|fail)
            (first|refine Qr 8 ?_|refine Qs 8 ?_|refine Qxa 8 ?_|refine Qya 8 ?_|refine Qt 8 ?_|refine Qu 8 ?_|fail)
            (first|refine Qr 9 ?_|refine Qs 9 ?_|refine Qxa 9 ?_|refine Qya 9 ?_|refine Qt 9 ?_|refine Qu 9 ?_|fail)
            refine Qw 12 ?_
            refine Qc ?_
            refine SXL.nil (SXA.nextLast rfl ?_)
            refine Qw 13 ?_
            refine Qc ?_
            refine SXL.nil (SXA.nextLast rfl ?_)
            refine Qv ?_
            refine SX.meet ⟨p13, p14, t2, b2, cap2, ps2, r2, Ad2, cd2, Ae2, ce2, hI2, hD, hcap2, hps2, m2, rfl, rfl⟩ (by repeat (first | exact trivial | refine ⟨rfl, ?_⟩)) inferInstance
      · skip
        refine SXL.alloc rfl rfl (fun p13 => ?_)
        refine SXL.nil (SXA.next inferInstance ?_)
        refine SXA.all [4, 11] (by decide +kernel) (Each.cons rfl ?_ (Each.cons rfl ?_ Each.nil))
        · skip
          refine SXL.make (nb := 1) rfl rfl rfl rfl rfl rfl rfl rfl (by kernel_rfl) (by omega) (by omega) (by omega) rfl (fun g2 => ?_)
          rw [Int.toNat_natCast]
          refine SXL.litRow (Kd.int .u8) g2 ys inferInstance (rep_flat hys) (fun _ => rfl) (by omega) ?_
          refine SXL.nil (SXA.next inferInstance ?_)
          (first|refine Qr 5 ?_|refine Qs 5 ?_|refine Qxa 5 ?_|refine Qya 5 ?_|refine Qt 5 ?_|refine Qu 5 ?_|fail)
          refine SXA.all [6, 11] (by decide +kernel) (Each.cons rfl ?_ (Each.cons rfl ?_ Each.nil))
          · skip
            refine SXL.call rfl rfl rfl ?_
            refine (Do_S (t := t') (ps := ps1) (c := ca 5 ((i : Int) + 1) 1 ⟨#[]⟩ 0 0 ys) (Ac := some ⟨g2, 0, none⟩) (cc := ys.length) inferInstance inferInstance m1 hps1 hcap1 (ca_wf ⟨by decide, by decide⟩ ⟨by omega, by omega⟩ ⟨by decide, by decide⟩ u32_0 u64_0 (by rw [hys]; exact bytesB_rep _)) (by show ys.length ≤ 4000000000; omega) (Nat.le_refl _) inferInstance (fun _ _ => ⟨writeE, write_S, fun t r => rfl⟩) (fun t2 r2 b2 cap2 ps2 Ad2 cd2 Ae2 ce2 he2 hcap2 hps2 m2 hd2 hx2 => callK.ret ?_))
            obtain ⟨hI2, hD⟩ := hI1.write_do hf (by omega) he2
            clear he2
            refine SXL.nil (SXA.next inferInstance ?_)
            (first|refine Qr 7 ?_|refine Qs 7 ?_|refine Qxa 7 ?_|refine Qya 7 ?_|refine Qt 7 ?_|refine Qu 7 ?_|fail)
            (first|refine Qr 8 ?_|refine Qs 8 ?_|refine Qxa 8 ?_|refine Qya 8 ?_|refine Qt 8 ?_|refine Qu 8 ?_|fail)
            (first|refine Qr 9 ?_|refine Qs 9 ?_|refine Qxa 9 ?_|refine Qya 9 ?_|refine Qt 9 ?_|refine Qu 9 ?_|fail)
            refine Qw 11 ?_
            refine SXL.alloc rfl rfl (fun p14 => ?_)
            refine SXL.nil (SXA.next inferInstance ?_)
            refine Qw 12 ?_
            refine Qc ?_
            refine SXL.nil (SXA.nextLast rfl ?_)
            refine Qw 13 ?_
            refine Qc ?_
            refine SXL.nil (SXA.nextLast rfl ?_)
            refine Qv ?_
            refine SX.meet ⟨p13, p14, t2, b2, cap2, ps2, r2, Ad2, cd2, Ae2, ce2, hI2, hD, hcap2, hps2, m2, rfl, rfl⟩ (by repeat (first | exact trivial | refine ⟨rfl, ?_⟩)) inferInstance
          · skip
            refine SXL.alloc rfl rfl (fun p14 => ?_)
            refine SXL.nil (SXA.next inferInstance ?_)
            refine Qw 6 ?_
            refine SXL.call rfl rfl rfl ?_
            refine (Do_S (t := t') (ps := ps1) (c := ca 5 ((i : Int) + 1) 1 ⟨#[]⟩ 0 0 ys) (Ac := some ⟨g2, 0, none⟩) (cc := ys.length) inferInstance inferInstance m1 hps1 hcap1 (ca_wf ⟨by decide, by decide⟩ ⟨by omega, by omega⟩ ⟨by decide, by decide⟩ u32_0 u64_0 (by rw [hys]; exact bytesB_rep _)) (by show ys.length ≤ 4000000000; omega) (Nat.le_refl _) inferInstance (fun _ _ => ⟨writeE, write_S, fun t r => rfl⟩) (fun t2 r2 b2 cap2 ps2 Ad2 cd2 Ae2 ce2 he2 hcap2 hps2 m2 hd2 hx2 => callK.ret ?_))
            obtain ⟨hI2, hD⟩ := hI1.write_do hf (by omega) he2
            clear he2
            refine SXL.nil (SXA.next inferInstance ?_)
            (first|refine Qr 7 ?_|refine Qs 7 ?_|refine Qxa 7 ?_|refine Qya 7 ?_|refine Qt 7 ?_|refine Qu 7 ?_|fail)
            (first|refine Qr 8 ?_|refine Qs 8 ?_|refine Qxa 8 ?_|refine Qya 8 ?_|refine Qt 8 ?_|refine Qu 8 ?_|fail)
            (first|refine Qr 9 ?_|refine Qs 9 ?_|refine Qxa 9 ?_|refine Qya 9 ?_|refine Qt 9 ?_|refine Qu 9 ?_|fail)
            refine Qw 12 ?_
            refine Qc ?_
            refine SXL.nil (SXA.nextLast rfl ?_)
            refine Qw 13 ?_
            refine Qc ?_
            refine SXL.nil (SXA.nextLast rfl ?_)
            refine Qv ?_
            refine SX.meet ⟨p13, p14, t2, b2, cap2, ps2, r2, Ad2, cd2, Ae2, ce2, hI2, hD, hcap2, hps2, m2, rfl, rfl⟩ (by repeat (first | exact trivial | refine ⟨rfl, ?_⟩)) inferInstance
        · skip
          refine SXL.alloc rfl rfl (fun p14 => ?_)
          refine SXL.nil (SXA.next inferInstance ?_)
          refine Qw 4 ?_
          refine SXL.make (nb := 1) rfl rfl rfl rfl rfl rfl rfl rfl (by kernel_rfl) (by omega) (by omega) (by omega) rfl (fun g2 => ?_)
          rw [Int.toNat_natCast]
          refine SXL.litRow (Kd.int .u8) g2 ys inferInstance (rep_flat hys) (fun _ => rfl) (by omega) ?_
          refine SXL.nil (SXA.next inferInstance ?_)
          (first|refine Qr 5 ?_|refine Qs 5 ?_|refine Qxa 5 ?_|refine Qya 5 ?_|refine Qt 5 ?_|refine Qu 5 ?_|fail)
          refine Qw 6 ?_
          refine SXL.call rfl rfl rfl ?_
          refine (Do_S (t := t') (ps := ps1) (c := ca 5 ((i : Int) + 1) 1 ⟨#[]⟩ 0 0 ys) (Ac := some ⟨g2, 0, none⟩) (cc := ys.length) inferInstance inferInstance m1 hps1 hcap1 (ca_wf ⟨by decide, by decide⟩ ⟨by omega, by omega⟩ ⟨by decide, by decide⟩ u32_0 u64_0 (by rw [hys]; exact bytesB_rep _)) (by show ys.length ≤ 4000000000; omega) (Nat.le_refl _) inferInstance (fun _ _ => ⟨writeE, write_S, fun t r => rfl⟩) (fun t2 r2 b2 cap2 ps2 Ad2 cd2 Ae2 ce2 he2 hcap2 hps2 m2 hd2 hx2 => callK.ret ?_))
          obtain ⟨hI2, hD⟩ := hI1.write_do hf (by omega) he2
          clear he2
          refine SXL.nil (SXA.next inferInstance ?_)
          (first|refine Qr 7 ?_|refine Qs 7 ?_|refine Qxa 7 ?_|refine Qya 7 ?_|refine Qt 7 ?_|refine Qu 7 ?_|fail)
          (first|refine Qr 8 ?_|refine Qs 8 ?_|refine Qxa 8 ?_|refine Qya 8 ?_|refine Qt 8 ?_|refine Qu 8 ?_|fail)
          (first|refine Qr 9 ?_|refine Qs 9 ?_|refine Qxa 9 ?_|refine Qya 9 ?_|refine Qt 9 ?_|refine Qu 9 ?_|fail)
          refine Qw 12 ?_
          refine Qc ?_
          refine SXL.nil (SXA.nextLast rfl ?_)
          refine Qw 13 ?_
          refine Qc ?_
          refine SXL.nil (SXA.nextLast rfl ?_)
          refine Qv ?_
          refine SX.meet ⟨p13, p14, t2, b2, cap2, ps2, r2, Ad2, cd2, Ae2, ce2, hI2, hD, hcap2, hps2, m2, rfl, rfl⟩ (by repeat (first | exact trivial | refine ⟨rfl, ?_⟩)) inferInstance
      · skip
        refine SXL.alloc rfl rfl (fun p14 => ?_)
        refine SXL.nil (SXA.next inferInstance ?_)
        refine SXA.all [4, 10] (by decide +kernel) (Each.cons rfl ?_ (Each.cons rfl ?_ Each.nil))
        · skip
          refine SXL.make (nb := 1) rfl rfl rfl rfl rfl rfl rfl rfl (by kernel_rfl) (by omega) (by omega) (by omega) rfl (fun g2 => ?_)
          rw [Int.toNat_natCast]
          refine SXL.litRow (Kd.int .u8) g2 ys inferInstance (rep_flat hys) (fun _ => rfl) (by omega) ?_
          refine SXL.nil (SXA.next inferInstance ?_)
          (first|refine Qr 5 ?_|refine Qs 5 ?_|refine Qxa 5 ?_|refine Qya 5 ?_|refine Qt 5 ?_|refine Qu 5 ?_|fail)
          refine SXA.all [6, 10] (by decide +kernel) (Each.cons rfl ?_ (Each.cons rfl ?_ Each.nil))
          · skip
            refine SXL.call rfl rfl rfl ?_
            refine (Do_S (t := t') (ps := ps1) (c := ca 5 ((i : Int) + 1) 1 ⟨#[]⟩ 0 0 ys) (Ac := some ⟨g2, 0, none⟩) (cc := ys.length) inferInstance inferInstance m1 hps1 hcap1 (ca_wf ⟨by decide, by decide⟩ ⟨by omega, by omega⟩ ⟨by decide, by decide⟩ u32_0 u64_0 (by rw [hys]; exact bytesB_rep _)) (by show ys.length ≤ 4000000000; omega) (Nat.le_refl _) inferInstance (fun _ _ => ⟨writeE, write_S, fun t r => rfl⟩) (fun t2 r2 b2 cap2 ps2 Ad2 cd2 Ae2 ce2 he2 hcap2 hps2 m2 hd2 hx2 => callK.ret ?_))
            obtain ⟨hI2, hD⟩ := hI1.write_do hf (by omega) he2
            clear he2
            refine SXL.nil (SXA.next inferInstance ?_)
            (first|refine Qr 7 ?_|refine Qs 7 ?_|refine Qxa 7 ?_|refine Qya 7 ?_|refine Qt 7 ?_|refine Qu 7 ?_|fail)
            (first|refine Qr 8 ?_|refine Qs 8 ?_|refine Qxa 8 ?_|refine Qya 8 ?_|refine Qt 8 ?_|refine Qu 8 ?_|fail)
            (first|refine Qr 9 ?_|refine Qs 9 ?_|refine Qxa 9 ?_|refine Qya 9 ?_|refine Qt 9 ?_|refine Qu 9 ?_|fail)
            refine Qw 10 ?_
            refine SXL.alloc rfl rfl (fun p13 => ?_)
            refine SXL.nil (SXA.next inferInstance ?_)
            refine Qw 12 ?_
            refine Qc ?_
            refine SXL.nil (SXA.nextLast rfl ?_)
            refine Qw 13 ?_
            refine Qc ?_
            refine SXL.nil (SXA.nextLast rfl ?_)
            refine Qv ?_
            refine SX.meet ⟨p13, p14, t2, b2, cap2, ps2, r2, Ad2, cd2, Ae2, ce2, hI2, hD, hcap2, hps2, m2, rfl, rfl⟩ (by repeat (first | exact trivial | refine ⟨rfl, ?_⟩)) inferInstance
          · skip
            refine SXL.alloc rfl rfl (fun p13 => ?_)
            refine SXL.nil (SXA.next inferInstance ?_)
            refine Qw 6 ?_
            refine SXL.call rfl rfl rfl ?_
            refine (Do_S (t := t') (ps := ps1) (c := ca 5 ((i : Int) + 1) 1 ⟨#[]⟩ 0 0 ys) (Ac := some ⟨g2, 0, none⟩) (cc := ys.length) inferInstance inferInstance m1 hps1 hcap1 (ca_wf ⟨by decide, by decide⟩ ⟨by omega, by omega⟩ ⟨by decide, by decide⟩ u32_0 u64_0 (by rw [hys]; exact bytesB_rep _)) (by show ys.length ≤ 4000000000; omega) (Nat.le_refl _) inferInstance (fun _ _ => ⟨writeE, write_S, fun t r => rfl⟩) (fun t2 r2 b2 cap2 ps2 Ad2 cd2 Ae2 ce2 he2 hcap2 hps2 m2 hd2 hx2 => callK.ret ?_))
            obtain ⟨hI2, hD⟩ := hI1.write_do hf (by omega) he2
            clear he2
            refine SXL.nil (SXA.next inferInstance ?_)
            (first|refine Qr 7 ?_|refine Qs 7 ?_|refine Qxa 7 ?_|refine Qya 7 ?_|refine Qt 7 ?_|refine Qu 7 ?_|fail)
            (first|refine Qr 8 ?_|refine Qs 8 ?_|refine Qxa 8 ?_|refine Qya 8 ?_|refine Qt 8 ?_|refine Qu 8 ?_|fail)
            (first|refine Qr 9 ?_|refine Qs 9 ?_|refine Qxa 9 ?_|refine Qya 9 ?_|refine Qt 9 ?_|refine Qu 9 ?_|fail)
            refine Qw 12 ?_
            refine Qc ?_
            refine SXL.nil (SXA.nextLast rfl ?_)
            refine Qw 13 ?_
            refine Qc ?_
            refine SXL.nil (SXA.nextLast rfl ?_)
            refine Qv ?_
            refine SX.meet ⟨p13, p14, t2, b2, cap2, ps2, r2, Ad2, cd2, Ae2, ce2, hI2, hD, hcap2, hps2, m2, rfl, rfl⟩ (by repeat (first | exact trivial | refine ⟨rfl, ?_⟩)) inferInstance
        · skip
          refine SXL.alloc rfl rfl (fun p13 => ?_)
          refine SXL.nil (SXA.next inferInstance ?_)
          refine Qw 4 ?_
          refine SXL.make (nb := 1) rfl rfl rfl rfl rfl rfl rfl rfl (by kernel_rfl) (by omega) (by omega) (by omega) rfl (fun g2 => ?_)
          rw [Int.toNat_natCast]
          refine SXL.litRow (Kd.int .u8) g2 ys inferInstance (rep_flat hys) (fun _ => rfl) (by omega) ?_
          refine SXL.nil (SXA.next inferInstance ?_)
          (first|refine Qr 5 ?_|refine Qs 5 ?_|refine Qxa 5 ?_|refine Qya 5 ?_|refine Qt 5 ?_|refine Qu 5 ?_|fail)
          refine Qw 6 ?_
          refine SXL.call rfl rfl rfl ?_
          refine (Do_S (t := t') (ps := ps1) (c := ca 5 ((i : Int) + 1) 1 ⟨#[]⟩ 0 0 ys) (Ac := some ⟨g2, 0, none⟩) (cc := ys.length) inferInstance inferInstance m1 hps1 hcap1 (ca_wf ⟨by decide, by decide⟩ ⟨by omega, by omega⟩ ⟨by decide, by decide⟩ u32_0 u64_0 (by rw [hys]; exact bytesB_rep _)) (by show ys.length ≤ 4000000000; omega) (Nat.le_refl _) inferInstance (fun _ _ => ⟨writeE, write_S, fun t r => rfl⟩) (fun t2 r2 b2 cap2 ps2 Ad2 cd2 Ae2 ce2 he2 hcap2 hps2 m2 hd2 hx2 => callK.ret ?_))
          obtain ⟨hI2, hD⟩ := hI1.write_do hf (by omega) he2
          clear he2
          refine SXL.nil (SXA.next inferInstance ?_)
          (first|refine Qr 7 ?_|refine Qs 7 ?_|refine Qxa 7 ?_|refine Qya 7 ?_|refine Qt 7 ?_|refine Qu 7 ?_|fail)
          (first|refine Qr 8 ?_|refine Qs 8 ?_|refine Qxa 8 ?_|refine Qya 8 ?_|refine Qt 8 ?_|refine Qu 8 ?_|fail)
          (first|refine Qr 9 ?_|refine Qs 9 ?_|refine Qxa 9 ?_|refine Qya 9 ?_|refine Qt 9 ?_|refine Qu 9 ?_|fail)
          refine Qw 12 ?_
          refine Qc ?_
          refine SXL.nil (SXA.nextLast rfl ?_)
          refine Qw 13 ?_
          refine Qc ?_
          refine SXL.nil (SXA.nextLast rfl ?_)
          refine Qv ?_
          refine SX.meet ⟨p13, p14, t2, b2, cap2, ps2, r2, Ad2, cd2, Ae2, ce2, hI2, hD, hcap2, hps2, m2, rfl, rfl⟩ (by repeat (first | exact trivial | refine ⟨rfl, ?_⟩)) inferInstance
    rintro _ _ ⟨p13, p14, t2, b2, cap2, ps2, r2, Ad2, cd2, Ae2, ce2, hI2, hD, hcap2, hps2, m2, rfl, rfl⟩
    repeat (first|refine Qa ?_|refine Qb ?_|refine Qc ?_|refine Qd ?_|refine Qe ?_|refine Qf ?_|refine Qg ?_|refine Qh ?_|refine Qi ?_|refine Qj ?_|refine Qk ?_|refine Ql ?_|refine Qm ?_|refine Qn ?_|refine Qo ?_|refine Qp ?_|refine Qq ?_|fail)
    refine SXL.call rfl rfl rfl ?_
    refine (Used_P (ts := t'.l) (ps := ps1) inferInstance m1.n hps1 hcap1 m1.m (callK.ret ?_))
    repeat (first|refine Qa ?_|refine Qb ?_|refine Qc ?_|fail)
    rw [hw3]
    refine Qd ?_
    repeat (first|refine Qf ?_|refine Qg ?_|refine Qh ?_|refine Qi ?_|refine Qj ?_|refine Qk ?_|refine Ql ?_|fail)
    refine SX.cut (fun a' M' => a' = [(1, .slice (some ⟨bA, oA, none⟩) xs.length c), (6, .int .i64 n), (7, .pointer (some ⟨p7, 0, none⟩)), (8, .int .i64 i), (10, .pointer (some ⟨p10, 0, none⟩)), (12, .int .i64 ys.length), (13, .pointer (some ⟨p13, 0, none⟩)), (14, .pointer (some ⟨p14, 0, none⟩)), (110, .bool false)] ∧ (.own (some ⟨p13, 0, none⟩) (cellsR p13 (thC (some ⟨b2, 0, none⟩) 24 cap2 (t2).ch (t2).room) 27) :: .own (some ⟨p14, 0, none⟩) (cellsR p14 (reK r2 Ad2 cd2 Ae2 ce2) 49) :: thP b2 t2.l ps2 :: .per (datR t2.l ps2) :: .own (some ⟨p10, 0, none⟩) (cellsR p10 (thC (some ⟨b1, 0, none⟩) 24 cap1 (t').ch (t').room) 27) :: thP b1 t'.l ps1 :: .per (datR t'.l ps1) :: .own (some ⟨p7, 0, none⟩) (cellsR p7 (thC (some ⟨b, 0, none⟩) 24 cap (t).ch (t).room) 27) :: F) = M') ?_ ?_
    · unfold reK
      repeat (first|refine Qa ?_|refine Qb ?_|refine Qc ?_|refine Qd ?_|refine Qe ?_|refine Qf ?_|refine Qg ?_|refine Qh ?_|refine Qi ?_|refine Qj ?_|refine Qk ?_|refine Ql ?_|refine Qm ?_|refine Qn ?_|refine Qo ?_|refine Qp ?_|refine Qq ?_|fail)
      refine SXL.know 94 false rfl (by rcases hD with ⟨u, s0⟩ | ⟨u, s0, -⟩ <;> rw [s0] <;> simp <;> omega) ?_
      rcases hD with ⟨u, s0⟩ | ⟨u, s0, s3⟩
      · rw [s0]
        repeat (first|refine Qa ?_|refine Qb ?_|refine Qc ?_|refine Qd ?_|refine Qe ?_|refine Qf ?_|refine Qg ?_|refine Qh ?_|refine Qi ?_|refine Qj ?_|refine Qk ?_|refine Ql ?_|refine Qm ?_|refine Qn ?_|refine Qo ?_|refine Qp ?_|refine Qq ?_|fail)
        refine SX.meet ⟨rfl, rfl⟩ (by repeat (first | exact trivial | refine ⟨rfl, ?_⟩)) inferInstance
      · rw [s0]
        repeat (first|refine Qa ?_|refine Qb ?_|refine Qc ?_|refine Qd ?_|refine Qe ?_|refine Qf ?_|refine Qg ?_|refine Qh ?_|refine Qi ?_|refine Qj ?_|refine Qk ?_|refine Ql ?_|refine Qm ?_|refine Qn ?_|refine Qo ?_|refine Qp ?_|refine Qq ?_|fail)
        refine SX.know 110 false rfl (by rw [s3]; simp) ?_
        refine SX.meet ⟨rfl, rfl⟩ (by repeat (first | exact trivial | refine ⟨rfl, ?_⟩)) inferInstance
    rintro _ _ ⟨rfl, rfl⟩
    repeat (first|refine Qa ?_|refine Qb ?_|refine Qc ?_|refine Qd ?_|refine Qe ?_|refine Qf ?_|refine Qg ?_|refine Qh ?_|refine Qi ?_|refine Qj ?_|refine Qk ?_|refine Ql ?_|refine Qm ?_|refine Qn ?_|refine Qo ?_|refine Qp ?_|refine Qq ?_|fail)
    refine SXL.call rfl rfl rfl ?_
    refine (Do_S (t := t2) (ps := ps2) (c := ca 15 0 1 ⟨#[]⟩ 0 0 []) (Ac := none) (cc := 0) inferInstance inferInstance m2 hps2 hcap2 (ca_wf ⟨by decide, by decide⟩ u32_0 ⟨by decide, by decide⟩ u32_0 u64_0 rfl) (Nat.zero_le _) (Nat.le_refl _) inferInstance (fun _ _ => ⟨fsstatE, fsstat_S, fun t r => rfl⟩) (fun t3 r3 b3 cap3 ps3 Ad3 cd3 Ae3 ce3 he3 hcap3 hps3 m3 hd3 hx3 => callK.ret ?_))
    obtain ⟨hs3, hf3⟩ := hI2.stat_do (by omega) he3
    clear he3
    repeat (first|refine Qa ?_|refine Qb ?_|refine Qc ?_|refine Qd ?_|refine Qe ?_|refine Qf ?_|refine Qg ?_|refine Qh ?_|refine Qi ?_|refine Qj ?_|refine Qk ?_|refine Ql ?_|refine Qm ?_|refine Qn ?_|refine Qo ?_|refine Qp ?_|refine Qq ?_|fail)
    refine SXL.alloc rfl rfl (fun p16 => ?_)
    repeat (first|refine Qa ?_|refine Qb ?_|refine Qc ?_|refine Qd ?_|refine Qe ?_|refine Qf ?_|refine Qg ?_|refine Qh ?_|refine Qi ?_|refine Qj ?_|refine Qk ?_|refine Ql ?_|refine Qm ?_|refine Qn ?_|refine Qo ?_|refine Qp ?_|refine Qq ?_|fail)
    refine SXL.alloc rfl rfl (fun p17 => ?_)
    repeat (first|refine Qa ?_|refine Qb ?_|refine Qc ?_|refine Qd ?_|refine Qe ?_|refine Qf ?_|refine Qg ?_|refine Qh ?_|refine Qi ?_|refine Qj ?_|refine Qk ?_|refine Ql ?_|refine Qm ?_|refine Qn ?_|refine Qo ?_|refine Qp ?_|refine Qq ?_|fail)
    unfold reK
    repeat (first|refine Qf ?_|refine Qg ?_|refine Qh ?_|refine Qi ?_|refine Qj ?_|refine Qk ?_|refine Ql ?_|fail)
    have hu2 := hI2.used
    have hw5 : IntKind.i64.wrap ((n : Int) - (usedT t2.l : Int)) = (n : Int) - (usedT t2.l : Int) := IntWalk.i64_in _ (by omega)
    rw [hs3, hf3]
    refine SX.cut (fun a' M' => a' = [(1, .slice (some ⟨bA, oA, none⟩) xs.length c), (6, .int .i64 n), (7, .pointer (some ⟨p7, 0, none⟩)), (8, .int .i64 i), (13, .pointer (some ⟨p13, 0, none⟩)), (130, .bool false)] ∧ (.own (some ⟨p13, 0, none⟩) (cellsR p13 (thC (some ⟨b2, 0, none⟩) 24 cap2 (t2).ch (t2).room) 27) :: thP b2 t2.l ps2 :: .per (datR t2.l ps2) :: .own (some ⟨p7, 0, none⟩) (cellsR p7 (thC (some ⟨b, 0, none⟩) 24 cap (t).ch (t).room) 27) :: F) = M') ?_ ?_
    · refine SXA.begin (.own (some ⟨p17, 0, none⟩) (cellsR p17 (reK { r3 with st := 0, free := (n : Int) - (usedT t2.l : Int) } Ad3 cd3 Ae3 ce3) 49) :: .own (some ⟨p13, 0, none⟩) (cellsR p13 (thC (some ⟨b2, 0, none⟩) 24 cap2 (t2).ch (t2).room) 27) :: thP b2 t2.l ps2 :: .per (datR t2.l ps2) :: .own (some ⟨p7, 0, none⟩) (cellsR p7 (thC (some ⟨b, 0, none⟩) 24 cap (t).ch (t).room) 27) :: F) [] ?_
      (first|refine Qr 0 ?_|refine Qs 0 ?_|refine Qxa 0 ?_|refine Qya 0 ?_|refine Qt 0 ?_|refine Qu 0 ?_|fail)
      (first|refine Qr 1 ?_|refine Qs 1 ?_|refine Qxa 1 ?_|refine Qya 1 ?_|refine Qt 1 ?_|refine Qu 1 ?_|fail)
      (first|refine Qr 2 ?_|refine Qs 2 ?_|refine Qxa 2 ?_|refine Qya 2 ?_|refine Qt 2 ?_|refine Qu 2 ?_|fail)
      (first|refine Qr 3 ?_|refine Qs 3 ?_|refine Qxa 3 ?_|refine Qya 3 ?_|refine Qt 3 ?_|refine Qu 3 ?_|fail)
      refine SXA.know 121 false rfl rfl ?_
      (first|refine Qr 4 ?_|refine Qs 4 ?_|refine Qxa 4 ?_|refine Qya 4 ?_|refine Qt 4 ?_|refine Qu 4 ?_|fail)
      (first|refine Qr 7 ?_|refine Qs 7 ?_|refine Qxa 7 ?_|refine Qya 7 ?_|refine Qt 7 ?_|refine Qu 7 ?_|fail)
      (first|refine Qr 8 ?_|refine Qs 8 ?_|refine Qxa 8 ?_|refine Qya 8 ?_|refine Qt 8 ?_|refine Qu 8 ?_|fail)
      (first|refine Qr 5 ?_|refine Qs 5 ?_|refine Qxa 5 ?_|refine Qya 5 ?_|refine Qt 5 ?_|refine Qu 5 ?_|fail)
      (first|refine Qr 6 ?_|refine Qs 6 ?_|refine Qxa 6 ?_|refine Qya 6 ?_|refine Qt 6 ?_|refine Qu 6 ?_|fail)
      refine Qw 9 ?_
      refine Qm ?_
      refine SXL.call rfl rfl rfl ?_
      refine (Used_P (ts := t2.l) (ps := ps2) inferInstance m2.n hps2 hcap2 m2.m (callK.ret ?_))
      refine SXL.nil (SXA.next inferInstance ?_)
      (first|refine Qr 10 ?_|refine Qs 10 ?_|refine Qxa 10 ?_|refine Qya 10 ?_|refine Qt 10 ?_|refine Qu 10 ?_|fail)
      (first|refine Qr 11 ?_|refine Qs 11 ?_|refine Qxa 11 ?_|refine Qya 11 ?_|refine Qt 11 ?_|refine Qu 11 ?_|fail)
      (first|refine Qr 12 ?_|refine Qs 12 ?_|refine Qxa 12 ?_|refine Qya 12 ?_|refine Qt 12 ?_|refine Qu 12 ?_|fail)
      refine Qv ?_
      refine SX.know 130 false rfl (by rw [hw5]; simp) ?_
      refine SX.meet ⟨rfl, rfl⟩ (by repeat (first | exact trivial | refine ⟨rfl, ?_⟩)) inferInstance
    rintro _ _ ⟨rfl, rfl⟩
    repeat (first|refine Qa ?_|refine Qb ?_|refine Qc ?_|refine Qd ?_|refine Qe ?_|refine Qf ?_|refine Qg ?_|refine Qh ?_|refine Qi ?_|refine Qj ?_|refine Qk ?_|refine Ql ?_|refine Qm ?_|refine Qn ?_|refine Qo ?_|refine Qp ?_|refine Qq ?_|fail)
    refine SX.same 8 (.int .i64 ((i + 1 : Nat) : Int)) rfl (by simp (disch := omega) only [IntWalk.i64_in, IntWalk.u8_in, IntWalk.u32_in, IntWalk.u64_in, IntWalk.rem_in, Int.natCast_add, Int.natCast_one]) ?_
    refine SX.again (z - 1) (by omega) ⟨i + 1, b2, cap2, t2, ps2, by omega, hI2, hcap2, hps2, m2, rfl, rfl⟩ (by repeat (first | exact trivial | refine ⟨rfl, ?_⟩)) inferInstance
  obtain rfl : i = xs.length := by omega
  repeat (first|refine Qa ?_|refine Qb ?_|refine Qc ?_|refine Qd ?_|refine Qe ?_|refine Qf ?_|refine Qg ?_|refine Qh ?_|refine Qi ?_|refine Qj ?_|refine Qk ?_|refine Ql ?_|refine Qm ?_|refine Qn ?_|refine Qo ?_|refine Qp ?_|refine Qq ?_|fail)
  refine SX.loop (fun z a M => ∃ (k b cap : Nat) (t : Th) (ps : List Pl), k + z = xs.length ∧ RI n xs.length k t ∧ 24 ≤ cap ∧ ps.length = 24 ∧ t.mid ∧ a = [(1, .slice A xs.length c), (7, .pointer (some ⟨p7, 0, none⟩)), (18, .int .i64 k)] ∧ (.own (some ⟨p7, 0, none⟩) (cellsR p7 (thC (some ⟨b, 0, none⟩) 24 cap (t).ch (t).room) 27) :: thP b (t).l ps :: .per (datR (t).l ps) :: F) = M)
    xs.length ⟨0, b, cap, t, ps, by omega, hI, hcap, hps, hm, rfl, rfl⟩ (by repeat (first | exact trivial | refine ⟨rfl, ?_⟩)) inferInstance ?_
  rintro z _ _ ⟨k, b, cap, t, ps, hz, hI, hcap, hps, hm, rfl, rfl⟩
  repeat (first|refine Qa ?_|refine Qb ?_|refine Qc ?_|refine Qd ?_|refine Qe ?_|refine Qf ?_|refine Qg ?_|refine Qh ?_|refine Qi ?_|refine Qj ?_|refine Qk ?_|refine Ql ?_|refine Qm ?_|refine Qn ?_|refine Qo ?_|refine Qp ?_|refine Qq ?_|fail)
  refine SX.condp rfl (fun hi => ?_) (fun hi => ?_)
  · have hw1 : IntKind.u8.wrap (97 + IntKind.u8.wrap (k : Int)) = 97 + (k : Int) := by rw [IntWalk.u8_in (k : Int) (by omega), IntWalk.u8_in _ (by omega)]
    repeat (first|refine Qa ?_|refine Qb ?_|refine Qc ?_|refine Qd ?_|refine Qe ?_|refine Qf ?_|refine Qg ?_|refine Qh ?_|refine Qi ?_|refine Qj ?_|refine Qk ?_|refine Ql ?_|refine Qm ?_|refine Qn ?_|refine Qo ?_|refine Qp ?_|refine Qq ?_|fail)
    rw [hw1]
    refine SXL.lit rfl rfl (fun g => ?_)
    refine SXL.litRow (Kd.int .u8) g [102, 97 + (k : Int)] inferInstance rfl (fun _ => rfl) (by simp) ?_
    repeat (first|refine Qa ?_|refine Qb ?_|refine Qc ?_|refine Qd ?_|refine Qe ?_|refine Qf ?_|refine Qg ?_|refine Qh ?_|refine Qi ?_|refine Qj ?_|refine Qk ?_|refine Ql ?_|refine Qm ?_|refine Qn ?_|refine Qo ?_|refine Qp ?_|refine Qq ?_|fail)
    refine SXL.bytesStr rfl inferInstance rfl Tryz.underlying38 Tryz.underlying5 Tryz.underlying9 rfl ?_
    rw [fnm_s]
    repeat (first|refine Qa ?_|refine Qb ?_|refine Qc ?_|refine Qd ?_|refine Qe ?_|refine Qf ?_|refine Qg ?_|refine Qh ?_|refine Qi ?_|refine Qj ?_|refine Qk ?_|refine Ql ?_|refine Qm ?_|refine Qn ?_|refine Qo ?_|refine Qp ?_|refine Qq ?_|fail)
    refine SXL.call rfl rfl rfl ?_
    refine (Do_S (t := t) (ps := ps) (c := ca 10 0 1 (fnm k) 0 0 []) (Ac := none) (cc := 0) inferInstance inferInstance hm hps hcap (ca_wf ⟨by decide, by decide⟩ u32_0 ⟨by decide, by decide⟩ u32_0 u64_0 rfl) (Nat.zero_le _) (Nat.le_refl _) inferInstance (fun _ _ => ⟨removeE, remove_S, fun t r => rfl⟩) (fun t4 r4 b4 cap4 ps4 Ad4 cd4 Ae4 ce4 he4 hcap4 hps4 m4 hd4 hx4 => callK.ret ?_))
    obtain ⟨hI4, hs4⟩ := hI.remove_do (by omega) he4
    clear he4
    repeat (first|refine Qa ?_|refine Qb ?_|refine Qc ?_|refine Qd ?_|refine Qe ?_|refine Qf ?_|refine Qg ?_|refine Qh ?_|refine Qi ?_|refine Qj ?_|refine Qk ?_|refine Ql ?_|refine Qm ?_|refine Qn ?_|refine Qo ?_|refine Qp ?_|refine Qq ?_|fail)
    refine SXL.alloc rfl rfl (fun p19 => ?_)
    repeat (first|refine Qa ?_|refine Qb ?_|refine Qc ?_|refine Qd ?_|refine Qe ?_|refine Qf ?_|refine Qg ?_|refine Qh ?_|refine Qi ?_|refine Qj ?_|refine Qk ?_|refine Ql ?_|refine Qm ?_|refine Qn ?_|refine Qo ?_|refine Qp ?_|refine Qq ?_|fail)
    refine SXL.alloc rfl rfl (fun p20 => ?_)
    repeat (first|refine Qa ?_|refine Qb ?_|refine Qc ?_|refine Qd ?_|refine Qe ?_|refine Qf ?_|refine Qg ?_|refine Qh ?_|refine Qi ?_|refine Qj ?_|refine Qk ?_|refine Ql ?_|refine Qm ?_|refine Qn ?_|refine Qo ?_|refine Qp ?_|refine Qq ?_|fail)
    unfold reK
    rw [hs4]
    repeat (first|refine Qa ?_|refine Qb ?_|refine Qc ?_|refine Qd ?_|refine Qe ?_|refine Qf ?_|refine Qg ?_|refine Qh ?_|refine Qi ?_|refine Qj ?_|refine Qk ?_|refine Ql ?_|refine Qm ?_|refine Qn ?_|refine Qo ?_|refine Qp ?_|refine Qq ?_|fail)
    refine SX.same 18 (.int .i64 ((k + 1 : Nat) : Int)) rfl (by simp (disch := omega) only [IntWalk.i64_in, IntWalk.u8_in, IntWalk.u32_in, IntWalk.u64_in, IntWalk.rem_in, Int.natCast_add, Int.natCast_one]) ?_
    refine SX.again (z - 1) (by omega) ⟨k + 1, b4, cap4, t4, ps4, by omega, hI4, hcap4, hps4, m4, rfl, rfl⟩ (by repeat (first | exact trivial | refine ⟨rfl, ?_⟩)) inferInstance
  obtain rfl : k = xs.length := by omega
  repeat (first|refine Qa ?_|refine Qb ?_|refine Qc ?_|refine Qd ?_|refine Qe ?_|refine Qf ?_|refine Qg ?_|refine Qh ?_|refine Qi ?_|refine Qj ?_|refine Qk ?_|refine Ql ?_|refine Qm ?_|refine Qn ?_|refine Qo ?_|refine Qp ?_|refine Qq ?_|fail)
  refine SXL.call rfl rfl rfl ?_
  refine (Used_P (ts := t.l) (ps := ps) inferInstance hm.n hps hcap hm.m (callK.ret ?_))
  rw [hI.none]
  repeat (first|refine Qa ?_|refine Qb ?_|refine Qc ?_|refine Qd ?_|refine Qe ?_|refine Qf ?_|refine Qg ?_|refine Qh ?_|refine Qi ?_|refine Qj ?_|refine Qk ?_|refine Ql ?_|refine Qm ?_|refine Qn ?_|refine Qo ?_|refine Qp ?_|refine Qq ?_|fail)
  refine SX.ret (M' := F) rfl (Evals.tmp rfl Evals.nil) ?_ inferInstance
  exact h
end
theorem OpsRoom_any (q : Int) (As : Option Addr) (cs : Nat) (ls : List Int) (W : World) (wq : (Lit.int .u8 q).wf = true) (rs : Kd.C (Kd.int .u16) W As ls.length ls) (hs : ls.length ≤ cs) (ws : ls.length ≤ maxLen ∧ ∀ x ∈ ls, (Lit.int .u16 x).wf = true) :
    Calls Tryz.prog 13 #[.int .u8 q, .slice As ls.length cs] W fun e w' => e = .returned (.bool true) ∧ Below W.heap.size W w' :=
  Fn.out W [.per (roR (Kd.int .u16) As ls), .per (oldR W)] (Holds.ofStart (Holds.startRow (Holds.start0 W) (Kd.C_F (Kd.heap_int _) rs))) inferInstance
    (OpsRoom_S Ro.here hs ws.2 (u8_of_wf _ wq).1 (u8_of_wf _ wq).2 ⟨rfl, inferInstance⟩)
end Go.Proofs.YtanemmcddgkpdaaGreat.Sx
