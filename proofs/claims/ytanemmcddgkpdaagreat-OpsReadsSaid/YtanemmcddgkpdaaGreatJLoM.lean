/- Chapter 13: what only asks changes nothing, and tells the same each time, walked; conditions: those that each theorem names. -/
import Derived.Test.YtanemmcddgkpdaaGreatJO4
import Derived.Test.YtanemmcddgkpdaaGreatJO3
import Derived.Test.YtanemmcddgkpdaaGreatJN7
namespace Go.Proofs.YtanemmcddgkpdaaGreat.Sx
open Go.RowKit Go.Proofs.YtanemmcddgkpdaaGreat.Hm Go.Proofs.YtanemmcddgkpdaaGreatW.PrintWords Go.Proofs.YtanemmcddgkpdaaGreatW.PrintLast Go.Proofs.YtanemmcddgkpdaaGreatW.PrintMore
set_option linter.unusedVariables false
set_option linter.unusedSimpArgs false
attribute [local irreducible] SX SXL SXA St callK Post Evals
attribute [local irreducible] doT putM nm askM
theorem askM_wf {e : Stp} {H : List (Int × Int)} {xid : Int} (he : e.wf) (hx : u32ok xid) (hH : ∀ p ∈ H, u32ok p.1 ∧ u32ok p.2) : (askM e H xid).wf := by
  have key : ∀ k : Nat, u32ok (H.getD k (0, 0)).1 ∧ u32ok (H.getD k (0, 0)).2 := fun k => by
    rw [List.getD_eq_getElem?_getD]
    cases hk : H[k]? with
    | none => exact ⟨u32_0, u32_0⟩
    | some p => exact hH p (List.mem_of_getElem? hk)
  have h8 : ∀ z : Int, 0 ≤ z ∧ z < 256 → u32ok z := fun z h => ⟨h.1, by omega⟩
  unfold askM
  refine ⟨⟨by show (0:Int) ≤ 1; decide, by show (1:Int) < 4294967296; decide⟩, hx, ⟨by show 0 ≤ e.op % 18; omega, by show e.op % 18 < 4294967296; omega⟩, ?_, ?_, (key _).1, (key _).2, ?_, ⟨he.verf.1, by show e.verf < 18446744073709551616; have := he.verf; omega⟩, h8 _ he.cnt, ⟨he.mode.1, by show e.mode < 4294967296; have := he.mode; omega⟩, he.d⟩
  · dsimp only
    split
    · exact he.ai
    · exact (key _).1
  · dsimp only
    split
    · exact he.ag
    · exact (key _).2
  · dsimp only
    split
    · exact ⟨by decide, by decide⟩
    · exact ⟨he.off.1, by have := he.off; omega⟩
theorem askM_d (e : Stp) (H : List (Int × Int)) (xid : Int) : (askM e H xid).d = e.d := by unfold askM; rfl
theorem sameRe_refl (s : Re) : sameRe s s = true := by simp [sameRe, (sameE_iff s.e s.e).2 rfl]
section
variable {F : List Thing} {K : Ending → List Thing → Prop} {A : Option Addr} {c : Nat} {xs : List Stp} {q w : Int}
set_option maxRecDepth 20000 in
set_option maxHeartbeats 8000000 in
theorem OpsReads_S (hc : xs.length ≤ c) (hxs : ∀ e ∈ xs, e.wf) (hq0 : 0 ≤ q) (hq1 : q < 256) (hw0 : 0 ≤ w) (hw1 : w < 256) [hr : Has (roR kStep A xs) F] (h : K (.returned (.bool true)) F) :
    Fn (Tryz.prog) 15 [.slice A xs.length c, .int .u8 q, .int .u8 w] F K := by
  refine Fn.flat (A := A) (xs := xs) kStep (by decide) (fun css hcs => ?_) (fun w => rfl)
  refine Fn.enter Tryz.call15 Tryz.func15 rfl rfl rfl ?_
  repeat (first|refine Qa ?_|refine Qd ?_|refine Qe ?_|refine Qf ?_|fail)
  refine SXL.call rfl rfl rfl ?_
  refine (awake13_S (callK.ret ?_))
  repeat (first|refine Qa ?_|refine Qd ?_|refine Qe ?_|refine Qf ?_|refine Qg ?_|refine Ql ?_|fail)
  refine SX.condp rfl (fun hl => ?_) (fun hl => ?_)
  · repeat (first|refine Qa ?_|refine Qd ?_|refine Qe ?_|refine Qf ?_|fail)
    refine SX.ret (M' := F) rfl (Evals.tmp rfl Evals.nil) ?_ inferInstance
    exact h
  have hl30 : xs.length ≤ 30 := by omega
  repeat (first|refine Qe ?_|refine Qf ?_|refine Qg ?_|fail)
  refine SXL.call rfl rfl rfl ?_
  refine (Format_S (room := 30) (fun b0 cap0 hcap0 => callK.ret ?_))
  have m0 : (formT 30).mid := formT_mid ⟨by decide, by decide⟩
  skip
  refine SXL.alloc rfl rfl (fun p8 => ?_)
  repeat (first|refine Qa ?_|refine Qc ?_|refine Qd ?_|refine Qe ?_|refine Qf ?_|fail)
  refine SXL.lit rfl rfl (fun g0 => ?_)
  refine SXL.ownLit (cellsK 2) g0 [hX (0, 1)] inferInstance (fun w ok => (Reps.none _ _).snoc (Flat.inM (d := cellsK 2) w 0 ok (hX (0, 1))) rfl) (by simp) ?_
  repeat (first|refine Qa ?_|refine Qd ?_|refine Qe ?_|refine Qf ?_|refine Qh ?_|fail)
  refine SX.loop (fun z a M => ∃ (i b cap : Nat) (t : Th) (ps : List Pl) (H : List (Int × Int)) (A9 : Option Addr) (c9 : Nat), i + z = xs.length ∧ 0 < H.length ∧ H.length ≤ i + 1 ∧ (∀ p ∈ H, u32ok p.1 ∧ u32ok p.2) ∧ (H.map hX).length ≤ c9 ∧ 24 ≤ cap ∧ ps.length = 24 ∧ t.mid ∧ a = [(0, .slice A xs.length c), (1, .int .u8 q), (2, .int .u8 w), (8, .pointer (some ⟨p8, 0, none⟩)), (9, .slice A9 ((H).map hX).length c9), (10, .int .i64 i)] ∧ (.own A9 (rowR (cellsK 2) 35 (.slice A9 ((H).map hX).length c9) ((H).map hX)) :: .own (some ⟨p8, 0, none⟩) (cellsR p8 (thC (some ⟨b, 0, none⟩) 24 cap (t).ch (t).room) 27) :: thP b (t).l ps :: .per (datR (t).l ps) :: .per (roR (cellsK (kStep).sz) A css) :: .per (fksR kStep xs css) :: F) = M)
    xs.length ⟨0, b0, cap0, formT 30, nonesP 24, [(0, 1)], some ⟨g0, 0, none⟩, 1, by omega, by decide, by simp, fun p hp => by rw [List.mem_singleton.1 hp]; exact ⟨u32_0, ⟨by decide, by decide⟩⟩, by simp, hcap0, rfl, m0, rfl, rfl⟩ (by repeat (first | exact trivial | refine ⟨rfl, ?_⟩)) (by rw [show (formT 30).ch = 1 from rfl, show (formT 30).room = 30 from rfl, List.map_cons, List.map_nil]; infer_instance) ?_
  rintro z _ _ ⟨i, b, cap, t, ps, H, A9, c9, hz, h0, hHi, hH, hc9, hcap, hps, hm, rfl, rfl⟩
  have hml : (H.map hX).length = H.length := List.length_map ..
  repeat (first|refine Qa ?_|refine Qd ?_|refine Qe ?_|refine Qf ?_|fail)
  refine SX.condp rfl (fun hi => ?_) (fun hi => ?_)
  · obtain ⟨e, he⟩ : ∃ e, xs[i]? = some e := ⟨_, List.getElem?_eq_getElem (by omega)⟩
    obtain ⟨cc, hcc⟩ : ∃ cc, css[i]? = some cc := ⟨_, List.getElem?_eq_getElem (by omega)⟩
    have hew := hxs e (List.mem_of_getElem? he)
    refine SX.fk (D := kStep) (fun x : Option Addr × Nat => stC e x) (fun x : Option Addr × Nat => [pureR (e.d.length ≤ x.2), roR (Kd.int .u8) x.1 e.d]) he hcc (fun w S h => step_open h) (fun x hx => ?_)
    show SX _ _ _ _ _ _ (.per (pureR (e.d.length ≤ x.2)) :: .per (roR (Kd.int .u8) x.1 e.d) :: .own A9 (rowR (cellsK 2) 35 (.slice A9 ((H).map hX).length c9) ((H).map hX)) :: .own (some ⟨p8, 0, none⟩) (cellsR p8 (thC (some ⟨b, 0, none⟩) 24 cap (t).ch (t).room) 27) :: thP b (t).l ps :: .per (datR (t).l ps) :: .per (roR (cellsK (kStep).sz) A css) :: .per (fksR kStep xs css) :: F)
    refine SX.pure (e.d.length ≤ x.2) (fun hfit => ?_)
    obtain ⟨cl, hcl⟩ := cc
    simp only at hx
    subst hx
    refine SX.addr (A := A) (cellsK (kStep).sz) (by decide) (xs := css) (by omega) (fun bA oA e9 => ?_)
    subst e9
    repeat (first|refine Qa ?_|refine Qe ?_|refine Qf ?_|refine Qg ?_|refine Qh ?_|fail)
    refine SXL.idx rfl rfl rfl rfl rfl (by omega) (by omega) rfl ?_
    repeat (first|refine Qa ?_|fail)
    refine SXL.loadRow1 (cellsK (kStep).sz) rfl rfl inferInstance (by rw [Int.toNat_natCast]; exact hcc) rfl rfl ?_
    repeat (first|refine Qa ?_|refine Qd ?_|fail)
    refine SX.condp rfl (fun he2 => ?_) (fun he2 => ?_)
    · repeat (first|refine Qa ?_|refine Qd ?_|refine Qe ?_|refine Qf ?_|fail)
      refine SX.ret (M' := F) rfl (Evals.tmp rfl Evals.nil) ?_ inferInstance
      exact h
    have hd1024 : e.d.length ≤ 1024 := by omega
    have hawf := askM_wf (xid := 1) hew ⟨by decide, by decide⟩ hH
    repeat (first|refine Qf ?_|refine Qg ?_|fail)
    refine SX.cut (fun a' M' => ∃ (p11 p12 b1 cap1 : Nat) (t1 : Th) (ps1 : List Pl) (r1 : Re) (Ad1 : Option Addr) (cd1 : Nat) (Ae1 : Option Addr) (ce1 : Nat), (u32ok r1.ai ∧ u32ok r1.ag) ∧ 24 ≤ cap1 ∧ ps1.length = 24 ∧ t1.mid ∧ a' = [(0, .slice (some ⟨bA, oA, none⟩) xs.length c), (1, .int .u8 q), (2, .int .u8 w), (8, .pointer (some ⟨p8, 0, none⟩)), (9, .slice A9 ((H).map hX).length c9), (10, .int .i64 i), (11, .pointer (some ⟨p11, 0, none⟩)), (12, .pointer (some ⟨p12, 0, none⟩))] ∧ (.own (some ⟨p11, 0, none⟩) (cellsR p11 (thC (some ⟨b1, 0, none⟩) 24 cap1 (t1).ch (t1).room) 27) :: .own (some ⟨p12, 0, none⟩) (cellsR p12 (reK r1 Ad1 cd1 Ae1 ce1) 49) :: thP b1 t1.l ps1 :: .per (datR t1.l ps1) :: .per (pureR (e.d.length ≤ x.2)) :: .per (roR (Kd.int .u8) x.1 e.d) :: .own A9 (rowR (cellsK 2) 35 (.slice A9 ((H).map hX).length c9) ((H).map hX)) :: .own (some ⟨p8, 0, none⟩) (cellsR p8 (thC (some ⟨b, 0, none⟩) 24 cap (t).ch (t).room) 27) :: thP b (t).l ps :: .per (datR (t).l ps) :: .per (roR (cellsK (kStep).sz) (some ⟨bA, oA, none⟩) css) :: .per (fksR kStep xs css) :: F) = M') ?_ ?_
    · refine SXA.begin (.per (pureR (e.d.length ≤ x.2)) :: .per (roR (Kd.int .u8) x.1 e.d) :: .own A9 (rowR (cellsK 2) 35 (.slice A9 ((H).map hX).length c9) ((H).map hX)) :: .own (some ⟨p8, 0, none⟩) (cellsR p8 (thC (some ⟨b, 0, none⟩) 24 cap (t).ch (t).room) 27) :: thP b (t).l ps :: .per (datR (t).l ps) :: .per (roR (cellsK (kStep).sz) (some ⟨bA, oA, none⟩) css) :: .per (fksR kStep xs css) :: F) [13, 14] ?_
      refine Qt 0 ?_
      refine Qr 1 ?_
      refine Qr 2 ?_
      refine Qr 5 ?_
      refine SXA.idx 3 rfl (by decide +kernel) rfl rfl rfl rfl rfl rfl (by omega) (by omega) rfl inferInstance ?_
      refine SXA.loadRow 4 (cellsK (kStep).sz) rfl (by decide +kernel) rfl rfl rfl inferInstance (by rw [Int.toNat_natCast]; exact hcc) rfl rfl inferInstance ?_
      refine SXA.all [6, 11, 12] (by decide +kernel) (Each.cons rfl ?_ (Each.cons rfl ?_ (Each.cons rfl ?_ Each.nil)))
      · skip
        refine SXL.call rfl rfl rfl ?_
        refine (asked13_S (e := e) (x := x) (told := H) (xid := 1) inferInstance hc9 h0 (by omega) hew (callK.ret ?_))
        refine SXL.nil (SXA.next inferInstance ?_)
        refine SXA.all [7, 11, 12] (by decide +kernel) (Each.cons rfl ?_ (Each.cons rfl ?_ (Each.cons rfl ?_ Each.nil)))
        · skip
          refine SXL.call rfl rfl rfl ?_
          refine (Do_M (t := t) (ps := ps) (c := askM e H 1) (Ac := x.1) (cc := x.2) inferInstance inferInstance hm hps hcap hawf (by show (askM e H 1).d.length ≤ 4000000000; rw [askM_d]; omega) (by rw [askM_d]; exact hfit) (by rw [askM_d]; infer_instance) (fun h8 h9 hmy => opT_all h8 h9 hmy) (fun t1 r1 b1 cap1 ps1 Ad1 cd1 Ae1 ce1 he1 hcap1 hps1 m1 hd1 hx1 => callK.ret ?_))
          have hre := doT_re hm m1 he1
          clear he1
          refine SXL.nil (SXA.next inferInstance ?_)
          refine Qr 8 ?_
          refine Qr 9 ?_
          refine Qr 10 ?_
          refine SXA.all [11, 12] (by decide +kernel) (Each.cons rfl ?_ (Each.cons rfl ?_ Each.nil))
          · skip
            refine SXL.alloc rfl rfl (fun p11 => ?_)
            refine SXL.nil (SXA.next inferInstance ?_)
            refine Qw 12 ?_
            refine SXL.alloc rfl rfl (fun p12 => ?_)
            refine SXL.nil (SXA.next inferInstance ?_)
            refine Qw 13 ?_
            refine Qc ?_
            refine SXL.nil (SXA.nextLast rfl ?_)
            refine Qw 14 ?_
            refine Qc ?_
            refine SXL.nil (SXA.nextLast rfl ?_)
            refine Qv ?_
            refine SX.meet ⟨p11, p12, b1, cap1, t1, ps1, r1, Ad1, cd1, Ae1, ce1, ⟨hre.1, hre.2.1⟩, hcap1, hps1, m1, rfl, rfl⟩ (by repeat (first | exact trivial | refine ⟨rfl, ?_⟩)) inferInstance
          · skip
            refine SXL.alloc rfl rfl (fun p12 => ?_)
            refine SXL.nil (SXA.next inferInstance ?_)
            refine Qw 11 ?_
            refine SXL.alloc rfl rfl (fun p11 => ?_)
            refine SXL.nil (SXA.next inferInstance ?_)
            refine Qw 13 ?_
            refine Qc ?_
            refine SXL.nil (SXA.nextLast rfl ?_)
            refine Qw 14 ?_
            refine Qc ?_
            refine SXL.nil (SXA.nextLast rfl ?_)
            refine Qv ?_
            refine SX.meet ⟨p11, p12, b1, cap1, t1, ps1, r1, Ad1, cd1, Ae1, ce1, ⟨hre.1, hre.2.1⟩, hcap1, hps1, m1, rfl, rfl⟩ (by repeat (first | exact trivial | refine ⟨rfl, ?_⟩)) inferInstance
        · skip
          refine SXL.alloc rfl rfl (fun p11 => ?_)
          refine SXL.nil (SXA.next inferInstance ?_)
          refine SXA.all [7, 12] (by decide +kernel) (Each.cons rfl ?_ (Each.cons rfl ?_ Each.nil))
          · skip
            refine SXL.call rfl rfl rfl ?_
            refine (Do_M (t := t) (ps := ps) (c := askM e H 1) (Ac := x.1) (cc := x.2) inferInstance inferInstance hm hps hcap hawf (by show (askM e H 1).d.length ≤ 4000000000; rw [askM_d]; omega) (by rw [askM_d]; exact hfit) (by rw [askM_d]; infer_instance) (fun h8 h9 hmy => opT_all h8 h9 hmy) (fun t1 r1 b1 cap1 ps1 Ad1 cd1 Ae1 ce1 he1 hcap1 hps1 m1 hd1 hx1 => callK.ret ?_))
            have hre := doT_re hm m1 he1
            clear he1
            refine SXL.nil (SXA.next inferInstance ?_)
            refine Qr 8 ?_
            refine Qr 9 ?_
            refine Qr 10 ?_
            refine Qw 12 ?_
            refine SXL.alloc rfl rfl (fun p12 => ?_)
            refine SXL.nil (SXA.next inferInstance ?_)
            refine Qw 13 ?_
            refine Qc ?_
            refine SXL.nil (SXA.nextLast rfl ?_)
            refine Qw 14 ?_
            refine Qc ?_
            refine SXL.nil (SXA.nextLast rfl ?_)
            refine Qv ?_
            refine SX.meet ⟨p11, p12, b1, cap1, t1, ps1, r1, Ad1, cd1, Ae1, ce1, ⟨hre.1, hre.2.1⟩, hcap1, hps1, m1, rfl, rfl⟩ (by repeat (first | exact trivial | refine ⟨rfl, ?_⟩)) inferInstance
          · skip
            refine SXL.alloc rfl rfl (fun p12 => ?_)
            refine SXL.nil (SXA.next inferInstance ?_)
            refine Qw 7 ?_
            refine SXL.call rfl rfl rfl ?_
            refine (Do_M (t := t) (ps := ps) (c := askM e H 1) (Ac := x.1) (cc := x.2) inferInstance inferInstance hm hps hcap hawf (by show (askM e H 1).d.length ≤ 4000000000; rw [askM_d]; omega) (by rw [askM_d]; exact hfit) (by rw [askM_d]; infer_instance) (fun h8 h9 hmy => opT_all h8 h9 hmy) (fun t1 r1 b1 cap1 ps1 Ad1 cd1 Ae1 ce1 he1 hcap1 hps1 m1 hd1 hx1 => callK.ret ?_))
            have hre := doT_re hm m1 he1
            clear he1
            refine SXL.nil (SXA.next inferInstance ?_)
            refine Qr 8 ?_
            refine Qr 9 ?_
            refine Qr 10 ?_
            refine Qw 13 ?_
            refine Qc ?_
            refine SXL.nil (SXA.nextLast rfl ?_)
            refine Qw 14 ?_
            refine Qc ?_
            refine SXL.nil (SXA.nextLast rfl ?_)
            refine Qv ?_
            refine SX.meet ⟨p11, p12, b1, cap1, t1, ps1, r1, Ad1, cd1, Ae1, ce1, ⟨hre.1, hre.2.1⟩, hcap1, hps1, m1, rfl, rfl⟩ (by repeat (first | exact trivial | refine ⟨rfl, ?_⟩)) inferInstance
        · skip
          refine SXL.alloc rfl rfl (fun p12 => ?_)
          refine SXL.nil (SXA.next inferInstance ?_)
          refine SXA.all [7, 11] (by decide +kernel) (Each.cons rfl ?_ (Each.cons rfl ?_ Each.nil))
          · skip
            refine SXL.call rfl rfl rfl ?_
            refine (Do_M (t := t) (ps := ps) (c := askM e H 1) (Ac := x.1) (cc := x.2) inferInstance inferInstance hm hps hcap hawf (by show (askM e H 1).d.length ≤ 4000000000; rw [askM_d]; omega) (by rw [askM_d]; exact hfit) (by rw [askM_d]; infer_instance) (fun h8 h9 hmy => opT_all h8 h9 hmy) (fun t1 r1 b1 cap1 ps1 Ad1 cd1 Ae1 ce1 he1 hcap1 hps1 m1 hd1 hx1 => callK.ret ?_))
            have hre := doT_re hm m1 he1
            clear he1
            refine SXL.nil (SXA.next inferInstance ?_)
            refine Qr 8 ?_
            refine Qr 9 ?_
            refine Qr 10 ?_
            refine Qw 11 ?_
            refine SXL.alloc rfl rfl (fun p11 => ?_)
            refine SXL.nil (SXA.next inferInstance ?_)
            refine Qw 13 ?_
            refine Qc ?_
            refine SXL.nil (SXA.nextLast rfl ?_)
            refine Qw 14 ?_
            refine Qc ?_
            refine SXL.nil (SXA.nextLast rfl ?_)
            refine Qv ?_
            refine SX.meet ⟨p11, p12, b1, cap1, t1, ps1, r1, Ad1, cd1, Ae1, ce1, ⟨hre.1, hre.2.1⟩, hcap1, hps1, m1, rfl, rfl⟩ (by repeat (first | exact trivial | refine ⟨rfl, ?_⟩)) inferInstance
          · skip
            refine SXL.alloc rfl rfl (fun p11 => ?_)
            refine SXL.nil (SXA.next inferInstance ?_)
            refine Qw 7 ?_
            refine SXL.call rfl rfl rfl ?_
            refine (Do_M (t := t) (ps := ps) (c := askM e H 1) (Ac := x.1) (cc := x.2) inferInstance inferInstance hm hps hcap hawf (by show (askM e H 1).d.length ≤ 4000000000; rw [askM_d]; omega) (by rw [askM_d]; exact hfit) (by rw [askM_d]; infer_instance) (fun h8 h9 hmy => opT_all h8 h9 hmy) (fun t1 r1 b1 cap1 ps1 Ad1 cd1 Ae1 ce1 he1 hcap1 hps1 m1 hd1 hx1 => callK.ret ?_))
            have hre := doT_re hm m1 he1
            clear he1
            refine SXL.nil (SXA.next inferInstance ?_)
            refine Qr 8 ?_
            refine Qr 9 ?_
            refine Qr 10 ?_
            refine Qw 13 ?_
            refine Qc ?_
            refine SXL.nil (SXA.nextLast rfl ?_)
            refine Qw 14 ?_
            refine Qc ?_
            refine SXL.nil (SXA.nextLast rfl ?_)
            refine Qv ?_
            refine SX.meet ⟨p11, p12, b1, cap1, t1, ps1, r1, Ad1, cd1, Ae1, ce1, ⟨hre.1, hre.2.1⟩, hcap1, hps1, m1, rfl, rfl⟩ (by repeat (first | exact trivial | refine ⟨rfl, ?_⟩)) inferInstance
      · skip
        refine SXL.alloc rfl rfl (fun p11 => ?_)
        refine SXL.nil (SXA.next inferInstance ?_)
        refine SXA.all [6, 12] (by decide +kernel) (Each.cons rfl ?_ (Each.cons rfl ?_ Each.nil))
        · skip
          refine SXL.call rfl rfl rfl ?_
          refine (asked13_S (e := e) (x := x) (told := H) (xid := 1) inferInstance hc9 h0 (by omega) hew (callK.ret ?_))
          refine SXL.nil (SXA.next inferInstance ?_)
          refine SXA.all [7, 12] (by decide +kernel) (Each.cons rfl ?_ (Each.cons rfl ?_ Each.nil))
          · skip
            refine SXL.call rfl rfl rfl ?_
            refine (Do_M (t := t) (ps := ps) (c := askM e H 1) (Ac := x.1) (cc := x.2) inferInstance inferInstance hm hps hcap hawf (by show (askM e H 1).d.length ≤ 4000000000; rw [askM_d]; omega) (by rw [askM_d]; exact hfit) (by rw [askM_d]; infer_instance) (fun h8 h9 hmy => opT_all h8 h9 hmy) (fun t1 r1 b1 cap1 ps1 Ad1 cd1 Ae1 ce1 he1 hcap1 hps1 m1 hd1 hx1 => callK.ret ?_))
            have hre := doT_re hm m1 he1
            clear he1
            refine SXL.nil (SXA.next inferInstance ?_)
            refine Qr 8 ?_
            refine Qr 9 ?_
            refine Qr 10 ?_
            refine Qw 12 ?_
            refine SXL.alloc rfl rfl (fun p12 => ?_)
            refine SXL.nil (SXA.next inferInstance ?_)
            refine Qw 13 ?_
            refine Qc ?_
            refine SXL.nil (SXA.nextLast rfl ?_)
            refine Qw 14 ?_
            refine Qc ?_
            refine SXL.nil (SXA.nextLast rfl ?_)
            refine Qv ?_
            refine SX.meet ⟨p11, p12, b1, cap1, t1, ps1, r1, Ad1, cd1, Ae1, ce1, ⟨hre.1, hre.2.1⟩, hcap1, hps1, m1, rfl, rfl⟩ (by repeat (first | exact trivial | refine ⟨rfl, ?_⟩)) inferInstance
          · skip
            refine SXL.alloc rfl rfl (fun p12 => ?_)
            refine SXL.nil (SXA.next inferInstance ?_)
            refine Qw 7 ?_
            refine SXL.call rfl rfl rfl ?_
            refine (Do_M (t := t) (ps := ps) (c := askM e H 1) (Ac := x.1) (cc := x.2) inferInstance inferInstance hm hps hcap hawf (by show (askM e H 1).d.length ≤ 4000000000; rw [askM_d]; omega) (by rw [askM_d]; exact hfit) (by rw [askM_d]; infer_instance) (fun h8 h9 hmy => opT_all h8 h9 hmy) (fun t1 r1 b1 cap1 ps1 Ad1 cd1 Ae1 ce1 he1 hcap1 hps1 m1 hd1 hx1 => callK.ret ?_))
            have hre := doT_re hm m1 he1
            clear he1
            refine SXL.nil (SXA.next inferInstance ?_)
            refine Qr 8 ?_
            refine Qr 9 ?_
            refine Qr 10 ?_
            refine Qw 13 ?_
            refine Qc ?_
            refine SXL.nil (SXA.nextLast rfl ?_)
            refine Qw 14 ?_
            refine Qc ?_
            refine SXL.nil (SXA.nextLast rfl ?_)
            refine Qv ?_
            refine SX.meet ⟨p11, p12, b1, cap1, t1, ps1, r1, Ad1, cd1, Ae1, ce1, ⟨hre.1, hre.2.1⟩, hcap1, hps1, m1, rfl, rfl⟩ (by repeat (first | exact trivial | refine ⟨rfl, ?_⟩)) inferInstance
        · skip
          refine SXL.alloc rfl rfl (fun p12 => ?_)
          refine SXL.nil (SXA.next inferInstance ?_)
          refine Qw 6 ?_
          refine SXL.call rfl rfl rfl ?_
          refine (asked13_S (e := e) (x := x) (told := H) (xid := 1) inferInstance hc9 h0 (by omega) hew (callK.ret ?_))
          refine SXL.nil (SXA.next inferInstance ?_)
          refine Qw 7 ?_
          refine SXL.call rfl rfl rfl ?_
          refine (Do_M (t := t) (ps := ps) (c := askM e H 1) (Ac := x.1) (cc := x.2) inferInstance inferInstance hm hps hcap hawf (by show (askM e H 1).d.length ≤ 4000000000; rw [askM_d]; omega) (by rw [askM_d]; exact hfit) (by rw [askM_d]; infer_instance) (fun h8 h9 hmy => opT_all h8 h9 hmy) (fun t1 r1 b1 cap1 ps1 Ad1 cd1 Ae1 ce1 he1 hcap1 hps1 m1 hd1 hx1 => callK.ret ?_))
          have hre := doT_re hm m1 he1
          clear he1
          refine SXL.nil (SXA.next inferInstance ?_)
          refine Qr 8 ?_
          refine Qr 9 ?_
          refine Qr 10 ?_
          refine Qw 13 ?_
          refine Qc ?_
          refine SXL.nil (SXA.nextLast rfl ?_)
          refine Qw 14 ?_
          refine Qc ?_
          refine SXL.nil (SXA.nextLast rfl ?_)
          refine Qv ?_
          refine SX.meet ⟨p11, p12, b1, cap1, t1, ps1, r1, Ad1, cd1, Ae1, ce1, ⟨hre.1, hre.2.1⟩, hcap1, hps1, m1, rfl, rfl⟩ (by repeat (first | exact trivial | refine ⟨rfl, ?_⟩)) inferInstance
      · skip
        refine SXL.alloc rfl rfl (fun p12 => ?_)
        refine SXL.nil (SXA.next inferInstance ?_)
        refine SXA.all [6, 11] (by decide +kernel) (Each.cons rfl ?_ (Each.cons rfl ?_ Each.nil))
        · skip
          refine SXL.call rfl rfl rfl ?_
          refine (asked13_S (e := e) (x := x) (told := H) (xid := 1) inferInstance hc9 h0 (by omega) hew (callK.ret ?_))
          refine SXL.nil (SXA.next inferInstance ?_)
          refine SXA.all [7, 11] (by decide +kernel) (Each.cons rfl ?_ (Each.cons rfl ?_ Each.nil))
          · skip
            refine SXL.call rfl rfl rfl ?_
            refine (Do_M (t := t) (ps := ps) (c := askM e H 1) (Ac := x.1) (cc := x.2) inferInstance inferInstance hm hps hcap hawf (by show (askM e H 1).d.length ≤ 4000000000; rw [askM_d]; omega) (by rw [askM_d]; exact hfit) (by rw [askM_d]; infer_instance) (fun h8 h9 hmy => opT_all h8 h9 hmy) (fun t1 r1 b1 cap1 ps1 Ad1 cd1 Ae1 ce1 he1 hcap1 hps1 m1 hd1 hx1 => callK.ret ?_))
            have hre := doT_re hm m1 he1
            clear he1
            refine SXL.nil (SXA.next inferInstance ?_)
            refine Qr 8 ?_
            refine Qr 9 ?_
            refine Qr 10 ?_
            refine Qw 11 ?_
            refine SXL.alloc rfl rfl (fun p11 => ?_)
            refine SXL.nil (SXA.next inferInstance ?_)
            refine Qw 13 ?_
            refine Qc ?_
            refine SXL.nil (SXA.nextLast rfl ?_)
            refine Qw 14 ?_
            refine Qc ?_
            refine SXL.nil (SXA.nextLast rfl ?_)
            refine Qv ?_
            refine SX.meet ⟨p11, p12, b1, cap1, t1, ps1, r1, Ad1, cd1, Ae1, ce1, ⟨hre.1, hre.2.1⟩, hcap1, hps1, m1, rfl, rfl⟩ (by repeat (first | exact trivial | refine ⟨rfl, ?_⟩)) inferInstance
          · skip
            refine SXL.alloc rfl rfl (fun p11 => ?_)
            refine SXL.nil (SXA.next inferInstance ?_)
            refine Qw 7 ?_
            refine SXL.call rfl rfl rfl ?_
            refine (Do_M (t := t) (ps := ps) (c := askM e H 1) (Ac := x.1) (cc := x.2) inferInstance inferInstance hm hps hcap hawf (by show (askM e H 1).d.length ≤ 4000000000; rw [askM_d]; omega) (by rw [askM_d]; exact hfit) (by rw [askM_d]; infer_instance) (fun h8 h9 hmy => opT_all h8 h9 hmy) (fun t1 r1 b1 cap1 ps1 Ad1 cd1 Ae1 ce1 he1 hcap1 hps1 m1 hd1 hx1 => callK.ret ?_))
            have hre := doT_re hm m1 he1
            clear he1
            refine SXL.nil (SXA.next inferInstance ?_)
            refine Qr 8 ?_
            refine Qr 9 ?_
            refine Qr 10 ?_
            refine Qw 13 ?_
            refine Qc ?_
            refine SXL.nil (SXA.nextLast rfl ?_)
            refine Qw 14 ?_
            refine Qc ?_
            refine SXL.nil (SXA.nextLast rfl ?_)
            refine Qv ?_
            refine SX.meet ⟨p11, p12, b1, cap1, t1, ps1, r1, Ad1, cd1, Ae1, ce1, ⟨hre.1, hre.2.1⟩, hcap1, hps1, m1, rfl, rfl⟩ (by repeat (first | exact trivial | refine ⟨rfl, ?_⟩)) inferInstance
        · skip
          refine SXL.alloc rfl rfl (fun p11 => ?_)
          refine SXL.nil (SXA.next inferInstance ?_)
          refine Qw 6 ?_
          refine SXL.call rfl rfl rfl ?_
          refine (asked13_S (e := e) (x := x) (told := H) (xid := 1) inferInstance hc9 h0 (by omega) hew (callK.ret ?_))
          refine SXL.nil (SXA.next inferInstance ?_)
          refine Qw 7 ?_
          refine SXL.call rfl rfl rfl ?_
          refine (Do_M (t := t) (ps := ps) (c := askM e H 1) (Ac := x.1) (cc := x.2) inferInstance inferInstance hm hps hcap hawf (by show (askM e H 1).d.length ≤ 4000000000; rw [askM_d]; omega) (by rw [askM_d]; exact hfit) (by rw [askM_d]; infer_instance) (fun h8 h9 hmy => opT_all h8 h9 hmy) (fun t1 r1 b1 cap1 ps1 Ad1 cd1 Ae1 ce1 he1 hcap1 hps1 m1 hd1 hx1 => callK.ret ?_))
          have hre := doT_re hm m1 he1
          clear he1
          refine SXL.nil (SXA.next inferInstance ?_)
          refine Qr 8 ?_
          refine Qr 9 ?_
          refine Qr 10 ?_
          refine Qw 13 ?_
          refine Qc ?_
          refine SXL.nil (SXA.nextLast rfl ?_)
          refine Qw 14 ?_
          refine Qc ?_
          refine SXL.nil (SXA.nextLast rfl ?_)
          refine Qv ?_
          refine SX.meet ⟨p11, p12, b1, cap1, t1, ps1, r1, Ad1, cd1, Ae1, ce1, ⟨hre.1, hre.2.1⟩, hcap1, hps1, m1, rfl, rfl⟩ (by repeat (first | exact trivial | refine ⟨rfl, ?_⟩)) inferInstance
    rintro _ _ ⟨p11, p12, b1, cap1, t1, ps1, r1, Ad1, cd1, Ae1, ce1, hre, hcap1, hps1, m1, rfl, rfl⟩
    repeat (first|refine Qa ?_|refine Qb ?_|refine Qd ?_|refine Qe ?_|refine Qf ?_|fail)
    refine SX.cond rfl (fun hst => ?_) (fun hst => ?_)
    · repeat (first|refine Qa ?_|refine Qb ?_|refine Qe ?_|fail)
      refine SXL.lit rfl rfl (fun g1 => ?_)
      refine SXL.litRow (cellsK 2) g1 [hX (r1.ai, r1.ag)] inferInstance rfl (fun x => x.2.1) (by simp) ?_
      refine SXL.appendW (cellsK 2) rfl rfl inferInstance inferInstance rfl inferInstance (by rw [hml]; show (_ + 1 + (_ + 1) / 4 + 192) * 8 ≤ _; omega) rfl (fun A9' c9' hc9' => ?_)
      have e9 : H.map hX ++ [hX (r1.ai, r1.ag)] = (H ++ [(r1.ai, r1.ag)]).map hX := by rw [List.map_append]; rfl
      rw [e9] at hc9' ⊢
      repeat (first|refine Qa ?_|refine Qb ?_|refine Qc ?_|refine Qd ?_|refine Qe ?_|refine Qi ?_|fail)
      refine SX.same 10 (.int .i64 ((i + 1 : Nat) : Int)) rfl (by simp (disch := omega) only [IntWalk.i64_in, IntWalk.u8_in, IntWalk.u32_in, IntWalk.u64_in, IntWalk.rem_in, Int.natCast_add, Int.natCast_one]) ?_
      refine SX.again (z - 1) (by omega) ⟨i + 1, b1, cap1, t1, ps1, H ++ [(r1.ai, r1.ag)], A9', c9', by omega, by rw [List.length_append]; omega, by rw [List.length_append, List.length_singleton]; omega, fun p hp => by
        rcases List.mem_append.1 hp with h9 | h9
        · exact hH p h9
        · rw [List.mem_singleton.1 h9]; exact hre, hc9', hcap1, hps1, m1, rfl, rfl⟩ (by repeat (first | exact trivial | refine ⟨rfl, ?_⟩)) inferInstance
    · repeat (first|refine Qa ?_|refine Qb ?_|refine Qc ?_|refine Qd ?_|refine Qe ?_|refine Qg ?_|refine Qi ?_|fail)
      refine SX.same 10 (.int .i64 ((i + 1 : Nat) : Int)) rfl (by simp (disch := omega) only [IntWalk.i64_in, IntWalk.u8_in, IntWalk.u32_in, IntWalk.u64_in, IntWalk.rem_in, Int.natCast_add, Int.natCast_one]) ?_
      refine SX.again (z - 1) (by omega) ⟨i + 1, b1, cap1, t1, ps1, H, A9, c9, by omega, h0, by omega, hH, hc9, hcap1, hps1, m1, rfl, rfl⟩ (by repeat (first | exact trivial | refine ⟨rfl, ?_⟩)) inferInstance
  obtain rfl : i = xs.length := by omega
  have hqw : IntKind.i64.wrap q = q := IntWalk.i64_in _ (by omega)
  have hww : IntKind.i64.wrap w = w := IntWalk.i64_in _ (by omega)
  obtain ⟨j, hj⟩ : ∃ j : Nat, j = (q % 7).toNat := ⟨_, rfl⟩
  have hj7 : j < 7 := by omega
  have hqj7 : q.tmod ((7 : Nat) : Int) = (j : Int) := by rw [Int.tmod_eq_emod_of_nonneg hq0]; omega
  obtain ⟨k, hk⟩ : ∃ k : Nat, k = w.toNat % H.length := ⟨_, rfl⟩
  have hkl : k < H.length := by rw [hk]; exact Nat.mod_lt _ h0
  have hwk : w.tmod (((H.map hX).length : Nat) : Int) = (k : Int) := by rw [hml, Int.tmod_eq_emod_of_nonneg hw0, hk, Int.natCast_emod, Int.toNat_of_nonneg hw0]
  obtain ⟨p, hp⟩ : ∃ p, H[k]? = some p := ⟨_, List.getElem?_eq_getElem hkl⟩
  have hpX : (H.map hX)[k]? = some (hX p) := by rw [List.getElem?_map, hp]; rfl
  have hpo := hH p (List.mem_of_getElem? hp)
  obtain ⟨o, ho⟩ : ∃ o, ([1, 2, 4, 9, 14, 15, 16] : List Int)[j]? = some o := ⟨_, List.getElem?_eq_getElem hj7⟩
  have hoo : o = 1 ∨ o = 2 ∨ o = 4 ∨ o = 9 ∨ o = 14 ∨ o = 15 ∨ o = 16 := by
    have := List.mem_of_getElem? ho
    simpa using this
  have hwf : (ca o p.1 p.2 ⟨#[97]⟩ 30 0 []).wf := ca_wf ⟨by omega, by omega⟩ hpo.1 hpo.2 ⟨by decide, by decide⟩ u64_0 rfl
  refine SX.addrOwn (A := A9) (cellsK 2) inferInstance (by omega) (fun b9 e9 => ?_)
  subst e9
  repeat (first|refine Qf ?_|refine Qj ?_|fail)
  refine Qe ?_
  refine SXL.lit rfl rfl (fun gl => ?_)
  refine SXL.litRow (Kd.int .u32) gl [1, 2, 4, 9, 14, 15, 16] inferInstance rfl (fun _ => rfl) (by simp) ?_
  repeat (first|refine Qa ?_|refine Qd ?_|refine Qf ?_|fail)
  refine SX.cut (fun a' M' => ∃ p14 : Nat, a' = [(8, .pointer (some ⟨p8, 0, none⟩)), (14, .pointer (some ⟨p14, 0, none⟩))] ∧ (.own (some ⟨p14, 0, none⟩) (cellsR p14 (caC (ca o p.1 p.2 ⟨#[97]⟩ 30 0 []) none 0) 42) :: .own (some ⟨p8, 0, none⟩) (cellsR p8 (thC (some ⟨b, 0, none⟩) 24 cap (t).ch (t).room) 27) :: thP b (t).l ps :: .per (datR (t).l ps) :: .per (roR (cellsK (kStep).sz) A css) :: .per (fksR kStep xs css) :: F) = M') ?_ ?_
  · refine SXA.begin (.per (roR (Kd.int .u32) (some ⟨gl, 0, none⟩) [1, 2, 4, 9, 14, 15, 16]) :: .own (some ⟨b9, 0, none⟩) (rowR (cellsK 2) 35 (.slice (some ⟨b9, 0, none⟩) ((H).map hX).length c9) ((H).map hX)) :: .own (some ⟨p8, 0, none⟩) (cellsR p8 (thC (some ⟨b, 0, none⟩) 24 cap (t).ch (t).room) 27) :: thP b (t).l ps :: .per (datR (t).l ps) :: .per (roR (cellsK (kStep).sz) A css) :: .per (fksR kStep xs css) :: F) [18] ?_
    refine Qr 0 ?_
    refine Qr 1 ?_
    refine Qr 3 ?_
    refine Qr 8 ?_
    refine Qr 9 ?_
    refine Qr 11 ?_
    refine Qr 2 ?_
    rw [hqw]
    refine Qr 4 ?_
    refine Qr 10 ?_
    rw [hww]
    refine Qr 12 ?_
    refine Qr 5 ?_
    rw [hqj7]
    refine SXA.idx 6 rfl (by decide +kernel) rfl rfl rfl rfl rfl rfl (by omega) (by omega) rfl inferInstance ?_
    refine SXA.loadRow 7 (Kd.int .u32) rfl (by decide +kernel) rfl rfl rfl inferInstance (by rw [Int.toNat_natCast]; exact ho) rfl rfl inferInstance ?_
    refine SXA.all [13, 17] (by decide +kernel) (Each.cons rfl ?_ (Each.cons rfl ?_ Each.nil))
    · skip
      refine SXL.rem (v := (((H.map hX).length : Nat) : Int)) rfl rfl (by omega) rfl ?_
      rw [hwk]
      refine SXL.nil (SXA.next inferInstance ?_)
      refine SXA.idx 14 rfl (by decide +kernel) rfl rfl rfl rfl rfl rfl (by omega) (by omega) rfl inferInstance ?_
      refine SXA.loadRow 15 (cellsK 2) rfl (by decide +kernel) rfl rfl rfl inferInstance (by rw [Int.toNat_natCast]; exact hpX) rfl rfl inferInstance ?_
      refine Qr 16 ?_
      refine Qw 17 ?_
      refine SXL.alloc rfl rfl (fun p14 => ?_)
      refine SXL.nil (SXA.next inferInstance ?_)
      refine Qw 18 ?_
      refine Qc ?_
      refine SXL.nil (SXA.nextLast rfl ?_)
      refine Qv ?_
      refine SX.meet ⟨p14, rfl, rfl⟩ (by repeat (first | exact trivial | refine ⟨rfl, ?_⟩)) (by unfold caC; infer_instance)
    · skip
      refine SXL.alloc rfl rfl (fun p14 => ?_)
      refine SXL.nil (SXA.next inferInstance ?_)
      refine Qw 13 ?_
      refine SXL.rem (v := (((H.map hX).length : Nat) : Int)) rfl rfl (by omega) rfl ?_
      rw [hwk]
      refine SXL.nil (SXA.next inferInstance ?_)
      refine SXA.idx 14 rfl (by decide +kernel) rfl rfl rfl rfl rfl rfl (by omega) (by omega) rfl inferInstance ?_
      refine SXA.loadRow 15 (cellsK 2) rfl (by decide +kernel) rfl rfl rfl inferInstance (by rw [Int.toNat_natCast]; exact hpX) rfl rfl inferInstance ?_
      refine Qr 16 ?_
      refine Qw 18 ?_
      refine Qc ?_
      refine SXL.nil (SXA.nextLast rfl ?_)
      refine Qv ?_
      refine SX.meet ⟨p14, rfl, rfl⟩ (by repeat (first | exact trivial | refine ⟨rfl, ?_⟩)) (by unfold caC; infer_instance)
  rintro _ _ ⟨p14, rfl, rfl⟩
  unfold caC
  repeat (first|refine Qb ?_|refine Qe ?_|refine Qf ?_|fail)
  refine SXL.call rfl rfl rfl ?_
  refine (Do_M (t := t) (ps := ps) (c := ca o p.1 p.2 ⟨#[97]⟩ 30 0 []) (Ac := none) (cc := 0) inferInstance inferInstance hm hps hcap hwf (Nat.zero_le _) (Nat.le_refl _) inferInstance (fun h8 h9 hmy => opT_all h8 h9 hmy) (fun t2 r2 b2 cap2 ps2 Ad2 cd2 Ae2 ce2 he2 hcap2 hps2 m2 hd2 hx2 => callK.ret ?_))
  have e2 : t2 = t := by have h9 := ask_do (t := t) (c := ca o p.1 p.2 ⟨#[97]⟩ 30 0 []) hoo; rw [he2] at h9; exact h9
  have hre2 := doT_re hm m2 he2
  repeat (first|refine Qa ?_|fail)
  refine SXL.alloc rfl rfl (fun p15 => ?_)
  skip
  refine SXL.alloc rfl rfl (fun p16 => ?_)
  repeat (first|refine Qb ?_|refine Qc ?_|refine Qd ?_|refine Qe ?_|refine Qf ?_|fail)
  refine SXL.call rfl rfl rfl ?_
  refine (Do_M (t := t2) (ps := ps2) (c := ca o p.1 p.2 ⟨#[97]⟩ 30 0 []) (Ac := none) (cc := 0) inferInstance inferInstance m2 hps2 hcap2 hwf (Nat.zero_le _) (Nat.le_refl _) inferInstance (fun h8 h9 hmy => opT_all h8 h9 hmy) (fun t3 r3 b3 cap3 ps3 Ad3 cd3 Ae3 ce3 he3 hcap3 hps3 m3 hd3 hx3 => callK.ret ?_))
  subst e2
  obtain ⟨e3, f3⟩ : t2 = t3 ∧ r2 = r3 := by rw [he2] at he3; exact Prod.mk.inj he3
  subst e3
  subst f3
  repeat (first|refine Qa ?_|fail)
  refine SXL.alloc rfl rfl (fun p17 => ?_)
  skip
  refine SXL.alloc rfl rfl (fun p18 => ?_)
  repeat (first|refine Qc ?_|refine Qd ?_|refine Qf ?_|fail)
  refine SXA.begin (.own (some ⟨p8, 0, none⟩) (cellsR p8 [.slice (some ⟨b, 0, none⟩) 24 cap, .int .u64 t2.ch, .int .i64 t2.room] 27) :: .own (some ⟨p15, 0, none⟩) (cellsR p15 [.slice (some ⟨b2, 0, none⟩) 24 cap2, .int .u64 t2.ch, .int .i64 t2.room] 27) :: .own (some ⟨p17, 0, none⟩) (cellsR p17 [.slice (some ⟨b3, 0, none⟩) 24 cap3, .int .u64 t2.ch, .int .i64 t2.room] 27) :: .own (some ⟨p16, 0, none⟩) (cellsR p16 (reK r2 Ad2 cd2 Ae2 ce2) 49) :: .own (some ⟨p18, 0, none⟩) (cellsR p18 (reK r2 Ad3 cd3 Ae3 ce3) 49) :: thP b t2.l ps :: .per (datR t2.l ps) :: thP b2 t2.l ps2 :: .per (datR t2.l ps2) :: thP b3 t2.l ps3 :: .per (datR t2.l ps3) :: .per (roR (Kd.int .u8) Ad2 r2.d) :: .per (roR kE Ae2 r2.e) :: .per (roR (Kd.int .u8) Ad3 r2.d) :: .per (roR kE Ae3 r2.e) :: F) [] ?_
  refine Qt 0 ?_
  refine Qt 2 ?_
  refine Qw 1 ?_
  refine SXL.call rfl rfl rfl ?_
  refine (thingsOf13_S (t := t2) (ps := ps2) (b0 := b2) (cap0 := cap2) inferInstance inferInstance m2 hps2 hcap2 (fun Aa ca hca => callK.ret ?_))
  refine SXL.nil (SXA.next inferInstance ?_)
  refine Qw 3 ?_
  refine SXL.call rfl rfl rfl ?_
  refine (thingsOf13_S (t := t2) (ps := ps) (b0 := b) (cap0 := cap) inferInstance inferInstance m2 hps hcap (fun Ab cb hcb => callK.ret ?_))
  refine SXL.nil (SXA.next inferInstance ?_)
  refine Qw 4 ?_
  refine SXL.call rfl rfl rfl ?_
  refine (RSame13_S (A := Aa) (B := Ab) (c := ca) (d := cb) (l := t2.l) (ch := t2.ch) (room := t2.room) inferInstance inferInstance hca hcb (by rw [m2.n]; decide) (callK.ret ?_))
  refine SXL.nil (SXA.next inferInstance ?_)
  refine Qr 5 ?_
  refine Qt 6 ?_
  refine Qt 8 ?_
  refine Qw 7 ?_
  refine Qm ?_
  refine SXL.call rfl rfl rfl ?_
  refine (thingsOf13_S (t := t2) (ps := ps3) (b0 := b3) (cap0 := cap3) inferInstance inferInstance m2 hps3 hcap3 (fun Ad cd hcd => callK.ret ?_))
  refine SXL.nil (SXA.next inferInstance ?_)
  refine Qw 9 ?_
  refine Qm ?_
  refine SXL.call rfl rfl rfl ?_
  refine (thingsOf13_S (t := t2) (ps := ps) (b0 := b) (cap0 := cap) inferInstance inferInstance m2 hps hcap (fun Ae ce hce => callK.ret ?_))
  refine SXL.nil (SXA.next inferInstance ?_)
  refine Qw 10 ?_
  refine Qm ?_
  refine SXL.call rfl rfl rfl ?_
  refine (RSame13_S (A := Ad) (B := Ae) (c := cd) (d := ce) (l := t2.l) (ch := t2.ch) (room := t2.room) inferInstance inferInstance hcd hce (by rw [m2.n]; decide) (callK.ret ?_))
  refine SXL.nil (SXA.next inferInstance ?_)
  refine Qr 11 ?_
  refine Qr 12 ?_
  refine Qt 13 ?_
  refine Qt 15 ?_
  refine Qw 14 ?_
  refine Qm ?_
  refine SXL.call rfl rfl rfl ?_
  refine (replyOf13_S (s := r2) (A := Ad2) (c := cd2) (B := Ae2) (c2 := ce2) inferInstance inferInstance (by have := hre2.2.2; omega) hx2 (fun Bf df hdf => callK.ret ?_))
  refine SXL.nil (SXA.next inferInstance ?_)
  refine Qw 16 ?_
  refine Qm ?_
  refine SXL.call rfl rfl rfl ?_
  refine (replyOf13_S (s := r2) (A := Ad3) (c := cd3) (B := Ae3) (c2 := ce3) inferInstance inferInstance (by have := hre2.2.2; omega) hx3 (fun Bg dg hdg => callK.ret ?_))
  refine SXL.nil (SXA.next inferInstance ?_)
  refine Qw 17 ?_
  refine Qm ?_
  refine SXL.call rfl rfl rfl ?_
  refine (SameRe_S (s := r2) (u := r2) (B := Bf) (c2 := df) (B' := Bg) (c' := dg) inferInstance inferInstance hdf hdg (by have := hre2.2.2; omega) (callK.ret ?_))
  rw [sameRe_refl]
  refine SXL.nil (SXA.next inferInstance ?_)
  refine Qr 18 ?_
  refine Qr 19 ?_
  refine Qv ?_
  skip
  refine SX.ret (M' := F) rfl (Evals.tmp rfl Evals.nil) ?_ inferInstance
  exact h
end
theorem OpsReads_any (As : Option Addr) (cs : Nat) (ls : List Stp) (q : Int) (w : Int) (W : World) (rs : Kd.C kStep W As ls.length ls) (hs : ls.length ≤ cs) (ws : ls.length ≤ maxLen ∧ ∀ x ∈ ls, okStep x) (wq : (Lit.int .u8 q).wf = true) (ww : (Lit.int .u8 w).wf = true) :
    Calls Tryz.prog 15 #[.slice As ls.length cs, .int .u8 q, .int .u8 w] W fun e w' => e = .returned (.bool true) ∧ Below W.heap.size W w' :=
  Fn.out W [.per (roR kStep As ls), .per (oldR W)] (Holds.ofStart (Holds.startRow (Holds.start0 W) (Kd.C_F heapStep rs))) inferInstance
    (OpsReads_S hs (fun e he => Stp.of_ok (ws.2 e he)) (u8_of_wf _ wq).1 (u8_of_wf _ wq).2 (u8_of_wf _ ww).1 (u8_of_wf _ ww).2 ⟨rfl, inferInstance⟩)
end Go.Proofs.YtanemmcddgkpdaaGreat.Sx
