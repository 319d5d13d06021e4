/- Chapter 13: a handle that was told is stale just when its thing is gone, walked; conditions: those that each theorem names. -/
import Derived.Test.YtanemmcddgkpdaaGreatJFg
import Derived.Test.YtanemmcddgkpdaaGreatJPa
import Derived.Test.YtanemmcddgkpdaaGreatJN6
import Derived.Test.YtanemmcddgkpdaaGreatJN7
namespace Go.Proofs.YtanemmcddgkpdaaGreat.Sx
open Go.RowKit Go.Proofs.YtanemmcddgkpdaaGreat.Hm Go.Proofs.YtanemmcddgkpdaaGreatW.PrintWords Go.Proofs.YtanemmcddgkpdaaGreatW.PrintLast Go.Proofs.YtanemmcddgkpdaaGreatW.PrintMore
set_option linter.unusedVariables false
set_option linter.unusedSimpArgs false
attribute [local irreducible] SX SXL SXA St callK Post Evals
attribute [local irreducible] doT putM nm
def tlX (x : Tl) : CellsN 2 := hX ((x.j : Int) + 1, x.g)
def tlB (x : Tl) : CellsN 1 := bX x.v
theorem and3 (x : Int) (h0 : 0 ≤ x) (h1 : x < 256) : andI .u8 x 3 = x % 4 := by
  obtain ⟨m, rfl⟩ : ∃ m : Nat, x = (m : Int) := ⟨x.toNat, by omega⟩
  have key : ∀ m : Fin 256, andI .u8 ((m.val : Nat) : Int) 3 = ((m.val : Nat) : Int) % 4 := by decide +kernel
  exact key ⟨m, by omega⟩
theorem ptr1 {b k : Nat} : some (Value.pointer (some ⟨b, 0 + ((k : Nat) : Int).toNat * 1 + 0, none⟩)) = some (Value.pointer (some ⟨b, k, none⟩)) := by rw [show 0 + ((k : Nat) : Int).toNat * 1 + 0 = k by omega]
theorem map_set_eq {α β : Type} (f : α → β) {l : List α} {q : Nat} {y y' : α} (h : l[q]? = some y) (hf : f y' = f y) : (l.set q y').map f = l.map f := by
  apply List.ext_getElem?
  intro i
  rw [List.getElem?_map, List.getElem?_map, List.getElem?_set]
  by_cases hi : q = i
  · subst hi
    rw [if_pos rfl, if_pos (List.getElem?_eq_some_iff.1 h).1, h]
    show some (f y') = some (f y)
    rw [hf]
  · rw [if_neg hi]
section
variable {F : List Thing} {K : Ending → List Thing → Prop} {A : Option Addr} {c : Nat} {xs : List Int}
set_option maxRecDepth 20000 in
set_option maxHeartbeats 8000000 in
theorem OpsStale_S (hr : Ro (Kd.int .u8) A F xs) (hc : xs.length ≤ c) (hxs : bytesB xs = true) (h : K (.returned (.bool true)) F) : Fn (Tryz.prog) 4 [.slice A xs.length c] F K := by
  refine Fn.enter Tryz.call4 Tryz.func4 rfl rfl rfl ?_
  repeat (first|refine Qa ?_|refine Qb ?_|refine Qc ?_|refine Qd ?_|refine Qe ?_|refine Qf ?_|refine Qg ?_|refine Qh ?_|refine Qi ?_|refine Qj ?_|refine Qk ?_|refine Ql ?_|refine Qm ?_|refine Qn ?_|refine Qo ?_|refine Qp ?_|refine Qq ?_|fail)
  refine SXL.call rfl rfl rfl ?_
  refine (awake13_S (callK.ret ?_))
  repeat (first|refine Qa ?_|refine Qb ?_|refine Qc ?_|refine Qd ?_|refine Qe ?_|refine Qf ?_|refine Qg ?_|refine Qh ?_|refine Qi ?_|refine Qj ?_|refine Qk ?_|refine Ql ?_|refine Qm ?_|refine Qn ?_|refine Qo ?_|refine Qp ?_|refine Qq ?_|fail)
  refine SX.condp rfl (fun hl => ?_) (fun hl => ?_)
  · repeat (first|refine Qa ?_|refine Qb ?_|refine Qc ?_|refine Qd ?_|refine Qe ?_|refine Qf ?_|refine Qg ?_|refine Qh ?_|refine Qi ?_|refine Qj ?_|refine Qk ?_|refine Ql ?_|refine Qm ?_|refine Qn ?_|refine Qo ?_|refine Qp ?_|refine Qq ?_|fail)
    refine SX.ret (M' := F) rfl (Evals.tmp rfl Evals.nil) ?_ inferInstance
    exact h
  have hl60 : xs.length ≤ 60 := by omega
  repeat (first|refine Qa ?_|refine Qb ?_|refine Qc ?_|refine Qd ?_|refine Qe ?_|refine Qf ?_|refine Qg ?_|refine Qh ?_|refine Qi ?_|refine Qj ?_|refine Qk ?_|refine Ql ?_|refine Qm ?_|refine Qn ?_|refine Qo ?_|refine Qp ?_|refine Qq ?_|fail)
  refine SXL.call rfl rfl rfl ?_
  refine (Format_S (room := 30) (fun b0 cap0 hcap0 => callK.ret ?_))
  have m0 : (formT 30).mid := formT_mid ⟨by decide, by decide⟩
  repeat (first|refine Qa ?_|refine Qb ?_|refine Qc ?_|refine Qd ?_|refine Qe ?_|refine Qf ?_|refine Qg ?_|refine Qh ?_|refine Qi ?_|refine Qj ?_|refine Qk ?_|refine Ql ?_|refine Qm ?_|refine Qn ?_|refine Qo ?_|refine Qp ?_|refine Qq ?_|fail)
  refine SXL.alloc rfl rfl (fun p4 => ?_)
  repeat (first|refine Qa ?_|refine Qb ?_|refine Qc ?_|refine Qd ?_|refine Qe ?_|refine Qf ?_|refine Qg ?_|refine Qh ?_|refine Qi ?_|refine Qj ?_|refine Qk ?_|refine Ql ?_|refine Qm ?_|refine Qn ?_|refine Qo ?_|refine Qp ?_|refine Qq ?_|fail)
  refine SXL.make (nb := 8) rfl rfl rfl rfl rfl rfl rfl rfl (by kernel_rfl) (by omega) (by omega) (by omega) rfl (fun b7 => ?_)
  refine SXL.ownLit (Kd.int .i64) b7 [0, 0, 0, 0] inferInstance (fun w ok => own4) (by simp) ?_
  repeat (first|refine Qa ?_|refine Qb ?_|refine Qc ?_|refine Qd ?_|refine Qe ?_|refine Qf ?_|refine Qg ?_|refine Qh ?_|refine Qi ?_|refine Qj ?_|refine Qk ?_|refine Ql ?_|refine Qm ?_|refine Qn ?_|refine Qo ?_|refine Qp ?_|refine Qq ?_|fail)
  refine SX.loop (fun z a M => ∃ (i : Nat) (b cap m : Nat) (t : Th) (ps : List Pl) (E : List Ent) (H : List Tl) (L : List Int) (A5 A6 : Option Addr) (c5 c6 : Nat), i + z = xs.length ∧ SI m E H L t ∧ H.length ≤ i ∧ (H.map tlX).length ≤ c5 ∧ (H.map tlB).length ≤ c6 ∧ 24 ≤ cap ∧ ps.length = 24 ∧ t.mid ∧ a = [(0, .slice A xs.length c), (4, .pointer (some ⟨p4, 0, none⟩)), (5, .slice A5 (H.map tlX).length c5), (6, .slice A6 (H.map tlB).length c6), (7, .slice (some ⟨b7, 0, none⟩) 4 4), (8, .int .i64 i)] ∧ (.own A5 (rowR (cellsK 2) 35 (.slice A5 (H.map tlX).length c5) (H.map tlX)) :: .own A6 (rowR (cellsK 1) 4 (.slice A6 (H.map tlB).length c6) (H.map tlB)) :: .own (some ⟨b7, 0, none⟩) (rowR (Kd.int .i64) 3 (.slice (some ⟨b7, 0, none⟩) 4 4) (L)) :: .own (some ⟨p4, 0, none⟩) (cellsR p4 (thC (some ⟨b, 0, none⟩) 24 cap (t).ch (t).room) 27) :: thP b (t).l ps :: .per (datR (t).l ps) :: F) = M)
    xs.length ⟨0, b0, cap0, 0, formT 30, nonesP 24, [], [], [0, 0, 0, 0], none, none, 0, 0, by omega, SI.form (by decide), by simp, by simp, by simp, hcap0, rfl, m0, rfl, rfl⟩ (by repeat (first | exact trivial | refine ⟨rfl, ?_⟩)) (by rw [show (formT 30).ch = 1 from rfl, show (formT 30).room = 30 from rfl, List.map_nil, List.map_nil, show ([0, 0, 0, 0] : List Int).length = 4 from rfl]; infer_instance) ?_
  rintro z _ _ ⟨i, b, cap, m, t, ps, E, H, L, A5, A6, c5, c6, hz, hI, hHi, hc5, hc6, hcap, hps, hm, rfl, rfl⟩
  repeat (first|refine Qa ?_|refine Qb ?_|refine Qc ?_|refine Qd ?_|refine Qe ?_|refine Qf ?_|refine Qg ?_|refine Qh ?_|refine Qi ?_|refine Qj ?_|refine Qk ?_|refine Ql ?_|refine Qm ?_|refine Qn ?_|refine Qo ?_|refine Qp ?_|refine Qq ?_|fail)
  refine SX.condp rfl (fun hi => ?_) (fun hi => ?_)
  rotate_left
  · repeat (first|refine Qa ?_|refine Qb ?_|refine Qc ?_|refine Qd ?_|refine Qe ?_|refine Qf ?_|refine Qg ?_|refine Qh ?_|refine Qi ?_|refine Qj ?_|refine Qk ?_|refine Ql ?_|refine Qm ?_|refine Qn ?_|refine Qo ?_|refine Qp ?_|refine Qq ?_|fail)
    refine SX.ret (M' := F) rfl (Evals.tmp rfl Evals.nil) ?_ inferInstance
    exact h
  obtain ⟨x, hx⟩ : ∃ x, xs[i]? = some x := ⟨_, List.getElem?_eq_getElem (by omega)⟩
  obtain ⟨hx0, hx1⟩ := (bytesB_iff xs).1 hxs x (List.mem_of_getElem? hx)
  obtain ⟨k, hk⟩ : ∃ k : Nat, k = (x % 4).toNat := ⟨_, rfl⟩
  have hk4 : k < 4 := by omega
  have hand : andI .u8 x 3 = (k : Int) := by rw [and3 x hx0 hx1]; omega
  have hw1 : IntKind.i64.wrap (k : Int) = (k : Int) := IntWalk.i64_in _ (by omega)
  have hw2 : IntKind.u8.wrap (k : Int) = (k : Int) := IntWalk.u8_in _ (by omega)
  have hnk : ((k : Int).toNat % 12) = k := by omega
  have hLk : L[k]? = some (L.getD k 0) := by rw [List.getD_eq_getElem?_getD, List.getElem?_eq_getElem (by rw [hI.ln]; exact hk4)]; rfl
  repeat (first|refine Qa ?_|refine Qb ?_|refine Qc ?_|refine Qd ?_|refine Qe ?_|refine Qf ?_|refine Qg ?_|refine Qh ?_|refine Qi ?_|refine Qj ?_|refine Qk ?_|refine Ql ?_|refine Qm ?_|refine Qn ?_|refine Qo ?_|refine Qp ?_|refine Qq ?_|fail)
  refine SXL.addr (A := A) (xs := xs) (Kd.int .u8) (by decide) (by omega) (fun bA oA hA => ?_)
  subst hA
  refine SXL.idx rfl rfl rfl rfl rfl (by omega) (by omega) rfl ?_
  repeat (first|refine Qa ?_|refine Qb ?_|refine Qc ?_|refine Qd ?_|refine Qe ?_|refine Qf ?_|refine Qg ?_|refine Qh ?_|refine Qi ?_|refine Qj ?_|refine Qk ?_|refine Ql ?_|refine Qm ?_|refine Qn ?_|refine Qo ?_|refine Qp ?_|refine Qq ?_|fail)
  refine SXL.loadRow (Kd.int .u8) rfl rfl inferInstance (by rw [Int.toNat_natCast]; exact hx) rfl rfl ?_
  repeat (first|refine Qa ?_|refine Qb ?_|refine Qc ?_|refine Qd ?_|refine Qe ?_|refine Qf ?_|refine Qg ?_|refine Qh ?_|refine Qi ?_|refine Qj ?_|refine Qk ?_|refine Ql ?_|refine Qm ?_|refine Qn ?_|refine Qo ?_|refine Qp ?_|refine Qq ?_|fail)
  rw [hand, hw1, hw2]
  refine SXL.call rfl rfl rfl ?_
  refine (named13_S (k := (k : Int)) (by omega) (by omega) (callK.ret ?_))
  rw [hnk]
  repeat (first|refine Qa ?_|refine Qb ?_|refine Qc ?_|fail)
  refine Qd ?_
  refine Qf ?_
  refine SX.cut (fun a' M' => ∃ (b cap m : Nat) (t : Th) (ps : List Pl) (E : List Ent) (H : List Tl) (L : List Int) (A5 A6 : Option Addr) (c5 c6 : Nat), SI m E H L t ∧ H.length ≤ i + 1 ∧ (H.map tlX).length ≤ c5 ∧ (H.map tlB).length ≤ c6 ∧ 24 ≤ cap ∧ ps.length = 24 ∧ t.mid ∧ a' = [(0, .slice (some ⟨bA, oA, none⟩) xs.length c), (4, .pointer (some ⟨p4, 0, none⟩)), (5, .slice A5 (H.map tlX).length c5), (6, .slice A6 (H.map tlB).length c6), (7, .slice (some ⟨b7, 0, none⟩) 4 4), (8, .int .i64 i)] ∧ (.own A5 (rowR (cellsK 2) 35 (.slice A5 (H.map tlX).length c5) (H.map tlX)) :: .own A6 (rowR (cellsK 1) 4 (.slice A6 (H.map tlB).length c6) (H.map tlB)) :: .own (some ⟨b7, 0, none⟩) (rowR (Kd.int .i64) 3 (.slice (some ⟨b7, 0, none⟩) 4 4) (L)) :: .own (some ⟨p4, 0, none⟩) (cellsR p4 (thC (some ⟨b, 0, none⟩) 24 cap (t).ch (t).room) 27) :: thP b (t).l ps :: .per (datR (t).l ps) :: F) = M') ?_ ?_
  · skip
    refine Qf ?_
    refine SX.cut (fun a' M' => a' = [(0, .slice (some ⟨bA, oA, none⟩) xs.length c), (4, .pointer (some ⟨p4, 0, none⟩)), (5, .slice A5 (H.map tlX).length c5), (6, .slice A6 (H.map tlB).length c6), (7, .slice (some ⟨b7, 0, none⟩) 4 4), (8, .int .i64 i), (9, .int .i64 k), (10, .string (nm k)), (54, .bool (andI .u8 x 4 == 0 && L.getD k 0 == 0))] ∧ (.own A5 (rowR (cellsK 2) 35 (.slice A5 (H.map tlX).length c5) (H.map tlX)) :: .own A6 (rowR (cellsK 1) 4 (.slice A6 (H.map tlB).length c6) (H.map tlB)) :: .own (some ⟨b7, 0, none⟩) (rowR (Kd.int .i64) 3 (.slice (some ⟨b7, 0, none⟩) 4 4) (L)) :: .own (some ⟨p4, 0, none⟩) (cellsR p4 (thC (some ⟨b, 0, none⟩) 24 cap (t).ch (t).room) 27) :: thP b (t).l ps :: .per (datR (t).l ps) :: F) = M') ?_ ?_
    · repeat (first|refine Qa ?_|refine Qb ?_|refine Qc ?_|refine Qd ?_|refine Qe ?_|refine Qf ?_|refine Qg ?_|refine Qh ?_|refine Qi ?_|refine Qj ?_|refine Qk ?_|refine Ql ?_|refine Qm ?_|refine Qn ?_|refine Qo ?_|refine Qp ?_|refine Qq ?_|fail)
      refine SXL.idx rfl rfl rfl rfl rfl (by omega) (by omega) rfl ?_
      repeat (first|refine Qa ?_|refine Qb ?_|refine Qc ?_|refine Qd ?_|refine Qe ?_|refine Qf ?_|refine Qg ?_|refine Qh ?_|refine Qi ?_|refine Qj ?_|refine Qk ?_|refine Ql ?_|refine Qm ?_|refine Qn ?_|refine Qo ?_|refine Qp ?_|refine Qq ?_|fail)
      refine SXL.loadRow (Kd.int .u8) rfl rfl inferInstance (by rw [Int.toNat_natCast]; exact hx) rfl rfl ?_
      repeat (first|refine Qa ?_|refine Qb ?_|refine Qc ?_|refine Qd ?_|refine Qe ?_|refine Qf ?_|refine Qg ?_|refine Qh ?_|refine Qi ?_|refine Qj ?_|refine Qk ?_|refine Ql ?_|refine Qm ?_|refine Qn ?_|refine Qo ?_|refine Qp ?_|refine Qq ?_|fail)
      refine SXL.split (s := 48) rfl (fun hb => ?_) (fun hb => ?_)
      · repeat (first|refine Qa ?_|refine Qb ?_|refine Qc ?_|refine Qd ?_|refine Qe ?_|refine Qf ?_|refine Qg ?_|refine Qh ?_|refine Qi ?_|refine Qj ?_|refine Qk ?_|refine Ql ?_|refine Qm ?_|refine Qn ?_|refine Qo ?_|refine Qp ?_|refine Qq ?_|fail)
        refine SXL.idx rfl rfl rfl rfl rfl (by omega) (by omega) rfl ?_
        repeat (first|refine Qa ?_|refine Qb ?_|refine Qc ?_|refine Qd ?_|refine Qe ?_|refine Qf ?_|refine Qg ?_|refine Qh ?_|refine Qi ?_|refine Qj ?_|refine Qk ?_|refine Ql ?_|refine Qm ?_|refine Qn ?_|refine Qo ?_|refine Qp ?_|refine Qq ?_|fail)
        refine SXL.loadRow (Kd.int .i64) rfl rfl inferInstance (by rw [Int.toNat_natCast]; exact hLk) rfl rfl ?_
        repeat (first|refine Qa ?_|refine Qb ?_|refine Qc ?_|refine Qd ?_|refine Qe ?_|refine Qf ?_|refine Qg ?_|refine Qh ?_|refine Qi ?_|refine Qj ?_|refine Qk ?_|refine Ql ?_|refine Qm ?_|refine Qn ?_|refine Qo ?_|refine Qp ?_|refine Qq ?_|fail)
        refine SX.same 54 (.bool (andI .u8 x 4 == 0 && L.getD k 0 == 0)) rfl (by rw [hb]; rfl) ?_
        refine SX.meet ⟨rfl, rfl⟩ (by repeat (first | exact trivial | refine ⟨rfl, ?_⟩)) inferInstance
      · repeat (first|refine Qa ?_|refine Qb ?_|refine Qc ?_|refine Qd ?_|refine Qe ?_|refine Qf ?_|refine Qg ?_|refine Qh ?_|refine Qi ?_|refine Qj ?_|refine Qk ?_|refine Ql ?_|refine Qm ?_|refine Qn ?_|refine Qo ?_|refine Qp ?_|refine Qq ?_|fail)
        refine SX.same 54 (.bool (andI .u8 x 4 == 0 && L.getD k 0 == 0)) rfl (by rw [hb]; rfl) ?_
        refine SX.meet ⟨rfl, rfl⟩ (by repeat (first | exact trivial | refine ⟨rfl, ?_⟩)) inferInstance
    rintro _ _ ⟨rfl, rfl⟩
    refine SX.cond rfl (fun hb => ?_) (fun hb => ?_)
    · rw [Bool.and_eq_true, beq_iff_eq, beq_iff_eq] at hb
      repeat (first|refine Qa ?_|refine Qb ?_|refine Qc ?_|refine Qd ?_|refine Qe ?_|refine Qf ?_|refine Qg ?_|refine Qh ?_|refine Qi ?_|refine Qj ?_|refine Qk ?_|refine Ql ?_|refine Qm ?_|refine Qn ?_|refine Qo ?_|refine Qp ?_|refine Qq ?_|fail)
      refine SXL.call rfl rfl rfl ?_
      refine (Do_S (t := t) (ps := ps) (c := ca 6 0 1 (nm k) 2 0 []) (Ac := none) (cc := 0) inferInstance inferInstance hm hps hcap (ca_wf ⟨by decide, by decide⟩ u32_0 ⟨by decide, by decide⟩ ⟨by decide, by decide⟩ u64_0 rfl) (Nat.zero_le _) (Nat.le_refl _) inferInstance (fun _ _ => ⟨createE, create_S, fun t r => rfl⟩) (fun t1 r1 b1 cap1 ps1 Ad1 cd1 Ae1 ce1 he1 hcap1 hps1 m1 hd1 hx1 => callK.ret ?_))
      obtain ⟨hs1, y, E1, hi1, hg1, hv1, hI1⟩ := hI.make hk4 (by omega) hb.2 he1
      repeat (first|refine Qa ?_|refine Qb ?_|refine Qc ?_|refine Qd ?_|refine Qe ?_|refine Qf ?_|refine Qg ?_|refine Qh ?_|refine Qi ?_|refine Qj ?_|refine Qk ?_|refine Ql ?_|refine Qm ?_|refine Qn ?_|refine Qo ?_|refine Qp ?_|refine Qq ?_|fail)
      refine SXL.alloc rfl rfl (fun p11 => ?_)
      repeat (first|refine Qa ?_|refine Qb ?_|refine Qc ?_|refine Qd ?_|refine Qe ?_|refine Qf ?_|refine Qg ?_|refine Qh ?_|refine Qi ?_|refine Qj ?_|refine Qk ?_|refine Ql ?_|refine Qm ?_|refine Qn ?_|refine Qo ?_|refine Qp ?_|refine Qq ?_|fail)
      refine SXL.alloc rfl rfl (fun p12 => ?_)
      repeat (first|refine Qa ?_|refine Qb ?_|refine Qc ?_|refine Qd ?_|refine Qe ?_|refine Qf ?_|refine Qg ?_|refine Qh ?_|refine Qi ?_|refine Qj ?_|refine Qk ?_|refine Ql ?_|refine Qm ?_|refine Qn ?_|refine Qo ?_|refine Qp ?_|refine Qq ?_|fail)
      unfold reK
      rw [hs1, hi1, hg1]
      repeat (first|refine Qa ?_|refine Qb ?_|refine Qc ?_|refine Qd ?_|refine Qe ?_|refine Qf ?_|refine Qg ?_|refine Qh ?_|refine Qi ?_|refine Qj ?_|refine Qk ?_|refine Ql ?_|refine Qm ?_|refine Qn ?_|refine Qo ?_|refine Qp ?_|refine Qq ?_|fail)
      refine SXL.lit rfl rfl (fun g1 => ?_)
      refine SXL.litRow (cellsK 2) g1 [tlX y] inferInstance rfl (fun x => x.2.1) (by simp) ?_
      refine SXL.appendW (cellsK 2) rfl rfl inferInstance inferInstance rfl inferInstance (by simp; omega) rfl (fun A5' c5' hc5' => ?_)
      have e5 : H.map tlX ++ [tlX y] = (H ++ [y]).map tlX := by rw [List.map_append]; rfl
      rw [e5] at hc5' ⊢
      repeat (first|refine Qa ?_|refine Qb ?_|refine Qc ?_|refine Qd ?_|refine Qe ?_|refine Qf ?_|refine Qg ?_|refine Qh ?_|refine Qi ?_|refine Qj ?_|refine Qk ?_|refine Ql ?_|refine Qm ?_|refine Qn ?_|refine Qo ?_|refine Qp ?_|refine Qq ?_|fail)
      refine SXL.lit rfl rfl (fun g2 => ?_)
      refine SXL.litRow (cellsK 1) g2 [tlB y] inferInstance (by show [Value.bool true] = [Value.bool y.v]; rw [hv1]) (fun x => x.2.1) (by simp) ?_
      refine SXL.appendW (cellsK 1) rfl rfl inferInstance inferInstance rfl inferInstance (by simp; omega) rfl (fun A6' c6' hc6' => ?_)
      have e6 : H.map tlB ++ [tlB y] = (H ++ [y]).map tlB := by rw [List.map_append]; rfl
      rw [e6] at hc6' ⊢
      repeat (first|refine Qa ?_|refine Qb ?_|refine Qc ?_|refine Qd ?_|refine Qe ?_|refine Qf ?_|refine Qg ?_|refine Qh ?_|refine Qi ?_|refine Qj ?_|refine Qk ?_|refine Ql ?_|refine Qm ?_|refine Qn ?_|refine Qo ?_|refine Qp ?_|refine Qq ?_|fail)
      refine SXL.same 77 (.int .i64 ((H.length : Int) + 1)) rfl (by rw [List.length_map, List.length_append, List.length_singleton, Int.natCast_add]; rfl) ?_
      refine SXL.idx rfl rfl rfl rfl rfl (by omega) (by omega) rfl ?_
      repeat (first|refine Qa ?_|refine Qb ?_|refine Qc ?_|refine Qd ?_|refine Qe ?_|refine Qf ?_|refine Qg ?_|refine Qh ?_|refine Qi ?_|refine Qj ?_|refine Qk ?_|refine Ql ?_|refine Qm ?_|refine Qn ?_|refine Qo ?_|refine Qp ?_|refine Qq ?_|fail)
      refine SXL.storeElem (off := k) ptr1 rfl inferInstance rfl rfl hk4 ?_
      repeat (first|refine Qa ?_|refine Qb ?_|refine Qc ?_|refine Qd ?_|refine Qe ?_|refine Qf ?_|refine Qg ?_|refine Qh ?_|refine Qi ?_|refine Qj ?_|refine Qk ?_|refine Ql ?_|refine Qm ?_|refine Qn ?_|refine Qo ?_|refine Qp ?_|refine Qq ?_|fail)
      refine SX.meet ⟨b1, cap1, m + 1, t1, ps1, E1, H ++ [y], L.set k ((H.length : Int) + 1), A5', A6', c5', c6', hI1, by simp; omega, hc5', hc6', hcap1, hps1, m1, rfl, rfl⟩ (by repeat (first | exact trivial | refine ⟨rfl, ?_⟩)) inferInstance
    have hbn : ¬ (andI .u8 x 4 = 0 ∧ L.getD k 0 = 0) := by
      intro hc2
      rw [hc2.1, hc2.2] at hb
      cases hb
    repeat (first|refine Qa ?_|refine Qb ?_|refine Qc ?_|refine Qd ?_|refine Qe ?_|refine Qf ?_|refine Qg ?_|refine Qh ?_|refine Qi ?_|refine Qj ?_|refine Qk ?_|refine Ql ?_|refine Qm ?_|refine Qn ?_|refine Qo ?_|refine Qp ?_|refine Qq ?_|fail)
    refine SXL.idx rfl rfl rfl rfl rfl (by omega) (by omega) rfl ?_
    repeat (first|refine Qa ?_|refine Qb ?_|refine Qc ?_|refine Qd ?_|refine Qe ?_|refine Qf ?_|refine Qg ?_|refine Qh ?_|refine Qi ?_|refine Qj ?_|refine Qk ?_|refine Ql ?_|refine Qm ?_|refine Qn ?_|refine Qo ?_|refine Qp ?_|refine Qq ?_|fail)
    refine SXL.loadRow (Kd.int .i64) rfl rfl inferInstance (by rw [Int.toNat_natCast]; exact hLk) rfl rfl ?_
    repeat (first|refine Qa ?_|refine Qb ?_|refine Qc ?_|refine Qd ?_|refine Qe ?_|refine Qf ?_|refine Qg ?_|refine Qh ?_|refine Qi ?_|refine Qj ?_|refine Qk ?_|refine Ql ?_|refine Qm ?_|refine Qn ?_|refine Qo ?_|refine Qp ?_|refine Qq ?_|fail)
    rcases Int.lt_or_le 0 (L.getD k 0) with hp | hp
    · obtain ⟨hs2, hI2⟩ : True ∧ True := ⟨trivial, trivial⟩
      obtain ⟨q0, x0, e0, hq0, hq1, -⟩ := hI.yes k hk4 (by omega)
      have hqH : q0 < H.length := (List.getElem?_eq_some_iff.1 hq1).1
      refine SXL.know 85 true rfl (decide_eq_true hp) ?_
      repeat (first|refine Qa ?_|refine Qb ?_|refine Qc ?_|refine Qd ?_|refine Qe ?_|refine Qf ?_|refine Qg ?_|refine Qh ?_|refine Qi ?_|refine Qj ?_|refine Qk ?_|refine Ql ?_|refine Qm ?_|refine Qn ?_|refine Qo ?_|refine Qp ?_|refine Qq ?_|fail)
      refine SXL.idx rfl rfl rfl rfl rfl (by omega) (by omega) rfl ?_
      repeat (first|refine Qa ?_|refine Qb ?_|refine Qc ?_|refine Qd ?_|refine Qe ?_|refine Qf ?_|refine Qg ?_|refine Qh ?_|refine Qi ?_|refine Qj ?_|refine Qk ?_|refine Ql ?_|refine Qm ?_|refine Qn ?_|refine Qo ?_|refine Qp ?_|refine Qq ?_|fail)
      refine SXL.loadRow (Kd.int .i64) rfl rfl inferInstance (by rw [Int.toNat_natCast]; exact hLk) rfl rfl ?_
      repeat (first|refine Qa ?_|refine Qb ?_|refine Qc ?_|refine Qd ?_|refine Qe ?_|refine Qf ?_|refine Qg ?_|refine Qh ?_|refine Qi ?_|refine Qj ?_|refine Qk ?_|refine Ql ?_|refine Qm ?_|refine Qn ?_|refine Qo ?_|refine Qp ?_|refine Qq ?_|fail)
      refine SX.know 93 true rfl (decide_eq_true (by rw [List.length_map]; omega)) ?_
      repeat (first|refine Qa ?_|refine Qb ?_|refine Qc ?_|refine Qd ?_|refine Qe ?_|refine Qf ?_|refine Qg ?_|refine Qh ?_|refine Qi ?_|refine Qj ?_|refine Qk ?_|refine Ql ?_|refine Qm ?_|refine Qn ?_|refine Qo ?_|refine Qp ?_|refine Qq ?_|fail)
      refine SXL.call rfl rfl rfl ?_
      refine (Do_S (t := t) (ps := ps) (c := ca 10 0 1 (nm k) 0 0 []) (Ac := none) (cc := 0) inferInstance inferInstance hm hps hcap (ca_wf ⟨by decide, by decide⟩ u32_0 ⟨by decide, by decide⟩ u32_0 u64_0 rfl) (Nat.zero_le _) (Nat.le_refl _) inferInstance (fun _ _ => ⟨removeE, remove_S, fun t r => rfl⟩) (fun t2 r2 b2 cap2 ps2 Ad2 cd2 Ae2 ce2 he2 hcap2 hps2 m2 hd2 hx2 => callK.ret ?_))
      obtain ⟨hs2, q, y, E2, hq, hHq, hI2⟩ := hI.gone hk4 (by omega) he2
      have hqH2 : q < H.length := (List.getElem?_eq_some_iff.1 hHq).1
      have hHb : (H.map tlB)[q]? = some (tlB y) := by rw [List.getElem?_map, hHq]; rfl
      repeat (first|refine Qa ?_|refine Qb ?_|refine Qc ?_|refine Qd ?_|refine Qe ?_|refine Qf ?_|refine Qg ?_|refine Qh ?_|refine Qi ?_|refine Qj ?_|refine Qk ?_|refine Ql ?_|refine Qm ?_|refine Qn ?_|refine Qo ?_|refine Qp ?_|refine Qq ?_|fail)
      refine SXL.alloc rfl rfl (fun p13 => ?_)
      repeat (first|refine Qa ?_|refine Qb ?_|refine Qc ?_|refine Qd ?_|refine Qe ?_|refine Qf ?_|refine Qg ?_|refine Qh ?_|refine Qi ?_|refine Qj ?_|refine Qk ?_|refine Ql ?_|refine Qm ?_|refine Qn ?_|refine Qo ?_|refine Qp ?_|refine Qq ?_|fail)
      refine SXL.alloc rfl rfl (fun p14 => ?_)
      repeat (first|refine Qa ?_|refine Qb ?_|refine Qc ?_|refine Qd ?_|refine Qe ?_|refine Qf ?_|refine Qg ?_|refine Qh ?_|refine Qi ?_|refine Qj ?_|refine Qk ?_|refine Ql ?_|refine Qm ?_|refine Qn ?_|refine Qo ?_|refine Qp ?_|refine Qq ?_|fail)
      unfold reK
      rw [hs2]
      repeat (first|refine Qa ?_|refine Qb ?_|refine Qc ?_|refine Qd ?_|refine Qe ?_|refine Qf ?_|refine Qg ?_|refine Qh ?_|refine Qi ?_|refine Qj ?_|refine Qk ?_|refine Ql ?_|refine Qm ?_|refine Qn ?_|refine Qo ?_|refine Qp ?_|refine Qq ?_|fail)
      refine SXL.idx rfl rfl rfl rfl rfl (by omega) (by omega) rfl ?_
      repeat (first|refine Qa ?_|refine Qb ?_|refine Qc ?_|refine Qd ?_|refine Qe ?_|refine Qf ?_|refine Qg ?_|refine Qh ?_|refine Qi ?_|refine Qj ?_|refine Qk ?_|refine Ql ?_|refine Qm ?_|refine Qn ?_|refine Qo ?_|refine Qp ?_|refine Qq ?_|fail)
      refine SXL.loadRow (Kd.int .i64) rfl rfl inferInstance (by rw [Int.toNat_natCast]; exact hLk) rfl rfl ?_
      repeat (first|refine Qa ?_|refine Qb ?_|refine Qc ?_|refine Qd ?_|refine Qe ?_|refine Qf ?_|refine Qg ?_|refine Qh ?_|refine Qi ?_|refine Qj ?_|refine Qk ?_|refine Ql ?_|refine Qm ?_|refine Qn ?_|refine Qo ?_|refine Qp ?_|refine Qq ?_|fail)
      refine SXL.same 110 (.int .i64 (q : Int)) rfl (by rw [hq, IntWalk.i64_in _ (by omega)]; congr 1; omega) ?_
      refine SXL.addrOwn (A := A6) (cellsK 1) inferInstance (by rw [List.length_map]; omega) (fun b6 e6 => ?_)
      subst e6
      refine SXL.idx rfl rfl rfl rfl rfl (by omega) (by rw [List.length_map]; omega) rfl ?_
      repeat (first|refine Qa ?_|refine Qb ?_|refine Qc ?_|refine Qd ?_|refine Qe ?_|refine Qf ?_|refine Qg ?_|refine Qh ?_|refine Qi ?_|refine Qj ?_|refine Qk ?_|refine Ql ?_|refine Qm ?_|refine Qn ?_|refine Qo ?_|refine Qp ?_|refine Qq ?_|fail)
      refine SXL.stElt (j := q) (f := 0) (e := tlB y) (e' := bX false) rfl (by show 0 + ((q : Int)).toNat * 1 + 0 = q * 1 + 0; omega) rfl inferInstance hHb rfl ?_
      have e6 : (H.map tlB).set q (bX false) = (H.set q { y with v := false }).map tlB := by rw [List.map_set]; rfl
      have e5 : H.map tlX = (H.set q { y with v := false }).map tlX := (map_set_eq (y' := { y with v := false }) tlX hHq rfl).symm
      have l6 : (H.map tlB).length = ((H.set q { y with v := false }).map tlB).length := by rw [List.length_map, List.length_map, List.length_set]
      rw [e6, l6, e5]
      repeat (first|refine Qa ?_|refine Qb ?_|refine Qc ?_|refine Qd ?_|refine Qe ?_|refine Qf ?_|refine Qg ?_|refine Qh ?_|refine Qi ?_|refine Qj ?_|refine Qk ?_|refine Ql ?_|refine Qm ?_|refine Qn ?_|refine Qo ?_|refine Qp ?_|refine Qq ?_|fail)
      refine SXL.idx rfl rfl rfl rfl rfl (by omega) (by omega) rfl ?_
      repeat (first|refine Qa ?_|refine Qb ?_|refine Qc ?_|refine Qd ?_|refine Qe ?_|refine Qf ?_|refine Qg ?_|refine Qh ?_|refine Qi ?_|refine Qj ?_|refine Qk ?_|refine Ql ?_|refine Qm ?_|refine Qn ?_|refine Qo ?_|refine Qp ?_|refine Qq ?_|fail)
      refine SXL.storeElem (off := k) ptr1 rfl inferInstance rfl rfl hk4 ?_
      repeat (first|refine Qa ?_|refine Qb ?_|refine Qc ?_|refine Qd ?_|refine Qe ?_|refine Qf ?_|refine Qg ?_|refine Qh ?_|refine Qi ?_|refine Qj ?_|refine Qk ?_|refine Ql ?_|refine Qm ?_|refine Qn ?_|refine Qo ?_|refine Qp ?_|refine Qq ?_|fail)
      refine SX.meet ⟨b2, cap2, m, t2, ps2, E2, H.set q { y with v := false }, L.set k 0, A5, some ⟨b6, 0, none⟩, c5, c6, hI2, by simp; omega, by rw [← e5]; exact hc5, by rw [← l6]; exact hc6, hcap2, hps2, m2, rfl, rfl⟩ (by repeat (first | exact trivial | refine ⟨rfl, ?_⟩)) inferInstance
    · refine SXL.know 85 false rfl (decide_eq_false (by omega)) ?_
      repeat (first|refine Qa ?_|refine Qb ?_|refine Qc ?_|refine Qd ?_|refine Qe ?_|refine Qf ?_|refine Qg ?_|refine Qh ?_|refine Qi ?_|refine Qj ?_|refine Qk ?_|refine Ql ?_|refine Qm ?_|refine Qn ?_|refine Qo ?_|refine Qp ?_|refine Qq ?_|fail)
      refine SX.meet ⟨b, cap, m, t, ps, E, H, L, A5, A6, c5, c6, hI, by omega, hc5, hc6, hcap, hps, hm, rfl, rfl⟩ (by repeat (first | exact trivial | refine ⟨rfl, ?_⟩)) inferInstance
  clear hI hHi hc5 hc6 hcap hps hm hLk
  rintro _ _ ⟨b, cap, m, t, ps, E, H, L, A5, A6, c5, c6, hI, hHi, hc5, hc6, hcap, hps, hm, rfl, rfl⟩
  have hlX : (H.map tlX).length = H.length := List.length_map ..
  have hlB : (H.map tlB).length = H.length := List.length_map ..
  repeat (first|refine Qa ?_|refine Qb ?_|refine Qc ?_|refine Qd ?_|refine Qe ?_|refine Qf ?_|refine Qg ?_|refine Qh ?_|refine Qi ?_|refine Qj ?_|refine Qk ?_|refine Ql ?_|refine Qm ?_|refine Qn ?_|refine Qo ?_|refine Qp ?_|refine Qq ?_|fail)
  refine SX.loop (fun z a M => ∃ j : Nat, j + z = H.length ∧ a = [(0, .slice (some ⟨bA, oA, none⟩) xs.length c), (4, .pointer (some ⟨p4, 0, none⟩)), (5, .slice A5 (H.map tlX).length c5), (6, .slice A6 (H.map tlB).length c6), (7, .slice (some ⟨b7, 0, none⟩) 4 4), (8, .int .i64 i), (15, .int .i64 j)] ∧ (.own A5 (rowR (cellsK 2) 35 (.slice A5 (H.map tlX).length c5) (H.map tlX)) :: .own A6 (rowR (cellsK 1) 4 (.slice A6 (H.map tlB).length c6) (H.map tlB)) :: .own (some ⟨b7, 0, none⟩) (rowR (Kd.int .i64) 3 (.slice (some ⟨b7, 0, none⟩) 4 4) (L)) :: .own (some ⟨p4, 0, none⟩) (cellsR p4 (thC (some ⟨b, 0, none⟩) 24 cap (t).ch (t).room) 27) :: thP b (t).l ps :: .per (datR (t).l ps) :: F) = M) H.length ⟨0, by omega, rfl, rfl⟩ (by repeat (first | exact trivial | refine ⟨rfl, ?_⟩)) inferInstance ?_
  rintro z2 _ _ ⟨j, hj, rfl, rfl⟩
  repeat (first|refine Qa ?_|refine Qb ?_|refine Qc ?_|refine Qd ?_|refine Qe ?_|refine Qf ?_|refine Qg ?_|refine Qh ?_|refine Qi ?_|refine Qj ?_|refine Qk ?_|refine Ql ?_|refine Qm ?_|refine Qn ?_|refine Qo ?_|refine Qp ?_|refine Qq ?_|fail)
  refine SX.condp rfl (fun hjl => ?_) (fun hjl => ?_)
  rotate_left
  · repeat (first|refine Qa ?_|refine Qb ?_|refine Qc ?_|refine Qd ?_|refine Qe ?_|refine Qf ?_|refine Qg ?_|refine Qh ?_|refine Qi ?_|refine Qj ?_|refine Qk ?_|refine Ql ?_|refine Qm ?_|refine Qn ?_|refine Qo ?_|refine Qp ?_|refine Qq ?_|fail)
    refine SX.same 8 (.int .i64 ((i + 1 : Nat) : Int)) rfl (by simp (disch := omega) only [IntWalk.i64_in, IntWalk.u8_in, IntWalk.u32_in, IntWalk.u64_in, IntWalk.rem_in, Int.natCast_add, Int.natCast_one]) ?_
    refine SX.again (z - 1) (by omega) ⟨i + 1, b, cap, m, t, ps, E, H, L, A5, A6, c5, c6, by omega, hI, hHi, hc5, hc6, hcap, hps, hm, rfl, rfl⟩ (by repeat (first | exact trivial | refine ⟨rfl, ?_⟩)) inferInstance
  have hjl2 : j < H.length := by omega
  obtain ⟨y, hy⟩ : ∃ y, H[j]? = some y := ⟨_, List.getElem?_eq_getElem hjl2⟩
  have hyX : (H.map tlX)[j]? = some (tlX y) := by rw [List.getElem?_map, hy]; rfl
  have hyB : (H.map tlB)[j]? = some (tlB y) := by rw [List.getElem?_map, hy]; rfl
  have hyH := List.mem_of_getElem? hy
  obtain ⟨hy1, hy2, hy3⟩ := hI.rg y hyH
  have hyg := hI.v.gens y.j hy1
  have hmb := hI.mb
  refine SX.addrOwn (A := A5) (cellsK 2) inferInstance (by omega) (fun b5 e5 => ?_)
  subst e5
  refine SX.addrOwn (A := A6) (cellsK 1) inferInstance (by omega) (fun b6 e6 => ?_)
  subst e6
  repeat (first|refine Qa ?_|refine Qb ?_|refine Qc ?_|refine Qd ?_|refine Qe ?_|refine Qf ?_|refine Qg ?_|refine Qh ?_|refine Qi ?_|refine Qj ?_|refine Qk ?_|refine Ql ?_|refine Qm ?_|refine Qn ?_|refine Qo ?_|refine Qp ?_|refine Qq ?_|fail)
  refine SX.cut (fun a' M' => ∃ (p17 : Nat) (r3 : Re) (Ad3 : Option Addr) (cd3 : Nat) (Ae3 : Option Addr) (ce3 : Nat), ((y.v = true ∧ r3.st = 0 ∧ r3.ai = (y.j : Int) + 1 ∧ r3.ag = y.g) ∨ (y.v = false ∧ r3.st = 69)) ∧ a' = [(0, .slice (some ⟨bA, oA, none⟩) xs.length c), (4, .pointer (some ⟨p4, 0, none⟩)), (5, .slice (some ⟨b5, 0, none⟩) (H.map tlX).length c5), (6, .slice (some ⟨b6, 0, none⟩) (H.map tlB).length c6), (7, .slice (some ⟨b7, 0, none⟩) 4 4), (8, .int .i64 i), (15, .int .i64 j), (17, .pointer (some ⟨p17, 0, none⟩))] ∧ (.own (some ⟨p17, 0, none⟩) (cellsR p17 (reK r3 Ad3 cd3 Ae3 ce3) 49) :: .own (some ⟨b5, 0, none⟩) (rowR (cellsK 2) 35 (.slice (some ⟨b5, 0, none⟩) (H.map tlX).length c5) (H.map tlX)) :: .own (some ⟨b6, 0, none⟩) (rowR (cellsK 1) 4 (.slice (some ⟨b6, 0, none⟩) (H.map tlB).length c6) (H.map tlB)) :: .own (some ⟨b7, 0, none⟩) (rowR (Kd.int .i64) 3 (.slice (some ⟨b7, 0, none⟩) 4 4) (L)) :: .own (some ⟨p4, 0, none⟩) (cellsR p4 (thC (some ⟨b, 0, none⟩) 24 cap (t).ch (t).room) 27) :: thP b (t).l ps :: .per (datR (t).l ps) :: F) = M') ?_ ?_
  · refine SXA.begin (.own (some ⟨b5, 0, none⟩) (rowR (cellsK 2) 35 (.slice (some ⟨b5, 0, none⟩) (H.map tlX).length c5) (H.map tlX)) :: .own (some ⟨b6, 0, none⟩) (rowR (cellsK 1) 4 (.slice (some ⟨b6, 0, none⟩) (H.map tlB).length c6) (H.map tlB)) :: .own (some ⟨b7, 0, none⟩) (rowR (Kd.int .i64) 3 (.slice (some ⟨b7, 0, none⟩) 4 4) (L)) :: .own (some ⟨p4, 0, none⟩) (cellsR p4 (thC (some ⟨b, 0, none⟩) 24 cap (t).ch (t).room) 27) :: thP b (t).l ps :: .per (datR (t).l ps) :: F) [12, 13] ?_
    (first|refine Qr 0 ?_|refine Qs 0 ?_|refine Qxa 0 ?_|refine Qya 0 ?_|refine Qt 0 ?_|refine Qu 0 ?_|fail)
    (first|refine Qr 1 ?_|refine Qs 1 ?_|refine Qxa 1 ?_|refine Qya 1 ?_|refine Qt 1 ?_|refine Qu 1 ?_|fail)
    (first|refine Qr 2 ?_|refine Qs 2 ?_|refine Qxa 2 ?_|refine Qya 2 ?_|refine Qt 2 ?_|refine Qu 2 ?_|fail)
    refine SXA.idx 3 rfl (by decide +kernel) rfl rfl rfl rfl rfl rfl (by omega) (by omega) rfl inferInstance ?_
    refine SXA.loadRow 4 (cellsK 2) rfl (by decide +kernel) rfl rfl rfl inferInstance (by rw [Int.toNat_natCast]; exact hyX) rfl rfl inferInstance ?_
    (first|refine Qr 5 ?_|refine Qs 5 ?_|refine Qxa 5 ?_|refine Qya 5 ?_|refine Qt 5 ?_|refine Qu 5 ?_|fail)
    refine SXA.all [6, 10, 11] (by decide +kernel) (Each.cons rfl ?_ (Each.cons rfl ?_ (Each.cons rfl ?_ Each.nil)))
    · skip
      refine SXL.call rfl rfl rfl ?_
      refine (Do_S (t := t) (ps := ps) (c := ca 2 ((y.j : Int) + 1) y.g ⟨#[]⟩ 0 0 []) (Ac := none) (cc := 0) inferInstance inferInstance hm hps hcap (ca_wf ⟨by decide, by decide⟩ ⟨by omega, by omega⟩ ⟨by omega, by omega⟩ u32_0 u64_0 rfl) (Nat.zero_le _) (Nat.le_refl _) inferInstance (fun _ _ => ⟨getattrE, getattr_S, fun t r => rfl⟩) (fun t3 r3 b3 cap3 ps3 Ad3 cd3 Ae3 ce3 he3 hcap3 hps3 m3 hd3 hx3 => callK.ret ?_))
      refine SXL.nil (SXA.next inferInstance ?_)
      (first|refine Qr 7 ?_|refine Qs 7 ?_|refine Qxa 7 ?_|refine Qya 7 ?_|refine Qt 7 ?_|refine Qu 7 ?_|fail)
      (first|refine Qr 8 ?_|refine Qs 8 ?_|refine Qxa 8 ?_|refine Qya 8 ?_|refine Qt 8 ?_|refine Qu 8 ?_|fail)
      (first|refine Qr 9 ?_|refine Qs 9 ?_|refine Qxa 9 ?_|refine Qya 9 ?_|refine Qt 9 ?_|refine Qu 9 ?_|fail)
      refine SXA.all [10, 11] (by decide +kernel) (Each.cons rfl ?_ (Each.cons rfl ?_ Each.nil))
      · skip
        refine SXL.alloc rfl rfl (fun p16 => ?_)
        refine SXL.nil (SXA.next inferInstance ?_)
        refine Qw 11 ?_
        refine SXL.alloc rfl rfl (fun p17 => ?_)
        refine SXL.nil (SXA.next inferInstance ?_)
        refine Qw 12 ?_
        refine Qc ?_
        refine SXL.nil (SXA.nextLast rfl ?_)
        refine Qw 13 ?_
        refine Qc ?_
        refine SXL.nil (SXA.nextLast rfl ?_)
        refine Qv ?_
        refine SX.meet ⟨p17, r3, Ad3, cd3, Ae3, ce3, hI.tell hyH he3, rfl, rfl⟩ (by repeat (first | exact trivial | refine ⟨rfl, ?_⟩)) inferInstance
      · skip
        refine SXL.alloc rfl rfl (fun p17 => ?_)
        refine SXL.nil (SXA.next inferInstance ?_)
        refine Qw 10 ?_
        refine SXL.alloc rfl rfl (fun p16 => ?_)
        refine SXL.nil (SXA.next inferInstance ?_)
        refine Qw 12 ?_
        refine Qc ?_
        refine SXL.nil (SXA.nextLast rfl ?_)
        refine Qw 13 ?_
        refine Qc ?_
        refine SXL.nil (SXA.nextLast rfl ?_)
        refine Qv ?_
        refine SX.meet ⟨p17, r3, Ad3, cd3, Ae3, ce3, hI.tell hyH he3, rfl, rfl⟩ (by repeat (first | exact trivial | refine ⟨rfl, ?_⟩)) inferInstance
    · skip
      refine SXL.alloc rfl rfl (fun p16 => ?_)
      refine SXL.nil (SXA.next inferInstance ?_)
      refine SXA.all [6, 11] (by decide +kernel) (Each.cons rfl ?_ (Each.cons rfl ?_ Each.nil))
      · skip
        refine SXL.call rfl rfl rfl ?_
        refine (Do_S (t := t) (ps := ps) (c := ca 2 ((y.j : Int) + 1) y.g ⟨#[]⟩ 0 0 []) (Ac := none) (cc := 0) inferInstance inferInstance hm hps hcap (ca_wf ⟨by decide, by decide⟩ ⟨by omega, by omega⟩ ⟨by omega, by omega⟩ u32_0 u64_0 rfl) (Nat.zero_le _) (Nat.le_refl _) inferInstance (fun _ _ => ⟨getattrE, getattr_S, fun t r => rfl⟩) (fun t3 r3 b3 cap3 ps3 Ad3 cd3 Ae3 ce3 he3 hcap3 hps3 m3 hd3 hx3 => callK.ret ?_))
        refine SXL.nil (SXA.next inferInstance ?_)
        (first|refine Qr 7 ?_|refine Qs 7 ?_|refine Qxa 7 ?_|refine Qya 7 ?_|refine Qt 7 ?_|refine Qu 7 ?_|fail)
        (first|refine Qr 8 ?_|refine Qs 8 ?_|refine Qxa 8 ?_|refine Qya 8 ?_|refine Qt 8 ?_|refine Qu 8 ?_|fail)
        (first|refine Qr 9 ?_|refine Qs 9 ?_|refine Qxa 9 ?_|refine Qya 9 ?_|refine Qt 9 ?_|refine Qu 9 ?_|fail)
        refine Qw 11 ?_
        refine SXL.alloc rfl rfl (fun p17 => ?_)
        refine SXL.nil (SXA.next inferInstance ?_)
        refine Qw 12 ?_
        refine Qc ?_
        refine SXL.nil (SXA.nextLast rfl ?_)
        refine Qw 13 ?_
        refine Qc ?_
        refine SXL.nil (SXA.nextLast rfl ?_)
        refine Qv ?_
        refine SX.meet ⟨p17, r3, Ad3, cd3, Ae3, ce3, hI.tell hyH he3, rfl, rfl⟩ (by repeat (first | exact trivial | refine ⟨rfl, ?_⟩)) inferInstance
      · skip
        refine SXL.alloc rfl rfl (fun p17 => ?_)
        refine SXL.nil (SXA.next inferInstance ?_)
        refine Qw 6 ?_
        refine SXL.call rfl rfl rfl ?_
        refine (Do_S (t := t) (ps := ps) (c := ca 2 ((y.j : Int) + 1) y.g ⟨#[]⟩ 0 0 []) (Ac := none) (cc := 0) inferInstance inferInstance hm hps hcap (ca_wf ⟨by decide, by decide⟩ ⟨by omega, by omega⟩ ⟨by omega, by omega⟩ u32_0 u64_0 rfl) (Nat.zero_le _) (Nat.le_refl _) inferInstance (fun _ _ => ⟨getattrE, getattr_S, fun t r => rfl⟩) (fun t3 r3 b3 cap3 ps3 Ad3 cd3 Ae3 ce3 he3 hcap3 hps3 m3 hd3 hx3 => callK.ret ?_))
        refine SXL.nil (SXA.next inferInstance ?_)
        (first|refine Qr 7 ?_|refine Qs 7 ?_|refine Qxa 7 ?_|refine Qya 7 ?_|refine Qt 7 ?_|refine Qu 7 ?_|fail)
        (first|refine Qr 8 ?_|refine Qs 8 ?_|refine Qxa 8 ?_|refine Qya 8 ?_|refine Qt 8 ?_|refine Qu 8 ?_|fail)
        (first|refine Qr 9 ?_|refine Qs 9 ?_|refine Qxa 9 ?_|refine Qya 9 ?_|refine Qt 9 ?_|refine Qu 9 ?_|fail)
        refine Qw 12 ?_
        refine Qc ?_
        refine SXL.nil (SXA.nextLast rfl ?_)
        refine Qw 13 ?_
        refine Qc ?_
        refine SXL.nil (SXA.nextLast rfl ?_)
        refine Qv ?_
        refine SX.meet ⟨p17, r3, Ad3, cd3, Ae3, ce3, hI.tell hyH he3, rfl, rfl⟩ (by repeat (first | exact trivial | refine ⟨rfl, ?_⟩)) inferInstance
    · skip
      refine SXL.alloc rfl rfl (fun p17 => ?_)
      refine SXL.nil (SXA.next inferInstance ?_)
      refine SXA.all [6, 10] (by decide +kernel) (Each.cons rfl ?_ (Each.cons rfl ?_ Each.nil))
      · skip
        refine SXL.call rfl rfl rfl ?_
        refine (Do_S (t := t) (ps := ps) (c := ca 2 ((y.j : Int) + 1) y.g ⟨#[]⟩ 0 0 []) (Ac := none) (cc := 0) inferInstance inferInstance hm hps hcap (ca_wf ⟨by decide, by decide⟩ ⟨by omega, by omega⟩ ⟨by omega, by omega⟩ u32_0 u64_0 rfl) (Nat.zero_le _) (Nat.le_refl _) inferInstance (fun _ _ => ⟨getattrE, getattr_S, fun t r => rfl⟩) (fun t3 r3 b3 cap3 ps3 Ad3 cd3 Ae3 ce3 he3 hcap3 hps3 m3 hd3 hx3 => callK.ret ?_))
        refine SXL.nil (SXA.next inferInstance ?_)
        (first|refine Qr 7 ?_|refine Qs 7 ?_|refine Qxa 7 ?_|refine Qya 7 ?_|refine Qt 7 ?_|refine Qu 7 ?_|fail)
        (first|refine Qr 8 ?_|refine Qs 8 ?_|refine Qxa 8 ?_|refine Qya 8 ?_|refine Qt 8 ?_|refine Qu 8 ?_|fail)
        (first|refine Qr 9 ?_|refine Qs 9 ?_|refine Qxa 9 ?_|refine Qya 9 ?_|refine Qt 9 ?_|refine Qu 9 ?_|fail)
        refine Qw 10 ?_
        refine SXL.alloc rfl rfl (fun p16 => ?_)
        refine SXL.nil (SXA.next inferInstance ?_)
        refine Qw 12 ?_
        refine Qc ?_
        refine SXL.nil (SXA.nextLast rfl ?_)
        refine Qw 13 ?_
        refine Qc ?_
        refine SXL.nil (SXA.nextLast rfl ?_)
        refine Qv ?_
        refine SX.meet ⟨p17, r3, Ad3, cd3, Ae3, ce3, hI.tell hyH he3, rfl, rfl⟩ (by repeat (first | exact trivial | refine ⟨rfl, ?_⟩)) inferInstance
      · skip
        refine SXL.alloc rfl rfl (fun p16 => ?_)
        refine SXL.nil (SXA.next inferInstance ?_)
        refine Qw 6 ?_
        refine SXL.call rfl rfl rfl ?_
        refine (Do_S (t := t) (ps := ps) (c := ca 2 ((y.j : Int) + 1) y.g ⟨#[]⟩ 0 0 []) (Ac := none) (cc := 0) inferInstance inferInstance hm hps hcap (ca_wf ⟨by decide, by decide⟩ ⟨by omega, by omega⟩ ⟨by omega, by omega⟩ u32_0 u64_0 rfl) (Nat.zero_le _) (Nat.le_refl _) inferInstance (fun _ _ => ⟨getattrE, getattr_S, fun t r => rfl⟩) (fun t3 r3 b3 cap3 ps3 Ad3 cd3 Ae3 ce3 he3 hcap3 hps3 m3 hd3 hx3 => callK.ret ?_))
        refine SXL.nil (SXA.next inferInstance ?_)
        (first|refine Qr 7 ?_|refine Qs 7 ?_|refine Qxa 7 ?_|refine Qya 7 ?_|refine Qt 7 ?_|refine Qu 7 ?_|fail)
        (first|refine Qr 8 ?_|refine Qs 8 ?_|refine Qxa 8 ?_|refine Qya 8 ?_|refine Qt 8 ?_|refine Qu 8 ?_|fail)
        (first|refine Qr 9 ?_|refine Qs 9 ?_|refine Qxa 9 ?_|refine Qya 9 ?_|refine Qt 9 ?_|refine Qu 9 ?_|fail)
        refine Qw 12 ?_
        refine Qc ?_
        refine SXL.nil (SXA.nextLast rfl ?_)
        refine Qw 13 ?_
        refine Qc ?_
        refine SXL.nil (SXA.nextLast rfl ?_)
        refine Qv ?_
        refine SX.meet ⟨p17, r3, Ad3, cd3, Ae3, ce3, hI.tell hyH he3, rfl, rfl⟩ (by repeat (first | exact trivial | refine ⟨rfl, ?_⟩)) inferInstance
  rintro _ _ ⟨p17, r3, Ad3, cd3, Ae3, ce3, hT, rfl, rfl⟩
  repeat (first|refine Qf ?_|refine Qg ?_|refine Qh ?_|refine Qi ?_|refine Qj ?_|refine Qk ?_|refine Ql ?_|fail)
  refine SX.cut (fun a' M' => a' = [(0, .slice (some ⟨bA, oA, none⟩) xs.length c), (4, .pointer (some ⟨p4, 0, none⟩)), (5, .slice (some ⟨b5, 0, none⟩) (H.map tlX).length c5), (6, .slice (some ⟨b6, 0, none⟩) (H.map tlB).length c6), (7, .slice (some ⟨b7, 0, none⟩) 4 4), (8, .int .i64 i), (15, .int .i64 j), (166, .bool false)] ∧ (.own (some ⟨b5, 0, none⟩) (rowR (cellsK 2) 35 (.slice (some ⟨b5, 0, none⟩) (H.map tlX).length c5) (H.map tlX)) :: .own (some ⟨b6, 0, none⟩) (rowR (cellsK 1) 4 (.slice (some ⟨b6, 0, none⟩) (H.map tlB).length c6) (H.map tlB)) :: .own (some ⟨b7, 0, none⟩) (rowR (Kd.int .i64) 3 (.slice (some ⟨b7, 0, none⟩) 4 4) (L)) :: .own (some ⟨p4, 0, none⟩) (cellsR p4 (thC (some ⟨b, 0, none⟩) 24 cap (t).ch (t).room) 27) :: thP b (t).l ps :: .per (datR (t).l ps) :: F) = M') ?_ ?_
  · rcases y with ⟨yj, yg, yv⟩
    rcases hT with ⟨hv, hs, ha, hg⟩ | ⟨hv, hs⟩
    · obtain rfl : yv = true := hv
      unfold reK
      rw [hs, ha, hg]
      refine SXA.begin (.own (some ⟨p17, 0, none⟩) (cellsR p17 (reK { r3 with st := 0, ai := (yj : Int) + 1, ag := yg } Ad3 cd3 Ae3 ce3) 49) :: .own (some ⟨b5, 0, none⟩) (rowR (cellsK 2) 35 (.slice (some ⟨b5, 0, none⟩) (H.map tlX).length c5) (H.map tlX)) :: .own (some ⟨b6, 0, none⟩) (rowR (cellsK 1) 4 (.slice (some ⟨b6, 0, none⟩) (H.map tlB).length c6) (H.map tlB)) :: .own (some ⟨b7, 0, none⟩) (rowR (Kd.int .i64) 3 (.slice (some ⟨b7, 0, none⟩) 4 4) (L)) :: .own (some ⟨p4, 0, none⟩) (cellsR p4 (thC (some ⟨b, 0, none⟩) 24 cap (t).ch (t).room) 27) :: thP b (t).l ps :: .per (datR (t).l ps) :: F) [] ?_
      unfold reK
      dsimp only
      (first|refine Qr 0 ?_|refine Qs 0 ?_|refine Qxa 0 ?_|refine Qya 0 ?_|refine Qt 0 ?_|refine Qu 0 ?_|fail)
      (first|refine Qr 1 ?_|refine Qs 1 ?_|refine Qxa 1 ?_|refine Qya 1 ?_|refine Qt 1 ?_|refine Qu 1 ?_|fail)
      (first|refine Qr 4 ?_|refine Qs 4 ?_|refine Qxa 4 ?_|refine Qya 4 ?_|refine Qt 4 ?_|refine Qu 4 ?_|fail)
      refine SXA.idx 2 rfl (by decide +kernel) rfl rfl rfl rfl rfl rfl (by omega) (by omega) rfl inferInstance ?_
      (first|refine Qr 5 ?_|refine Qs 5 ?_|refine Qxa 5 ?_|refine Qya 5 ?_|refine Qt 5 ?_|refine Qu 5 ?_|fail)
      refine SXA.loadRow 3 (cellsK 1) rfl (by decide +kernel) rfl rfl rfl inferInstance (by rw [Int.toNat_natCast]; exact hyB) rfl rfl inferInstance ?_
      (first|refine Qr 6 ?_|refine Qs 6 ?_|refine Qxa 6 ?_|refine Qya 6 ?_|refine Qt 6 ?_|refine Qu 6 ?_|fail)
      (first|refine Qr 7 ?_|refine Qs 7 ?_|refine Qxa 7 ?_|refine Qya 7 ?_|refine Qt 7 ?_|refine Qu 7 ?_|fail)
      (first|refine Qr 8 ?_|refine Qs 8 ?_|refine Qxa 8 ?_|refine Qya 8 ?_|refine Qt 8 ?_|refine Qu 8 ?_|fail)
      (first|refine Qr 9 ?_|refine Qs 9 ?_|refine Qxa 9 ?_|refine Qya 9 ?_|refine Qt 9 ?_|refine Qu 9 ?_|fail)
      (first|refine Qr 10 ?_|refine Qs 10 ?_|refine Qxa 10 ?_|refine Qya 10 ?_|refine Qt 10 ?_|refine Qu 10 ?_|fail)
      refine SXA.idx 11 rfl (by decide +kernel) rfl rfl rfl rfl rfl rfl (by omega) (by omega) rfl inferInstance ?_
      refine SXA.loadRow 12 (cellsK 1) rfl (by decide +kernel) rfl rfl rfl inferInstance (by rw [Int.toNat_natCast]; exact hyB) rfl rfl inferInstance ?_
      (first|refine Qr 13 ?_|refine Qs 13 ?_|refine Qxa 13 ?_|refine Qya 13 ?_|refine Qt 13 ?_|refine Qu 13 ?_|fail)
      (first|refine Qr 14 ?_|refine Qs 14 ?_|refine Qxa 14 ?_|refine Qya 14 ?_|refine Qt 14 ?_|refine Qu 14 ?_|fail)
      (first|refine Qr 15 ?_|refine Qs 15 ?_|refine Qxa 15 ?_|refine Qya 15 ?_|refine Qt 15 ?_|refine Qu 15 ?_|fail)
      (first|refine Qr 16 ?_|refine Qs 16 ?_|refine Qxa 16 ?_|refine Qya 16 ?_|refine Qt 16 ?_|refine Qu 16 ?_|fail)
      (first|refine Qr 17 ?_|refine Qs 17 ?_|refine Qxa 17 ?_|refine Qya 17 ?_|refine Qt 17 ?_|refine Qu 17 ?_|fail)
      (first|refine Qr 18 ?_|refine Qs 18 ?_|refine Qxa 18 ?_|refine Qya 18 ?_|refine Qt 18 ?_|refine Qu 18 ?_|fail)
      (first|refine Qr 19 ?_|refine Qs 19 ?_|refine Qxa 19 ?_|refine Qya 19 ?_|refine Qt 19 ?_|refine Qu 19 ?_|fail)
      (first|refine Qr 20 ?_|refine Qs 20 ?_|refine Qxa 20 ?_|refine Qya 20 ?_|refine Qt 20 ?_|refine Qu 20 ?_|fail)
      (first|refine Qr 21 ?_|refine Qs 21 ?_|refine Qxa 21 ?_|refine Qya 21 ?_|refine Qt 21 ?_|refine Qu 21 ?_|fail)
      (first|refine Qr 22 ?_|refine Qs 22 ?_|refine Qxa 22 ?_|refine Qya 22 ?_|refine Qt 22 ?_|refine Qu 22 ?_|fail)
      refine SXA.idx 23 rfl (by decide +kernel) rfl rfl rfl rfl rfl rfl (by omega) (by omega) rfl inferInstance ?_
      refine SXA.loadRow 24 (cellsK 1) rfl (by decide +kernel) rfl rfl rfl inferInstance (by rw [Int.toNat_natCast]; exact hyB) rfl rfl inferInstance ?_
      (first|refine Qr 25 ?_|refine Qs 25 ?_|refine Qxa 25 ?_|refine Qya 25 ?_|refine Qt 25 ?_|refine Qu 25 ?_|fail)
      (first|refine Qr 26 ?_|refine Qs 26 ?_|refine Qxa 26 ?_|refine Qya 26 ?_|refine Qt 26 ?_|refine Qu 26 ?_|fail)
      (first|refine Qr 28 ?_|refine Qs 28 ?_|refine Qxa 28 ?_|refine Qya 28 ?_|refine Qt 28 ?_|refine Qu 28 ?_|fail)
      (first|refine Qr 29 ?_|refine Qs 29 ?_|refine Qxa 29 ?_|refine Qya 29 ?_|refine Qt 29 ?_|refine Qu 29 ?_|fail)
      (first|refine Qr 27 ?_|refine Qs 27 ?_|refine Qxa 27 ?_|refine Qya 27 ?_|refine Qt 27 ?_|refine Qu 27 ?_|fail)
      refine SXA.idx 30 rfl (by decide +kernel) rfl rfl rfl rfl rfl rfl (by omega) (by omega) rfl inferInstance ?_
      refine SXA.loadRow 31 (cellsK 2) rfl (by decide +kernel) rfl rfl rfl inferInstance (by rw [Int.toNat_natCast]; exact hyX) rfl rfl inferInstance ?_
      refine Qw 32 ?_
      refine Qm ?_
      refine SXL.neAgg rfl rfl eqH13 rfl rfl rfl rfl ?_
      refine SXL.nil (SXA.next inferInstance ?_)
      (first|refine Qr 33 ?_|refine Qs 33 ?_|refine Qxa 33 ?_|refine Qya 33 ?_|refine Qt 33 ?_|refine Qu 33 ?_|fail)
      (first|refine Qr 34 ?_|refine Qs 34 ?_|refine Qxa 34 ?_|refine Qya 34 ?_|refine Qt 34 ?_|refine Qu 34 ?_|fail)
      refine Qv ?_
      refine SX.same 166 (.bool false) rfl (by simp) ?_
      refine SX.meet ⟨rfl, rfl⟩ (by repeat (first | exact trivial | refine ⟨rfl, ?_⟩)) inferInstance
    · obtain rfl : yv = false := hv
      unfold reK
      rw [hs]
      refine SXA.begin (.own (some ⟨p17, 0, none⟩) (cellsR p17 (reK { r3 with st := 69 } Ad3 cd3 Ae3 ce3) 49) :: .own (some ⟨b5, 0, none⟩) (rowR (cellsK 2) 35 (.slice (some ⟨b5, 0, none⟩) (H.map tlX).length c5) (H.map tlX)) :: .own (some ⟨b6, 0, none⟩) (rowR (cellsK 1) 4 (.slice (some ⟨b6, 0, none⟩) (H.map tlB).length c6) (H.map tlB)) :: .own (some ⟨b7, 0, none⟩) (rowR (Kd.int .i64) 3 (.slice (some ⟨b7, 0, none⟩) 4 4) (L)) :: .own (some ⟨p4, 0, none⟩) (cellsR p4 (thC (some ⟨b, 0, none⟩) 24 cap (t).ch (t).room) 27) :: thP b (t).l ps :: .per (datR (t).l ps) :: F) [] ?_
      unfold reK
      dsimp only
      (first|refine Qr 0 ?_|refine Qs 0 ?_|refine Qxa 0 ?_|refine Qya 0 ?_|refine Qt 0 ?_|refine Qu 0 ?_|fail)
      (first|refine Qr 1 ?_|refine Qs 1 ?_|refine Qxa 1 ?_|refine Qya 1 ?_|refine Qt 1 ?_|refine Qu 1 ?_|fail)
      (first|refine Qr 4 ?_|refine Qs 4 ?_|refine Qxa 4 ?_|refine Qya 4 ?_|refine Qt 4 ?_|refine Qu 4 ?_|fail)
      refine SXA.idx 2 rfl (by decide +kernel) rfl rfl rfl rfl rfl rfl (by omega) (by omega) rfl inferInstance ?_
      (first|refine Qr 5 ?_|refine Qs 5 ?_|refine Qxa 5 ?_|refine Qya 5 ?_|refine Qt 5 ?_|refine Qu 5 ?_|fail)
      refine SXA.loadRow 3 (cellsK 1) rfl (by decide +kernel) rfl rfl rfl inferInstance (by rw [Int.toNat_natCast]; exact hyB) rfl rfl inferInstance ?_
      (first|refine Qr 6 ?_|refine Qs 6 ?_|refine Qxa 6 ?_|refine Qya 6 ?_|refine Qt 6 ?_|refine Qu 6 ?_|fail)
      (first|refine Qr 7 ?_|refine Qs 7 ?_|refine Qxa 7 ?_|refine Qya 7 ?_|refine Qt 7 ?_|refine Qu 7 ?_|fail)
      (first|refine Qr 8 ?_|refine Qs 8 ?_|refine Qxa 8 ?_|refine Qya 8 ?_|refine Qt 8 ?_|refine Qu 8 ?_|fail)
      (first|refine Qr 9 ?_|refine Qs 9 ?_|refine Qxa 9 ?_|refine Qya 9 ?_|refine Qt 9 ?_|refine Qu 9 ?_|fail)
      (first|refine Qr 10 ?_|refine Qs 10 ?_|refine Qxa 10 ?_|refine Qya 10 ?_|refine Qt 10 ?_|refine Qu 10 ?_|fail)
      refine SXA.idx 11 rfl (by decide +kernel) rfl rfl rfl rfl rfl rfl (by omega) (by omega) rfl inferInstance ?_
      refine SXA.loadRow 12 (cellsK 1) rfl (by decide +kernel) rfl rfl rfl inferInstance (by rw [Int.toNat_natCast]; exact hyB) rfl rfl inferInstance ?_
      (first|refine Qr 13 ?_|refine Qs 13 ?_|refine Qxa 13 ?_|refine Qya 13 ?_|refine Qt 13 ?_|refine Qu 13 ?_|fail)
      (first|refine Qr 14 ?_|refine Qs 14 ?_|refine Qxa 14 ?_|refine Qya 14 ?_|refine Qt 14 ?_|refine Qu 14 ?_|fail)
      (first|refine Qr 15 ?_|refine Qs 15 ?_|refine Qxa 15 ?_|refine Qya 15 ?_|refine Qt 15 ?_|refine Qu 15 ?_|fail)
      (first|refine Qr 16 ?_|refine Qs 16 ?_|refine Qxa 16 ?_|refine Qya 16 ?_|refine Qt 16 ?_|refine Qu 16 ?_|fail)
      (first|refine Qr 17 ?_|refine Qs 17 ?_|refine Qxa 17 ?_|refine Qya 17 ?_|refine Qt 17 ?_|refine Qu 17 ?_|fail)
      (first|refine Qr 18 ?_|refine Qs 18 ?_|refine Qxa 18 ?_|refine Qya 18 ?_|refine Qt 18 ?_|refine Qu 18 ?_|fail)
      (first|refine Qr 19 ?_|refine Qs 19 ?_|refine Qxa 19 ?_|refine Qya 19 ?_|refine Qt 19 ?_|refine Qu 19 ?_|fail)
      (first|refine Qr 20 ?_|refine Qs 20 ?_|refine Qxa 20 ?_|refine Qya 20 ?_|refine Qt 20 ?_|refine Qu 20 ?_|fail)
      (first|refine Qr 21 ?_|refine Qs 21 ?_|refine Qxa 21 ?_|refine Qya 21 ?_|refine Qt 21 ?_|refine Qu 21 ?_|fail)
      (first|refine Qr 22 ?_|refine Qs 22 ?_|refine Qxa 22 ?_|refine Qya 22 ?_|refine Qt 22 ?_|refine Qu 22 ?_|fail)
      refine SXA.idx 23 rfl (by decide +kernel) rfl rfl rfl rfl rfl rfl (by omega) (by omega) rfl inferInstance ?_
      refine SXA.loadRow 24 (cellsK 1) rfl (by decide +kernel) rfl rfl rfl inferInstance (by rw [Int.toNat_natCast]; exact hyB) rfl rfl inferInstance ?_
      (first|refine Qr 25 ?_|refine Qs 25 ?_|refine Qxa 25 ?_|refine Qya 25 ?_|refine Qt 25 ?_|refine Qu 25 ?_|fail)
      (first|refine Qr 26 ?_|refine Qs 26 ?_|refine Qxa 26 ?_|refine Qya 26 ?_|refine Qt 26 ?_|refine Qu 26 ?_|fail)
      (first|refine Qr 28 ?_|refine Qs 28 ?_|refine Qxa 28 ?_|refine Qya 28 ?_|refine Qt 28 ?_|refine Qu 28 ?_|fail)
      (first|refine Qr 29 ?_|refine Qs 29 ?_|refine Qxa 29 ?_|refine Qya 29 ?_|refine Qt 29 ?_|refine Qu 29 ?_|fail)
      (first|refine Qr 27 ?_|refine Qs 27 ?_|refine Qxa 27 ?_|refine Qya 27 ?_|refine Qt 27 ?_|refine Qu 27 ?_|fail)
      (first|refine Qr 30 ?_|refine Qs 30 ?_|refine Qxa 30 ?_|refine Qya 30 ?_|refine Qt 30 ?_|refine Qu 30 ?_|fail)
      (first|refine Qr 31 ?_|refine Qs 31 ?_|refine Qxa 31 ?_|refine Qya 31 ?_|refine Qt 31 ?_|refine Qu 31 ?_|fail)
      (first|refine Qr 32 ?_|refine Qs 32 ?_|refine Qxa 32 ?_|refine Qya 32 ?_|refine Qt 32 ?_|refine Qu 32 ?_|fail)
      (first|refine Qr 33 ?_|refine Qs 33 ?_|refine Qxa 33 ?_|refine Qya 33 ?_|refine Qt 33 ?_|refine Qu 33 ?_|fail)
      (first|refine Qr 34 ?_|refine Qs 34 ?_|refine Qxa 34 ?_|refine Qya 34 ?_|refine Qt 34 ?_|refine Qu 34 ?_|fail)
      refine Qv ?_
      refine SX.same 166 (.bool false) rfl (by simp) ?_
      refine SX.meet ⟨rfl, rfl⟩ (by repeat (first | exact trivial | refine ⟨rfl, ?_⟩)) inferInstance
  rintro _ _ ⟨rfl, rfl⟩
  repeat (first|refine Qa ?_|refine Qb ?_|refine Qc ?_|refine Qd ?_|refine Qe ?_|refine Qf ?_|refine Qg ?_|refine Qh ?_|refine Qi ?_|refine Qj ?_|refine Qk ?_|refine Ql ?_|refine Qm ?_|refine Qn ?_|refine Qo ?_|refine Qp ?_|refine Qq ?_|fail)
  refine SX.loop (fun z a M => ∃ q : Nat, q + z = j ∧ a = [(0, .slice (some ⟨bA, oA, none⟩) xs.length c), (4, .pointer (some ⟨p4, 0, none⟩)), (5, .slice (some ⟨b5, 0, none⟩) (H.map tlX).length c5), (6, .slice (some ⟨b6, 0, none⟩) (H.map tlB).length c6), (7, .slice (some ⟨b7, 0, none⟩) 4 4), (8, .int .i64 i), (15, .int .i64 j), (18, .int .i64 q)] ∧ (.own (some ⟨b5, 0, none⟩) (rowR (cellsK 2) 35 (.slice (some ⟨b5, 0, none⟩) (H.map tlX).length c5) (H.map tlX)) :: .own (some ⟨b6, 0, none⟩) (rowR (cellsK 1) 4 (.slice (some ⟨b6, 0, none⟩) (H.map tlB).length c6) (H.map tlB)) :: .own (some ⟨b7, 0, none⟩) (rowR (Kd.int .i64) 3 (.slice (some ⟨b7, 0, none⟩) 4 4) (L)) :: .own (some ⟨p4, 0, none⟩) (cellsR p4 (thC (some ⟨b, 0, none⟩) 24 cap (t).ch (t).room) 27) :: thP b (t).l ps :: .per (datR (t).l ps) :: F) = M) j ⟨0, by omega, rfl, rfl⟩ (by repeat (first | exact trivial | refine ⟨rfl, ?_⟩)) inferInstance ?_
  rintro z3 _ _ ⟨q, hq, rfl, rfl⟩
  repeat (first|refine Qa ?_|refine Qb ?_|refine Qc ?_|refine Qd ?_|refine Qe ?_|refine Qf ?_|refine Qg ?_|refine Qh ?_|refine Qi ?_|refine Qj ?_|refine Qk ?_|refine Ql ?_|refine Qm ?_|refine Qn ?_|refine Qo ?_|refine Qp ?_|refine Qq ?_|fail)
  refine SX.condp rfl (fun hql => ?_) (fun hql => ?_)
  rotate_left
  · repeat (first|refine Qa ?_|refine Qb ?_|refine Qc ?_|refine Qd ?_|refine Qe ?_|refine Qf ?_|refine Qg ?_|refine Qh ?_|refine Qi ?_|refine Qj ?_|refine Qk ?_|refine Ql ?_|refine Qm ?_|refine Qn ?_|refine Qo ?_|refine Qp ?_|refine Qq ?_|fail)
    refine SX.same 15 (.int .i64 ((j + 1 : Nat) : Int)) rfl (by simp (disch := omega) only [IntWalk.i64_in, IntWalk.u8_in, IntWalk.u32_in, IntWalk.u64_in, IntWalk.rem_in, Int.natCast_add, Int.natCast_one]) ?_
    refine SX.again (z2 - 1) (by omega) ⟨j + 1, by omega, rfl, rfl⟩ (by repeat (first | exact trivial | refine ⟨rfl, ?_⟩)) inferInstance
  have hqj : q < j := by omega
  obtain ⟨u, hu⟩ : ∃ u, H[q]? = some u := ⟨_, List.getElem?_eq_getElem (by omega)⟩
  have huX : (H.map tlX)[q]? = some (tlX u) := by rw [List.getElem?_map, hu]; rfl
  have hne : ¬ (u.j = y.j ∧ u.g = y.g) := by
    have h1 := List.pairwise_iff_getElem.1 hI.ne q j (by omega) hjl2 hqj
    rwa [(List.getElem?_eq_some_iff.1 hu).2, (List.getElem?_eq_some_iff.1 hy).2] at h1
  repeat (first|refine Qa ?_|refine Qb ?_|refine Qc ?_|refine Qd ?_|refine Qe ?_|refine Qf ?_|refine Qg ?_|refine Qh ?_|refine Qi ?_|refine Qj ?_|refine Qk ?_|refine Ql ?_|refine Qm ?_|refine Qn ?_|refine Qo ?_|refine Qp ?_|refine Qq ?_|fail)
  refine SXA.begin (.own (some ⟨b5, 0, none⟩) (rowR (cellsK 2) 35 (.slice (some ⟨b5, 0, none⟩) (H.map tlX).length c5) (H.map tlX)) :: .own (some ⟨b6, 0, none⟩) (rowR (cellsK 1) 4 (.slice (some ⟨b6, 0, none⟩) (H.map tlB).length c6) (H.map tlB)) :: .own (some ⟨b7, 0, none⟩) (rowR (Kd.int .i64) 3 (.slice (some ⟨b7, 0, none⟩) 4 4) (L)) :: .own (some ⟨p4, 0, none⟩) (cellsR p4 (thC (some ⟨b, 0, none⟩) 24 cap (t).ch (t).room) 27) :: thP b (t).l ps :: .per (datR (t).l ps) :: F) [] ?_
  (first|refine Qr 0 ?_|refine Qs 0 ?_|refine Qxa 0 ?_|refine Qya 0 ?_|refine Qt 0 ?_|refine Qu 0 ?_|fail)
  (first|refine Qr 1 ?_|refine Qs 1 ?_|refine Qxa 1 ?_|refine Qya 1 ?_|refine Qt 1 ?_|refine Qu 1 ?_|fail)
  refine SXA.idx 2 rfl (by decide +kernel) rfl rfl rfl rfl rfl rfl (by omega) (by omega) rfl inferInstance ?_
  refine SXA.loadRow 3 (cellsK 2) rfl (by decide +kernel) rfl rfl rfl inferInstance (by rw [Int.toNat_natCast]; exact huX) rfl rfl inferInstance ?_
  (first|refine Qr 4 ?_|refine Qs 4 ?_|refine Qxa 4 ?_|refine Qya 4 ?_|refine Qt 4 ?_|refine Qu 4 ?_|fail)
  (first|refine Qr 5 ?_|refine Qs 5 ?_|refine Qxa 5 ?_|refine Qya 5 ?_|refine Qt 5 ?_|refine Qu 5 ?_|fail)
  refine SXA.idx 6 rfl (by decide +kernel) rfl rfl rfl rfl rfl rfl (by omega) (by omega) rfl inferInstance ?_
  refine SXA.loadRow 7 (cellsK 2) rfl (by decide +kernel) rfl rfl rfl inferInstance (by rw [Int.toNat_natCast]; exact hyX) rfl rfl inferInstance ?_
  refine Qw 8 ?_
  refine SXL.eqAgg rfl rfl eqH13 rfl rfl rfl rfl ?_
  refine SXL.nil (SXA.next inferInstance ?_)
  refine Qv ?_
  refine SX.know 180 false rfl (by rw [Bool.and_eq_false_iff, beq_eq_false_iff_ne, beq_eq_false_iff_ne]; omega) ?_
  repeat (first|refine Qa ?_|refine Qb ?_|refine Qc ?_|refine Qd ?_|refine Qe ?_|refine Qf ?_|refine Qg ?_|refine Qh ?_|refine Qi ?_|refine Qj ?_|refine Qk ?_|refine Ql ?_|refine Qm ?_|refine Qn ?_|refine Qo ?_|refine Qp ?_|refine Qq ?_|fail)
  refine SX.same 18 (.int .i64 ((q + 1 : Nat) : Int)) rfl (by simp (disch := omega) only [IntWalk.i64_in, IntWalk.u8_in, IntWalk.u32_in, IntWalk.u64_in, IntWalk.rem_in, Int.natCast_add, Int.natCast_one]) ?_
  refine SX.again (z3 - 1) (by omega) ⟨q + 1, by omega, rfl, rfl⟩ (by repeat (first | exact trivial | refine ⟨rfl, ?_⟩)) inferInstance
end
theorem OpsStale_any (As : Option Addr) (cs : Nat) (ls : List Int) (W : World) (rs : Kd.C (Kd.int .u8) W As ls.length ls) (hs : ls.length ≤ cs) (ws : ls.length ≤ maxLen ∧ ∀ x ∈ ls, (Lit.int .u8 x).wf = true) :
    Calls Tryz.prog 4 #[.slice As ls.length cs] W fun e w' => e = .returned (.bool true) ∧ Below W.heap.size W w' :=
  Fn.out W [.per (roR (Kd.int .u8) As ls), .per (oldR W)] (Holds.ofStart (Holds.startRow (Holds.start0 W) (Kd.C_F (Kd.heap_int _) rs))) inferInstance
    (OpsStale_S Ro.here hs (bytesB_of_wf ls ws.2) ⟨rfl, inferInstance⟩)
end Go.Proofs.YtanemmcddgkpdaaGreat.Sx
