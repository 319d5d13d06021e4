/- Chapter 13: the laws' own test of things, walked where it is met; conditions: those that each theorem names. -/
import Derived.Test.YtanemmcddgkpdaaGreatJN7
namespace Go.Proofs.YtanemmcddgkpdaaGreat.Sx
open Go.RowKit Go.Proofs.YtanemmcddgkpdaaGreat.Hm Go.Proofs.YtanemmcddgkpdaaGreatW.PrintWords Go.Proofs.YtanemmcddgkpdaaGreatW.PrintLast Go.Proofs.YtanemmcddgkpdaaGreatW.PrintMore
set_option linter.unusedVariables false
set_option linter.unusedSimpArgs false
attribute [local irreducible] SX SXL SXA St callK Post Evals
def u32s (xs : List Int) : List Value := xs.map (fun x => .int .u32 x)
theorem u32s_len (xs : List Int) : (u32s xs).length = xs.length := by simp [u32s]
theorem u32s_get {xs : List Int} {j : Nat} (h : j < xs.length) : (u32s xs)[j]? = some (.int .u32 (xs.getD j 0)) := by
  unfold u32s
  rw [List.getElem?_map, List.getD_eq_getElem?_getD, List.getElem?_eq_getElem h]
  rfl
theorem u32s_set (xs : List Int) (j : Nat) (v : Int) : (u32s xs).set j (.int .u32 v) = u32s (xs.set j v) := by simp [u32s, List.map_set]
def incL (L : List Int) (j : Nat) : List Int := L.set j ((L.getD j 0 + 1) % 4294967296)
def entsL (L : List Int) (es : List Ent) : List Int := es.foldl (fun L e => incL L e.i.toNat) L
def linksTo (ts : List Sl) (k : Nat) : List Int := (ts.take k).foldl (fun L s => if s.kind = 2 then entsL L (entS s) else L) ((List.replicate 24 0).set 0 1)
theorem incL_len (L : List Int) (j : Nat) : (incL L j).length = L.length := by simp [incL]
theorem entsL_len (es : List Ent) : ∀ L : List Int, (entsL L es).length = L.length := by
  induction es with
  | nil => exact fun L => rfl
  | cons e es ih => exact fun L => (ih (incL L e.i.toNat)).trans (incL_len L _)
theorem linksTo_len (ts : List Sl) (k : Nat) : (linksTo ts k).length = 24 := by
  unfold linksTo
  have h : ∀ (l : List Sl) (L : List Int), L.length = 24 → (l.foldl (fun L s => if s.kind = 2 then entsL L (entS s) else L) L).length = 24 := by
    intro l
    induction l with
    | nil => exact fun L h => h
    | cons s l ih =>
      intro L hL
      refine ih _ ?_
      dsimp only
      split
      · rw [entsL_len]; exact hL
      · exact hL
  exact h _ _ (by simp)
theorem linksTo_succ {ts : List Sl} {k : Nat} {s : Sl} (h : ts[k]? = some s) : linksTo ts (k + 1) = if s.kind = 2 then entsL (linksTo ts k) (entS s) else linksTo ts k := by
  obtain ⟨hlt, hv⟩ := List.getElem?_eq_some_iff.1 h
  unfold linksTo
  rw [List.take_succ_eq_append_getElem hlt, hv, List.foldl_append]
  rfl
theorem entsL_take {L : List Int} {es : List Ent} {j : Nat} {e : Ent} (h : es[j]? = some e) : entsL L (es.take (j + 1)) = incL (entsL L (es.take j)) e.i.toNat := by
  obtain ⟨hlt, hv⟩ := List.getElem?_eq_some_iff.1 h
  unfold entsL
  rw [List.take_succ_eq_append_getElem hlt, hv, List.foldl_append]
  rfl
/-- What the test asks of things. -/
structure SndT (t : Th) : Prop where
  ok : ∀ (i : Nat) (s : Sl), t.l[i]? = some s → okB s = true ∧ s.ino = (i : Int)
  ents : ∀ (i : Nat) (s : Sl), t.l[i]? = some s → s.kind = 2 → (getM s.d).2 = 0 ∧ ∀ e ∈ entS s, 0 ≤ e.i ∧ e.i ≤ 23 ∧ (atT t e.i.toNat).kind ≠ 0 ∧ (atT t e.i.toNat).gen = e.g
  links : ∀ (i : Nat) (s : Sl), t.l[i]? = some s → (s.kind = 0 → (linksTo t.l 24).getD i 0 = 0) ∧ (s.kind ≠ 0 → (linksTo t.l 24).getD i 0 = s.links) ∧ (s.kind = 2 → (linksTo t.l 24).getD i 0 = 1)
  room : (usedT t.l : Int) ≤ t.room
section
variable {F R : List Thing} {K : Ending → List Thing → Prop} {b cap : Nat} {t : Th} {ps : List Pl}
set_option maxRecDepth 20000 in
set_option maxHeartbeats 2000000 in
theorem sound_S (hS : SndT t) (hr : Ro (cellsK 9) (some ⟨b, 0, none⟩) F (slZ t.l ps)) (hd : Has (datR t.l ps) F) (hm : t.mid) (hps : ps.length = 24) (hcap : 24 ≤ cap) (h : K (.returned (.bool true)) F) :
    Fn (Tryz.prog) 32 [.agg #[.slice (some ⟨b, 0, none⟩) 24 cap, .int .u64 t.ch, .int .i64 t.room]] F K := by
  have hn := hm.n
  refine Fn.enter Tryz.call32 Tryz.func32 rfl rfl rfl ?_
  repeat (first|refine Qa ?_|refine Qb ?_|refine Qc ?_|refine Qd ?_|refine Qe ?_|refine Qf ?_|refine Qg ?_|refine Qh ?_|refine Qi ?_|refine Qj ?_|refine Qk ?_|refine Ql ?_|refine Qm ?_|refine Qn ?_|refine Qo ?_|refine Qp ?_|refine Qq ?_|fail)
  refine SXL.box rfl rfl rfl (fun q => ?_)
  repeat (first|refine Qa ?_|refine Qb ?_|refine Qc ?_|refine Qd ?_|refine Qe ?_|refine Qf ?_|refine Qg ?_|refine Qh ?_|refine Qi ?_|refine Qj ?_|refine Qk ?_|refine Ql ?_|refine Qm ?_|refine Qn ?_|refine Qo ?_|refine Qp ?_|refine Qq ?_|fail)
  refine SXL.make (nb := 4) rfl rfl rfl rfl rfl rfl rfl rfl (by kernel_rfl) (by omega) (by omega) (by omega) rfl (fun g => ?_)
  repeat (first|refine Qa ?_|refine Qb ?_|refine Qc ?_|refine Qd ?_|refine Qe ?_|refine Qf ?_|refine Qg ?_|refine Qh ?_|refine Qi ?_|refine Qj ?_|refine Qk ?_|refine Ql ?_|refine Qm ?_|refine Qn ?_|refine Qo ?_|refine Qp ?_|refine Qq ?_|fail)
  refine SXL.idx rfl rfl rfl rfl rfl (by omega) (by omega) rfl ?_
  refine SXL.storeAt (off := 0) rfl rfl inferInstance rfl rfl rfl (by decide) ?_
  have e0 : (List.replicate (24 : Int).toNat (Value.int .u32 0)).set 0 (.int .u32 1) = u32s (linksTo t.l 0) := rfl
  rw [e0]
  repeat (first|refine Qa ?_|refine Qb ?_|refine Qc ?_|refine Qd ?_|refine Qe ?_|refine Qf ?_|refine Qg ?_|refine Qh ?_|refine Qi ?_|refine Qj ?_|refine Qk ?_|refine Ql ?_|refine Qm ?_|refine Qn ?_|refine Qo ?_|refine Qp ?_|refine Qq ?_|fail)
  refine SX.loop (fun z a M => ∃ (k : Nat), k + z = 24 ∧ a = [(1, .pointer (some ⟨q, 0, none⟩)), (3, .slice (some ⟨g, 0, none⟩) 24 24), (4, .int .i64 k)] ∧ (.own (some ⟨q, 0, none⟩) (cellsR q [.slice (some ⟨b, 0, none⟩) 24 cap, .int .u64 t.ch, .int .i64 t.room] 27) :: .own (some ⟨g, 0, none⟩) (cellsR g (u32s (linksTo t.l k)) 33) :: F) = M)
    24 ⟨0, by omega, rfl, rfl⟩ (by repeat (first | exact trivial | refine ⟨rfl, ?_⟩)) inferInstance ?_
  · rintro z _ _ ⟨k, hz, rfl, rfl⟩
    repeat (first|refine Qa ?_|refine Qb ?_|refine Qc ?_|refine Qd ?_|refine Qe ?_|refine Qf ?_|refine Qg ?_|refine Qh ?_|refine Qi ?_|refine Qj ?_|refine Qk ?_|refine Ql ?_|refine Qm ?_|refine Qn ?_|refine Qo ?_|refine Qp ?_|refine Qq ?_|fail)
    refine SX.condp rfl (fun hi => ?_) (fun hi => ?_)
    · obtain ⟨s, hs⟩ : ∃ s, t.l[k]? = some s := ⟨_, List.getElem?_eq_getElem (by omega)⟩
      obtain ⟨x, hx⟩ : ∃ x, ps[k]? = some x := ⟨_, List.getElem?_eq_getElem (by omega)⟩
      haveI g1 : GetIs t.l k s := ⟨hs⟩
      haveI g2 : GetIs ps k x := ⟨hx⟩
      have hsm := hm.at hs
      have hsl := hsm.l
      obtain ⟨hok, hino⟩ := hS.ok k s hs
      have hiw : IntKind.i64.wrap s.ino = (k : Int) := by rw [hino]; exact IntWalk.i64_in _ (by omega)
      have hc0 : checkM s = 0 := by unfold checkM; rw [if_pos hok]
      have hls := linksTo_succ hs
      refine SX.derive (datR t.l ps) (roR (Kd.int .u8) x.1 s.d) (fun w S h => (h.2 k s x hs hx).2) ?_
      refine SX.derive (datR t.l ps) (pureR (s.d.length ≤ x.2)) (fun w S h => (h.2 k s x hs hx).1) ?_
      refine SX.pure (s.d.length ≤ x.2) (fun hle => ?_)
      repeat (first|refine Qa ?_|refine Qb ?_|refine Qc ?_|refine Qd ?_|refine Qe ?_|refine Qf ?_|refine Qg ?_|refine Qh ?_|refine Qi ?_|refine Qj ?_|refine Qk ?_|refine Ql ?_|refine Qm ?_|refine Qn ?_|refine Qo ?_|refine Qp ?_|refine Qq ?_|fail)
      refine SXL.idx rfl rfl rfl rfl rfl (by omega) (by omega) rfl ?_
      refine SXL.same 23 (.pointer (some ⟨b, k * 9, none⟩)) rfl (by simp) ?_
      repeat (first|refine Qa ?_|refine Qb ?_|refine Qc ?_|refine Qd ?_|refine Qe ?_|refine Qf ?_|refine Qg ?_|refine Qh ?_|refine Qi ?_|refine Qj ?_|refine Qk ?_|refine Ql ?_|refine Qm ?_|refine Qn ?_|refine Qo ?_|refine Qp ?_|refine Qq ?_|refine Qx ?_|refine Qy ?_|fail)
      refine SXL.call rfl rfl rfl ?_
      refine (Check_S (s := s) (A := x.1) (c := x.2) inferInstance hle hsm.w.d (by omega) (callK.ret ?_))
      rw [hc0]
      repeat (first|refine Qa ?_|refine Qb ?_|refine Qc ?_|refine Qd ?_|refine Qe ?_|refine Qf ?_|refine Qg ?_|refine Qh ?_|refine Qi ?_|refine Qj ?_|refine Qk ?_|refine Ql ?_|refine Qm ?_|refine Qn ?_|refine Qo ?_|refine Qp ?_|refine Qq ?_|fail)
      refine SXL.idx rfl rfl rfl rfl rfl (by omega) (by omega) rfl ?_
      refine SXL.same 31 (.pointer (some ⟨b, k * 9, none⟩)) rfl (by simp) ?_
      repeat (first|refine Qa ?_|refine Qb ?_|refine Qc ?_|refine Qd ?_|refine Qe ?_|refine Qf ?_|refine Qg ?_|refine Qh ?_|refine Qi ?_|refine Qj ?_|refine Qk ?_|refine Ql ?_|refine Qm ?_|refine Qn ?_|refine Qo ?_|refine Qp ?_|refine Qq ?_|refine Qx ?_|refine Qy ?_|fail)
      rw [hiw]
      refine SX.know 37 false rfl (by simp) ?_
      repeat (first|refine Qa ?_|refine Qb ?_|refine Qc ?_|refine Qd ?_|refine Qe ?_|refine Qf ?_|refine Qg ?_|refine Qh ?_|refine Qi ?_|refine Qj ?_|refine Qk ?_|refine Ql ?_|refine Qm ?_|refine Qn ?_|refine Qo ?_|refine Qp ?_|refine Qq ?_|fail)
      refine SXL.idx rfl rfl rfl rfl rfl (by omega) (by omega) rfl ?_
      refine SXL.same 41 (.pointer (some ⟨b, k * 9, none⟩)) rfl (by simp) ?_
      repeat (first|refine Qa ?_|refine Qb ?_|refine Qc ?_|refine Qd ?_|refine Qe ?_|refine Qf ?_|refine Qg ?_|refine Qh ?_|refine Qi ?_|refine Qj ?_|refine Qk ?_|refine Ql ?_|refine Qm ?_|refine Qn ?_|refine Qo ?_|refine Qp ?_|refine Qq ?_|refine Qx ?_|refine Qy ?_|fail)
      refine SX.cond rfl (fun hk => ?_) (fun hk => ?_)
      · have hk2 : ¬ s.kind = 2 := by simpa using hk
        rw [if_neg hk2] at hls
        repeat (first|refine Qa ?_|refine Qb ?_|refine Qc ?_|refine Qd ?_|refine Qe ?_|refine Qf ?_|refine Qg ?_|refine Qh ?_|refine Qi ?_|refine Qj ?_|refine Qk ?_|refine Ql ?_|refine Qm ?_|refine Qn ?_|refine Qo ?_|refine Qp ?_|refine Qq ?_|fail)
        refine SX.same 4 (.int .i64 ((k + 1 : Nat) : Int)) rfl (by simp (disch := omega) only [IntWalk.i64_in, IntWalk.u8_in, IntWalk.u32_in, IntWalk.u64_in, IntWalk.rem_in, Int.natCast_add, Int.natCast_one]) ?_
        rw [← hls]
        refine SX.again (z - 1) (by omega) ⟨k + 1, by omega, rfl, rfl⟩ (by repeat (first | exact trivial | refine ⟨rfl, ?_⟩)) inferInstance
      · have hk2 : s.kind = 2 := by simpa using hk
        rw [if_pos hk2] at hls
        obtain ⟨hge, hes⟩ := hS.ents k s hs hk2
        repeat (first|refine Qa ?_|refine Qb ?_|refine Qc ?_|refine Qd ?_|refine Qe ?_|refine Qf ?_|refine Qg ?_|refine Qh ?_|refine Qi ?_|refine Qj ?_|refine Qk ?_|refine Ql ?_|refine Qm ?_|refine Qn ?_|refine Qo ?_|refine Qp ?_|refine Qq ?_|fail)
        refine SXL.idx rfl rfl rfl rfl rfl (by omega) (by omega) rfl ?_
        refine SXL.same 49 (.pointer (some ⟨b, k * 9, none⟩)) rfl (by simp) ?_
        repeat (first|refine Qa ?_|refine Qb ?_|refine Qc ?_|refine Qd ?_|refine Qe ?_|refine Qf ?_|refine Qg ?_|refine Qh ?_|refine Qi ?_|refine Qj ?_|refine Qk ?_|refine Ql ?_|refine Qm ?_|refine Qn ?_|refine Qo ?_|refine Qp ?_|refine Qq ?_|refine Qx ?_|refine Qy ?_|fail)
        refine SXL.call rfl rfl rfl ?_
        refine (Get_S (b := s.d) (A := x.1) (c := x.2) inferInstance hle hsm.w.d (by omega) (fun r n hg A' c' hc' => callK.ret ?_))
        obtain ⟨rfl, rfl⟩ : r = entS s ∧ n = 0 := by
          rw [hg] at hge
          exact ⟨by unfold entS; rw [hg], hge⟩
        have hel := (entS_ok hsm.w).2
        refine SXL.keepRow A' inferInstance ?_
        repeat (first|refine Qa ?_|refine Qb ?_|refine Qc ?_|refine Qd ?_|refine Qe ?_|refine Qf ?_|refine Qg ?_|refine Qh ?_|refine Qi ?_|refine Qj ?_|refine Qk ?_|refine Ql ?_|refine Qm ?_|refine Qn ?_|refine Qo ?_|refine Qp ?_|refine Qq ?_|fail)
        refine SX.loop (fun z2 a M => ∃ (j : Nat), j + z2 = (entS s).length ∧ a = [(1, .pointer (some ⟨q, 0, none⟩)), (3, .slice (some ⟨g, 0, none⟩) 24 24), (4, .int .i64 k), (5, .slice A' (entS s).length c'), (7, .int .i64 j)] ∧ (.own (some ⟨q, 0, none⟩) (cellsR q [.slice (some ⟨b, 0, none⟩) 24 cap, .int .u64 t.ch, .int .i64 t.room] 27) :: .own (some ⟨g, 0, none⟩) (cellsR g (u32s (entsL (linksTo t.l k) ((entS s).take j))) 33) :: .per (roR kE A' (entS s)) :: F) = M)
          (entS s).length ⟨0, by omega, rfl, rfl⟩ (by repeat (first | exact trivial | refine ⟨rfl, ?_⟩)) (by rw [List.take_zero]; show Sub _ (_ :: .own (some ⟨g, 0, none⟩) (cellsR g (u32s (linksTo t.l k)) 33) :: _); infer_instance) ?_
        rintro z2 _ _ ⟨j, hz2, rfl, rfl⟩
        repeat (first|refine Qa ?_|refine Qb ?_|refine Qc ?_|refine Qd ?_|refine Qe ?_|refine Qf ?_|refine Qg ?_|refine Qh ?_|refine Qi ?_|refine Qj ?_|refine Qk ?_|refine Ql ?_|refine Qm ?_|refine Qn ?_|refine Qo ?_|refine Qp ?_|refine Qq ?_|fail)
        refine SX.condp rfl (fun hj => ?_) (fun hj => ?_)
        · obtain ⟨e, he⟩ : ∃ e, (entS s)[j]? = some e := ⟨_, List.getElem?_eq_getElem (by omega)⟩
          obtain ⟨he0, he1, he2, he3⟩ := hes e (List.mem_of_getElem? he)
          obtain ⟨se, hse⟩ : ∃ se, t.l[e.i.toNat]? = some se := ⟨_, List.getElem?_eq_getElem (by omega)⟩
          obtain ⟨xe, hxe⟩ : ∃ xe, ps[e.i.toNat]? = some xe := ⟨_, List.getElem?_eq_getElem (by omega)⟩
          haveI g3 : GetIs t.l e.i.toNat se := ⟨hse⟩
          haveI g4 : GetIs ps e.i.toNat xe := ⟨hxe⟩
          have hae := atT_get hse
          rw [hae] at he2 he3
          have hLl : (entsL (linksTo t.l k) ((entS s).take j)).length = 24 := by rw [entsL_len, linksTo_len]
          refine SX.addr (A := A') kE (by decide) (xs := entS s) (by omega) (fun b4 o4 e4 => ?_)
          subst e4
          repeat (first|refine Qa ?_|refine Qb ?_|refine Qc ?_|refine Qd ?_|refine Qe ?_|refine Qf ?_|refine Qg ?_|refine Qh ?_|refine Qi ?_|refine Qj ?_|refine Qk ?_|refine Ql ?_|refine Qm ?_|refine Qn ?_|refine Qo ?_|refine Qp ?_|refine Qq ?_|fail)
          refine SXL.idx rfl rfl rfl rfl rfl (by omega) (by omega) rfl ?_
          repeat (first|refine Qa ?_|refine Qb ?_|refine Qc ?_|refine Qd ?_|refine Qe ?_|refine Qf ?_|refine Qg ?_|refine Qh ?_|refine Qi ?_|refine Qj ?_|refine Qk ?_|refine Ql ?_|refine Qm ?_|refine Qn ?_|refine Qo ?_|refine Qp ?_|refine Qq ?_|fail)
          refine SXL.loadRow (off := 1) kE rfl rfl inferInstance (by rw [Int.toNat_natCast]; exact he) rfl rfl ?_
          repeat (first|refine Qa ?_|refine Qb ?_|refine Qc ?_|refine Qd ?_|refine Qe ?_|refine Qf ?_|refine Qg ?_|refine Qh ?_|refine Qi ?_|refine Qj ?_|refine Qk ?_|refine Ql ?_|refine Qm ?_|refine Qn ?_|refine Qo ?_|refine Qp ?_|refine Qq ?_|fail)
          refine SXL.alloc rfl rfl (fun y => ?_)
          repeat (first|refine Qa ?_|refine Qb ?_|refine Qc ?_|refine Qd ?_|refine Qe ?_|refine Qf ?_|refine Qg ?_|refine Qh ?_|refine Qi ?_|refine Qj ?_|refine Qk ?_|refine Ql ?_|refine Qm ?_|refine Qn ?_|refine Qo ?_|refine Qp ?_|refine Qq ?_|fail)
          refine SXA.begin (.own (some ⟨y, 0, none⟩) (cellsR y [.int .u32 e.i, .int .u32 e.g] 35) :: .own (some ⟨q, 0, none⟩) (cellsR q [.slice (some ⟨b, 0, none⟩) 24 cap, .int .u64 t.ch, .int .i64 t.room] 27) :: F) [] ?_
          (first|refine Qr 0 ?_|refine Qs 0 ?_|refine Qxa 0 ?_|refine Qya 0 ?_|refine Qt 0 ?_|refine Qu 0 ?_|fail)
          (first|refine Qr 1 ?_|refine Qs 1 ?_|refine Qxa 1 ?_|refine Qya 1 ?_|refine Qt 1 ?_|refine Qu 1 ?_|fail)
          (first|refine Qr 2 ?_|refine Qs 2 ?_|refine Qxa 2 ?_|refine Qya 2 ?_|refine Qt 2 ?_|refine Qu 2 ?_|fail)
          (first|refine Qr 3 ?_|refine Qs 3 ?_|refine Qxa 3 ?_|refine Qya 3 ?_|refine Qt 3 ?_|refine Qu 3 ?_|fail)
          refine SXA.know 71 false rfl (by simp; omega) ?_
          (first|refine Qr 4 ?_|refine Qs 4 ?_|refine Qxa 4 ?_|refine Qya 4 ?_|refine Qt 4 ?_|refine Qu 4 ?_|fail)
          (first|refine Qr 5 ?_|refine Qs 5 ?_|refine Qxa 5 ?_|refine Qya 5 ?_|refine Qt 5 ?_|refine Qu 5 ?_|fail)
          (first|refine Qr 6 ?_|refine Qs 6 ?_|refine Qxa 6 ?_|refine Qya 6 ?_|refine Qt 6 ?_|refine Qu 6 ?_|fail)
          (first|refine Qr 7 ?_|refine Qs 7 ?_|refine Qxa 7 ?_|refine Qya 7 ?_|refine Qt 7 ?_|refine Qu 7 ?_|fail)
          refine SXA.idx 8 rfl (by decide +kernel) rfl rfl rfl rfl rfl rfl (by omega) (by omega) rfl inferInstance ?_
          refine SXA.same 76 (.pointer (some ⟨b, e.i.toNat * 9, none⟩)) rfl (by simp) ?_
          (first|refine Qr 9 ?_|refine Qs 9 ?_|refine Qxa 9 ?_|refine Qya 9 ?_|refine Qt 9 ?_|refine Qu 9 ?_|fail)
          (first|refine Qr 10 ?_|refine Qs 10 ?_|refine Qxa 10 ?_|refine Qya 10 ?_|refine Qt 10 ?_|refine Qu 10 ?_|fail)
          (first|refine Qr 11 ?_|refine Qs 11 ?_|refine Qxa 11 ?_|refine Qya 11 ?_|refine Qt 11 ?_|refine Qu 11 ?_|fail)
          (first|refine Qr 12 ?_|refine Qs 12 ?_|refine Qxa 12 ?_|refine Qya 12 ?_|refine Qt 12 ?_|refine Qu 12 ?_|fail)
          (first|refine Qr 13 ?_|refine Qs 13 ?_|refine Qxa 13 ?_|refine Qya 13 ?_|refine Qt 13 ?_|refine Qu 13 ?_|fail)
          refine SXA.know 81 false rfl (by simpa using he2) ?_
          (first|refine Qr 14 ?_|refine Qs 14 ?_|refine Qxa 14 ?_|refine Qya 14 ?_|refine Qt 14 ?_|refine Qu 14 ?_|fail)
          (first|refine Qr 15 ?_|refine Qs 15 ?_|refine Qxa 15 ?_|refine Qya 15 ?_|refine Qt 15 ?_|refine Qu 15 ?_|fail)
          (first|refine Qr 16 ?_|refine Qs 16 ?_|refine Qxa 16 ?_|refine Qya 16 ?_|refine Qt 16 ?_|refine Qu 16 ?_|fail)
          (first|refine Qr 17 ?_|refine Qs 17 ?_|refine Qxa 17 ?_|refine Qya 17 ?_|refine Qt 17 ?_|refine Qu 17 ?_|fail)
          refine SXA.idx 18 rfl (by decide +kernel) rfl rfl rfl rfl rfl rfl (by omega) (by omega) rfl inferInstance ?_
          refine SXA.same 86 (.pointer (some ⟨b, e.i.toNat * 9, none⟩)) rfl (by simp) ?_
          (first|refine Qr 19 ?_|refine Qs 19 ?_|refine Qxa 19 ?_|refine Qya 19 ?_|refine Qt 19 ?_|refine Qu 19 ?_|fail)
          (first|refine Qr 20 ?_|refine Qs 20 ?_|refine Qxa 20 ?_|refine Qya 20 ?_|refine Qt 20 ?_|refine Qu 20 ?_|fail)
          (first|refine Qr 21 ?_|refine Qs 21 ?_|refine Qxa 21 ?_|refine Qya 21 ?_|refine Qt 21 ?_|refine Qu 21 ?_|fail)
          (first|refine Qr 22 ?_|refine Qs 22 ?_|refine Qxa 22 ?_|refine Qya 22 ?_|refine Qt 22 ?_|refine Qu 22 ?_|fail)
          (first|refine Qr 23 ?_|refine Qs 23 ?_|refine Qxa 23 ?_|refine Qya 23 ?_|refine Qt 23 ?_|refine Qu 23 ?_|fail)
          (first|refine Qr 24 ?_|refine Qs 24 ?_|refine Qxa 24 ?_|refine Qya 24 ?_|refine Qt 24 ?_|refine Qu 24 ?_|fail)
          refine SXA.know 92 false rfl (by simpa using he3) ?_
          refine Qv ?_
          repeat (first|refine Qa ?_|refine Qb ?_|refine Qc ?_|refine Qd ?_|refine Qe ?_|refine Qf ?_|refine Qg ?_|refine Qh ?_|refine Qi ?_|refine Qj ?_|refine Qk ?_|refine Ql ?_|refine Qm ?_|refine Qn ?_|refine Qo ?_|refine Qp ?_|refine Qq ?_|fail)
          refine SXL.idx rfl rfl rfl rfl rfl (by omega) (by omega) rfl ?_
          refine SXL.same 96 (.pointer (some ⟨g, e.i.toNat, none⟩)) rfl (by simp) ?_
          refine SXL.loadAt rfl inferInstance rfl rfl (u32s_get (by rw [hLl]; omega)) rfl ?_
          repeat (first|refine Qa ?_|refine Qb ?_|refine Qc ?_|refine Qd ?_|refine Qe ?_|refine Qf ?_|refine Qg ?_|refine Qh ?_|refine Qi ?_|refine Qj ?_|refine Qk ?_|refine Ql ?_|refine Qm ?_|refine Qn ?_|refine Qo ?_|refine Qp ?_|refine Qq ?_|fail)
          refine SXL.idx rfl rfl rfl rfl rfl (by omega) (by omega) rfl ?_
          refine SXL.same 99 (.pointer (some ⟨g, e.i.toNat, none⟩)) rfl (by simp) ?_
          refine SXL.storeAt rfl rfl inferInstance rfl rfl rfl (by rw [u32s_len, hLl]; omega) ?_
          have e9 : (u32s (entsL (linksTo t.l k) ((entS s).take j))).set e.i.toNat (.int .u32 (IntKind.u32.wrap ((entsL (linksTo t.l k) ((entS s).take j)).getD e.i.toNat 0 + 1))) = u32s (entsL (linksTo t.l k) ((entS s).take (j + 1))) := by
            rw [u32s_set, entsL_take he]
            rfl
          rw [e9]
          repeat (first|refine Qa ?_|refine Qb ?_|refine Qc ?_|refine Qd ?_|refine Qe ?_|refine Qf ?_|refine Qg ?_|refine Qh ?_|refine Qi ?_|refine Qj ?_|refine Qk ?_|refine Ql ?_|refine Qm ?_|refine Qn ?_|refine Qo ?_|refine Qp ?_|refine Qq ?_|fail)
          refine SX.same 7 (.int .i64 ((j + 1 : Nat) : Int)) rfl (by simp (disch := omega) only [IntWalk.i64_in, IntWalk.u8_in, IntWalk.u32_in, IntWalk.u64_in, IntWalk.rem_in, Int.natCast_add, Int.natCast_one]) ?_
          refine SX.again (z2 - 1) (by omega) ⟨j + 1, by omega, rfl, rfl⟩ (by repeat (first | exact trivial | refine ⟨rfl, ?_⟩)) inferInstance
        · have hjl : j = (entS s).length := by omega
          rw [hjl, List.take_length, ← hls]
          repeat (first|refine Qa ?_|refine Qb ?_|refine Qc ?_|refine Qd ?_|refine Qe ?_|refine Qf ?_|refine Qg ?_|refine Qh ?_|refine Qi ?_|refine Qj ?_|refine Qk ?_|refine Ql ?_|refine Qm ?_|refine Qn ?_|refine Qo ?_|refine Qp ?_|refine Qq ?_|fail)
          refine SX.same 4 (.int .i64 ((k + 1 : Nat) : Int)) rfl (by simp (disch := omega) only [IntWalk.i64_in, IntWalk.u8_in, IntWalk.u32_in, IntWalk.u64_in, IntWalk.rem_in, Int.natCast_add, Int.natCast_one]) ?_
          refine SX.again (z - 1) (by omega) ⟨k + 1, by omega, rfl, rfl⟩ (by repeat (first | exact trivial | refine ⟨rfl, ?_⟩)) inferInstance
    · have hk24 : k = 24 := by omega
      rw [hk24]
      repeat (first|refine Qa ?_|refine Qb ?_|refine Qc ?_|refine Qd ?_|refine Qe ?_|refine Qf ?_|refine Qg ?_|refine Qh ?_|refine Qi ?_|refine Qj ?_|refine Qk ?_|refine Ql ?_|refine Qm ?_|refine Qn ?_|refine Qo ?_|refine Qp ?_|refine Qq ?_|fail)
      refine SX.loop (fun z a M => ∃ (k : Nat), k + z = 24 ∧ a = [(1, .pointer (some ⟨q, 0, none⟩)), (3, .slice (some ⟨g, 0, none⟩) 24 24), (9, .int .i64 k)] ∧ (.own (some ⟨q, 0, none⟩) (cellsR q [.slice (some ⟨b, 0, none⟩) 24 cap, .int .u64 t.ch, .int .i64 t.room] 27) :: .own (some ⟨g, 0, none⟩) (cellsR g (u32s (linksTo t.l 24)) 33) :: F) = M)
        24 ⟨0, by omega, rfl, rfl⟩ (by repeat (first | exact trivial | refine ⟨rfl, ?_⟩)) inferInstance ?_
      rintro z _ _ ⟨k, hz, rfl, rfl⟩
      repeat (first|refine Qa ?_|refine Qb ?_|refine Qc ?_|refine Qd ?_|refine Qe ?_|refine Qf ?_|refine Qg ?_|refine Qh ?_|refine Qi ?_|refine Qj ?_|refine Qk ?_|refine Ql ?_|refine Qm ?_|refine Qn ?_|refine Qo ?_|refine Qp ?_|refine Qq ?_|fail)
      refine SX.condp rfl (fun hi => ?_) (fun hi => ?_)
      · obtain ⟨s, hs⟩ : ∃ s, t.l[k]? = some s := ⟨_, List.getElem?_eq_getElem (by omega)⟩
        obtain ⟨x, hx⟩ : ∃ x, ps[k]? = some x := ⟨_, List.getElem?_eq_getElem (by omega)⟩
        haveI g1 : GetIs t.l k s := ⟨hs⟩
        haveI g2 : GetIs ps k x := ⟨hx⟩
        obtain ⟨hl0, hl1, hl2⟩ := hS.links k s hs
        have hLg := u32s_get (xs := linksTo t.l 24) (j := k) (by rw [linksTo_len]; omega)
        obtain ⟨qv, hq⟩ : ∃ qv, qv = (linksTo t.l 24).getD k 0 := ⟨_, rfl⟩
        rw [← hq] at hl0 hl1 hl2 hLg
        repeat (first|refine Qa ?_|refine Qb ?_|refine Qc ?_|refine Qd ?_|refine Qe ?_|refine Qf ?_|refine Qg ?_|refine Qh ?_|refine Qi ?_|refine Qj ?_|refine Qk ?_|refine Ql ?_|refine Qm ?_|refine Qn ?_|refine Qo ?_|refine Qp ?_|refine Qq ?_|fail)
        refine SXA.begin (.own (some ⟨q, 0, none⟩) (cellsR q [.slice (some ⟨b, 0, none⟩) 24 cap, .int .u64 t.ch, .int .i64 t.room] 27) :: .own (some ⟨g, 0, none⟩) (cellsR g (u32s (linksTo t.l 24)) 33) :: F) [] ?_
        (first|refine Qr 0 ?_|refine Qs 0 ?_|refine Qxa 0 ?_|refine Qya 0 ?_|refine Qt 0 ?_|refine Qu 0 ?_|fail)
        (first|refine Qr 1 ?_|refine Qs 1 ?_|refine Qxa 1 ?_|refine Qya 1 ?_|refine Qt 1 ?_|refine Qu 1 ?_|fail)
        (first|refine Qr 2 ?_|refine Qs 2 ?_|refine Qxa 2 ?_|refine Qya 2 ?_|refine Qt 2 ?_|refine Qu 2 ?_|fail)
        refine SXA.idx 3 rfl (by decide +kernel) rfl rfl rfl rfl rfl rfl (by omega) (by omega) rfl inferInstance ?_
        refine SXA.same 110 (.pointer (some ⟨b, k * 9, none⟩)) rfl (by simp) ?_
        (first|refine Qr 4 ?_|refine Qs 4 ?_|refine Qxa 4 ?_|refine Qya 4 ?_|refine Qt 4 ?_|refine Qu 4 ?_|fail)
        (first|refine Qr 5 ?_|refine Qs 5 ?_|refine Qxa 5 ?_|refine Qya 5 ?_|refine Qt 5 ?_|refine Qu 5 ?_|fail)
        (first|refine Qr 6 ?_|refine Qs 6 ?_|refine Qxa 6 ?_|refine Qya 6 ?_|refine Qt 6 ?_|refine Qu 6 ?_|fail)
        (first|refine Qr 7 ?_|refine Qs 7 ?_|refine Qxa 7 ?_|refine Qya 7 ?_|refine Qt 7 ?_|refine Qu 7 ?_|fail)
        by_cases hk0 : s.kind = 0
        · refine SXA.know 114 true rfl (by simp [hk0]) ?_
          (first|refine Qr 8 ?_|refine Qs 8 ?_|refine Qxa 8 ?_|refine Qya 8 ?_|refine Qt 8 ?_|refine Qu 8 ?_|fail)
          (first|refine Qr 9 ?_|refine Qs 9 ?_|refine Qxa 9 ?_|refine Qya 9 ?_|refine Qt 9 ?_|refine Qu 9 ?_|fail)
          refine SXA.idx 10 rfl (by decide +kernel) rfl rfl rfl rfl rfl rfl (by omega) (by omega) rfl inferInstance ?_
          refine SXA.same 117 (.pointer (some ⟨g, k, none⟩)) rfl (by simp) ?_
          refine SXA.loadAt 11 hLg ?_
          (first|refine Qr 12 ?_|refine Qs 12 ?_|refine Qxa 12 ?_|refine Qya 12 ?_|refine Qt 12 ?_|refine Qu 12 ?_|fail)
          (first|refine Qr 13 ?_|refine Qs 13 ?_|refine Qxa 13 ?_|refine Qya 13 ?_|refine Qt 13 ?_|refine Qu 13 ?_|fail)
          (first|refine Qr 14 ?_|refine Qs 14 ?_|refine Qxa 14 ?_|refine Qya 14 ?_|refine Qt 14 ?_|refine Qu 14 ?_|fail)
          refine SXA.know 121 false rfl (by simp [hl0 hk0]) ?_
          (first|refine Qr 15 ?_|refine Qs 15 ?_|refine Qxa 15 ?_|refine Qya 15 ?_|refine Qt 15 ?_|refine Qu 15 ?_|fail)
          (first|refine Qr 16 ?_|refine Qs 16 ?_|refine Qxa 16 ?_|refine Qya 16 ?_|refine Qt 16 ?_|refine Qu 16 ?_|fail)
          (first|refine Qr 17 ?_|refine Qs 17 ?_|refine Qxa 17 ?_|refine Qya 17 ?_|refine Qt 17 ?_|refine Qu 17 ?_|fail)
          refine SXA.idx 18 rfl (by decide +kernel) rfl rfl rfl rfl rfl rfl (by omega) (by omega) rfl inferInstance ?_
          refine SXA.same 125 (.pointer (some ⟨b, k * 9, none⟩)) rfl (by simp) ?_
          (first|refine Qr 19 ?_|refine Qs 19 ?_|refine Qxa 19 ?_|refine Qya 19 ?_|refine Qt 19 ?_|refine Qu 19 ?_|fail)
          (first|refine Qr 20 ?_|refine Qs 20 ?_|refine Qxa 20 ?_|refine Qya 20 ?_|refine Qt 20 ?_|refine Qu 20 ?_|fail)
          (first|refine Qr 21 ?_|refine Qs 21 ?_|refine Qxa 21 ?_|refine Qya 21 ?_|refine Qt 21 ?_|refine Qu 21 ?_|fail)
          (first|refine Qr 22 ?_|refine Qs 22 ?_|refine Qxa 22 ?_|refine Qya 22 ?_|refine Qt 22 ?_|refine Qu 22 ?_|fail)
          refine SXA.know 129 false rfl (by simp [hk0]) ?_
          (first|refine Qr 23 ?_|refine Qs 23 ?_|refine Qxa 23 ?_|refine Qya 23 ?_|refine Qt 23 ?_|refine Qu 23 ?_|fail)
          (first|refine Qr 24 ?_|refine Qs 24 ?_|refine Qxa 24 ?_|refine Qya 24 ?_|refine Qt 24 ?_|refine Qu 24 ?_|fail)
          (first|refine Qr 25 ?_|refine Qs 25 ?_|refine Qxa 25 ?_|refine Qya 25 ?_|refine Qt 25 ?_|refine Qu 25 ?_|fail)
          (first|refine Qr 26 ?_|refine Qs 26 ?_|refine Qxa 26 ?_|refine Qya 26 ?_|refine Qt 26 ?_|refine Qu 26 ?_|fail)
          (first|refine Qr 27 ?_|refine Qs 27 ?_|refine Qxa 27 ?_|refine Qya 27 ?_|refine Qt 27 ?_|refine Qu 27 ?_|fail)
          (first|refine Qr 28 ?_|refine Qs 28 ?_|refine Qxa 28 ?_|refine Qya 28 ?_|refine Qt 28 ?_|refine Qu 28 ?_|fail)
          (first|refine Qr 29 ?_|refine Qs 29 ?_|refine Qxa 29 ?_|refine Qya 29 ?_|refine Qt 29 ?_|refine Qu 29 ?_|fail)
          (first|refine Qr 30 ?_|refine Qs 30 ?_|refine Qxa 30 ?_|refine Qya 30 ?_|refine Qt 30 ?_|refine Qu 30 ?_|fail)
          (first|refine Qr 31 ?_|refine Qs 31 ?_|refine Qxa 31 ?_|refine Qya 31 ?_|refine Qt 31 ?_|refine Qu 31 ?_|fail)
          (first|refine Qr 32 ?_|refine Qs 32 ?_|refine Qxa 32 ?_|refine Qya 32 ?_|refine Qt 32 ?_|refine Qu 32 ?_|fail)
          (first|refine Qr 33 ?_|refine Qs 33 ?_|refine Qxa 33 ?_|refine Qya 33 ?_|refine Qt 33 ?_|refine Qu 33 ?_|fail)
          (first|refine Qr 34 ?_|refine Qs 34 ?_|refine Qxa 34 ?_|refine Qya 34 ?_|refine Qt 34 ?_|refine Qu 34 ?_|fail)
          (first|refine Qr 35 ?_|refine Qs 35 ?_|refine Qxa 35 ?_|refine Qya 35 ?_|refine Qt 35 ?_|refine Qu 35 ?_|fail)
          (first|refine Qr 36 ?_|refine Qs 36 ?_|refine Qxa 36 ?_|refine Qya 36 ?_|refine Qt 36 ?_|refine Qu 36 ?_|fail)
          refine SXA.know 143 false rfl (rfl) ?_
          (first|refine Qr 37 ?_|refine Qs 37 ?_|refine Qxa 37 ?_|refine Qya 37 ?_|refine Qt 37 ?_|refine Qu 37 ?_|fail)
          (first|refine Qr 38 ?_|refine Qs 38 ?_|refine Qxa 38 ?_|refine Qya 38 ?_|refine Qt 38 ?_|refine Qu 38 ?_|fail)
          (first|refine Qr 39 ?_|refine Qs 39 ?_|refine Qxa 39 ?_|refine Qya 39 ?_|refine Qt 39 ?_|refine Qu 39 ?_|fail)
          refine SXA.idx 40 rfl (by decide +kernel) rfl rfl rfl rfl rfl rfl (by omega) (by omega) rfl inferInstance ?_
          refine SXA.same 147 (.pointer (some ⟨b, k * 9, none⟩)) rfl (by simp) ?_
          (first|refine Qr 41 ?_|refine Qs 41 ?_|refine Qxa 41 ?_|refine Qya 41 ?_|refine Qt 41 ?_|refine Qu 41 ?_|fail)
          (first|refine Qr 42 ?_|refine Qs 42 ?_|refine Qxa 42 ?_|refine Qya 42 ?_|refine Qt 42 ?_|refine Qu 42 ?_|fail)
          (first|refine Qr 43 ?_|refine Qs 43 ?_|refine Qxa 43 ?_|refine Qya 43 ?_|refine Qt 43 ?_|refine Qu 43 ?_|fail)
          (first|refine Qr 44 ?_|refine Qs 44 ?_|refine Qxa 44 ?_|refine Qya 44 ?_|refine Qt 44 ?_|refine Qu 44 ?_|fail)
          refine SXA.know 151 false rfl (by simp [hk0]) ?_
          (first|refine Qr 45 ?_|refine Qs 45 ?_|refine Qxa 45 ?_|refine Qya 45 ?_|refine Qt 45 ?_|refine Qu 45 ?_|fail)
          (first|refine Qr 46 ?_|refine Qs 46 ?_|refine Qxa 46 ?_|refine Qya 46 ?_|refine Qt 46 ?_|refine Qu 46 ?_|fail)
          (first|refine Qr 47 ?_|refine Qs 47 ?_|refine Qxa 47 ?_|refine Qya 47 ?_|refine Qt 47 ?_|refine Qu 47 ?_|fail)
          (first|refine Qr 48 ?_|refine Qs 48 ?_|refine Qxa 48 ?_|refine Qya 48 ?_|refine Qt 48 ?_|refine Qu 48 ?_|fail)
          (first|refine Qr 49 ?_|refine Qs 49 ?_|refine Qxa 49 ?_|refine Qya 49 ?_|refine Qt 49 ?_|refine Qu 49 ?_|fail)
          (first|refine Qr 50 ?_|refine Qs 50 ?_|refine Qxa 50 ?_|refine Qya 50 ?_|refine Qt 50 ?_|refine Qu 50 ?_|fail)
          (first|refine Qr 51 ?_|refine Qs 51 ?_|refine Qxa 51 ?_|refine Qya 51 ?_|refine Qt 51 ?_|refine Qu 51 ?_|fail)
          refine Qv ?_
          refine SX.know 158 false rfl (rfl) ?_
          repeat (first|refine Qa ?_|refine Qb ?_|refine Qc ?_|refine Qd ?_|refine Qe ?_|refine Qf ?_|refine Qg ?_|refine Qh ?_|refine Qi ?_|refine Qj ?_|refine Qk ?_|refine Ql ?_|refine Qm ?_|refine Qn ?_|refine Qo ?_|refine Qp ?_|refine Qq ?_|fail)
          refine SX.same 9 (.int .i64 ((k + 1 : Nat) : Int)) rfl (by simp (disch := omega) only [IntWalk.i64_in, IntWalk.u8_in, IntWalk.u32_in, IntWalk.u64_in, IntWalk.rem_in, Int.natCast_add, Int.natCast_one]) ?_
          refine SX.again (z - 1) (by omega) ⟨k + 1, by omega, rfl, rfl⟩ (by repeat (first | exact trivial | refine ⟨rfl, ?_⟩)) inferInstance
        refine SXA.know 114 false rfl (by simpa using hk0) ?_
        by_cases hk2 : s.kind = 2
        · skip
          (first|refine Qr 8 ?_|refine Qs 8 ?_|refine Qxa 8 ?_|refine Qya 8 ?_|refine Qt 8 ?_|refine Qu 8 ?_|fail)
          (first|refine Qr 9 ?_|refine Qs 9 ?_|refine Qxa 9 ?_|refine Qya 9 ?_|refine Qt 9 ?_|refine Qu 9 ?_|fail)
          (first|refine Qr 10 ?_|refine Qs 10 ?_|refine Qxa 10 ?_|refine Qya 10 ?_|refine Qt 10 ?_|refine Qu 10 ?_|fail)
          (first|refine Qr 11 ?_|refine Qs 11 ?_|refine Qxa 11 ?_|refine Qya 11 ?_|refine Qt 11 ?_|refine Qu 11 ?_|fail)
          (first|refine Qr 12 ?_|refine Qs 12 ?_|refine Qxa 12 ?_|refine Qya 12 ?_|refine Qt 12 ?_|refine Qu 12 ?_|fail)
          (first|refine Qr 13 ?_|refine Qs 13 ?_|refine Qxa 13 ?_|refine Qya 13 ?_|refine Qt 13 ?_|refine Qu 13 ?_|fail)
          (first|refine Qr 14 ?_|refine Qs 14 ?_|refine Qxa 14 ?_|refine Qya 14 ?_|refine Qt 14 ?_|refine Qu 14 ?_|fail)
          refine SXA.know 121 false rfl (rfl) ?_
          (first|refine Qr 15 ?_|refine Qs 15 ?_|refine Qxa 15 ?_|refine Qya 15 ?_|refine Qt 15 ?_|refine Qu 15 ?_|fail)
          (first|refine Qr 16 ?_|refine Qs 16 ?_|refine Qxa 16 ?_|refine Qya 16 ?_|refine Qt 16 ?_|refine Qu 16 ?_|fail)
          (first|refine Qr 17 ?_|refine Qs 17 ?_|refine Qxa 17 ?_|refine Qya 17 ?_|refine Qt 17 ?_|refine Qu 17 ?_|fail)
          refine SXA.idx 18 rfl (by decide +kernel) rfl rfl rfl rfl rfl rfl (by omega) (by omega) rfl inferInstance ?_
          refine SXA.same 125 (.pointer (some ⟨b, k * 9, none⟩)) rfl (by simp) ?_
          (first|refine Qr 19 ?_|refine Qs 19 ?_|refine Qxa 19 ?_|refine Qya 19 ?_|refine Qt 19 ?_|refine Qu 19 ?_|fail)
          (first|refine Qr 20 ?_|refine Qs 20 ?_|refine Qxa 20 ?_|refine Qya 20 ?_|refine Qt 20 ?_|refine Qu 20 ?_|fail)
          (first|refine Qr 21 ?_|refine Qs 21 ?_|refine Qxa 21 ?_|refine Qya 21 ?_|refine Qt 21 ?_|refine Qu 21 ?_|fail)
          (first|refine Qr 22 ?_|refine Qs 22 ?_|refine Qxa 22 ?_|refine Qya 22 ?_|refine Qt 22 ?_|refine Qu 22 ?_|fail)
          refine SXA.know 129 true rfl (by simpa using hk0) ?_
          (first|refine Qr 23 ?_|refine Qs 23 ?_|refine Qxa 23 ?_|refine Qya 23 ?_|refine Qt 23 ?_|refine Qu 23 ?_|fail)
          (first|refine Qr 24 ?_|refine Qs 24 ?_|refine Qxa 24 ?_|refine Qya 24 ?_|refine Qt 24 ?_|refine Qu 24 ?_|fail)
          refine SXA.idx 25 rfl (by decide +kernel) rfl rfl rfl rfl rfl rfl (by omega) (by omega) rfl inferInstance ?_
          refine SXA.same 132 (.pointer (some ⟨g, k, none⟩)) rfl (by simp) ?_
          refine SXA.loadAt 26 hLg ?_
          (first|refine Qr 27 ?_|refine Qs 27 ?_|refine Qxa 27 ?_|refine Qya 27 ?_|refine Qt 27 ?_|refine Qu 27 ?_|fail)
          (first|refine Qr 28 ?_|refine Qs 28 ?_|refine Qxa 28 ?_|refine Qya 28 ?_|refine Qt 28 ?_|refine Qu 28 ?_|fail)
          (first|refine Qr 29 ?_|refine Qs 29 ?_|refine Qxa 29 ?_|refine Qya 29 ?_|refine Qt 29 ?_|refine Qu 29 ?_|fail)
          refine SXA.idx 30 rfl (by decide +kernel) rfl rfl rfl rfl rfl rfl (by omega) (by omega) rfl inferInstance ?_
          refine SXA.same 137 (.pointer (some ⟨b, k * 9, none⟩)) rfl (by simp) ?_
          (first|refine Qr 31 ?_|refine Qs 31 ?_|refine Qxa 31 ?_|refine Qya 31 ?_|refine Qt 31 ?_|refine Qu 31 ?_|fail)
          (first|refine Qr 32 ?_|refine Qs 32 ?_|refine Qxa 32 ?_|refine Qya 32 ?_|refine Qt 32 ?_|refine Qu 32 ?_|fail)
          (first|refine Qr 33 ?_|refine Qs 33 ?_|refine Qxa 33 ?_|refine Qya 33 ?_|refine Qt 33 ?_|refine Qu 33 ?_|fail)
          (first|refine Qr 34 ?_|refine Qs 34 ?_|refine Qxa 34 ?_|refine Qya 34 ?_|refine Qt 34 ?_|refine Qu 34 ?_|fail)
          (first|refine Qr 35 ?_|refine Qs 35 ?_|refine Qxa 35 ?_|refine Qya 35 ?_|refine Qt 35 ?_|refine Qu 35 ?_|fail)
          (first|refine Qr 36 ?_|refine Qs 36 ?_|refine Qxa 36 ?_|refine Qya 36 ?_|refine Qt 36 ?_|refine Qu 36 ?_|fail)
          refine SXA.know 143 false rfl (by simp [hl1 hk0]) ?_
          (first|refine Qr 37 ?_|refine Qs 37 ?_|refine Qxa 37 ?_|refine Qya 37 ?_|refine Qt 37 ?_|refine Qu 37 ?_|fail)
          (first|refine Qr 38 ?_|refine Qs 38 ?_|refine Qxa 38 ?_|refine Qya 38 ?_|refine Qt 38 ?_|refine Qu 38 ?_|fail)
          (first|refine Qr 39 ?_|refine Qs 39 ?_|refine Qxa 39 ?_|refine Qya 39 ?_|refine Qt 39 ?_|refine Qu 39 ?_|fail)
          refine SXA.idx 40 rfl (by decide +kernel) rfl rfl rfl rfl rfl rfl (by omega) (by omega) rfl inferInstance ?_
          refine SXA.same 147 (.pointer (some ⟨b, k * 9, none⟩)) rfl (by simp) ?_
          (first|refine Qr 41 ?_|refine Qs 41 ?_|refine Qxa 41 ?_|refine Qya 41 ?_|refine Qt 41 ?_|refine Qu 41 ?_|fail)
          (first|refine Qr 42 ?_|refine Qs 42 ?_|refine Qxa 42 ?_|refine Qya 42 ?_|refine Qt 42 ?_|refine Qu 42 ?_|fail)
          (first|refine Qr 43 ?_|refine Qs 43 ?_|refine Qxa 43 ?_|refine Qya 43 ?_|refine Qt 43 ?_|refine Qu 43 ?_|fail)
          (first|refine Qr 44 ?_|refine Qs 44 ?_|refine Qxa 44 ?_|refine Qya 44 ?_|refine Qt 44 ?_|refine Qu 44 ?_|fail)
          refine SXA.know 151 true rfl (by simp [hk2]) ?_
          (first|refine Qr 45 ?_|refine Qs 45 ?_|refine Qxa 45 ?_|refine Qya 45 ?_|refine Qt 45 ?_|refine Qu 45 ?_|fail)
          (first|refine Qr 46 ?_|refine Qs 46 ?_|refine Qxa 46 ?_|refine Qya 46 ?_|refine Qt 46 ?_|refine Qu 46 ?_|fail)
          refine SXA.idx 47 rfl (by decide +kernel) rfl rfl rfl rfl rfl rfl (by omega) (by omega) rfl inferInstance ?_
          refine SXA.same 154 (.pointer (some ⟨g, k, none⟩)) rfl (by simp) ?_
          refine SXA.loadAt 48 hLg ?_
          (first|refine Qr 49 ?_|refine Qs 49 ?_|refine Qxa 49 ?_|refine Qya 49 ?_|refine Qt 49 ?_|refine Qu 49 ?_|fail)
          (first|refine Qr 50 ?_|refine Qs 50 ?_|refine Qxa 50 ?_|refine Qya 50 ?_|refine Qt 50 ?_|refine Qu 50 ?_|fail)
          (first|refine Qr 51 ?_|refine Qs 51 ?_|refine Qxa 51 ?_|refine Qya 51 ?_|refine Qt 51 ?_|refine Qu 51 ?_|fail)
          refine Qv ?_
          refine SX.know 158 false rfl (by simp [hl2 hk2]) ?_
          repeat (first|refine Qa ?_|refine Qb ?_|refine Qc ?_|refine Qd ?_|refine Qe ?_|refine Qf ?_|refine Qg ?_|refine Qh ?_|refine Qi ?_|refine Qj ?_|refine Qk ?_|refine Ql ?_|refine Qm ?_|refine Qn ?_|refine Qo ?_|refine Qp ?_|refine Qq ?_|fail)
          refine SX.same 9 (.int .i64 ((k + 1 : Nat) : Int)) rfl (by simp (disch := omega) only [IntWalk.i64_in, IntWalk.u8_in, IntWalk.u32_in, IntWalk.u64_in, IntWalk.rem_in, Int.natCast_add, Int.natCast_one]) ?_
          refine SX.again (z - 1) (by omega) ⟨k + 1, by omega, rfl, rfl⟩ (by repeat (first | exact trivial | refine ⟨rfl, ?_⟩)) inferInstance
        (first|refine Qr 8 ?_|refine Qs 8 ?_|refine Qxa 8 ?_|refine Qya 8 ?_|refine Qt 8 ?_|refine Qu 8 ?_|fail)
        (first|refine Qr 9 ?_|refine Qs 9 ?_|refine Qxa 9 ?_|refine Qya 9 ?_|refine Qt 9 ?_|refine Qu 9 ?_|fail)
        (first|refine Qr 10 ?_|refine Qs 10 ?_|refine Qxa 10 ?_|refine Qya 10 ?_|refine Qt 10 ?_|refine Qu 10 ?_|fail)
        (first|refine Qr 11 ?_|refine Qs 11 ?_|refine Qxa 11 ?_|refine Qya 11 ?_|refine Qt 11 ?_|refine Qu 11 ?_|fail)
        (first|refine Qr 12 ?_|refine Qs 12 ?_|refine Qxa 12 ?_|refine Qya 12 ?_|refine Qt 12 ?_|refine Qu 12 ?_|fail)
        (first|refine Qr 13 ?_|refine Qs 13 ?_|refine Qxa 13 ?_|refine Qya 13 ?_|refine Qt 13 ?_|refine Qu 13 ?_|fail)
        (first|refine Qr 14 ?_|refine Qs 14 ?_|refine Qxa 14 ?_|refine Qya 14 ?_|refine Qt 14 ?_|refine Qu 14 ?_|fail)
        refine SXA.know 121 false rfl (rfl) ?_
        (first|refine Qr 15 ?_|refine Qs 15 ?_|refine Qxa 15 ?_|refine Qya 15 ?_|refine Qt 15 ?_|refine Qu 15 ?_|fail)
        (first|refine Qr 16 ?_|refine Qs 16 ?_|refine Qxa 16 ?_|refine Qya 16 ?_|refine Qt 16 ?_|refine Qu 16 ?_|fail)
        (first|refine Qr 17 ?_|refine Qs 17 ?_|refine Qxa 17 ?_|refine Qya 17 ?_|refine Qt 17 ?_|refine Qu 17 ?_|fail)
        refine SXA.idx 18 rfl (by decide +kernel) rfl rfl rfl rfl rfl rfl (by omega) (by omega) rfl inferInstance ?_
        refine SXA.same 125 (.pointer (some ⟨b, k * 9, none⟩)) rfl (by simp) ?_
        (first|refine Qr 19 ?_|refine Qs 19 ?_|refine Qxa 19 ?_|refine Qya 19 ?_|refine Qt 19 ?_|refine Qu 19 ?_|fail)
        (first|refine Qr 20 ?_|refine Qs 20 ?_|refine Qxa 20 ?_|refine Qya 20 ?_|refine Qt 20 ?_|refine Qu 20 ?_|fail)
        (first|refine Qr 21 ?_|refine Qs 21 ?_|refine Qxa 21 ?_|refine Qya 21 ?_|refine Qt 21 ?_|refine Qu 21 ?_|fail)
        (first|refine Qr 22 ?_|refine Qs 22 ?_|refine Qxa 22 ?_|refine Qya 22 ?_|refine Qt 22 ?_|refine Qu 22 ?_|fail)
        refine SXA.know 129 true rfl (by simpa using hk0) ?_
        (first|refine Qr 23 ?_|refine Qs 23 ?_|refine Qxa 23 ?_|refine Qya 23 ?_|refine Qt 23 ?_|refine Qu 23 ?_|fail)
        (first|refine Qr 24 ?_|refine Qs 24 ?_|refine Qxa 24 ?_|refine Qya 24 ?_|refine Qt 24 ?_|refine Qu 24 ?_|fail)
        refine SXA.idx 25 rfl (by decide +kernel) rfl rfl rfl rfl rfl rfl (by omega) (by omega) rfl inferInstance ?_
        refine SXA.same 132 (.pointer (some ⟨g, k, none⟩)) rfl (by simp) ?_
        refine SXA.loadAt 26 hLg ?_
        (first|refine Qr 27 ?_|refine Qs 27 ?_|refine Qxa 27 ?_|refine Qya 27 ?_|refine Qt 27 ?_|refine Qu 27 ?_|fail)
        (first|refine Qr 28 ?_|refine Qs 28 ?_|refine Qxa 28 ?_|refine Qya 28 ?_|refine Qt 28 ?_|refine Qu 28 ?_|fail)
        (first|refine Qr 29 ?_|refine Qs 29 ?_|refine Qxa 29 ?_|refine Qya 29 ?_|refine Qt 29 ?_|refine Qu 29 ?_|fail)
        refine SXA.idx 30 rfl (by decide +kernel) rfl rfl rfl rfl rfl rfl (by omega) (by omega) rfl inferInstance ?_
        refine SXA.same 137 (.pointer (some ⟨b, k * 9, none⟩)) rfl (by simp) ?_
        (first|refine Qr 31 ?_|refine Qs 31 ?_|refine Qxa 31 ?_|refine Qya 31 ?_|refine Qt 31 ?_|refine Qu 31 ?_|fail)
        (first|refine Qr 32 ?_|refine Qs 32 ?_|refine Qxa 32 ?_|refine Qya 32 ?_|refine Qt 32 ?_|refine Qu 32 ?_|fail)
        (first|refine Qr 33 ?_|refine Qs 33 ?_|refine Qxa 33 ?_|refine Qya 33 ?_|refine Qt 33 ?_|refine Qu 33 ?_|fail)
        (first|refine Qr 34 ?_|refine Qs 34 ?_|refine Qxa 34 ?_|refine Qya 34 ?_|refine Qt 34 ?_|refine Qu 34 ?_|fail)
        (first|refine Qr 35 ?_|refine Qs 35 ?_|refine Qxa 35 ?_|refine Qya 35 ?_|refine Qt 35 ?_|refine Qu 35 ?_|fail)
        (first|refine Qr 36 ?_|refine Qs 36 ?_|refine Qxa 36 ?_|refine Qya 36 ?_|refine Qt 36 ?_|refine Qu 36 ?_|fail)
        refine SXA.know 143 false rfl (by simp [hl1 hk0]) ?_
        (first|refine Qr 37 ?_|refine Qs 37 ?_|refine Qxa 37 ?_|refine Qya 37 ?_|refine Qt 37 ?_|refine Qu 37 ?_|fail)
        (first|refine Qr 38 ?_|refine Qs 38 ?_|refine Qxa 38 ?_|refine Qya 38 ?_|refine Qt 38 ?_|refine Qu 38 ?_|fail)
        (first|refine Qr 39 ?_|refine Qs 39 ?_|refine Qxa 39 ?_|refine Qya 39 ?_|refine Qt 39 ?_|refine Qu 39 ?_|fail)
        refine SXA.idx 40 rfl (by decide +kernel) rfl rfl rfl rfl rfl rfl (by omega) (by omega) rfl inferInstance ?_
        refine SXA.same 147 (.pointer (some ⟨b, k * 9, none⟩)) rfl (by simp) ?_
        (first|refine Qr 41 ?_|refine Qs 41 ?_|refine Qxa 41 ?_|refine Qya 41 ?_|refine Qt 41 ?_|refine Qu 41 ?_|fail)
        (first|refine Qr 42 ?_|refine Qs 42 ?_|refine Qxa 42 ?_|refine Qya 42 ?_|refine Qt 42 ?_|refine Qu 42 ?_|fail)
        (first|refine Qr 43 ?_|refine Qs 43 ?_|refine Qxa 43 ?_|refine Qya 43 ?_|refine Qt 43 ?_|refine Qu 43 ?_|fail)
        (first|refine Qr 44 ?_|refine Qs 44 ?_|refine Qxa 44 ?_|refine Qya 44 ?_|refine Qt 44 ?_|refine Qu 44 ?_|fail)
        refine SXA.know 151 false rfl (by simpa using hk2) ?_
        (first|refine Qr 45 ?_|refine Qs 45 ?_|refine Qxa 45 ?_|refine Qya 45 ?_|refine Qt 45 ?_|refine Qu 45 ?_|fail)
        (first|refine Qr 46 ?_|refine Qs 46 ?_|refine Qxa 46 ?_|refine Qya 46 ?_|refine Qt 46 ?_|refine Qu 46 ?_|fail)
        (first|refine Qr 47 ?_|refine Qs 47 ?_|refine Qxa 47 ?_|refine Qya 47 ?_|refine Qt 47 ?_|refine Qu 47 ?_|fail)
        (first|refine Qr 48 ?_|refine Qs 48 ?_|refine Qxa 48 ?_|refine Qya 48 ?_|refine Qt 48 ?_|refine Qu 48 ?_|fail)
        (first|refine Qr 49 ?_|refine Qs 49 ?_|refine Qxa 49 ?_|refine Qya 49 ?_|refine Qt 49 ?_|refine Qu 49 ?_|fail)
        (first|refine Qr 50 ?_|refine Qs 50 ?_|refine Qxa 50 ?_|refine Qya 50 ?_|refine Qt 50 ?_|refine Qu 50 ?_|fail)
        (first|refine Qr 51 ?_|refine Qs 51 ?_|refine Qxa 51 ?_|refine Qya 51 ?_|refine Qt 51 ?_|refine Qu 51 ?_|fail)
        refine Qv ?_
        refine SX.know 158 false rfl (rfl) ?_
        repeat (first|refine Qa ?_|refine Qb ?_|refine Qc ?_|refine Qd ?_|refine Qe ?_|refine Qf ?_|refine Qg ?_|refine Qh ?_|refine Qi ?_|refine Qj ?_|refine Qk ?_|refine Ql ?_|refine Qm ?_|refine Qn ?_|refine Qo ?_|refine Qp ?_|refine Qq ?_|fail)
        refine SX.same 9 (.int .i64 ((k + 1 : Nat) : Int)) rfl (by simp (disch := omega) only [IntWalk.i64_in, IntWalk.u8_in, IntWalk.u32_in, IntWalk.u64_in, IntWalk.rem_in, Int.natCast_add, Int.natCast_one]) ?_
        refine SX.again (z - 1) (by omega) ⟨k + 1, by omega, rfl, rfl⟩ (by repeat (first | exact trivial | refine ⟨rfl, ?_⟩)) inferInstance
      · have hk24 : k = 24 := by omega
        repeat (first|refine Qa ?_|refine Qb ?_|refine Qc ?_|refine Qd ?_|refine Qe ?_|refine Qf ?_|refine Qg ?_|refine Qh ?_|refine Qi ?_|refine Qj ?_|refine Qk ?_|refine Ql ?_|refine Qm ?_|refine Qn ?_|refine Qo ?_|refine Qp ?_|refine Qq ?_|fail)
        refine SXA.begin (.own (some ⟨q, 0, none⟩) (cellsR q [.slice (some ⟨b, 0, none⟩) 24 cap, .int .u64 t.ch, .int .i64 t.room] 27) :: .own (some ⟨g, 0, none⟩) (cellsR g (u32s (linksTo t.l 24)) 33) :: F) [] ?_
        (first|refine Qr 0 ?_|refine Qs 0 ?_|refine Qxa 0 ?_|refine Qya 0 ?_|refine Qt 0 ?_|refine Qu 0 ?_|fail)
        (first|refine Qr 1 ?_|refine Qs 1 ?_|refine Qxa 1 ?_|refine Qya 1 ?_|refine Qt 1 ?_|refine Qu 1 ?_|fail)
        (first|refine Qr 2 ?_|refine Qs 2 ?_|refine Qxa 2 ?_|refine Qya 2 ?_|refine Qt 2 ?_|refine Qu 2 ?_|fail)
        (first|refine Qr 3 ?_|refine Qs 3 ?_|refine Qxa 3 ?_|refine Qya 3 ?_|refine Qt 3 ?_|refine Qu 3 ?_|fail)
        (first|refine Qr 4 ?_|refine Qs 4 ?_|refine Qxa 4 ?_|refine Qya 4 ?_|refine Qt 4 ?_|refine Qu 4 ?_|fail)
        (first|refine Qr 5 ?_|refine Qs 5 ?_|refine Qxa 5 ?_|refine Qya 5 ?_|refine Qt 5 ?_|refine Qu 5 ?_|fail)
        (first|refine Qr 7 ?_|refine Qs 7 ?_|refine Qxa 7 ?_|refine Qya 7 ?_|refine Qt 7 ?_|refine Qu 7 ?_|fail)
        (first|refine Qr 8 ?_|refine Qs 8 ?_|refine Qxa 8 ?_|refine Qya 8 ?_|refine Qt 8 ?_|refine Qu 8 ?_|fail)
        refine Qw 6 ?_
        refine Qm ?_
        refine SXL.call rfl rfl rfl ?_
        refine (Used_P (ts := t.l) (ps := ps) inferInstance hn hps hcap hm.m (callK.ret ?_))
        refine SXL.nil (SXA.next inferInstance ?_)
        (first|refine Qr 9 ?_|refine Qs 9 ?_|refine Qxa 9 ?_|refine Qya 9 ?_|refine Qt 9 ?_|refine Qu 9 ?_|fail)
        (first|refine Qr 10 ?_|refine Qs 10 ?_|refine Qxa 10 ?_|refine Qya 10 ?_|refine Qt 10 ?_|refine Qu 10 ?_|fail)
        (first|refine Qr 11 ?_|refine Qs 11 ?_|refine Qxa 11 ?_|refine Qya 11 ?_|refine Qt 11 ?_|refine Qu 11 ?_|fail)
        refine Qv ?_
        refine SX.same 2 (.bool true) rfl (by rw [decide_eq_true hS.room]) ?_
        repeat (first|refine Qa ?_|refine Qb ?_|refine Qc ?_|refine Qd ?_|refine Qe ?_|refine Qf ?_|refine Qg ?_|refine Qh ?_|refine Qi ?_|refine Qj ?_|refine Qk ?_|refine Ql ?_|refine Qm ?_|refine Qn ?_|refine Qo ?_|refine Qp ?_|refine Qq ?_|fail)
        refine SX.ret (M' := F) rfl (Evals.tmp rfl Evals.nil) ?_ inferInstance
        exact h
end
end Go.Proofs.YtanemmcddgkpdaaGreat.Sx
