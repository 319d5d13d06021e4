/- Part N2 of the lemmas and walks of the Go functions that these statements reach; conditions: those that each theorem names. -/
import Derived.Test.YtanemmcddgkpdaaGreatJN1
import Derived.Test.YtanemmcddgkpdaaGreatJZ1
import Derived.Test.YtanemmcddgkpdaaGreatJU
import Derived.Test.YtanemmcddgkpdaaGreatJV6
section
/- Chapter 13: things in memory: a row of structs whose data are rows that stay; conditions: those that each theorem names. -/
namespace Go.Proofs.YtanemmcddgkpdaaGreat.Sx
open Go.RowKit Go.Proofs.YtanemmcddgkpdaaGreat.Hm Go.Proofs.YtanemmcddgkpdaaGreatW.PrintWords Go.Proofs.YtanemmcddgkpdaaGreatW.PrintLast Go.Proofs.YtanemmcddgkpdaaGreatW.PrintMore
set_option linter.unusedVariables false
set_option linter.unusedSimpArgs false
attribute [local irreducible] SX SXL SXA St callK Post Evals
/-- Where a thing's data lie. -/
abbrev Pl := Option Addr × Nat
def slX (s : Sl) (x : Pl) : CellsN 9 := ⟨slC s x.1 x.2, rfl, slC_one s x.1 x.2⟩
def slZ (ts : List Sl) (ps : List Pl) : List (CellsN 9) := List.zipWith slX ts ps
theorem slZ_len {ts : List Sl} {ps : List Pl} (h : ps.length = ts.length) : (slZ ts ps).length = ts.length := by simp [slZ, h]
theorem slZ_get {ts : List Sl} {ps : List Pl} {j : Nat} {s : Sl} {x : Pl} (h1 : ts[j]? = some s) (h2 : ps[j]? = some x) : (slZ ts ps)[j]? = some (slX s x) := by
  unfold slZ
  rw [List.getElem?_zipWith, h1, h2]
theorem slZ_set {ts : List Sl} {ps : List Pl} {j : Nat} {s : Sl} {x : Pl} : (slZ ts ps).set j (slX s x) = slZ (ts.set j s) (ps.set j x) := by
  unfold slZ
  apply List.ext_getElem?
  intro i
  rw [List.getElem?_set, List.getElem?_zipWith, List.getElem?_zipWith, List.getElem?_set, List.getElem?_set]
  by_cases hij : j = i
  · subst hij
    simp only [if_true, List.length_zipWith]
    by_cases h1 : j < ts.length <;> by_cases h2 : j < ps.length <;> simp [h1, h2] <;> omega
  · simp [hij]
/-- What things' cells lead to. -/
def datR (ts : List Sl) (ps : List Pl) : Res where
  P := fun w S => ps.length = ts.length ∧ ∀ (j : Nat) (s : Sl) (x : Pl), ts[j]? = some s → ps[j]? = some x → s.d.length ≤ x.2 ∧ (roR (Kd.int .u8) x.1 s.d).P w S
  mono := fun h hs => ⟨h.1, fun j s x h1 h2 => ⟨(h.2 j s x h1 h2).1, (roR (Kd.int .u8) x.1 s.d).mono (h.2 j s x h1 h2).2 hs⟩⟩
  loc := fun h he hs => ⟨h.1, fun j s x h1 h2 => ⟨(h.2 j s x h1 h2).1, (roR (Kd.int .u8) x.1 s.d).loc (h.2 j s x h1 h2).2 he hs⟩⟩
end Go.Proofs.YtanemmcddgkpdaaGreat.Sx
end
section
/- Chapter 13: an op under way: need, thing, walked; conditions: those that each theorem names. -/
namespace Go.Proofs.YtanemmcddgkpdaaGreat.Sx
open Go.RowKit Go.Proofs.YtanemmcddgkpdaaGreat.Hm Go.Proofs.YtanemmcddgkpdaaGreatW.PrintWords Go.Proofs.YtanemmcddgkpdaaGreatW.PrintLast Go.Proofs.YtanemmcddgkpdaaGreatW.PrintMore
set_option linter.unusedVariables false
set_option linter.unusedSimpArgs false
attribute [local irreducible] SX SXL SXA St callK Post Evals
/-- How an op ends with an error. -/
def failP (e : Int) : List PanicEntry := [{ v := .iface 103 (.agg #[.int .i64 e]), recovered := false }]
section
variable {F R : List Thing} {K : Ending → List Thing → Prop} {i g : Int} {b pw cap : Nat}
theorem need_S {is : Bool} {e : Int} {F' : List Thing} (hS : Sub F F') (h1 : is = true → K (.returned (.tuple #[])) F) (h2 : is = false → K (.panicked (failP e)) F') : Fn (Tryz.prog) 71 [.bool is, .int .i64 e] F K := by
  refine Fn.enter Tryz.call71 Tryz.func71 rfl rfl rfl ?_
  repeat (first|refine Qa ?_|refine Qd ?_|refine Qe ?_|refine Qf ?_|fail)
  refine SX.cond rfl (fun hn => ?_) (fun hn => ?_)
  · have hf : is = false := by simpa using hn
    repeat (first|refine Qa ?_|refine Qe ?_|fail)
    refine SXL.mkIface rfl rfl rfl rfl ?_
    refine SXL.panicOp rfl (h2 hf) hS
  · have hf : is = true := by simpa using hn
    repeat (first|refine Qg ?_|fail)
    refine SX.fin (M' := F) rfl Evals.nil ?_ inferInstance
    exact h1 hf
end
/-- An op under way: things, the call, the reply. -/
abbrev wkC (B : Option Addr) (n cap : Nat) (ch room : Int) (c : Ca) (Ac : Option Addr) (cc : Nat) (r : Re) (Ad : Option Addr) (cd : Nat) (Ae : Option Addr) (ce : Nat) : List Value := [.slice B n cap, .int .u64 ch, .int .i64 room,
  .int .u32 c.client, .int .u32 c.xid, .int .u32 c.op, .int .u32 c.ai, .int .u32 c.ag, .string c.name, .int .u32 c.ti, .int .u32 c.tg, .string c.toName, .int .u64 c.off, .int .u64 c.verf, .int .u32 c.cnt, .int .u32 c.mode, .slice Ac c.d.length cc,
  .int .u32 r.client, .int .u32 r.xid, .int .i64 r.st, .int .u32 r.ai, .int .u32 r.ag, .int .u32 r.ak, .int .u32 r.am, .int .u32 r.al, .int .u32 r.sz, .int .u64 r.ac, .slice Ad r.d.length cd, .slice Ae r.e.length ce, .bool r.eof, .int .u64 r.verf, .int .u32 r.free]
instance GetIs.slZ {ts : List Sl} {ps : List Pl} {j : Nat} {s : Sl} {x : Pl} [h1 : GetIs ts j s] [h2 : GetIs ps j x] : GetIs (slZ ts ps) j (slX s x) := ⟨slZ_get h1.h h2.h⟩
section
variable {F R : List Thing} {K : Ending → List Thing → Prop} {i g : Int} {b pw cap cc cd ce : Nat} {Ac Ad Ae : Option Addr} {t : Th} {ps : List Pl} {c : Ca} {r : Re}
theorem thing_S (hat : At (some ⟨pw, 0, none⟩) F (cellsR pw (wkC (some ⟨b, 0, none⟩) t.l.length cap t.ch t.room c Ac cc r Ad cd Ae ce) 100) R) (hr : Ro (cellsK 9) (some ⟨b, 0, none⟩) F (slZ t.l ps)) (hps : ps.length = t.l.length) (h24 : t.l.length = 24) (hcap : 24 ≤ cap) (hi : 0 ≤ i)
    (h1 : ∀ k s x, thingE t i g = .ok k → t.l[k]? = some s → ps[k]? = some x → K (.returned (.pointer (some ⟨b, k * 9, none⟩))) F) (h2 : ∀ e, thingE t i g = .error e → K (.panicked (failP e)) F) :
    Fn (Tryz.prog) 69 [.pointer (some ⟨pw, 0, none⟩), .agg #[.int .u32 i, .int .u32 g]] F K := by
  unfold thingE at h1 h2
  refine Fn.enter Tryz.call69 Tryz.func69 rfl rfl rfl ?_
  repeat (first|refine Qe ?_|refine Qf ?_|fail)
  refine SXL.box rfl rfl rfl (fun q => ?_)
  repeat (first|refine Qa ?_|refine Qb ?_|refine Qd ?_|refine Qe ?_|refine Qf ?_|fail)
  refine SXL.call rfl rfl rfl ?_
  refine (need_S (F' := F) inferInstance (fun hlt => callK.ret ?_) (fun hlt => callK.panic ?_))
  rotate_left
  · refine h2 69 ?_
    simp only [needE, hlt]
    rfl
  have hlt2 : i < 24 := by simpa using hlt
  obtain ⟨s, hs⟩ : ∃ s, t.l[i.toNat]? = some s := ⟨_, List.getElem?_eq_getElem (by omega)⟩
  obtain ⟨x, hx⟩ : ∃ x, ps[i.toNat]? = some x := ⟨_, List.getElem?_eq_getElem (by omega)⟩
  haveI g1 : GetIs t.l i.toNat s := ⟨hs⟩
  haveI g2 : GetIs ps i.toNat x := ⟨hx⟩
  repeat (first|refine Qd ?_|refine Qf ?_|fail)
  have hat0 : atT t i.toNat = s := by unfold atT; rw [List.getD_eq_getElem?_getD, hs]; rfl
  refine SXA.begin (.own (some ⟨q, 0, none⟩) (cellsR q [.int .u32 i, .int .u32 g] 35) :: F) [] ?_
  unfold wkC at hat
  refine Qr 0 ?_
  refine Qr 1 ?_
  refine Qr 2 ?_
  refine Qr 3 ?_
  refine Qt 4 ?_
  refine Qr 5 ?_
  refine Qt 6 ?_
  refine SXA.idx 7 rfl (by decide +kernel) rfl rfl rfl rfl rfl rfl (by omega) (by omega) rfl inferInstance ?_
  refine Qr 8 ?_
  refine Qv ?_
  refine SX.same 5 (.pointer (some ⟨b, i.toNat * 9, none⟩)) rfl (by simp) ?_
  repeat (first|refine Qf ?_|fail)
  refine SXA.begin (.own (some ⟨q, 0, none⟩) (cellsR q [.int .u32 i, .int .u32 g] 35) :: F) [] ?_
  refine Qr 0 ?_
  refine Qr 1 ?_
  refine Qr 2 ?_
  refine Qxa 3 ?_
  refine Qr 4 ?_
  refine Qr 5 ?_
  have hd1 : needE (decide (i < 24)) 69 = .ok () := by rw [decide_eq_true hlt2]; rfl
  rw [hd1, hat0] at h2
  simp only [hd1, hat0] at h1
  refine SXA.split 23 rfl (fun k1 => ?_) (fun k1 => ?_)
  · skip
    refine Qr 6 ?_
    refine Qr 7 ?_
    refine Qr 8 ?_
    refine Qxa 9 ?_
    refine Qr 10 ?_
    refine Qt 11 ?_
    refine Qr 12 ?_
    refine Qr 13 ?_
    refine Qw 14 ?_
    refine SXL.call rfl rfl rfl ?_
    refine (need_S (F' := F) inferInstance (fun hg => callK.ret ?_) (fun hg => callK.panic ?_))
    rotate_left
    · refine h2 69 ?_
      rw [k1, hg]
      rfl
    refine SXL.nil (SXA.next inferInstance ?_)
    refine Qv ?_
    repeat (first|refine Qa ?_|refine Qd ?_|refine Qe ?_|refine Qf ?_|fail)
    refine SX.ret (M' := F) rfl (Evals.tmp rfl Evals.nil) ?_ inferInstance
    exact h1 i.toNat s x (by rw [k1, hg]; rfl) hs hx
  · skip
    refine Qs 6 ?_
    refine Qs 7 ?_
    refine Qs 8 ?_
    refine Qs 9 ?_
    refine Qs 10 ?_
    refine Qs 11 ?_
    refine Qs 12 ?_
    refine Qr 13 ?_
    refine Qw 14 ?_
    refine SXL.call rfl rfl rfl ?_
    refine (need_S (F' := F) inferInstance (fun hg => by cases hg) (fun hg => callK.panic ?_))
    refine h2 69 ?_
    rw [k1]
    rfl
theorem atT_get {t : Th} {k : Nat} {s : Sl} (h : t.l[k]? = some s) : atT t k = s := by unfold atT; rw [List.getD_eq_getElem?_getD, h]; rfl
theorem folder_S (hat : At (some ⟨pw, 0, none⟩) F (cellsR pw (wkC (some ⟨b, 0, none⟩) t.l.length cap t.ch t.room c Ac cc r Ad cd Ae ce) 100) R) (hr : Ro (cellsK 9) (some ⟨b, 0, none⟩) F (slZ t.l ps)) (hps : ps.length = t.l.length) (h24 : t.l.length = 24) (hcap : 24 ≤ cap) (hi : 0 ≤ i)
    (h1 : ∀ k s x, folderE t i g = .ok k → t.l[k]? = some s → ps[k]? = some x → K (.returned (.pointer (some ⟨b, k * 9, none⟩))) F) (h2 : ∀ e, folderE t i g = .error e → K (.panicked (failP e)) F) :
    Fn (Tryz.prog) 65 [.pointer (some ⟨pw, 0, none⟩), .agg #[.int .u32 i, .int .u32 g]] F K := by
  unfold folderE at h1 h2
  refine Fn.enter Tryz.call65 Tryz.func65 rfl rfl rfl ?_
  repeat (first|refine Qe ?_|refine Qf ?_|fail)
  refine SXL.box rfl rfl rfl (fun q => ?_)
  repeat (first|refine Qa ?_|refine Qb ?_|refine Qd ?_|refine Qe ?_|refine Qf ?_|fail)
  refine SXL.call rfl rfl rfl ?_
  refine (Fn.sub (thing_S (F := F) (t := t) (ps := ps) hat hr hps h24 hcap hi (fun k s x hk hs hx => ?_) (fun e he => callK.panic (h2 e (by rw [he]; rfl)))) inferInstance)
  refine callK.ret ?_
  haveI g1 : GetIs t.l k s := ⟨hs⟩
  haveI g2 : GetIs ps k x := ⟨hx⟩
  have hat0 := atT_get hs
  repeat (first|refine Qa ?_|refine Qd ?_|refine Qe ?_|refine Qf ?_|refine Qx ?_|fail)
  refine SXL.call rfl rfl rfl ?_
  refine (need_S (F' := F) inferInstance (fun hg => callK.ret ?_) (fun hg => callK.panic ?_))
  rotate_left
  · refine h2 62 ?_
    rw [hk]
    show (do needE ((atT t k).kind == 2) 62; pure k : Ex Nat) = _
    rw [hat0, hg]
    rfl
  repeat (first|refine Qa ?_|refine Qd ?_|refine Qe ?_|refine Qf ?_|fail)
  refine SX.ret (M' := F) rfl (Evals.tmp rfl Evals.nil) ?_ inferInstance
  refine h1 k s x ?_ hs hx
  rw [hk]
  show (do needE ((atT t k).kind == 2) 62; pure k : Ex Nat) = _
  rw [hat0, hg]
  rfl
theorem file_S (hat : At (some ⟨pw, 0, none⟩) F (cellsR pw (wkC (some ⟨b, 0, none⟩) t.l.length cap t.ch t.room c Ac cc r Ad cd Ae ce) 100) R) (hr : Ro (cellsK 9) (some ⟨b, 0, none⟩) F (slZ t.l ps)) (hps : ps.length = t.l.length) (h24 : t.l.length = 24) (hcap : 24 ≤ cap) (hi : 0 ≤ i)
    (h1 : ∀ k s x, fileE t i g = .ok k → t.l[k]? = some s → ps[k]? = some x → K (.returned (.pointer (some ⟨b, k * 9, none⟩))) F) (h2 : ∀ e, fileE t i g = .error e → K (.panicked (failP e)) F) :
    Fn (Tryz.prog) 70 [.pointer (some ⟨pw, 0, none⟩), .agg #[.int .u32 i, .int .u32 g]] F K := by
  unfold fileE at h1 h2
  refine Fn.enter Tryz.call70 Tryz.func70 rfl rfl rfl ?_
  repeat (first|refine Qe ?_|refine Qf ?_|fail)
  refine SXL.box rfl rfl rfl (fun q => ?_)
  repeat (first|refine Qa ?_|refine Qb ?_|refine Qd ?_|refine Qe ?_|refine Qf ?_|fail)
  refine SXL.call rfl rfl rfl ?_
  refine (Fn.sub (thing_S (F := F) (t := t) (ps := ps) hat hr hps h24 hcap hi (fun k s x hk hs hx => ?_) (fun e he => callK.panic (h2 e (by rw [he]; rfl)))) inferInstance)
  refine callK.ret ?_
  haveI g1 : GetIs t.l k s := ⟨hs⟩
  haveI g2 : GetIs ps k x := ⟨hx⟩
  have hat0 := atT_get hs
  have hE : (do let k ← thingE t i g; needE ((atT t k).kind != 2) 63; needE ((atT t k).kind == 1) 64; pure k : Ex Nat) = (do needE (s.kind != 2) 63; needE (s.kind == 1) 64; pure k : Ex Nat) := by
    rw [hk]
    show (do needE ((atT t k).kind != 2) 63; needE ((atT t k).kind == 1) 64; pure k : Ex Nat) = _
    rw [hat0]
  rw [hE] at h2
  simp only [hE] at h1
  repeat (first|refine Qa ?_|refine Qd ?_|refine Qe ?_|refine Qf ?_|refine Qx ?_|fail)
  refine SXL.call rfl rfl rfl ?_
  refine (need_S (F' := F) inferInstance (fun hg => callK.ret ?_) (fun hg => callK.panic (h2 63 (by rw [hg]; rfl))))
  repeat (first|refine Qa ?_|refine Qd ?_|refine Qe ?_|refine Qf ?_|refine Qx ?_|fail)
  refine SXL.call rfl rfl rfl ?_
  refine (need_S (F' := F) inferInstance (fun hg2 => callK.ret ?_) (fun hg2 => callK.panic (h2 64 (by rw [hg, hg2]; rfl))))
  repeat (first|refine Qa ?_|refine Qd ?_|refine Qe ?_|refine Qf ?_|fail)
  refine SX.ret (M' := F) rfl (Evals.tmp rfl Evals.nil) ?_ inferInstance
  exact h1 k s x (by rw [hg, hg2]; rfl) hs hx
end
section
variable {F R : List Thing} {K : Ending → List Thing → Prop} {b cap j : Nat} {ts : List Sl} {ps : List Pl} {name : ByteArray} {s : Sl} {x : Pl}
theorem named_S (h1 : namedE name = .ok () → K (.returned (.tuple #[])) F) (h2 : ∀ e, namedE name = .error e → K (.panicked (failP e)) F) : Fn (Tryz.prog) 66 [.string name] F K := by
  unfold namedE at h1 h2
  refine Fn.enter Tryz.call66 Tryz.func66 rfl rfl rfl ?_
  repeat (first|refine Qa ?_|refine Qe ?_|refine Qf ?_|fail)
  refine SXL.call rfl rfl rfl ?_
  refine (Name_S name (callK.ret ?_))
  repeat (first|refine Qa ?_|refine Qd ?_|refine Qe ?_|fail)
  refine SXL.call rfl rfl rfl ?_
  refine (need_S (F' := F) inferInstance (fun hg => callK.ret ?_) (fun hg => callK.panic (h2 _ (by rw [hg]; rfl))))
  repeat (first|refine Qd ?_|fail)
  refine SX.fin (M' := F) rfl Evals.nil ?_ inferInstance
  exact h1 (by rw [hg]; rfl)
end
end Go.Proofs.YtanemmcddgkpdaaGreat.Sx
end
section
/- Chapter 13: entries of a thing, found by name, walked; conditions: those that each theorem names. -/
namespace Go.Proofs.YtanemmcddgkpdaaGreat.Sx
open Go.RowKit Go.Proofs.YtanemmcddgkpdaaGreat.Hm Go.Proofs.YtanemmcddgkpdaaGreatW.PrintWords Go.Proofs.YtanemmcddgkpdaaGreatW.PrintLast Go.Proofs.YtanemmcddgkpdaaGreatW.PrintMore
set_option linter.unusedVariables false
set_option linter.unusedSimpArgs false
attribute [local irreducible] SX SXL SXA St callK Post Evals
theorem found_idx {l : List Ent} {name : ByteArray} : (l.find? (fun e => e.s.toList == name.toList) = none ∧ idxE (fun e => e.s.toList == name.toList) l = -1) ∨
    ∃ (k : Nat) (e : Ent), l[k]? = some e ∧ l.find? (fun e => e.s.toList == name.toList) = some e ∧ idxE (fun e => e.s.toList == name.toList) l = (k : Int) := by
  unfold idxE
  cases h : l.findIdx? (fun e => e.s.toList == name.toList) with
  | none =>
    left
    refine ⟨?_, rfl⟩
    rw [List.find?_eq_none]
    intro x hx
    have := List.findIdx?_eq_none_iff.1 h x hx
    simpa using this
  | some k =>
    right
    obtain ⟨hk, hp, hn⟩ := List.findIdx?_eq_some_iff_getElem.1 h
    refine ⟨k, l[k], List.getElem?_eq_getElem hk, ?_, rfl⟩
    rw [List.find?_eq_some_iff_getElem]
    exact ⟨hp, k, hk, rfl, fun j hj => by have := hn j hj; simpa using this⟩
section
variable {F R : List Thing} {K : Ending → List Thing → Prop} {b j : Nat} {ts : List Sl} {ps : List Pl} {name : ByteArray} {s : Sl} {x : Pl}
theorem entries_S (hr : Ro (cellsK 9) (some ⟨b, 0, none⟩) F (slZ ts ps)) (hd : Has (datR ts ps) F) (hs : ts[j]? = some s) (hx : ps[j]? = some x) (hb : bytesB s.d = true) (hl : s.d.length ≤ 4000000000)
    (h : ∀ A' c', (entS s).length ≤ c' → K (.returned (.slice A' (entS s).length c')) (.own A' (rowR kE 87 (.slice A' (entS s).length c') (entS s)) :: F)) : Fn (Tryz.prog) 80 [.pointer (some ⟨b, j * 9, none⟩)] F K := by
  haveI g1 : GetIs ts j s := ⟨hs⟩
  haveI g2 : GetIs ps j x := ⟨hx⟩
  refine Fn.derive (datR ts ps) (roR (Kd.int .u8) x.1 s.d) (fun w S h => (h.2 j s x hs hx).2) ?_
  refine Fn.derive (datR ts ps) (pureR (s.d.length ≤ x.2)) (fun w S h => (h.2 j s x hs hx).1) ?_
  refine Fn.enter Tryz.call80 Tryz.func80 rfl rfl rfl ?_
  refine SX.pure (s.d.length ≤ x.2) (fun hle => ?_)
  repeat (first|refine Qa ?_|refine Qd ?_|refine Qe ?_|refine Qf ?_|refine Qx ?_|fail)
  refine SXL.call rfl rfl rfl ?_
  refine (Get_S (b := s.d) (A := x.1) (c := x.2) inferInstance hle hb hl (fun r n hm A' c' hc' => callK.ret ?_))
  have he : entS s = r := by unfold entS; rw [hm]
  rw [he] at h
  repeat (first|refine Qa ?_|refine Qd ?_|refine Qe ?_|refine Qf ?_|fail)
  refine SX.ret (M' := (.own A' (rowR kE 87 (.slice A' r.length c') r) :: F)) rfl (Evals.tmp rfl Evals.nil) ?_ inferInstance
  exact h A' c' hc'
theorem found_S (hr : Ro (cellsK 9) (some ⟨b, 0, none⟩) F (slZ ts ps)) (hd : Has (datR ts ps) F) (hs : ts[j]? = some s) (hx : ps[j]? = some x) (hb : bytesB s.d = true) (hl : s.d.length ≤ 4000000000)
    (h1 : foundS s name = none → K (.returned (.tuple #[.agg #[.int .u64 0, .int .u32 0, .int .u32 0, .string ⟨#[]⟩], .bool false])) F)
    (h2 : ∀ e, foundS s name = some e → K (.returned (.tuple #[.agg #[.int .u64 e.c, .int .u32 e.i, .int .u32 e.g, .string e.s], .bool true])) F) : Fn (Tryz.prog) 75 [.pointer (some ⟨b, j * 9, none⟩), .string name] F K := by
  refine Fn.enter Tryz.call75 Tryz.func75 rfl rfl rfl ?_
  repeat (first|refine Qe ?_|refine Qf ?_|fail)
  refine SXL.alloc rfl rfl (fun z => ?_)
  repeat (first|refine Qa ?_|refine Qd ?_|refine Qe ?_|refine Qf ?_|fail)
  refine SXL.call rfl rfl rfl ?_
  refine (entries_S (ts := ts) (ps := ps) inferInstance inferInstance hs hx hb hl (fun A' c' hc' => callK.ret ?_))
  repeat (first|refine Qa ?_|refine Qd ?_|refine Qe ?_|refine Qf ?_|fail)
  refine SXL.call rfl rfl rfl ?_
  refine (Find_S name (l := entS s) (A := A') (c := c') inferInstance hc' (callK.ret ?_))
  repeat (first|refine Qa ?_|refine Qd ?_|refine Qe ?_|refine Qf ?_|fail)
  rcases found_idx (l := entS s) (name := name) with ⟨hf, hi⟩ | ⟨k, e, he, hf, hi⟩
  · rw [hi]
    repeat (first|refine Qa ?_|refine Qc ?_|refine Qd ?_|refine Qe ?_|refine Qf ?_|refine Qk ?_|fail)
    refine SX.ret (M' := F) rfl (Evals.cell rfl inferInstance rfl (Evals.tmp rfl Evals.nil)) ?_ inferInstance
    exact h1 hf
  · rw [hi]
    refine SX.know 14 false rfl (decide_eq_false (by omega)) ?_
    refine SX.addr (A := A') kE (by decide) (xs := entS s) (by have := (List.getElem?_eq_some_iff.1 he).1; omega) (fun b4 o4 e4 => ?_)
    subst e4
    have hkl := (List.getElem?_eq_some_iff.1 he).1
    repeat (first|refine Qa ?_|refine Qe ?_|refine Qf ?_|refine Qg ?_|refine Ql ?_|fail)
    refine SXL.idx rfl rfl rfl rfl rfl (by omega) (by omega) rfl ?_
    refine SXL.loadRow kE rfl rfl inferInstance (by rw [Int.toNat_natCast]; exact he) rfl rfl ?_
    repeat (first|refine Qa ?_|refine Qc ?_|refine Qd ?_|fail)
    refine SX.ret (M' := F) rfl (Evals.cell rfl inferInstance rfl (Evals.tmp rfl Evals.nil)) ?_ inferInstance
    exact h2 e hf
end
section
variable {F R : List Thing} {K : Ending → List Thing → Prop} {i g : Int} {b pw cap cc cd ce j : Nat} {Ac Ad Ae : Option Addr} {t : Th} {ps : List Pl} {c : Ca} {r : Re} {s : Sl} {x : Pl} {name : ByteArray}
theorem child_S (hat : At (some ⟨pw, 0, none⟩) F (cellsR pw (wkC (some ⟨b, 0, none⟩) t.l.length cap t.ch t.room c Ac cc r Ad cd Ae ce) 100) R) (hr : Ro (cellsK 9) (some ⟨b, 0, none⟩) F (slZ t.l ps)) (hd : Has (datR t.l ps) F) (hps : ps.length = t.l.length) (h24 : t.l.length = 24) (hcap : 24 ≤ cap)
    (hs : t.l[j]? = some s) (hx : ps[j]? = some x) (hb : bytesB s.d = true) (hl : s.d.length ≤ 4000000000) (hw : ∀ e ∈ entS s, 0 ≤ e.i)
    (h1 : ∀ k s x, childE t j name = .ok k → t.l[k]? = some s → ps[k]? = some x → K (.returned (.pointer (some ⟨b, k * 9, none⟩))) F) (h2 : ∀ e, childE t j name = .error e → K (.panicked (failP e)) F) :
    Fn (Tryz.prog) 68 [.pointer (some ⟨pw, 0, none⟩), .pointer (some ⟨b, j * 9, none⟩), .string name] F K := by
  unfold childE at h1 h2
  rw [atT_get hs] at h2
  simp only [atT_get hs] at h1
  refine Fn.enter Tryz.call68 Tryz.func68 rfl rfl rfl ?_
  repeat (first|refine Qa ?_|refine Qd ?_|refine Qe ?_|refine Qf ?_|fail)
  refine SXL.call rfl rfl rfl ?_
  refine (found_S (ts := t.l) (ps := ps) (name := name) hr hd hs hx hb hl (fun hf => callK.ret ?_) (fun e hf => callK.ret ?_))
  · rw [hf] at h2
    repeat (first|refine Qa ?_|fail)
    refine SXL.alloc rfl rfl (fun z => ?_)
    repeat (first|refine Qa ?_|refine Qc ?_|refine Qd ?_|refine Qe ?_|refine Qf ?_|fail)
    refine SXL.call rfl rfl rfl ?_
    refine (need_S (F' := F) inferInstance (fun hg => by cases hg) (fun hg => callK.panic (h2 60 rfl)))
  · rw [hf] at h2
    simp only [hf] at h1
    have hei : 0 ≤ e.i := hw e (by
      rcases found_idx (l := entS s) (name := name) with ⟨hf2, -⟩ | ⟨k2, e2, he2, hf2, -⟩
      · exact absurd (hf.symm.trans hf2) (by simp)
      · have h9 : some e = some e2 := hf.symm.trans hf2
        injection h9 with h9
        rw [h9]
        exact List.mem_of_getElem? he2)
    repeat (first|refine Qa ?_|fail)
    refine SXL.alloc rfl rfl (fun z => ?_)
    repeat (first|refine Qa ?_|refine Qc ?_|refine Qd ?_|refine Qe ?_|refine Qf ?_|fail)
    refine SXL.call rfl rfl rfl ?_
    refine (need_S (F' := F) inferInstance (fun hg => callK.ret ?_) (fun hg => by cases hg))
    repeat (first|refine Qa ?_|refine Qb ?_|refine Qd ?_|refine Qe ?_|refine Qf ?_|fail)
    refine SXL.call rfl rfl rfl ?_
    refine (Fn.sub (thing_S (F := F) (t := t) (ps := ps) hat hr hps h24 hcap hei (fun k s x hk hs hx => callK.ret ?_) (fun e he => callK.panic (h2 e he))) inferInstance)
    repeat (first|refine Qa ?_|refine Qd ?_|fail)
    refine SX.ret (M' := F) rfl (Evals.tmp rfl Evals.nil) ?_ inferInstance
    exact h1 k s x hk hs hx
end
end Go.Proofs.YtanemmcddgkpdaaGreat.Sx
end
section
/- Chapter 13: what an op tells of a thing, walked; conditions: those that each theorem names. -/
namespace Go.Proofs.YtanemmcddgkpdaaGreat.Sx
open Go.RowKit Go.Proofs.YtanemmcddgkpdaaGreat.Hm Go.Proofs.YtanemmcddgkpdaaGreatW.PrintWords Go.Proofs.YtanemmcddgkpdaaGreatW.PrintLast Go.Proofs.YtanemmcddgkpdaaGreatW.PrintMore
set_option linter.unusedVariables false
set_option linter.unusedSimpArgs false
attribute [local irreducible] SX SXL SXA St callK Post Evals
section
variable {F R : List Thing} {K : Ending → List Thing → Prop} {b pw cap cc cd ce j n : Nat} {B Ac Ad Ae : Option Addr} {ch room : Int} {ts : List Sl} {ps : List Pl} {c : Ca} {r : Re} {s : Sl} {x : Pl}
theorem tell_S (hat : At (some ⟨pw, 0, none⟩) F (cellsR pw (wkC B n cap ch room c Ac cc r Ad cd Ae ce) 100) R) (hr : Ro (cellsK 9) (some ⟨b, 0, none⟩) R (slZ ts ps)) (hs : ts[j]? = some s) (hx : ps[j]? = some x) (hl : s.d.length ≤ 4000000000)
    (h : K (.returned (.tuple #[])) (.own (some ⟨pw, 0, none⟩) (cellsR pw (wkC B n cap ch room c Ac cc (tellS s r) Ad cd Ae ce) 100) :: R)) :
    Fn (Tryz.prog) 67 [.pointer (some ⟨pw, 0, none⟩), .pointer (some ⟨b, j * 9, none⟩)] F K := by
  have hwl : IntKind.u32.wrap (s.d.length : Int) = (s.d.length : Int) := IntWalk.u32_in _ (by omega)
  haveI g1 : GetIs ts j s := ⟨hs⟩
  haveI g2 : GetIs ps j x := ⟨hx⟩
  refine Fn.at_ hat ?_
  unfold wkC
  refine Fn.enter Tryz.call67 Tryz.func67 rfl rfl rfl ?_
  repeat (first|refine Qa ?_|refine Qe ?_|refine Qf ?_|refine Qy ?_|fail)
  refine SXL.call rfl rfl rfl ?_
  refine (Handle_S (s := s) (A := x.1) (c := x.2) (callK.ret ?_))
  repeat (first|refine Qa ?_|refine Qc ?_|refine Qd ?_|fail)
  refine SXA.begin R [] ?_
  refine Qr 0 ?_
  refine Qr 1 ?_
  refine Qr 2 ?_
  refine Qr 3 ?_
  refine Qxa 4 ?_
  refine Qr 5 ?_
  refine Qr 6 ?_
  refine Qr 7 ?_
  refine Qxa 8 ?_
  refine Qr 9 ?_
  refine Qr 10 ?_
  refine Qr 11 ?_
  refine Qxa 12 ?_
  refine Qr 13 ?_
  refine Qr 14 ?_
  refine Qr 15 ?_
  refine Qxa 16 ?_
  refine Qr 17 ?_
  refine Qr 18 ?_
  rw [hwl]
  refine Qr 19 ?_
  refine Qr 20 ?_
  refine Qr 21 ?_
  refine Qxa 22 ?_
  refine Qr 23 ?_
  refine Qr 24 ?_
  refine Qr 25 ?_
  refine Qr 26 ?_
  refine Qu 27 ?_
  refine Qv ?_
  skip
  refine SX.fin (M' := (.own (some ⟨pw, 0, none⟩) (cellsR pw (wkC B n cap ch room c Ac cc (tellS s r) Ad cd Ae ce) 100) :: R)) rfl Evals.nil ?_ inferInstance
  exact h
end
end Go.Proofs.YtanemmcddgkpdaaGreat.Sx
end
section
/- Chapter 13: a field of a thing written; how many blocks things take, walked; conditions: those that each theorem names. -/
namespace Go.Proofs.YtanemmcddgkpdaaGreat.Sx
open Go.RowKit Go.Proofs.YtanemmcddgkpdaaGreat.Hm Go.Proofs.YtanemmcddgkpdaaGreatW.PrintWords Go.Proofs.YtanemmcddgkpdaaGreatW.PrintLast Go.Proofs.YtanemmcddgkpdaaGreatW.PrintMore
set_option linter.unusedVariables false
set_option linter.unusedSimpArgs false
attribute [local irreducible] SX SXL SXA St callK Post Evals
section
variable {P : Program} {fn : Func} {K : Ending → List Thing → Prop} {N : Nat} {k : List It} {a : Fr} {M R : List Thing} {ops : Array Oper} {rest : List Oper} {T : List (Nat × TI)} {ty : TypeId} {pos : String} {af : Array Edge}
theorem SXL.stSl [hT : TOk P T] {t b j f m cp : Nat} {x' y : Operand} {ts : List Sl} {ps : List Pl} {s : Sl} {q : Pl} {v : Value} {ty' : TypeId} (s2 : Sl) (q2 : Pl) (hx : evalO a x' = some (.pointer (some ⟨b, j * 9 + f, none⟩))) (hy : evalO a y = some v)
    (hat : At (some ⟨b, 0, none⟩) M (rowR (cellsK 9) ty' (.slice (some ⟨b, 0, none⟩) m cp) (slZ ts ps)) R) (hs : ts[j]? = some s) (hq : ps[j]? = some q) (h : storeC T t (slC s q.1 q.2) f v = some (slC s2 q2.1 q2.2))
    (hK : SXL P fn K N k ops rest a (.own (some ⟨b, 0, none⟩) (rowR (cellsK 9) ty' (.slice (some ⟨b, 0, none⟩) m cp) (slZ (ts.set j s2) (ps.set j q2))) :: R)) : SXL P fn K N k ops (⟨none, .store t x' y, ty, pos, af, none⟩ :: rest) a M :=
  SXL.stElt (e := slX s q) (e' := slX s2 q2) hx rfl hy hat (slZ_get hs hq) h (by rw [slZ_set]; exact hK)
end
theorem usedT_take {l : List Sl} {k : Nat} {s : Sl} (h : l[k]? = some s) : usedT (l.take (k + 1)) = usedT (l.take k) + needB s.d.length := by
  obtain ⟨hlt, hv⟩ := List.getElem?_eq_some_iff.1 h
  rw [List.take_succ_eq_append_getElem hlt, hv]
  simp [usedT]
theorem usedT_le {l : List Sl} (h : ∀ s ∈ l, s.d.length ≤ 4000000000) : usedT l ≤ 4000000000 * l.length := by
  induction l with
  | nil => exact Nat.le_refl _
  | cons s l ih =>
    have h1 := ih (fun x hx => h x (List.mem_cons_of_mem _ hx))
    have h2 := h s List.mem_cons_self
    have h3 : usedT (s :: l) = needB s.d.length + usedT l := by simp [usedT]
    rw [h3, List.length_cons]
    unfold needB
    omega
section
variable {F R : List Thing} {K : Ending → List Thing → Prop} {b cap n : Nat} {B : Option Addr} {ch room : Int} {ts : List Sl} {ps : List Pl} {s : Sl} {x : Pl}
theorem Need_S (hn : n ≤ 4000000000) (h : K (.returned (.int .i64 (needB n : Nat))) F) : Fn (Tryz.prog) 60 [.int .i64 (n : Int)] F K := by
  refine Fn.enter Tryz.call60 Tryz.func60 rfl rfl rfl ?_
  repeat (first|refine Qa ?_|refine Qd ?_|refine Qe ?_|refine Qf ?_|fail)
  refine SX.condp rfl (fun h1 => ?_) (fun h1 => ?_)
  · obtain rfl : n = 0 := by omega
    repeat (first|refine Qa ?_|refine Qd ?_|refine Qe ?_|refine Qf ?_|fail)
    refine SX.ret (M' := F) rfl (Evals.tmp rfl Evals.nil) ?_ inferInstance
    exact h
  · have e : IntKind.i64.wrap (IntKind.i64.wrap ((IntKind.i64.wrap ((n : Int) - 1)).tdiv 96) + 1) = ((needB n : Nat) : Int) := by
      rw [IntWalk.i64_in ((n : Int) - 1) (by omega), Int.tdiv_eq_ediv_of_nonneg (by omega), IntWalk.i64_in (((n : Int) - 1) / 96) (by omega), IntWalk.i64_in (((n : Int) - 1) / 96 + 1) (by omega)]
      unfold needB
      omega
    repeat (first|refine Qa ?_|refine Qd ?_|refine Qe ?_|refine Qf ?_|refine Qg ?_|fail)
    rw [e]
    refine SX.ret (M' := F) rfl (Evals.tmp rfl Evals.nil) ?_ inferInstance
    exact h
theorem Used_S (hr : Ro (cellsK 9) (some ⟨b, 0, none⟩) F (slZ ts ps)) (hps : ps.length = ts.length) (hcap : ts.length ≤ cap) (h24 : ts.length ≤ 24) (hd : ∀ s ∈ ts, s.d.length ≤ 4000000000) (h : K (.returned (.int .i64 (usedT ts : Nat))) F) :
    Fn (Tryz.prog) 28 [.agg #[.slice (some ⟨b, 0, none⟩) ts.length cap, .int .u64 ch, .int .i64 room]] F K := by
  refine Fn.enter Tryz.call28 Tryz.func28 rfl rfl rfl ?_
  repeat (first|refine Qe ?_|refine Qf ?_|fail)
  refine SXL.box rfl rfl rfl (fun p => ?_)
  repeat (first|refine Qa ?_|refine Qb ?_|refine Qd ?_|refine Qe ?_|refine Qf ?_|refine Qh ?_|fail)
  refine SX.loop (fun z a M => ∃ (k acc : Nat), k + z = ts.length ∧ acc = usedT (ts.take k) ∧ a = [(3, .int .i64 (acc : Int)), (7, .slice (some ⟨b, 0, none⟩) ts.length cap), (8, .int .i64 ts.length), (9, .int .i64 k)] ∧ F = M)
    ts.length ⟨0, 0, by omega, rfl, rfl, rfl⟩ (by repeat (first | exact trivial | refine ⟨rfl, ?_⟩)) inferInstance ?_
  rintro z _ _ ⟨k, acc, hz, hacc, rfl, rfl⟩
  repeat (first|refine Qa ?_|refine Qd ?_|refine Qe ?_|refine Qf ?_|fail)
  refine SX.condp rfl (fun hi => ?_) (fun hi => ?_)
  · obtain ⟨s, hs⟩ : ∃ s, ts[k]? = some s := ⟨_, List.getElem?_eq_getElem (by omega)⟩
    obtain ⟨x, hx⟩ : ∃ x, ps[k]? = some x := ⟨_, List.getElem?_eq_getElem (by omega)⟩
    have hsl := hd s (List.mem_of_getElem? hs)
    repeat (first|refine Qe ?_|refine Qf ?_|refine Qg ?_|refine Qh ?_|fail)
    refine SXL.idx rfl rfl rfl rfl rfl (by omega) (by omega) rfl ?_
    refine SXL.ldElt (j := k) (f := 0) (e := slX s x) (css := slZ ts ps) rfl (by show 0 + ((k : Nat) : Int).toNat * 9 + 0 = k * 9 + 0; rw [Int.toNat_natCast]; omega) (slZ_get hs hx) rfl rfl ?_
    skip
    refine SXL.alloc rfl rfl (fun t => ?_)
    repeat (first|refine Qa ?_|refine Qb ?_|refine Qc ?_|refine Qd ?_|refine Qe ?_|fail)
    refine SXL.call rfl rfl rfl ?_
    refine (Need_S hsl (callK.ret ?_))
    have hb1 : acc ≤ 4000000000 * 24 := by
      have h1 := usedT_le (l := ts.take k) (fun s hs => hd s (List.mem_of_mem_take hs))
      have h2 : (ts.take k).length ≤ 24 := by rw [List.length_take]; omega
      have h3 : 4000000000 * (ts.take k).length ≤ 4000000000 * 24 := Nat.mul_le_mul_left _ h2
      omega
    have hb2 : needB s.d.length ≤ 4000000000 := by unfold needB; omega
    repeat (first|refine Qa ?_|refine Qd ?_|refine Qe ?_|refine Qi ?_|fail)
    refine SX.same 3 (.int .i64 ((acc + needB s.d.length : Nat) : Int)) rfl (by rw [IntWalk.i64_in _ (by omega)]; simp) ?_
    refine SX.same 9 (.int .i64 ((k + 1 : Nat) : Int)) rfl (by simp (disch := omega) only [IntWalk.i64_in, IntWalk.u8_in, IntWalk.u32_in, IntWalk.u64_in, IntWalk.rem_in, Int.natCast_add, Int.natCast_one]) ?_
    refine SX.again (z - 1) (by omega) ⟨k + 1, acc + needB s.d.length, by omega, by rw [usedT_take hs, hacc], rfl, rfl⟩ (by repeat (first | exact trivial | refine ⟨rfl, ?_⟩)) inferInstance
  · have hk : k = ts.length := by omega
    rw [hk, List.take_length] at hacc
    subst hacc
    repeat (first|refine Qa ?_|refine Qd ?_|refine Qe ?_|refine Qf ?_|refine Qj ?_|fail)
    refine SX.ret (M' := F) rfl (Evals.tmp rfl Evals.nil) ?_ inferInstance
    exact h
end
end Go.Proofs.YtanemmcddgkpdaaGreat.Sx
end
