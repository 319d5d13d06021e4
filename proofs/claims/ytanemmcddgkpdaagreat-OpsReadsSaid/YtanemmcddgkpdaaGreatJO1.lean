/- Part O1 of the lemmas and walks of the Go functions that these statements reach; conditions: those that each theorem names. -/
import Derived.Test.YtanemmcddgkpdaaGreatJN4
import Derived.Test.YtanemmcddgkpdaaGreatJN8
section
/- Chapter 13: a file made in, and taken out of, a directory, pure; conditions: those that each theorem names. -/
namespace Go.Proofs.YtanemmcddgkpdaaGreat.Hm
open Go.RowKit Go.Proofs.YtanemmcddgkpdaaGreatW.PrintWords Go.Proofs.YtanemmcddgkpdaaGreatW.PrintLast Go.Proofs.YtanemmcddgkpdaaGreatW.PrintMore
set_option linter.unusedVariables false
set_option linter.unusedSimpArgs false
theorem at_of {t : Th} {k : Nat} (h : k < t.l.length) : t.l[k]? = some (atT t k) := by
  rw [List.getElem?_eq_getElem h]
  unfold atT
  rw [List.getD_eq_getElem?_getD, List.getElem?_eq_getElem h]
  rfl
theorem at_eq {t : Th} {k : Nat} {s : Sl} (h : t.l[k]? = some s) : atT t k = s := by unfold atT; rw [List.getD_eq_getElem?_getD, h]; rfl
theorem at_set {t : Th} {k j : Nat} {s : Sl} (hk : k < t.l.length) : atT (setT t k s) j = if j = k then s else atT t j := by
  unfold atT
  rw [List.getD_eq_getElem?_getD, List.getD_eq_getElem?_getD, List.getElem?_set]
  by_cases h : k = j
  · subst h; simp [hk]
  · rw [if_neg h, if_neg (fun e => h e.symm)]
/-- A change that touches two things that were written. -/
theorem touch2 {t : Th} {k d : Nat} {s sd : Sl} (hk : k < t.l.length) (hd : d < t.l.length) (hkd : k ≠ d) :
    touchE (setT (setT t k s) d sd) [k, d] = (needE (decide ((usedT ((t.l.set k s).set d sd) : Int) ≤ t.room)) 66 >>= fun _ => pure ⟨(t.l.set k { s with change := up64 t.ch }).set d { sd with change := up64 t.ch }, up64 t.ch, t.room⟩) := by
  have e : ([k, d] : List Nat).foldl (fun t k => setT t k { atT t k with change := t.ch }) ⟨(t.l.set k s).set d sd, up64 t.ch, t.room⟩ = ⟨(t.l.set k { s with change := up64 t.ch }).set d { sd with change := up64 t.ch }, up64 t.ch, t.room⟩ := by
    simp only [List.foldl_cons, List.foldl_nil]
    have h1 : atT ⟨(t.l.set k s).set d sd, up64 t.ch, t.room⟩ k = s := by
      apply at_eq
      show ((t.l.set k s).set d sd)[k]? = some s
      rw [List.getElem?_set_ne (fun h => hkd h.symm), List.getElem?_set_self hk]
    rw [h1]
    have h2 : atT (setT ⟨(t.l.set k s).set d sd, up64 t.ch, t.room⟩ k { s with change := up64 t.ch }) d = sd := by
      apply at_eq
      show (((t.l.set k s).set d sd).set k _)[d]? = some sd
      rw [List.getElem?_set_ne hkd, List.getElem?_set_self (by simpa using hd)]
    rw [h2]
    have e3 : (((t.l.set k s).set d sd).set k { s with change := up64 t.ch }).set d { sd with change := up64 t.ch } = (t.l.set k { s with change := up64 t.ch }).set d { sd with change := up64 t.ch } := by
      rw [List.set_comm _ _ (fun h => hkd h.symm), List.set_set, List.set_set]
    exact congrArg (fun l => (⟨l, up64 t.ch, t.room⟩ : Th)) e3
  unfold touchE
  dsimp only
  rw [e]
  have hu : usedT ((t.l.set k { s with change := up64 t.ch }).set d { sd with change := up64 t.ch }) = usedT ((t.l.set k s).set d sd) := by
    apply usedT_d
    rw [List.map_set, List.map_set, List.map_set, List.map_set]
  rw [hu]
theorem used_set {l : List Sl} {k : Nat} {s s' : Sl} (h : l[k]? = some s) : usedT (l.set k s') + needB s.d.length = usedT l + needB s'.d.length := by
  induction l generalizing k with
  | nil => cases h
  | cons x l ih =>
    cases k with
    | zero =>
      obtain rfl : x = s := by simpa using h
      simp only [List.set_cons_zero, usedT, List.map_cons, List.sum_cons]
      omega
    | succ k =>
      have := ih (k := k) (by simpa using h)
      simp only [List.set_cons_succ, usedT, List.map_cons, List.sum_cons] at this ⊢
      omega
/-- What is told of entries kept: their bytes. -/
theorem keepE_eq {s : Sl} {l : List Ent} (h1 : (putM l).2 = 0) (h2 : (putM l).1.length ≤ 768) : keepE s l = .ok { s with d := (putM l).1 } := by
  unfold keepE
  rw [h1]
  simp only [beq_self_eq_true, needT, okE, decide_eq_true h2, puE]
theorem enterS_eq {s : Sl} {name : ByteArray} {i g : Int} {E : List Ent} (hE : entS s = E) (ha : addM E ⟨up64 s.cookie, i, g, name⟩ = (E ++ [⟨up64 s.cookie, i, g, name⟩], 0)) (h1 : (putM (E ++ [⟨up64 s.cookie, i, g, name⟩])).2 = 0) (h2 : (putM (E ++ [⟨up64 s.cookie, i, g, name⟩])).1.length ≤ 768) :
    enterS s name i g = .ok { s with cookie := up64 s.cookie, d := (putM (E ++ [⟨up64 s.cookie, i, g, name⟩])).1 } := by
  unfold enterS
  dsimp only
  rw [show entS { s with cookie := up64 s.cookie } = E from hE, ha]
  simp only [beq_self_eq_true, needT, okE]
  rw [keepE_eq h1 h2]
/-- A new thing in a directory. -/
theorem freshE_eq {t : Th} {r : Re} {c : Ca} {d k : Nat} {kind verf : Int} {data : List Int} {E : List Ent} {s : Sl} (hd : d < t.l.length) (hk : k < t.l.length) (hkd : k ≠ d) (hf : freeAt t = some k) (hs : s = ⟨(atT t k).ino, kind, ((atT t k).gen + 1) % 4294967296, 1, c.mode % 512, 0, 0, verf, data⟩) (hE : entS (atT t d) = E)
    (ha : addM E ⟨up64 (atT t d).cookie, s.ino, s.gen, c.name⟩ = (E ++ [⟨up64 (atT t d).cookie, s.ino, s.gen, c.name⟩], 0)) (h1 : (putM (E ++ [⟨up64 (atT t d).cookie, s.ino, s.gen, c.name⟩])).2 = 0) (h2 : (putM (E ++ [⟨up64 (atT t d).cookie, s.ino, s.gen, c.name⟩])).1.length ≤ 768) :
    freshE t r c d kind verf data = (needE (decide ((usedT ((t.l.set k s).set d { atT t d with cookie := up64 (atT t d).cookie, d := (putM (E ++ [⟨up64 (atT t d).cookie, s.ino, s.gen, c.name⟩])).1 }) : Int) ≤ t.room)) 66 >>= fun _ =>
      pure (⟨(t.l.set k { s with change := up64 t.ch }).set d { atT t d with cookie := up64 (atT t d).cookie, d := (putM (E ++ [⟨up64 (atT t d).cookie, s.ino, s.gen, c.name⟩])).1, change := up64 t.ch }, up64 t.ch, t.room⟩, tellS { s with change := up64 t.ch } r)) := by
  unfold freshE
  rw [hf]
  dsimp only
  have hi2 : (atT t k).ino = s.ino := by rw [hs]
  have hg2 : ((atT t k).gen + 1) % 4294967296 = s.gen := by rw [hs]
  rw [← hs]
  rw [hi2, hg2, enterE_S]
  have h0 : atT (setT t k s) d = atT t d := by rw [at_set hk, if_neg (fun h => hkd h.symm)]
  rw [h0, enterS_eq hE ha h1 h2]
  show (touchE (setT (setT t k s) d _) [k, d] >>= _) = _
  rw [touch2 hk hd hkd]
  by_cases hu : ((usedT ((t.l.set k s).set d { atT t d with cookie := up64 (atT t d).cookie, d := (putM (E ++ [⟨up64 (atT t d).cookie, s.ino, s.gen, c.name⟩])).1 }) : Nat) : Int) ≤ t.room
  · rw [decide_eq_true hu, needT, okE, puE, okE, puE]
    have ha : atT (⟨(t.l.set k { s with change := up64 t.ch }).set d { atT t d with cookie := up64 (atT t d).cookie, d := (putM (E ++ [⟨up64 (atT t d).cookie, s.ino, s.gen, c.name⟩])).1, change := up64 t.ch }, up64 t.ch, t.room⟩ : Th) k = { s with change := up64 t.ch } := by
      apply at_eq
      show ((t.l.set k _).set d _)[k]? = _
      rw [List.getElem?_set_ne (fun h => hkd h.symm), List.getElem?_set_self hk]
    show Except.ok (_, tellS (atT _ k) r) = _
    rw [ha]
    rfl
  · rw [decide_eq_false hu, needF, erE, erE, erE]
end Go.Proofs.YtanemmcddgkpdaaGreat.Hm
end
section
/- Chapter 13: as many blocks are taken as there are, pure; conditions: those that each theorem names. -/
namespace Go.Proofs.YtanemmcddgkpdaaGreat.Hm
open Go.RowKit Go.Proofs.YtanemmcddgkpdaaGreatW.PrintWords Go.Proofs.YtanemmcddgkpdaaGreatW.PrintLast Go.Proofs.YtanemmcddgkpdaaGreatW.PrintMore
set_option linter.unusedVariables false
set_option linter.unusedSimpArgs false
def fnm (i : Nat) : ByteArray := strOfNums [102, 97 + (i : Int)]
def fent (i : Nat) : Ent := ⟨(i : Int) + 1, (i : Int) + 1, 1, fnm i⟩
/-- The root's entries: from k on, up to m. -/
def fes (m k : Nat) : List Ent := ((List.range m).drop k).map fent
def fesB (m k : Nat) : Bool := ((putM (fes m k)).2 == 0) && (decide ((putM (fes m k)).1.length ≤ 768) && (decide (lastC (fes m k) ≤ (m : Int)) && (((idxE (fun e => e.s.toList == (fnm k).toList) (fes m k)) == (if k < m then 0 else -1)) && (((fes m k).find? fun e => e.s.toList == (fnm k).toList).map (fun e => (e.i, e.g)) == (if k < m then some ((k : Int) + 1, 1) else none)))))
def fadB (m : Nat) : Bool := ((addM (fes m 0) (fent m)).2 == 0) && ((((fes m 0).find? fun e => e.s.toList == (fnm m).toList).isNone) && (nameE (bytesOf (fnm m)) == 0))
theorem fesB_all : ((List.range 13).all fun m => (List.range (m + 1)).all fun k => fesB m k) = true := by kernel_rfl
theorem fadB_all : ((List.range 12).all fadB) = true := by kernel_rfl
theorem fesB_st {m k : Nat} (hm : m ≤ 12) (hk : k ≤ m) : (putM (fes m k)).2 = 0 ∧ (putM (fes m k)).1.length ≤ 768 ∧ lastC (fes m k) ≤ (m : Int) ∧ (k < m → idxE (fun e => e.s.toList == (fnm k).toList) (fes m k) = 0) ∧
    (k < m → ∃ e, (fes m k).find? (fun e => e.s.toList == (fnm k).toList) = some e ∧ e.i = (k : Int) + 1 ∧ e.g = 1) := by
  have h := List.all_eq_true.1 (List.all_eq_true.1 fesB_all m (List.mem_range.2 (by omega))) k (List.mem_range.2 (by omega))
  unfold fesB at h
  simp only [Bool.and_eq_true, beq_iff_eq, decide_eq_true_eq] at h
  obtain ⟨h1, h2, h3, h4, h5⟩ := h
  refine ⟨h1, h2, h3, fun hk => by rw [h4, if_pos hk], fun hk => ?_⟩
  rw [if_pos hk] at h5
  cases hf : (fes m k).find? (fun e => e.s.toList == (fnm k).toList) with
  | none => rw [hf] at h5; cases h5
  | some e =>
    rw [hf] at h5
    simp only [Option.map_some, Option.some.injEq, Prod.mk.injEq] at h5
    exact ⟨e, rfl, h5.1, h5.2⟩
theorem fesL_all : ((List.range 13).all fun m => (List.range m).all fun k => decide (needB (putM (fes m (k + 1))).1.length ≤ needB (putM (fes m k)).1.length)) = true := by kernel_rfl
theorem fesB_le {m k : Nat} (hm : m ≤ 12) (hk : k < m) : needB (putM (fes m (k + 1))).1.length ≤ needB (putM (fes m k)).1.length := by
  have h := List.all_eq_true.1 (List.all_eq_true.1 fesL_all m (List.mem_range.2 (by omega))) k (List.mem_range.2 (by omega))
  exact of_decide_eq_true h
theorem fadB_st {m : Nat} (hm : m < 12) : (addM (fes m 0) (fent m)).2 = 0 ∧ (fes m 0).find? (fun e => e.s.toList == (fnm m).toList) = none ∧ nameE (bytesOf (fnm m)) = 0 := by
  have h := List.all_eq_true.1 fadB_all m (List.mem_range.2 hm)
  unfold fadB at h
  simp only [Bool.and_eq_true, beq_iff_eq, Option.isNone_iff_eq_none] at h
  exact h
theorem fes_tail {m k : Nat} (hk : k < m) : (fes m k).eraseIdx 0 = fes m (k + 1) := by
  unfold fes
  rw [List.eraseIdx_zero, ← List.map_tail, List.tail_drop]
theorem fent_wf (i : Nat) (h : i < 100) : (fent i).wf := ⟨by show (0:Int) ≤ (i : Int) + 1; omega, by show (i : Int) + 1 < 18446744073709551616; omega, by show (0:Int) ≤ (i : Int) + 1; omega, by show (i : Int) + 1 < 4294967296; omega, by show (0:Int) ≤ 1; decide, by show (1:Int) < 4294967296; decide⟩
theorem fes_wf {m k : Nat} (hm : m ≤ 12) : ∀ e ∈ fes m k, e.wf := by
  intro e he
  obtain ⟨i, hi, rfl⟩ := List.mem_map.1 he
  have := List.mem_range.1 (List.mem_of_mem_drop hi)
  exact fent_wf i (by omega)
/-! ### the things -/
def rootM (m k : Nat) (ch : Int) : Sl := ⟨0, 2, 1, 1, 493, ch, (m : Int), 0, (putM (fes m k)).1⟩
def fileM (j : Nat) (ch : Int) (d : List Int) : Sl := ⟨(j : Int), 1, 1, 1, 0, ch, 0, 0, d⟩
def goneM (j : Nat) (ch : Int) : Sl := ⟨(j : Int), 0, 1, 0, 0, ch, 0, 0, []⟩
theorem root_get {m k : Nat} {ch : Int} (hm : m ≤ 12) (hk : k ≤ m) : getM (rootM m k ch).d = (fes m k, 0) := by
  obtain ⟨h1, -⟩ := fesB_st hm hk
  exact putM_get (fes_wf hm) (by rw [← h1]; rfl)
theorem root_ent {m k : Nat} {ch : Int} (hm : m ≤ 12) (hk : k ≤ m) : entS (rootM m k ch) = fes m k := by unfold entS; rw [root_get hm hk]
structure RI (n : Nat) (m k : Nat) (t : Th) : Prop where
  len : t.l.length = 24
  room : t.room = (n : Int)
  hm : m ≤ 12
  hk : k ≤ m
  root : ∃ ch, atT t 0 = rootM m k ch
  fil : ∀ j, k ≤ j → j < m → ∃ ch d, d.length ≤ 768 ∧ atT t (j + 1) = fileM (j + 1) ch d
  gone : ∀ j, j < k → ∃ ch, atT t (j + 1) = goneM (j + 1) ch
  free : ∀ j, m ≤ j → j < 23 → atT t (j + 1) = freeS (j + 1)
  used : usedT t.l ≤ n
theorem RI.may {n m k : Nat} {t : Th} (h : RI n m k t) : mayT t.l = true := by
  unfold mayT
  rw [decide_eq_true h.len, Bool.true_and, List.all_eq_true]
  intro i hi
  have hi2 := List.mem_range.1 hi
  rw [h.len] at hi2
  rw [at_of (by rw [h.len]; exact hi2)]
  dsimp only
  obtain ⟨hp, hl, hc, -, -⟩ := fesB_st h.hm h.hk
  have hm := h.hm
  have hk := h.hk
  cases i with
  | zero =>
    obtain ⟨ch, hr⟩ := h.root
    have hg := root_get (ch := ch) h.hm h.hk
    rw [hr]
    have h3 : listB (rootM m k ch) = true := by
      unfold listB
      rw [hg]
      simp only [beq_self_eq_true, Bool.true_and, Bool.or_eq_true, decide_eq_true_eq]
      right
      exact hc
    have hl2 : (rootM m k ch).d.length ≤ 768 := hl
    unfold okB ok1 ok2 ok3
    rw [h3]
    simp only [decide_eq_true (show ((rootM m k ch).d.length : Int) ≤ 768 by omega)]
    rfl
  | succ j =>
    rcases Nat.lt_or_ge j k with h1 | h1
    · obtain ⟨ch, hr⟩ := h.gone j h1
      rw [hr]
      simp [goneM, okB, ok1, ok2, ok3, bareB]
      exact decide_eq_true (by omega)
    · rcases Nat.lt_or_ge j m with h2 | h2
      · obtain ⟨ch, d, hd, hr⟩ := h.fil j h1 h2
        rw [hr]
        simp [fileM, okB, ok1, ok2, ok3]
        exact ⟨decide_eq_true (by omega), decide_eq_true (by omega)⟩
      · rw [h.free j h2 (by omega)]
        simp [freeS, okB, ok1, ok2, ok3, bareB]
        exact decide_eq_true (by omega)
theorem RI.fold0 {n m k : Nat} {t : Th} (h : RI n m k t) : folderE t 0 1 = .ok 0 := by
  obtain ⟨ch, hr⟩ := h.root
  unfold folderE thingE
  rw [show decide ((0:Int) < 24) = true from rfl, needT, okE, show (0:Int).toNat = 0 from rfl, hr, show ((rootM m k ch).kind != 0 && (rootM m k ch).gen == 1) = true from rfl, needT, okE, puE, okE, hr, show ((rootM m k ch).kind == 2) = true from rfl, needT, okE]
  rfl
theorem fnm_ok {m : Nat} (hm : m < 12) : namedE (fnm m) = .ok () := by unfold namedE; rw [(fadB_st hm).2.2]; rfl
theorem at2 {l : List Sl} {a b j : Nat} {x y : Sl} {ch room : Int} (ha : a < l.length) (hb : b < l.length) : atT ⟨(l.set a x).set b y, ch, room⟩ j = if j = b then y else if j = a then x else l.getD j Sl0 := by
  unfold atT
  rw [List.getD_eq_getElem?_getD, List.getD_eq_getElem?_getD, List.getElem?_set]
  by_cases h : b = j
  · subst h; simp [hb]
  · rw [if_neg h, if_neg (fun e => h e.symm), List.getElem?_set]
    by_cases h2 : a = j
    · subst h2; simp [ha]
    · rw [if_neg h2, if_neg (fun e => h2 e.symm)]
end Go.Proofs.YtanemmcddgkpdaaGreat.Hm
end
section
/- Chapter 13: as many blocks are taken as there are: what is written, told, and taken away, pure; conditions: those that each theorem names. -/
namespace Go.Proofs.YtanemmcddgkpdaaGreat.Hm
open Go.RowKit Go.Proofs.YtanemmcddgkpdaaGreatW.PrintWords Go.Proofs.YtanemmcddgkpdaaGreatW.PrintLast Go.Proofs.YtanemmcddgkpdaaGreatW.PrintMore
set_option linter.unusedVariables false
set_option linter.unusedSimpArgs false
theorem need0 : needB 0 = 0 := by decide
theorem toNat1 (j : Nat) : ((j : Int) + 1).toNat = j + 1 := by omega
theorem file_ok {t : Th} {j : Nat} {ch : Int} {d : List Int} (hj : j < 23) (h : atT t (j + 1) = fileM (j + 1) ch d) : thingE t ((j : Int) + 1) 1 = .ok (j + 1) ∧ fileE t ((j : Int) + 1) 1 = .ok (j + 1) := by
  have h1 : thingE t ((j : Int) + 1) 1 = .ok (j + 1) := by
    unfold thingE
    rw [decide_eq_true (show (j : Int) + 1 < 24 by omega), needT, okE, toNat1, h, show ((fileM (j + 1) ch d).kind != 0 && (fileM (j + 1) ch d).gen == 1) = true from rfl, needT, okE, puE]
  refine ⟨h1, ?_⟩
  unfold fileE
  rw [h1, okE, h, show ((fileM (j + 1) ch d).kind != 2) = true from rfl, needT, okE, show ((fileM (j + 1) ch d).kind == 1) = true from rfl, needT, okE, puE]
/-- What a call that takes the first name away comes to. -/
theorem RI.remove {n m k : Nat} {t : Th} (h : RI n m k t) (hk : k < m) (r : Re) :
    ∃ t', removeE t r (ca 10 0 1 (fnm k) 0 0 []) = .ok (t', tellS (atT t' 0) r) ∧ RI n m (k + 1) t' := by
  obtain ⟨ch, hr⟩ := h.root
  obtain ⟨c1, d1, hd1, hf⟩ := h.fil k (Nat.le_refl _) hk
  have hlen := h.len
  have hm := h.hm
  obtain ⟨-, -, -, hi, hfo⟩ := fesB_st h.hm h.hk
  obtain ⟨e, hfo, hei, heg⟩ := hfo hk
  obtain ⟨hp, hl, hc, -, -⟩ := fesB_st (m := m) (k := k + 1) h.hm (by omega)
  have hE := root_ent (ch := ch) h.hm h.hk
  obtain ⟨hth, -⟩ := file_ok (t := t) (by omega) hf
  have hfo2 : foundS (atT t 0) (fnm k) = some e := by unfold foundS; rw [hr, hE]; exact hfo
  have hle : leaveE t 0 (fnm k) = .ok (setT t 0 (rootM m (k + 1) ch)) := by
    unfold leaveE
    dsimp only
    have hr2 : removeM (entS (atT t 0)) (fnm k) = (fes m (k + 1), 0) := by
      unfold removeM
      rw [hr, hE, hi hk, if_neg (by decide), show (0:Int).toNat = 0 from rfl, fes_tail hk]
    rw [hr2]
    dsimp only
    rw [show ((0:Int) == 0) = true from rfl, needT, okE, keepE_eq hp hl, okE, puE, hr]
    rfl
  have ha : atT (setT t 0 (rootM m (k + 1) ch)) (k + 1) = fileM (k + 1) c1 d1 := by rw [at_set (by omega), if_neg (by omega)]; exact hf
  have hul : unlinkS (fileM (k + 1) c1 d1) = goneM (k + 1) c1 := rfl
  have hE2 : removeE t r (ca 10 0 1 (fnm k) 0 0 []) = outE t r (ca 10 0 1 (fnm k) 0 0 []) 0 (k + 1) := by
    unfold removeE innerE childE
    dsimp only
    rw [h.fold0, okE, fnm_ok (by omega), okE, hfo2]
    dsimp only
    rw [hei, heg, hth, okE, puE, okE]
    dsimp only
    rw [hf, show ((fileM (k + 1) c1 d1).kind != 2) = true from rfl, needT, okE]
  rw [hE2]
  unfold outE
  dsimp only
  rw [hle, okE, ha, hul, touch2 (by omega) (by omega) (by omega)]
  have h1 := used_set (s' := rootM m (k + 1) ch) (at_of (t := t) (k := 0) (by omega))
  have h2 := used_set (l := t.l.set 0 (rootM m (k + 1) ch)) (s := fileM (k + 1) c1 d1) (s' := goneM (k + 1) c1) (k := k + 1) (by rw [List.getElem?_set_ne (by omega), at_of (by omega), hf])
  rw [hr] at h1
  have h3 : needB (rootM m (k + 1) ch).d.length ≤ needB (rootM m k ch).d.length := fesB_le h.hm hk
  have h4 : needB (goneM (k + 1) c1).d.length = 0 := need0
  have hu := h.used
  have hro := h.room
  rw [decide_eq_true (show ((usedT ((t.l.set 0 (rootM m (k + 1) ch)).set (k + 1) (goneM (k + 1) c1)) : Nat) : Int) ≤ t.room by omega), needT, okE, puE, okE, puE]
  have hat := fun j => at2 (l := t.l) (a := 0) (b := k + 1) (j := j) (x := rootM m (k + 1) (up64 t.ch)) (y := goneM (k + 1) (up64 t.ch)) (ch := up64 t.ch) (room := t.room) (by omega) (by omega)
  refine ⟨⟨(t.l.set 0 (rootM m (k + 1) (up64 t.ch))).set (k + 1) (goneM (k + 1) (up64 t.ch)), up64 t.ch, t.room⟩, rfl, ⟨by simp [hlen], h.room, h.hm, by omega, ⟨up64 t.ch, by rw [hat, if_neg (by omega), if_pos rfl]⟩, fun j h5 h6 => ?_, fun j hj => ?_, fun j h5 h6 => ?_, ?_⟩⟩
  · obtain ⟨c2, d2, h7, h8⟩ := h.fil j (by omega) h6
    exact ⟨c2, d2, h7, by rw [hat, if_neg (by omega), if_neg (by omega)]; exact h8⟩
  · rw [hat]
    rcases Nat.lt_or_ge j k with h7 | h7
    · obtain ⟨c2, h8⟩ := h.gone j h7
      exact ⟨c2, by rw [if_neg (by omega), if_neg (by omega)]; exact h8⟩
    · obtain rfl : j = k := by omega
      exact ⟨up64 t.ch, if_pos rfl⟩
  · rw [hat, if_neg (by omega), if_neg (by omega)]
    exact h.free j h5 h6
  · have hd : ((t.l.set 0 (rootM m (k + 1) (up64 t.ch))).set (k + 1) (goneM (k + 1) (up64 t.ch))).map Sl.d = ((t.l.set 0 (rootM m (k + 1) ch)).set (k + 1) (goneM (k + 1) c1)).map Sl.d := by
      rw [List.map_set, List.map_set, List.map_set, List.map_set]
      rfl
    show usedT ((t.l.set 0 (rootM m (k + 1) (up64 t.ch))).set (k + 1) (goneM (k + 1) (up64 t.ch))) ≤ n
    rw [usedT_d hd]
    omega
theorem used_none {l : List Sl} (h : ∀ s ∈ l, s.d = []) : usedT l = 0 := by
  induction l with
  | nil => rfl
  | cons x l ih =>
    have h1 := ih (fun s hs => h s (List.mem_cons_of_mem _ hs))
    have h2 := h x (List.mem_cons_self ..)
    simp only [usedT, List.map_cons, List.sum_cons] at h1 ⊢
    rw [h2, h1]
    rfl
/-- When each name was taken away, nothing is taken. -/
theorem RI.none {n m : Nat} {t : Th} (h : RI n m m t) : usedT t.l = 0 := by
  apply used_none
  intro s hs
  obtain ⟨i, hi, rfl⟩ := List.mem_iff_getElem.1 hs
  have h9 : t.l[i] = atT t i := (List.getElem?_eq_some_iff.1 (at_of hi)).2
  rw [h9]
  have hlen := h.len
  cases i with
  | zero =>
    obtain ⟨ch, hr⟩ := h.root
    rw [hr]
    show (putM (fes m m)).1 = []
    have : fes m m = [] := by unfold fes; rw [List.drop_eq_nil_of_le (by simp)]; rfl
    rw [this]
    rfl
  | succ j =>
    rcases Nat.lt_or_ge j m with h1 | h1
    · obtain ⟨ch, hr⟩ := h.gone j h1
      rw [hr]
      rfl
    · rw [h.free j h1 (by omega)]
      rfl
/-! ### calls -/
theorem RI.remove_do {n m k : Nat} {t t2 : Th} {r2 : Re} (h : RI n m k t) (hk : k < m) (he : doT t (ca 10 0 1 (fnm k) 0 0 []) = (t2, r2)) : RI n m (k + 1) t2 ∧ r2.st = 0 := by
  rw [doT_op h.may (show (1 : Int) ≤ 10 by decide) (show (10 : Int) ≤ 16 by decide)] at he
  change (match removeE t (toldR (ca 10 0 1 (fnm k) 0 0 [])) (ca 10 0 1 (fnm k) 0 0 []) with | .ok p => p | .error e => (t, { toldR (ca 10 0 1 (fnm k) 0 0 []) with st := e })) = _ at he
  obtain ⟨t', w1, w2⟩ := h.remove hk (toldR (ca 10 0 1 (fnm k) 0 0 []))
  rw [w1] at he
  obtain ⟨e1, e2⟩ := Prod.mk.inj he
  subst e1
  exact ⟨w2, by rw [← e2]; rfl⟩
end Go.Proofs.YtanemmcddgkpdaaGreat.Hm
end
