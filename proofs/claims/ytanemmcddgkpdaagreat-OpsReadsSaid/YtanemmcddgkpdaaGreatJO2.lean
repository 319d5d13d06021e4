/- Part O2 of the lemmas and walks of the Go functions that these statements reach; conditions: those that each theorem names. -/
import Derived.Test.YtanemmcddgkpdaaGreatJO1
import Derived.Test.YtanemmcddgkpdaaGreatJO6
section
/- Chapter 13: a volume whose root has some things in it, each without bytes, pure; conditions: those that each theorem names. -/
namespace Go.Proofs.YtanemmcddgkpdaaGreat.Hm
open Go.RowKit Go.Proofs.YtanemmcddgkpdaaGreatW.PrintWords Go.Proofs.YtanemmcddgkpdaaGreatW.PrintLast Go.Proofs.YtanemmcddgkpdaaGreatW.PrintMore
set_option linter.unusedVariables false
set_option linter.unusedSimpArgs false
theorem tl_eq {a b : ByteArray} : a.toList = b.toList ↔ a = b := by
  constructor
  · intro h
    have h2 := (toList_strs (bytesOf a) (bytesOf b) (bytesOf_range a) (bytesOf_range b)).1 (by rw [strOfNums_bytesOf, strOfNums_bytesOf]; exact h)
    exact bytesOf_inj _ _ h2
  · rintro rfl; rfl
theorem tl_beq {a b : ByteArray} : (a.toList == b.toList) = decide (a = b) := by
  by_cases h : a = b
  · rw [decide_eq_true h, h]; exact beq_self_eq_true _
  · rw [decide_eq_false h]
    exact beq_eq_false_iff_ne.2 (fun e => h (tl_eq.1 e))
structure Rows (E : List Ent) : Prop where
  nm : ∀ e ∈ E, nameE (bytesOf e.s) = 0 ∧ (bytesOf e.s).length ≤ 4
  di : E.Pairwise (fun a b => a.s ≠ b.s)
  up : E.Pairwise (fun a b => a.c < b.c)
  ps : ∀ e ∈ E, 0 < e.c
  wf : ∀ e ∈ E, e.wf
theorem Rows.nil : Rows [] := ⟨fun e h => by simp at h, .nil, .nil, fun e h => by simp at h, fun e h => by simp at h⟩
theorem Rows.snoc {E : List Ent} {e : Ent} (h : Rows E) (h1 : nameE (bytesOf e.s) = 0) (h2 : (bytesOf e.s).length ≤ 4) (h3 : ∀ x ∈ E, x.s ≠ e.s) (h4 : ∀ x ∈ E, x.c < e.c) (h5 : 0 < e.c) (h6 : e.wf) : Rows (E ++ [e]) := by
  have hm : ∀ {p : Ent → Prop}, (∀ x ∈ E, p x) → p e → ∀ x ∈ E ++ [e], p x := by
    intro p h7 h8 x hx
    rcases List.mem_append.1 hx with h9 | h9
    · exact h7 x h9
    · rw [List.mem_singleton.1 h9]; exact h8
  refine ⟨hm h.nm ⟨h1, h2⟩, ?_, ?_, hm h.ps h5, hm h.wf h6⟩
  · rw [List.pairwise_append]
    exact ⟨h.di, List.pairwise_singleton .., fun a ha b hb => by rw [List.mem_singleton.1 hb]; exact h3 a ha⟩
  · rw [List.pairwise_append]
    exact ⟨h.up, List.pairwise_singleton .., fun a ha b hb => by rw [List.mem_singleton.1 hb]; exact h4 a ha⟩
theorem Rows.sub {E E' : List Ent} (h : Rows E) (hs : E'.Sublist E) : Rows E' := ⟨fun e he => h.nm e (hs.subset he), h.di.sublist hs, h.up.sublist hs, fun e he => h.ps e (hs.subset he), fun e he => h.wf e (hs.subset he)⟩
theorem Rows.none {E : List Ent} {s : ByteArray} (h3 : ∀ x ∈ E, x.s ≠ s) : E.find? (fun e => e.s.toList == s.toList) = none ∧ idxE (fun e => e.s.toList == s.toList) E = -1 := by
  have h : ∀ x ∈ E, (x.s.toList == s.toList) = false := fun x hx => by rw [tl_beq]; exact decide_eq_false (h3 x hx)
  exact ⟨List.find?_eq_none.2 (fun x hx => by rw [h x hx]; decide), idxE_none _ _ h⟩
theorem Rows.last {E : List Ent} {c : Int} (h4 : ∀ x ∈ E, x.c < c) (h5 : 0 < c) : lastC E < c := by
  unfold lastC
  split
  · rename_i e he
    exact h4 e (List.mem_of_getLast? he)
  · exact h5
theorem Rows.add {E : List Ent} {e : Ent} (h1 : nameE (bytesOf e.s) = 0) (h3 : ∀ x ∈ E, x.s ≠ e.s) (h4 : ∀ x ∈ E, x.c < e.c) (h5 : 0 < e.c) : addM E e = (E ++ [e], 0) := by
  have h6 := Rows.last h4 h5
  unfold addM
  rw [if_neg (by rw [h1]; decide), (Rows.none h3).2, if_neg (by decide), if_neg (by omega)]
theorem Rows.may {E : List Ent} (h : Rows E) : mayOk E := by
  intro k e he
  have hk := (List.getElem?_eq_some_iff.1 he).1
  have hg := (List.getElem?_eq_some_iff.1 he).2
  have hem : e ∈ E := List.mem_of_getElem? he
  have hp : ∀ {R : Ent → Ent → Prop}, E.Pairwise R → ∀ x ∈ E.take k, R x e := by
    intro R hR x hx
    obtain ⟨i, hi, rfl⟩ := List.mem_iff_getElem.1 hx
    rw [List.length_take] at hi
    rw [List.getElem_take, ← hg]
    exact List.pairwise_iff_getElem.1 hR i k (by omega) hk (by omega)
  rw [Rows.add (h.nm e hem).1 (hp h.di) (hp h.up) (h.ps e hem)]
theorem Rows.put {E : List Ent} (h : Rows E) : (putM E).2 = 0 ∧ (putM E).1.length ≤ 24 * E.length := by
  rw [mayOk_putM h.may]
  refine ⟨rfl, ?_⟩
  have h2 : ∀ e ∈ E, (bytesOf e.s).length ≤ 4 := fun e he => (h.nm e he).2
  clear h
  show (E.flatMap encE).length ≤ _
  induction E with
  | nil => simp
  | cons e l ih =>
    have h1 := ih (fun x hx => h2 x (List.mem_cons_of_mem _ hx))
    have h5 := h2 e List.mem_cons_self
    have h3 : (encE e).length ≤ 24 := by unfold encE opq; simp [be64, be32]; omega
    rw [List.flatMap_cons, List.length_append, List.length_cons]
    omega
theorem Rows.get {E : List Ent} (h : Rows E) : getM (putM E).1 = (E, 0) := putM_get h.wf (by rw [mayOk_putM h.may])
theorem Rows.at_ {P Q : List Ent} {e : Ent} (h : Rows (P ++ e :: Q)) : (P ++ e :: Q).find? (fun x => x.s.toList == e.s.toList) = some e ∧ removeM (P ++ e :: Q) e.s = (P ++ Q, 0) := by
  have hP : ∀ x ∈ P, (x.s.toList == e.s.toList) = false := fun x hx => by
    rw [tl_beq]
    exact decide_eq_false ((List.pairwise_append.1 h.di).2.2 x hx e List.mem_cons_self)
  have he : (e.s.toList == e.s.toList) = true := by rw [tl_beq]; exact decide_eq_true rfl
  constructor
  · rw [List.find?_append, List.find?_eq_none.2 (fun x hx => by rw [hP x hx]; decide), Option.none_or, List.find?_cons_of_pos (p := fun x : Ent => x.s.toList == e.s.toList) he]
  · have h1 : idxE (fun x => x.s.toList == e.s.toList) (P ++ e :: Q) = (P.length : Int) := idxE_hit _ _ _ e (by rw [List.getElem?_append_right (Nat.le_refl _)]; simp) he (fun x hx => by
      rw [List.take_left] at hx
      exact hP x hx)
    unfold removeM
    rw [h1, if_neg (by omega), Int.toNat_natCast, List.eraseIdx_append_of_length_le (Nat.le_refl _)]
    simp
theorem cover {E : List Ent} : ∀ n : Nat, (∀ j : Nat, j < n → ∃ e ∈ E, e.i = (j : Int) + 1) → n ≤ E.length := by
  intro n
  induction n generalizing E with
  | zero => intro _; exact Nat.zero_le _
  | succ n ih =>
    intro h
    obtain ⟨e, he, hi⟩ := h n (by omega)
    obtain ⟨P, Q, rfl⟩ := List.append_of_mem he
    have := ih (E := P ++ Q) (fun j hj => by
      obtain ⟨x, hx, hxi⟩ := h j (by omega)
      refine ⟨x, ?_, hxi⟩
      rcases List.mem_append.1 hx with h1 | h1
      · exact List.mem_append_left _ h1
      · rcases List.mem_cons.1 h1 with h2 | h2
        · subst h2; omega
        · exact List.mem_append_right _ h2)
    simp at this ⊢
    omega
/-! ### the volume -/
structure VI (κ : Int) (m : Nat) (E : List Ent) (t : Th) : Prop where
  len : t.l.length = 24
  room : 6 ≤ t.room
  rows : Rows E
  el : E.length ≤ 23
  mb : m ≤ 100000
  cs : ∀ e ∈ E, e.c ≤ m
  root : atT t 0 = ⟨0, 2, 1, 1, 493, (atT t 0).change, (m : Int), 0, (putM E).1⟩
  num : ∀ e ∈ E, ∃ j : Nat, j < 23 ∧ e.i = (j : Int) + 1 ∧ atT t (j + 1) = ⟨(j : Int) + 1, κ, e.g, 1, 0, (atT t (j + 1)).change, 0, 0, []⟩
  dist : E.Pairwise (fun a b => a.i ≠ b.i)
  free : ∀ j : Nat, j < 23 → (∀ e ∈ E, e.i ≠ (j : Int) + 1) → atT t (j + 1) = ⟨(j : Int) + 1, 0, (atT t (j + 1)).gen, 0, 0, (atT t (j + 1)).change, 0, 0, []⟩
  gens : ∀ j : Nat, j < 23 → 0 ≤ (atT t (j + 1)).gen ∧ (atT t (j + 1)).gen ≤ m
theorem VI.ent {κ : Int} {m : Nat} {E : List Ent} {t : Th} (h : VI κ m E t) : entS (atT t 0) = E := by
  unfold entS
  rw [h.root]
  dsimp only
  rw [h.rows.get]
theorem used_root {t : Th} (hl : t.l.length = 24) (h : ∀ j : Nat, j < 23 → (atT t (j + 1)).d = []) : usedT t.l = needB (atT t 0).d.length := by
  obtain ⟨l, ch, room⟩ := t
  cases l with
  | nil => cases hl
  | cons s l =>
    have h0 : usedT l = 0 := by
      apply used_none
      intro x hx
      obtain ⟨i, hi, rfl⟩ := List.mem_iff_getElem.1 hx
      have := h i (by simp at hl; omega)
      unfold atT at this
      dsimp only at this
      rw [List.getD_cons_succ, List.getD_eq_getElem?_getD, List.getElem?_eq_getElem hi] at this
      exact this
    show needB s.d.length + usedT l = _
    rw [h0]
    rfl
theorem VI.bare {κ : Int} {m : Nat} {E : List Ent} {t : Th} (h : VI κ m E t) {j : Nat} (hj : j < 23) : (atT t (j + 1)).d = [] := by
  by_cases hE : ∃ e ∈ E, e.i = (j : Int) + 1
  · obtain ⟨e, he, hi⟩ := hE
    obtain ⟨i, h1, h2, h3⟩ := h.num e he
    obtain rfl : i = j := by omega
    rw [h3]
  · rw [h.free j hj (fun e he hi => hE ⟨e, he, hi⟩)]
theorem needB_23 {n : Nat} (h : n ≤ 24 * 23) : needB n ≤ 6 := by unfold needB; omega
theorem VI.used {κ : Int} {m : Nat} {E : List Ent} {t : Th} (h : VI κ m E t) : usedT t.l ≤ 6 := by
  rw [used_root h.len (fun j hj => h.bare hj), h.root]
  have h1 := h.rows.put.2
  have h2 := h.el
  exact needB_23 (by show (putM E).1.length ≤ _; omega)
theorem VI.kind {κ : Int} {m : Nat} {E : List Ent} {t : Th} (h : VI κ m E t) (hκ : κ = 1 ∨ κ = 2) {j : Nat} (hj : j < 23) : ((atT t (j + 1)).kind == 0) = true ↔ ∀ e ∈ E, e.i ≠ (j : Int) + 1 := by
  constructor
  · intro h1 e he hi
    obtain ⟨i, h2, h3, h4⟩ := h.num e he
    obtain rfl : i = j := by omega
    rw [h4] at h1
    rcases hκ with rfl | rfl <;> exact absurd h1 (by simp)
  · intro h1
    rw [h.free j hj h1]
    rfl
theorem VI.may {κ : Int} {m : Nat} {E : List Ent} {t : Th} (h : VI κ m E t) (hκ : κ = 1 ∨ κ = 2) : mayT t.l = true := by
  unfold mayT
  rw [decide_eq_true h.len, Bool.true_and, List.all_eq_true]
  intro i hi
  have hi2 := List.mem_range.1 hi
  rw [h.len] at hi2
  rw [at_of (by rw [h.len]; exact hi2)]
  dsimp only
  cases i with
  | zero =>
    have h3 : listB ⟨0, 2, 1, 1, 493, (atT t 0).change, (m : Int), 0, (putM E).1⟩ = true := by
      unfold listB
      dsimp only
      rw [h.rows.get]
      simp only [beq_self_eq_true, Bool.true_and, Bool.or_eq_true, decide_eq_true_eq]
      right
      have := Rows.last (E := E) (c := (m : Int) + 1) (fun x hx => by have := h.cs x hx; omega) (by omega)
      omega
    have h4 := h.rows.put.2
    have h5 := h.el
    rw [h.root]
    unfold okB ok1 ok2 ok3
    rw [h3]
    simp only [decide_eq_true (show ((putM E).1.length : Int) ≤ 768 by omega)]
    rfl
  | succ j =>
    by_cases hE : ∃ e ∈ E, e.i = (j : Int) + 1
    · obtain ⟨e, he, hi⟩ := hE
      obtain ⟨i, h1, h2, h3⟩ := h.num e he
      obtain rfl : i = j := by omega
      have hg := h.gens i h1
      rw [h3] at hg
      rw [h3]
      rcases hκ with rfl | rfl
      · simp [okB, ok1, ok2, ok3]
        omega
      · have h6 : getM [] = ([], 0) := rfl
        simp [okB, ok1, ok2, ok3, listB, h6]
        omega
    · rw [h.free j (by omega) (fun e he hi => hE ⟨e, he, hi⟩)]
      simp [okB, ok1, ok2, ok3, bareB]
      omega
/-! ### what calls come to -/
theorem VI.fold0 {κ : Int} {m : Nat} {E : List Ent} {t : Th} (h : VI κ m E t) : folderE t 0 1 = .ok 0 := by
  unfold folderE thingE
  rw [show decide ((0:Int) < 24) = true from rfl, needT, okE, show (0:Int).toNat = 0 from rfl, show ((atT t 0).kind != 0 && (atT t 0).gen == 1) = true by rw [h.root]; rfl, needT, okE, puE, okE, show ((atT t 0).kind == 2) = true by rw [h.root]; rfl, needT, okE]
  rfl
theorem VI.thing {κ : Int} {m : Nat} {E : List Ent} {t : Th} (h : VI κ m E t) (hκ : κ = 1 ∨ κ = 2) {e : Ent} (he : e ∈ E) : ∃ j : Nat, j < 23 ∧ e.i = (j : Int) + 1 ∧ thingE t e.i e.g = .ok (j + 1) ∧ atT t (j + 1) = ⟨(j : Int) + 1, κ, e.g, 1, 0, (atT t (j + 1)).change, 0, 0, []⟩ := by
  obtain ⟨j, h1, h2, h3⟩ := h.num e he
  refine ⟨j, h1, h2, ?_, h3⟩
  unfold thingE
  rw [h2, decide_eq_true (show (j : Int) + 1 < 24 by omega), needT, okE, toNat1, h3]
  have : ((⟨(j : Int) + 1, κ, e.g, 1, 0, (atT t (j + 1)).change, 0, 0, []⟩ : Sl).kind != 0 && (⟨(j : Int) + 1, κ, e.g, 1, 0, (atT t (j + 1)).change, 0, 0, []⟩ : Sl).gen == e.g) = true := by
    rcases hκ with rfl | rfl <;> simp
  rw [this, needT, okE, puE]
theorem VI.named {κ : Int} {m : Nat} {E : List Ent} {t : Th} (h : VI κ m E t) {e : Ent} (he : e ∈ E) : namedE e.s = .ok () := by unfold namedE; rw [(h.rows.nm e he).1]; rfl
theorem VI.found {κ : Int} {m : Nat} {P Q : List Ent} {e : Ent} {t : Th} (h : VI κ m (P ++ e :: Q) t) : foundS (atT t 0) e.s = some e := by unfold foundS; rw [h.ent]; exact h.rows.at_.1
theorem VI.miss {κ : Int} {m : Nat} {E : List Ent} {s : ByteArray} {t : Th} (h : VI κ m E t) (hs : ∀ x ∈ E, x.s ≠ s) : foundS (atT t 0) s = none := by unfold foundS; rw [h.ent]; exact (Rows.none hs).1
theorem VI.lookup {κ : Int} {m : Nat} {P Q : List Ent} {e : Ent} {t : Th} (h : VI κ m (P ++ e :: Q) t) (hκ : κ = 1 ∨ κ = 2) (r : Re) :
    ∃ j : Nat, j < 23 ∧ e.i = (j : Int) + 1 ∧ lookupE t r (ca 1 0 1 e.s 0 0 []) = .ok (t, tellS (atT t (j + 1)) r) ∧ (atT t (j + 1)).ino = e.i ∧ (atT t (j + 1)).gen = e.g := by
  have hem : e ∈ P ++ e :: Q := List.mem_append_right _ List.mem_cons_self
  obtain ⟨j, h1, h2, h3, h4⟩ := h.thing hκ hem
  refine ⟨j, h1, h2, ?_, by rw [h4]; exact h2.symm, by rw [h4]⟩
  unfold lookupE childE
  dsimp only
  rw [h.fold0, okE, h.named hem, okE, h.found]
  dsimp only
  rw [h3, okE, puE]
/-- The lowest number that is free. -/
theorem VI.low {κ : Int} {m : Nat} {E : List Ent} {t : Th} (h : VI κ m E t) (hκ : κ = 1 ∨ κ = 2) (hE : E.length < 23) :
    ∃ j : Nat, j < 23 ∧ freeAt t = some (j + 1) ∧ (∀ e ∈ E, e.i ≠ (j : Int) + 1) ∧ ∀ i : Nat, i < j → ∃ e ∈ E, e.i = (i : Int) + 1 := by
  have hl := h.len
  have hat : ∀ i (hi : i < t.l.length), t.l[i] = atT t i := fun i hi => (List.getElem?_eq_some_iff.1 (at_of hi)).2
  cases hf : freeAt t with
  | none =>
    unfold freeAt at hf
    rw [List.findIdx?_eq_none_iff] at hf
    have := cover (E := E) 23 (fun j hj => Classical.byContradiction fun hn => by
      have h1 := (h.kind hκ hj).2 (fun e he hi => hn ⟨e, he, hi⟩)
      have h2 := hf (atT t (j + 1)) (by rw [← hat (j + 1) (by omega)]; exact List.getElem_mem _)
      rw [h1] at h2
      cases h2)
    omega
  | some k =>
    unfold freeAt at hf
    rw [List.findIdx?_eq_some_iff_getElem] at hf
    obtain ⟨hk, h1, h2⟩ := hf
    rw [hat k hk] at h1
    cases k with
    | zero => rw [h.root] at h1; cases h1
    | succ j =>
      refine ⟨j, by omega, rfl, (h.kind hκ (by omega)).1 h1, fun i hi => Classical.byContradiction fun hn => ?_⟩
      have h3 := h2 (i + 1) (by omega)
      rw [hat (i + 1) (by omega)] at h3
      exact h3 ((h.kind hκ (by omega)).2 (fun e he hi => hn ⟨e, he, hi⟩))
/-- One thing more. -/
theorem VI.fresh {κ : Int} {m : Nat} {E : List Ent} {t : Th} (h : VI κ m E t) (hκ : κ = 1 ∨ κ = 2) {j : Nat} (hj : j < 23) (hf : freeAt t = some (j + 1)) (hn : ∀ e ∈ E, e.i ≠ (j : Int) + 1) (hE : E.length < 23) (hm : m < 100000) {s : ByteArray} (h1 : nameE (bytesOf s) = 0) (h2 : (bytesOf s).length ≤ 4) (h3 : ∀ x ∈ E, x.s ≠ s) (r : Re) {c : Ca} (hcm : c.mode = 0) (hcn : c.name = s) :
    ∃ t', freshE t r c 0 κ 0 [] = .ok (t', tellS (atT t' (j + 1)) r) ∧ VI κ (m + 1) (E ++ [⟨(m : Int) + 1, (j : Int) + 1, (atT t (j + 1)).gen + 1, s⟩]) t' ∧ (atT t' (j + 1)).ino = (j : Int) + 1 ∧ (atT t' (j + 1)).gen = (atT t (j + 1)).gen + 1 ∧ ∀ i : Nat, i < 23 → i ≠ j → (atT t' (i + 1)).gen = (atT t (i + 1)).gen := by
  have hl := h.len
  have hfr := h.free j hj hn
  have hg := h.gens j hj
  have hmb := h.mb
  have hcs := h.cs
  have hck : up64 (m : Int) = (m : Int) + 1 := by unfold up64; omega
  have hgk : ((atT t (j + 1)).gen + 1) % 4294967296 = (atT t (j + 1)).gen + 1 := by omega
  obtain ⟨e0, he0⟩ : ∃ e0 : Ent, e0 = ⟨(m : Int) + 1, (j : Int) + 1, (atT t (j + 1)).gen + 1, s⟩ := ⟨_, rfl⟩
  rw [← he0]
  have hR : Rows (E ++ [e0]) := by
    rw [he0]
    exact h.rows.snoc h1 h2 h3 (fun x hx => by have := hcs x hx; show x.c < (m : Int) + 1; omega) (by show 0 < (m : Int) + 1; omega) ⟨by show 0 ≤ (m : Int) + 1; omega, by show (m : Int) + 1 < 18446744073709551616; omega, by show 0 ≤ (j : Int) + 1; omega, by show (j : Int) + 1 < 4294967296; omega, by show 0 ≤ (atT t (j + 1)).gen + 1; omega, by show (atT t (j + 1)).gen + 1 < 4294967296; omega⟩
  obtain ⟨hp, hpl⟩ := hR.put
  rw [List.length_append, List.length_singleton] at hpl
  have ha : addM E e0 = (E ++ [e0], 0) := by
    rw [he0]
    exact Rows.add h1 h3 (fun x hx => by have := hcs x hx; show x.c < (m : Int) + 1; omega) (by show 0 < (m : Int) + 1; omega)
  have hs : (⟨(j : Int) + 1, κ, (atT t (j + 1)).gen + 1, 1, 0, 0, 0, 0, []⟩ : Sl) = ⟨(atT t (j + 1)).ino, κ, ((atT t (j + 1)).gen + 1) % 4294967296, 1, c.mode % 512, 0, 0, 0, []⟩ := by
    rw [hgk, hcm, show (atT t (j + 1)).ino = (j : Int) + 1 by rw [hfr]]
    rfl
  have hck2 : up64 (atT t 0).cookie = (m : Int) + 1 := by rw [h.root]; exact hck
  have hent : (⟨up64 (atT t 0).cookie, (⟨(j : Int) + 1, κ, (atT t (j + 1)).gen + 1, 1, 0, 0, 0, 0, []⟩ : Sl).ino, (⟨(j : Int) + 1, κ, (atT t (j + 1)).gen + 1, 1, 0, 0, 0, 0, []⟩ : Sl).gen, c.name⟩ : Ent) = e0 := by
    rw [hck2, hcn, he0]
  have hq := freshE_eq (r := r) (c := c) (kind := κ) (verf := 0) (data := []) (E := E) (d := 0) (k := j + 1) (by omega) (by omega) (by omega) hf hs h.ent (by rw [hent]; exact ha) (by rw [hent]; exact hp) (by rw [hent]; omega)
  rw [hent, hck2] at hq
  have hro : ({ atT t 0 with cookie := (m : Int) + 1, d := (putM (E ++ [e0])).1, change := up64 t.ch } : Sl) = ⟨0, 2, 1, 1, 493, up64 t.ch, (m : Int) + 1, 0, (putM (E ++ [e0])).1⟩ := by rw [h.root]
  rw [hro] at hq
  obtain ⟨t', ht'⟩ : ∃ t' : Th, t' = ⟨(t.l.set (j + 1) ⟨(j : Int) + 1, κ, (atT t (j + 1)).gen + 1, 1, 0, up64 t.ch, 0, 0, []⟩).set 0 ⟨0, 2, 1, 1, 493, up64 t.ch, (m : Int) + 1, 0, (putM (E ++ [e0])).1⟩, up64 t.ch, t.room⟩ := ⟨_, rfl⟩
  have hat : ∀ i, atT t' i = if i = 0 then ⟨0, 2, 1, 1, 493, up64 t.ch, (m : Int) + 1, 0, (putM (E ++ [e0])).1⟩ else if i = j + 1 then ⟨(j : Int) + 1, κ, (atT t (j + 1)).gen + 1, 1, 0, up64 t.ch, 0, 0, []⟩ else atT t i := fun i => by
    rw [ht']
    exact at2 (by omega) (by omega)
  have hV : VI κ (m + 1) (E ++ [e0]) t' := by
    have hmem : ∀ {p : Ent → Prop}, (∀ x ∈ E, p x) → p e0 → ∀ x ∈ E ++ [e0], p x := by
      intro p h7 h8 x hx
      rcases List.mem_append.1 hx with h9 | h9
      · exact h7 x h9
      · rw [List.mem_singleton.1 h9]; exact h8
    refine ⟨by rw [ht']; simp [hl], by rw [ht']; exact h.room, hR, by simp; omega, by omega, hmem (fun x hx => by have := hcs x hx; push_cast; omega) (by rw [he0]; push_cast; exact Int.le_refl _), ?_, hmem (fun x hx => ?_) ⟨j, hj, by rw [he0], ?_⟩, ?_, fun i hi hni => ?_, fun i hi => ?_⟩
    · rw [hat, if_pos rfl]
      push_cast
      rfl
    · obtain ⟨i, hi, h4, h5⟩ := h.num x hx
      have hij : i ≠ j := by rintro rfl; exact hn x hx h4
      refine ⟨i, hi, h4, ?_⟩
      rw [hat, if_neg (by omega), if_neg (by omega)]
      exact h5
    · rw [hat, if_neg (by omega), if_pos rfl, he0]
    · rw [List.pairwise_append]
      exact ⟨h.dist, List.pairwise_singleton .., fun a ha b hb => by rw [List.mem_singleton.1 hb, he0]; exact hn a ha⟩
    · have hij : i ≠ j := by
        rintro rfl
        exact hni e0 (List.mem_append_right _ (List.mem_singleton.2 rfl)) (by rw [he0])
      rw [hat, if_neg (by omega), if_neg (by omega)]
      exact h.free i hi (fun e he => hni e (List.mem_append_left _ he))
    · rw [hat, if_neg (by omega)]
      have h6 := h.gens i hi
      by_cases hij : i = j
      · subst hij
        rw [if_pos rfl]
        push_cast
        show 0 ≤ (atT t (i + 1)).gen + 1 ∧ (atT t (i + 1)).gen + 1 ≤ _
        omega
      · rw [if_neg (by omega)]
        push_cast
        omega
  refine ⟨t', ?_, hV, ?_, ?_, fun i hi hij => ?_⟩
  · have hu : usedT ((t.l.set (j + 1) ⟨(j : Int) + 1, κ, (atT t (j + 1)).gen + 1, 1, 0, 0, 0, 0, []⟩).set 0 { atT t 0 with cookie := (m : Int) + 1, d := (putM (E ++ [e0])).1 }) = usedT t'.l := by
      rw [ht']
      apply usedT_d
      rw [List.map_set, List.map_set, List.map_set, List.map_set]
    rw [hu] at hq
    have h6 := hV.used
    have h7 := h.room
    rw [hq, decide_eq_true (by omega), needT, okE, puE, hat, if_neg (by omega), if_pos rfl, ht']
  · rw [hat, if_neg (by omega), if_pos rfl]
  · rw [hat, if_neg (by omega), if_pos rfl]
  · rw [hat, if_neg (by omega), if_neg (by omega)]
end Go.Proofs.YtanemmcddgkpdaaGreat.Hm
end
section
/- Chapter 13: a volume whose root has some things in it: one taken away, and calls, pure; conditions: those that each theorem names. -/
namespace Go.Proofs.YtanemmcddgkpdaaGreat.Hm
open Go.RowKit Go.Proofs.YtanemmcddgkpdaaGreatW.PrintWords Go.Proofs.YtanemmcddgkpdaaGreatW.PrintLast Go.Proofs.YtanemmcddgkpdaaGreatW.PrintMore
set_option linter.unusedVariables false
set_option linter.unusedSimpArgs false
theorem VI.remove {m : Nat} {P Q : List Ent} {e : Ent} {t : Th} (h : VI 1 m (P ++ e :: Q) t) (r : Re) :
    ∃ t', removeE t r (ca 10 0 1 e.s 0 0 []) = .ok (t', tellS (atT t' 0) r) ∧ VI 1 m (P ++ Q) t' ∧ ∀ i : Nat, i < 23 → (atT t' (i + 1)).gen = (atT t (i + 1)).gen := by
  have hl := h.len
  have hem : e ∈ P ++ e :: Q := List.mem_append_right _ List.mem_cons_self
  have hsub : (P ++ Q).Sublist (P ++ e :: Q) := (List.Sublist.refl P).append (List.sublist_cons_self e Q)
  obtain ⟨j, hj, hi, hth, hf⟩ := h.thing (Or.inl rfl) hem
  have hR := h.rows.sub hsub
  obtain ⟨hp, hpl⟩ := hR.put
  have hel := h.el
  have hel2 : (P ++ Q).length ≤ 22 := by simp at hel ⊢; omega
  have hle : leaveE t 0 e.s = .ok (setT t 0 { atT t 0 with d := (putM (P ++ Q)).1 }) := by
    unfold leaveE
    dsimp only
    rw [h.ent, h.rows.at_.2]
    dsimp only
    rw [show ((0:Int) == 0) = true from rfl, needT, okE, keepE_eq hp (by omega), okE, puE]
  have ha : atT (setT t 0 { atT t 0 with d := (putM (P ++ Q)).1 }) (j + 1) = atT t (j + 1) := by rw [at_set (by omega), if_neg (by omega)]
  have hul : unlinkS (atT t (j + 1)) = ⟨(j : Int) + 1, 0, e.g, 0, 0, (atT t (j + 1)).change, 0, 0, []⟩ := by
    rw [hf]
    rfl
  have hE2 : removeE t r (ca 10 0 1 e.s 0 0 []) = outE t r (ca 10 0 1 e.s 0 0 []) 0 (j + 1) := by
    unfold removeE innerE childE
    dsimp only
    rw [h.fold0, okE, h.named hem, okE, h.found]
    dsimp only
    rw [hth, okE, puE, okE]
    dsimp only
    rw [show ((atT t (j + 1)).kind != 2) = true by rw [hf]; rfl, needT, okE]
  rw [hE2]
  unfold outE
  dsimp only
  rw [hle, okE, ha, hul, touch2 (by omega) (by omega) (by omega)]
  have hro : ({ atT t 0 with d := (putM (P ++ Q)).1, change := up64 t.ch } : Sl) = ⟨0, 2, 1, 1, 493, up64 t.ch, (m : Int), 0, (putM (P ++ Q)).1⟩ := by rw [h.root]
  obtain ⟨t', ht'⟩ : ∃ t' : Th, t' = ⟨(t.l.set 0 ⟨0, 2, 1, 1, 493, up64 t.ch, (m : Int), 0, (putM (P ++ Q)).1⟩).set (j + 1) ⟨(j : Int) + 1, 0, e.g, 0, 0, up64 t.ch, 0, 0, []⟩, up64 t.ch, t.room⟩ := ⟨_, rfl⟩
  have hat : ∀ i, atT t' i = if i = j + 1 then ⟨(j : Int) + 1, 0, e.g, 0, 0, up64 t.ch, 0, 0, []⟩ else if i = 0 then ⟨0, 2, 1, 1, 493, up64 t.ch, (m : Int), 0, (putM (P ++ Q)).1⟩ else atT t i := fun i => by
    rw [ht']
    exact at2 (by omega) (by omega)
  have hgen : ∀ i : Nat, i < 23 → (atT t' (i + 1)).gen = (atT t (i + 1)).gen := fun i hi2 => by
    rw [hat]
    by_cases hij : i = j
    · subst hij; rw [if_pos rfl, hf]
    · rw [if_neg (by omega), if_neg (by omega)]
  have hne : ∀ x ∈ P ++ Q, x.i ≠ e.i := fun x hx => by
    rcases List.mem_append.1 hx with h1 | h1
    · exact (List.pairwise_append.1 h.dist).2.2 x h1 e List.mem_cons_self
    · exact fun h9 => (List.pairwise_cons.1 (List.pairwise_append.1 h.dist).2.1).1 x h1 h9.symm
  have hV : VI 1 m (P ++ Q) t' := by
    refine ⟨by rw [ht']; simp [hl], by rw [ht']; exact h.room, hR, by omega, h.mb, fun x hx => h.cs x (hsub.subset hx), ?_, fun x hx => ?_, h.dist.sublist hsub, fun i hi2 hni => ?_, fun i hi2 => by rw [hgen i hi2]; exact h.gens i hi2⟩
    · rw [hat, if_neg (by omega), if_pos rfl]
    · obtain ⟨i, h1, h2, h3⟩ := h.num x (hsub.subset hx)
      have hij : i ≠ j := by rintro rfl; exact hne x hx (by rw [h2, hi])
      refine ⟨i, h1, h2, ?_⟩
      rw [hat, if_neg (by omega), if_neg (by omega)]
      exact h3
    · by_cases hij : i = j
      · subst hij
        rw [hat, if_pos rfl]
      · rw [hat, if_neg (by omega), if_neg (by omega)]
        refine h.free i hi2 (fun x hx => ?_)
        rcases List.mem_append.1 hx with h1 | h1
        · exact hni x (List.mem_append_left _ h1)
        · rcases List.mem_cons.1 h1 with h2 | h2
          · subst h2; omega
          · exact hni x (List.mem_append_right _ h2)
  refine ⟨t', ?_, hV, hgen⟩
  have hu : usedT ((t.l.set 0 { atT t 0 with d := (putM (P ++ Q)).1 }).set (j + 1) ⟨(j : Int) + 1, 0, e.g, 0, 0, (atT t (j + 1)).change, 0, 0, []⟩) = usedT t'.l := by
    rw [ht']
    apply usedT_d
    rw [List.map_set, List.map_set, List.map_set, List.map_set]
  have h6 := hV.used
  have h7 := h.room
  rw [hu, decide_eq_true (by omega), needT, okE, puE, okE, puE, hro]
  have h9 : (⟨(t.l.set 0 ⟨0, 2, 1, 1, 493, up64 t.ch, (m : Int), 0, (putM (P ++ Q)).1⟩).set (j + 1) { (⟨(j : Int) + 1, 0, e.g, 0, 0, (atT t (j + 1)).change, 0, 0, []⟩ : Sl) with change := up64 t.ch }, up64 t.ch, t.room⟩ : Th) = t' := ht'.symm
  rw [h9]
/-! ### calls -/
theorem doT_ok {t t1 t2 : Th} {c : Ca} {r1 r2 : Re} (h1 : mayT t.l = true) (h2 : 1 ≤ c.op) (h3 : c.op ≤ 16) (h : opE t (toldR c) c = .ok (t1, r1)) (he : doT t c = (t2, r2)) : t2 = t1 ∧ r2 = r1 := by
  rw [doT_op h1 h2 h3, h] at he
  exact ⟨(Prod.mk.inj he).1.symm, (Prod.mk.inj he).2.symm⟩
theorem VI.remove_do {m : Nat} {P Q : List Ent} {e : Ent} {t t2 : Th} {r2 : Re} (h : VI 1 m (P ++ e :: Q) t) (he : doT t (ca 10 0 1 e.s 0 0 []) = (t2, r2)) : r2.st = 0 ∧ VI 1 m (P ++ Q) t2 ∧ ∀ i : Nat, i < 23 → (atT t2 (i + 1)).gen = (atT t (i + 1)).gen := by
  obtain ⟨t', w1, w2, w3⟩ := h.remove (toldR (ca 10 0 1 e.s 0 0 []))
  obtain ⟨rfl, rfl⟩ := doT_ok (c := ca 10 0 1 e.s 0 0 []) (h.may (Or.inl rfl)) (show (1 : Int) ≤ 10 by decide) (show (10 : Int) ≤ 16 by decide) w1 he
  exact ⟨rfl, w2, w3⟩
theorem VI.lookup_do {κ : Int} {m : Nat} {P Q : List Ent} {e : Ent} {t t2 : Th} {r2 : Re} (h : VI κ m (P ++ e :: Q) t) (hκ : κ = 1 ∨ κ = 2) (he : doT t (ca 1 0 1 e.s 0 0 []) = (t2, r2)) : r2.st = 0 ∧ r2.ai = e.i ∧ r2.ag = e.g ∧ t2 = t := by
  obtain ⟨j, h1, h2, w1, w2, w3⟩ := h.lookup hκ (toldR (ca 1 0 1 e.s 0 0 []))
  obtain ⟨rfl, rfl⟩ := doT_ok (c := ca 1 0 1 e.s 0 0 []) (h.may hκ) (show (1 : Int) ≤ 1 by decide) (show (1 : Int) ≤ 16 by decide) w1 he
  exact ⟨rfl, w2, w3, rfl⟩
theorem VI.create {m : Nat} {E : List Ent} {t : Th} {s : ByteArray} {cnt : Int} (h : VI 1 m E t) (h1 : nameE (bytesOf s) = 0) (h3 : ∀ x ∈ E, x.s ≠ s) (hc : cnt = 0 ∨ cnt = 2) (r : Re) : createE t r (ca 6 0 1 s cnt 0 []) = freshE t r (ca 6 0 1 s cnt 0 []) 0 1 0 [] := by
  unfold createE
  dsimp only
  rw [h.fold0, okE, show namedE s = .ok () by unfold namedE; rw [h1]; rfl, okE, show decide (cnt ≤ 2) = true from decide_eq_true (by omega), needT, okE, h.miss h3, if_neg (by omega)]
theorem VI.create_do {m : Nat} {E : List Ent} {t t2 : Th} {r2 : Re} {s : ByteArray} {cnt : Int} (h : VI 1 m E t) (hE : E.length < 23) (hm : m < 100000) (h1 : nameE (bytesOf s) = 0) (h2 : (bytesOf s).length ≤ 4) (h3 : ∀ x ∈ E, x.s ≠ s) (hc : cnt = 0 ∨ cnt = 2) (he : doT t (ca 6 0 1 s cnt 0 []) = (t2, r2)) :
    ∃ j : Nat, j < 23 ∧ (∀ e ∈ E, e.i ≠ (j : Int) + 1) ∧ (∀ i : Nat, i < j → ∃ e ∈ E, e.i = (i : Int) + 1) ∧ r2.st = 0 ∧ r2.ai = (j : Int) + 1 ∧ r2.ag = (atT t (j + 1)).gen + 1 ∧ VI 1 (m + 1) (E ++ [⟨(m : Int) + 1, (j : Int) + 1, (atT t (j + 1)).gen + 1, s⟩]) t2 ∧ (atT t2 (j + 1)).gen = (atT t (j + 1)).gen + 1 ∧ ∀ i : Nat, i < 23 → i ≠ j → (atT t2 (i + 1)).gen = (atT t (i + 1)).gen := by
  obtain ⟨j, hj, hf, hn, hlow⟩ := h.low (Or.inl rfl) hE
  obtain ⟨t', w1, w2, w3, w4, w5⟩ := h.fresh (Or.inl rfl) hj hf hn hE hm h1 h2 h3 (toldR (ca 6 0 1 s cnt 0 [])) (c := ca 6 0 1 s cnt 0 []) rfl rfl
  rw [← h.create h1 h3 hc] at w1
  obtain ⟨rfl, rfl⟩ := doT_ok (c := ca 6 0 1 s cnt 0 []) (h.may (Or.inl rfl)) (show (1 : Int) ≤ 6 by decide) (show (6 : Int) ≤ 16 by decide) w1 he
  exact ⟨j, hj, hn, hlow, rfl, w3, w4, w2, w4, w5⟩
end Go.Proofs.YtanemmcddgkpdaaGreat.Hm
end
section
/- Chapter 13: how often things are named by entries, pure; conditions: those that each theorem names. -/
namespace Go.Proofs.YtanemmcddgkpdaaGreat.Sx
open Go.RowKit Go.Proofs.YtanemmcddgkpdaaGreat.Hm Go.Proofs.YtanemmcddgkpdaaGreatW.PrintWords Go.Proofs.YtanemmcddgkpdaaGreatW.PrintLast Go.Proofs.YtanemmcddgkpdaaGreatW.PrintMore
set_option linter.unusedVariables false
set_option linter.unusedSimpArgs false
def alE (ts : List Sl) : List Ent := ts.flatMap fun s => if s.kind = 2 then entS s else []
theorem alE_none {l : List Sl} (h : ∀ s ∈ l, s.kind ≠ 2) : alE l = [] := by
  induction l with
  | nil => rfl
  | cons s l ih =>
    show (if s.kind = 2 then entS s else []) ++ alE l = []
    rw [if_neg (h s List.mem_cons_self), ih (fun x hx => h x (List.mem_cons_of_mem _ hx))]
    rfl
theorem VI.all {m : Nat} {E : List Ent} {t : Th} (h : VI 1 m E t) : alE t.l = E := by
  have hl := h.len
  have hk : ∀ j : Nat, j < 23 → (atT t (j + 1)).kind ≠ 2 := fun j hj => by
    by_cases hE : ∃ e ∈ E, e.i = (j : Int) + 1
    · obtain ⟨e, he, hi⟩ := hE
      obtain ⟨i, h1, h2, h3⟩ := h.num e he
      obtain rfl : i = j := by omega
      have hk1 : (atT t (i + 1)).kind = 1 := by rw [h3]
      omega
    · have hk1 : (atT t (j + 1)).kind = 0 := by rw [h.free j hj (fun e he hi => hE ⟨e, he, hi⟩)]
      omega
  have hent := h.ent
  have hr : (atT t 0).kind = 2 := by rw [h.root]
  obtain ⟨l, ch, room⟩ := t
  cases l with
  | nil => cases hl
  | cons s l =>
    show (if s.kind = 2 then entS s else []) ++ alE l = E
    rw [if_pos (show s.kind = 2 from hr), alE_none (l := l), List.append_nil]
    · exact hent
    · intro x hx
      obtain ⟨i, hi, rfl⟩ := List.mem_iff_getElem.1 hx
      have := hk i (by simp at hl; omega)
      unfold atT at this
      dsimp only at this
      rw [List.getD_cons_succ, List.getD_eq_getElem?_getD, List.getElem?_eq_getElem hi] at this
      exact this
end Go.Proofs.YtanemmcddgkpdaaGreat.Sx
end
section
/- Chapter 13: at most as many things as numbers, the lowest free one is given, pure; conditions: those that each theorem names. -/
namespace Go.Proofs.YtanemmcddgkpdaaGreat.Sx
open Go.RowKit Go.Proofs.YtanemmcddgkpdaaGreat.Hm Go.Proofs.YtanemmcddgkpdaaGreatW.PrintWords Go.Proofs.YtanemmcddgkpdaaGreatW.PrintLast Go.Proofs.YtanemmcddgkpdaaGreatW.PrintMore
set_option linter.unusedVariables false
set_option linter.unusedSimpArgs false
theorem fnm_b {i : Nat} (h : i < 30) : bytesOf (fnm i) = [102, 97 + (i : Int)] := bytesOf_strOfNums _ (by simp [bytesB]; omega)
theorem fnm_n : ((List.range 30).all fun i => nameE [102, 97 + (i : Int)] == 0) = true := by kernel_rfl
theorem fnm_name {i : Nat} (h : i < 30) : nameE (bytesOf (fnm i)) = 0 ∧ (bytesOf (fnm i)).length ≤ 4 := by
  rw [fnm_b h]
  exact ⟨eq_of_beq (List.all_eq_true.1 fnm_n i (List.mem_range.2 h)), by simp⟩
theorem fnm_ne {i k : Nat} (hi : i < 30) (hk : k < 30) (h : fnm i = fnm k) : i = k := by
  have h2 := congrArg bytesOf h
  rw [fnm_b hi, fnm_b hk] at h2
  simp at h2
  omega
structure NI (p m : Nat) (E : List Ent) (t : Th) : Prop where
  v : VI 1 m E t
  len : E.length = p
  fw : ∀ k : Nat, k < p → ∃ e ∈ E, e.s = fnm k ∧ e.i = (k : Int) + 1
  back : ∀ e ∈ E, ∃ k : Nat, k < p ∧ e.s = fnm k ∧ e.i = (k : Int) + 1
  hp : p ≤ 23
/-- One taken away, and made again. -/
theorem NI.again {p m k : Nat} {E : List Ent} {t t1 t2 t3 : Th} {r1 r2 r3 : Re} (h : NI p m E t) (hk : k < p) (hm : m < 99999) (he1 : doT t (ca 1 0 1 (fnm k) 0 0 []) = (t1, r1)) (he2 : doT t (ca 10 0 1 (fnm k) 0 0 []) = (t2, r2)) (he3 : doT t2 (ca 6 0 1 (fnm k) 0 0 []) = (t3, r3)) :
    r2.st = 0 ∧ r3.st = 0 ∧ r3.ai = r1.ai ∧ r3.ag = r1.ag + 1 ∧ 0 ≤ r1.ag ∧ r1.ag < 100000 ∧ ∃ E3, NI p (m + 1) E3 t3 := by
  obtain ⟨e, he, hs, hi⟩ := h.fw k hk
  obtain ⟨n1, n2⟩ := fnm_name (i := k) (by have := h.hp; omega)
  have hp := h.hp
  obtain ⟨P, Q, hE⟩ := List.append_of_mem he
  have hv := h.v
  rw [hE] at hv
  rw [← hs] at he1 he2
  obtain ⟨-, a1, a2, -⟩ := hv.lookup_do (Or.inl rfl) he1
  obtain ⟨b1, b2, b3⟩ := hv.remove_do he2
  have hne : ∀ x ∈ P ++ Q, x.i ≠ e.i := fun x hx => by
    rcases List.mem_append.1 hx with h1 | h1
    · exact (List.pairwise_append.1 hv.dist).2.2 x h1 e List.mem_cons_self
    · exact fun h9 => (List.pairwise_cons.1 (List.pairwise_append.1 hv.dist).2.1).1 x h1 h9.symm
  have hin : ∀ x ∈ P ++ Q, x ∈ E := fun x hx => by
    rw [hE]
    rcases List.mem_append.1 hx with h1 | h1
    · exact List.mem_append_left _ h1
    · exact List.mem_append_right _ (List.mem_cons_of_mem _ h1)
  have hout : ∀ x ∈ E, x ≠ e → x ∈ P ++ Q := fun x hx hne => by
    rw [hE] at hx
    rcases List.mem_append.1 hx with h1 | h1
    · exact List.mem_append_left _ h1
    · rcases List.mem_cons.1 h1 with h2 | h2
      · exact absurd h2 hne
      · exact List.mem_append_right _ h2
  have hlen : (P ++ Q).length + 1 = p := by rw [← h.len, hE]; simp; omega
  obtain ⟨j, h1, h2, h3, h4, h5, h6, h7, h8, h9⟩ := b2.create_do (by omega) (by omega) n1 n2 (fun x hx => by
    obtain ⟨k2, q1, q2, q3⟩ := h.back x (hin x hx)
    have := hne x hx
    rw [q2]
    exact fun e9 => absurd (fnm_ne (by omega) (by omega) e9) (by omega)) (Or.inl rfl) he3
  have hj : j = k := by
    rcases Nat.lt_trichotomy j k with h10 | h10 | h10
    · obtain ⟨x, hx, -, q⟩ := h.fw j (by omega)
      exact absurd q (h2 x (hout x hx (fun e9 => by rw [e9] at q; omega)))
    · exact h10
    · obtain ⟨x, hx, q⟩ := h3 k h10
      exact absurd (by rw [q, hi]) (hne x hx)
  subst hj
  obtain ⟨i, q1, q2, q3⟩ := h.v.num e he
  have hij : i = j := by omega
  subst hij
  have hg : (atT t2 (i + 1)).gen = e.g := by rw [b3 i h1, q3]
  have hge := h.v.gens i h1
  have hge2 : (atT t (i + 1)).gen = e.g := by rw [q3]
  refine ⟨b1, h4, by rw [h5, a1, hi], by rw [h6, a2, hg], by rw [a2]; omega, by rw [a2]; omega, _, h7, by rw [List.length_append, List.length_singleton]; exact hlen, fun k hk => ?_, fun x hx => ?_, hp⟩
  · by_cases hkj : k = i
    · exact ⟨_, List.mem_append_right _ (List.mem_singleton.2 rfl), by rw [hkj], by rw [hkj]⟩
    · obtain ⟨x, hx, w1, w2⟩ := h.fw k hk
      exact ⟨x, List.mem_append_left _ (hout x hx (fun e9 => by rw [e9] at w2; omega)), w1, w2⟩
  · rcases List.mem_append.1 hx with h10 | h10
    · exact h.back x (hin x h10)
    · rw [List.mem_singleton.1 h10]
      exact ⟨i, hk, rfl, rfl⟩
end Go.Proofs.YtanemmcddgkpdaaGreat.Sx
end
