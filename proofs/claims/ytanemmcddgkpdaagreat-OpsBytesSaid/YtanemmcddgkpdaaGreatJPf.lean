/- Chapter 13: a file that is written and read, pure; conditions: those that each theorem names. -/
import Derived.Test.YtanemmcddgkpdaaGreatJO2
namespace Go.Proofs.YtanemmcddgkpdaaGreat.Hm
open Go.RowKit Go.Proofs.YtanemmcddgkpdaaGreatW.PrintWords Go.Proofs.YtanemmcddgkpdaaGreatW.PrintLast Go.Proofs.YtanemmcddgkpdaaGreatW.PrintMore
set_option linter.unusedVariables false
set_option linter.unusedSimpArgs false
/-- Things of which one is another one. -/
theorem may_set {l : List Sl} {k : Nat} {s : Sl} (h : mayT l = true) (h1 : s.ino = (k : Int)) (h2 : okB s = true) : mayT (l.set k s) = true := by
  unfold mayT at h ⊢
  rw [Bool.and_eq_true] at h ⊢
  refine ⟨by rw [List.length_set]; exact h.1, List.all_eq_true.2 fun i hi => ?_⟩
  rw [List.length_set] at hi
  have h3 := List.all_eq_true.1 h.2 i hi
  rw [List.getElem?_set]
  by_cases hk : k = i
  · subst hk
    rw [if_pos rfl, if_pos (List.mem_range.1 hi)]
    dsimp only
    rw [h2, decide_eq_true h1]
    rfl
  · rw [if_neg hk]
    exact h3
noncomputable def b0T : Th := (doT (formT 30) (ca 6 0 1 ⟨#[102]⟩ 0 0 [])).1
theorem b0_may : mayT b0T.l = true := by kernel_rfl
theorem b0_used : usedT b0T.l = 1 := by kernel_rfl
theorem b0_len : b0T.l.length = 24 := by kernel_rfl
theorem b0_at : b0T.l[1]? = some (fileM 1 2 []) := by kernel_rfl
theorem b0_room : b0T.room = 30 := by kernel_rfl
theorem b0_st : (doT (formT 30) (ca 6 0 1 ⟨#[102]⟩ 0 0 [])).2.st = 0 ∧ (doT (formT 30) (ca 6 0 1 ⟨#[102]⟩ 0 0 [])).2.ai = 1 ∧ (doT (formT 30) (ca 6 0 1 ⟨#[102]⟩ 0 0 [])).2.ag = 1 := ⟨by kernel_rfl, by kernel_rfl, by kernel_rfl⟩
/-- Things of one file. -/
structure FI (d : List Int) (t : Th) : Prop where
  l : ∃ ch, t.l = b0T.l.set 1 (fileM 1 ch d)
  room : t.room = 30
  d : d.length ≤ 768
theorem FI.start : FI [] b0T := by
  refine ⟨⟨2, ?_⟩, b0_room, by simp⟩
  refine (List.ext_getElem? fun i => ?_)
  rw [List.getElem?_set]
  by_cases h : 1 = i
  · subst h
    rw [if_pos rfl, b0_at, if_pos (by rw [b0_len]; decide)]
  · rw [if_neg h]
theorem fileM_ok {d : List Int} {ch : Int} (h : d.length ≤ 768) : okB (fileM 1 ch d) = true := by
  simp [fileM, okB, ok1, ok2, ok3]
  exact decide_eq_true (by omega)
theorem FI.may {d : List Int} {t : Th} (h : FI d t) : mayT t.l = true := by
  obtain ⟨ch, hl⟩ := h.l
  rw [hl]
  exact may_set b0_may rfl (fileM_ok h.d)
theorem FI.at {d : List Int} {t : Th} (h : FI d t) : ∃ ch, atT t 1 = fileM 1 ch d := by
  obtain ⟨ch, hl⟩ := h.l
  refine ⟨ch, at_eq ?_⟩
  rw [hl, List.getElem?_set_self (by rw [b0_len]; decide)]
theorem FI.ok {d : List Int} {t : Th} (h : FI d t) : thingE t 1 1 = .ok 1 ∧ fileE t 1 1 = .ok 1 := by
  obtain ⟨ch, hl⟩ := h.at
  exact file_ok (j := 0) (by decide) hl
theorem FI.used {d : List Int} {t : Th} (h : FI d t) : usedT t.l = 1 + needB d.length := by
  obtain ⟨ch, hl⟩ := h.l
  have := used_set (s' := fileM 1 ch d) b0_at
  rw [hl]
  have h1 : needB (fileM 1 2 []).d.length = 0 := rfl
  have h2 : (fileM 1 ch d).d = d := rfl
  rw [h1, h2, b0_used] at this
  omega
theorem needB_768 {n : Nat} (h : n ≤ 768) : needB n ≤ 8 := by unfold needB; omega
/-- The file's bytes, and its change, others. -/
theorem FI.put {d d' : List Int} {t : Th} (h : FI d t) (h' : d'.length ≤ 768) : ∃ t', touchE (setT t 1 { atT t 1 with d := d' }) [1] = .ok t' ∧ FI d' t' ∧ ∃ ch, atT t' 1 = fileM 1 ch d' := by
  obtain ⟨ch, hl⟩ := h.l
  obtain ⟨ch2, ha⟩ := h.at
  have hlen : 1 < t.l.length := by rw [hl, List.length_set, b0_len]; decide
  rw [touch1 hlen]
  have hu : usedT (t.l.set 1 { atT t 1 with d := d' }) = 1 + needB d'.length := by
    have h1 : FI d' ⟨t.l.set 1 { atT t 1 with d := d' }, t.ch, t.room⟩ := ⟨⟨ch2, by rw [hl, List.set_set, ha]; rfl⟩, h.room, h'⟩
    exact h1.used
  have h8 := needB_768 h'
  rw [hu, decide_eq_true (by rw [h.room]; omega), needT, okE]
  have hF : FI d' ⟨t.l.set 1 { ({ atT t 1 with d := d' } : Sl) with change := up64 t.ch }, up64 t.ch, t.room⟩ := ⟨⟨up64 t.ch, by rw [hl, List.set_set, ha]; rfl⟩, h.room, h'⟩
  exact ⟨_, rfl, hF, hF.at⟩
/-- What is written at a place. -/
def wrL (d : List Int) (off : Nat) (xs : List Int) : List Int := if xs.length = 0 then d else (sizedL d (max d.length (off + xs.length))).take off ++ xs ++ (sizedL d (max d.length (off + xs.length))).drop (off + xs.length)
theorem wrL_len {d : List Int} {off : Nat} {xs : List Int} : (wrL d off xs).length = if xs.length = 0 then d.length else max d.length (off + xs.length) := by
  unfold wrL
  split
  · rfl
  · rw [List.length_append, List.length_append, List.length_take, List.length_drop, sizedL_length]
    omega
theorem FI.write {d : List Int} {t t2 : Th} {r2 : Re} {off : Nat} {xs : List Int} (h : FI d t) (he : doT t (ca 5 1 1 ⟨#[]⟩ 0 (off : Int) xs) = (t2, r2)) :
    (768 < off + xs.length ∧ r2.st = 65 ∧ t2 = t) ∨ (off + xs.length ≤ 768 ∧ r2.st = 0 ∧ FI (wrL d off xs) t2) := by
  obtain ⟨h1, h2⟩ := h.ok
  obtain ⟨ch, ha⟩ := h.at
  have hd := h.d
  have hop : ∀ c : Ca, c = ca 5 1 1 ⟨#[]⟩ 0 (off : Int) xs → 1 ≤ c.op ∧ c.op ≤ 16 := by rintro c rfl; exact ⟨by show (1:Int) ≤ 5; decide, by show (5:Int) ≤ 16; decide⟩
  have hE : ∀ r, writeE t r (ca 5 1 1 ⟨#[]⟩ 0 (off : Int) xs) = (needE (decide ((off : Int) ≤ 768) && decide ((off : Int) + xs.length ≤ 768)) 65 >>= fun _ => if xs.length = 0 then pure (t, tellS (atT t 1) r)
      else touchE (setT t 1 { atT t 1 with d := (sizedL d (max d.length (off + xs.length))).take off ++ xs ++ (sizedL d (max d.length (off + xs.length))).drop (off + xs.length) }) [1] >>= fun t' => pure (t', tellS (atT t' 1) r)) := by
    intro r
    unfold writeE
    dsimp only
    rw [h2, okE, ha, Int.toNat_natCast]
    rfl
  by_cases hle : off + xs.length ≤ 768
  · right
    have hb : (decide ((off : Int) ≤ 768) && decide ((off : Int) + xs.length ≤ 768)) = true := by rw [decide_eq_true (by omega), decide_eq_true (by omega)]; rfl
    by_cases h0 : xs.length = 0
    · have w0 : opE t (toldR (ca 5 1 1 ⟨#[]⟩ 0 (off : Int) xs)) (ca 5 1 1 ⟨#[]⟩ 0 (off : Int) xs) = .ok (t, tellS (atT t 1) (toldR (ca 5 1 1 ⟨#[]⟩ 0 (off : Int) xs))) := by
        show writeE t _ _ = _
        rw [hE, hb, needT, okE, if_pos h0, puE]
      obtain ⟨rfl, rfl⟩ := doT_ok h.may (hop _ rfl).1 (hop _ rfl).2 w0 he
      refine ⟨hle, rfl, ?_⟩
      unfold wrL
      rw [if_pos h0]
      exact h
    · obtain ⟨t', q1, q2, ch2, q3⟩ := h.put (d' := (sizedL d (max d.length (off + xs.length))).take off ++ xs ++ (sizedL d (max d.length (off + xs.length))).drop (off + xs.length)) (by
        have := @wrL_len d off xs
        unfold wrL at this
        rw [if_neg h0, if_neg h0] at this
        rw [this]; omega)
      have w0 : opE t (toldR (ca 5 1 1 ⟨#[]⟩ 0 (off : Int) xs)) (ca 5 1 1 ⟨#[]⟩ 0 (off : Int) xs) = .ok (t', tellS (atT t' 1) (toldR (ca 5 1 1 ⟨#[]⟩ 0 (off : Int) xs))) := by
        show writeE t _ _ = _
        rw [hE, hb, needT, okE, if_neg h0, q1, okE, puE]
      obtain ⟨rfl, rfl⟩ := doT_ok h.may (hop _ rfl).1 (hop _ rfl).2 w0 he
      refine ⟨hle, rfl, ?_⟩
      unfold wrL
      rw [if_neg h0]
      exact q2
  · left
    have hb : (decide ((off : Int) ≤ 768) && decide ((off : Int) + xs.length ≤ 768)) = false := by rw [decide_eq_false (show ¬ (off : Int) + xs.length ≤ 768 by omega), Bool.and_false]
    have w0 : opE t (toldR (ca 5 1 1 ⟨#[]⟩ 0 (off : Int) xs)) (ca 5 1 1 ⟨#[]⟩ 0 (off : Int) xs) = .error 65 := by
      show writeE t _ _ = _
      rw [hE, hb, needF, erE]
    obtain ⟨q1, q2⟩ := doT_er h.may (hop _ rfl).1 (hop _ rfl).2 w0 he
    exact ⟨by omega, q2, q1⟩
theorem FI.read {d : List Int} {t t2 : Th} {r2 : Re} {off cnt : Nat} (h : FI d t) (he : doT t (ca 4 1 1 ⟨#[]⟩ (cnt : Int) (off : Int) []) = (t2, r2)) :
    r2.st = 0 ∧ r2.d = (d.drop (min off d.length)).take (min cnt (d.length - min off d.length)) ∧ r2.eof = decide (min off d.length + min cnt (d.length - min off d.length) = d.length) := by
  obtain ⟨h1, h2⟩ := h.ok
  obtain ⟨ch, ha⟩ := h.at
  have w0 : opE t (toldR (ca 4 1 1 ⟨#[]⟩ (cnt : Int) (off : Int) [])) (ca 4 1 1 ⟨#[]⟩ (cnt : Int) (off : Int) []) = .ok (t, tellS (atT t 1) { (toldR (ca 4 1 1 ⟨#[]⟩ (cnt : Int) (off : Int) [])) with d := (d.drop (min off d.length)).take (min cnt (d.length - min off d.length)), eof := decide (min off d.length + min cnt (d.length - min off d.length) = d.length) }) := by
    show readE t _ _ = _
    unfold readE
    dsimp only
    rw [h2, okE, ha, Int.toNat_natCast, Int.toNat_natCast]
    rfl
  obtain ⟨-, rfl⟩ := doT_ok h.may (show (1:Int) ≤ 4 by decide) (show (4:Int) ≤ 16 by decide) w0 he
  exact ⟨rfl, rfl, rfl⟩
theorem FI.size {d : List Int} {t t2 : Th} {r2 : Re} {cnt : Nat} (h : FI d t) (hc : cnt ≤ 768) (he : doT t (ca 3 1 1 ⟨#[]⟩ (cnt : Int) 1 []) = (t2, r2)) : r2.st = 0 ∧ FI (sizedL d cnt) t2 := by
  obtain ⟨h1, h2⟩ := h.ok
  obtain ⟨ch, ha⟩ := h.at
  obtain ⟨t', q1, q2, ch2, q3⟩ := h.put (d' := sizedL d cnt) (by rw [sizedL_length]; exact hc)
  have w0 : opE t (toldR (ca 3 1 1 ⟨#[]⟩ (cnt : Int) 1 [])) (ca 3 1 1 ⟨#[]⟩ (cnt : Int) 1 []) = .ok (t', tellS (atT t' 1) (toldR (ca 3 1 1 ⟨#[]⟩ (cnt : Int) 1 []))) := by
    show setattrE t _ _ = _
    unfold setattrE
    dsimp only
    rw [h1, okE, if_pos rfl, h2, okE, decide_eq_true (show (cnt : Int) ≤ 768 by omega), needT, okE, show decide ((1:Int) ≤ 1) = true from rfl, needT, okE, if_pos rfl]
    have hs : ({ ({ atT t 1 with mode := (0:Int) % 512 } : Sl) with d := sizedL (({ atT t 1 with mode := (0:Int) % 512 } : Sl)).d ((cnt : Int)).toNat } : Sl) = { atT t 1 with d := sizedL d cnt } := by
      rw [ha, Int.toNat_natCast]
      rfl
    rw [hs, q1, okE, puE]
  obtain ⟨rfl, rfl⟩ := doT_ok h.may (show (1:Int) ≤ 3 by decide) (show (3:Int) ≤ 16 by decide) w0 he
  exact ⟨rfl, q2⟩
/-! ### the bytes that are wanted -/
theorem sized_app {d : List Int} {n : Nat} (h : d.length ≤ n) : sizedL d n = d ++ List.replicate (n - d.length) 0 := by
  unfold sizedL
  rw [List.take_of_length_le h]
theorem put_set {A xs : List Int} {off k : Nat} {x : Int} (hx : xs[k]? = some x) (hA : off + xs.length ≤ A.length) :
    (A.take off ++ xs.take k ++ A.drop (off + k)).set (off + k) x = A.take off ++ xs.take (k + 1) ++ A.drop (off + (k + 1)) := by
  obtain ⟨hk, hv⟩ := List.getElem?_eq_some_iff.1 hx
  have h1 : (A.take off ++ xs.take k).length = off + k := by rw [List.length_append, List.length_take, List.length_take]; omega
  have h2 : A.drop (off + k) = A[off + k]'(by omega) :: A.drop (off + k + 1) := List.drop_eq_getElem_cons (by omega)
  rw [h2, List.set_append_right _ _ (by omega), h1, Nat.sub_self, List.set_cons_zero, List.take_succ_eq_append_getElem hk, hv, Nat.add_assoc]
  simp
end Go.Proofs.YtanemmcddgkpdaaGreat.Hm
