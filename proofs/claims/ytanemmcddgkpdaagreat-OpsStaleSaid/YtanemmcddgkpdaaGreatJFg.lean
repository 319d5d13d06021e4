/- Chapter 13: handles that were told, and whether their things are there, pure; conditions: those that each theorem names. -/
import Derived.Test.YtanemmcddgkpdaaGreatJO2
import Derived.Test.YtanemmcddgkpdaaGreatJN9
namespace Go.Proofs.YtanemmcddgkpdaaGreat.Sx
open Go.RowKit Go.Proofs.YtanemmcddgkpdaaGreat.Hm Go.Proofs.YtanemmcddgkpdaaGreatW.PrintWords Go.Proofs.YtanemmcddgkpdaaGreatW.PrintLast Go.Proofs.YtanemmcddgkpdaaGreatW.PrintMore
set_option linter.unusedVariables false
set_option linter.unusedSimpArgs false
theorem len_le {α : Type} {l : List α} : ∀ {m : List α}, l.Pairwise (fun a b => a ≠ b) → (∀ x ∈ l, x ∈ m) → l.length ≤ m.length := by
  induction l with
  | nil => intro m _ _; exact Nat.zero_le _
  | cons x l ih =>
    intro m h1 h2
    obtain ⟨P, Q, rfl⟩ := List.append_of_mem (h2 x List.mem_cons_self)
    have h3 := ih (m := P ++ Q) (List.pairwise_cons.1 h1).2 (fun y hy => by
      have hne := (List.pairwise_cons.1 h1).1 y hy
      rcases List.mem_append.1 (h2 y (List.mem_cons_of_mem _ hy)) with h4 | h4
      · exact List.mem_append_left _ h4
      · rcases List.mem_cons.1 h4 with h5 | h5
        · exact absurd h5.symm hne
        · exact List.mem_append_right _ h5)
    simp at h3 ⊢
    omega
theorem nm4_n : ((List.range 4).all fun k => (nameE (bytesOf (nm k)) == 0) && decide ((bytesOf (nm k)).length ≤ 4)) = true := by kernel_rfl
theorem nm4_ok {k : Nat} (h : k < 4) : nameE (bytesOf (nm k)) = 0 ∧ (bytesOf (nm k)).length ≤ 4 := by
  have := List.all_eq_true.1 nm4_n k (List.mem_range.2 h)
  rw [Bool.and_eq_true, beq_iff_eq, decide_eq_true_eq] at this
  exact this
theorem nm4_d : ((List.range 4).all fun i => (List.range 4).all fun k => i == k || !(bytesOf (nm i) == bytesOf (nm k))) = true := by kernel_rfl
theorem nm4_ne {i k : Nat} (hi : i < 4) (hk : k < 4) (h : nm i = nm k) : i = k := by
  have h1 := List.all_eq_true.1 (List.all_eq_true.1 nm4_d i (List.mem_range.2 hi)) k (List.mem_range.2 hk)
  rw [h] at h1
  simpa using h1
/-- What was told: number (less one), how often it was given, whether its thing is there. -/
structure Tl where
  j : Nat
  g : Int
  v : Bool
structure SI (m : Nat) (E : List Ent) (H : List Tl) (L : List Int) (t : Th) : Prop where
  v : VI 1 m E t
  ln : L.length = 4
  mb : m ≤ H.length ∧ H.length ≤ 60
  no : ∀ k : Nat, k < 4 → L.getD k 0 = 0 → ∀ e ∈ E, e.s ≠ nm k
  yes : ∀ k : Nat, k < 4 → L.getD k 0 ≠ 0 → ∃ (q : Nat) (x : Tl) (e : Ent), L.getD k 0 = (q : Int) + 1 ∧ H[q]? = some x ∧ x.v = true ∧ e ∈ E ∧ e.s = nm k ∧ e.i = (x.j : Int) + 1 ∧ e.g = x.g
  nms : ∀ e ∈ E, ∃ k : Nat, k < 4 ∧ e.s = nm k
  rg : ∀ x ∈ H, x.j < 23 ∧ 1 ≤ x.g ∧ x.g ≤ (atT t (x.j + 1)).gen
  lv : ∀ x ∈ H, x.v = true → (atT t (x.j + 1)).kind ≠ 0 ∧ (atT t (x.j + 1)).gen = x.g
  dd : ∀ x ∈ H, x.v = false → (atT t (x.j + 1)).kind = 0 ∨ (atT t (x.j + 1)).gen ≠ x.g
  ne : H.Pairwise (fun a b => ¬ (a.j = b.j ∧ a.g = b.g))
theorem SI.len {m : Nat} {E : List Ent} {H : List Tl} {L : List Int} {t : Th} (h : SI m E H L t) : E.length ≤ 4 := by
  have h1 := len_le (l := E.map Ent.s) (m := (List.range 4).map nm) (List.pairwise_map.2 h.v.rows.di) (fun x hx => by
    obtain ⟨e, he, rfl⟩ := List.mem_map.1 hx
    obtain ⟨k, hk, hs⟩ := h.nms e he
    exact List.mem_map.2 ⟨k, List.mem_range.2 hk, hs.symm⟩)
  simpa using h1
theorem getD_set {L : List Int} {k j : Nat} {x : Int} (hk : k < L.length) : (L.set k x).getD j 0 = if j = k then x else L.getD j 0 := by
  rw [List.getD_eq_getElem?_getD, List.getD_eq_getElem?_getD, List.getElem?_set]
  by_cases h : k = j
  · subst h; simp [hk]
  · rw [if_neg h, if_neg (fun e => h e.symm)]
theorem VI.kinds {m : Nat} {E : List Ent} {t : Th} (h : VI 1 m E t) {j : Nat} (hj : j < 23) : ((atT t (j + 1)).kind = 0 ∧ ∀ e ∈ E, e.i ≠ (j : Int) + 1) ∨ ((atT t (j + 1)).kind = 1 ∧ ∃ e ∈ E, e.i = (j : Int) + 1 ∧ e.g = (atT t (j + 1)).gen) := by
  by_cases hE : ∃ e ∈ E, e.i = (j : Int) + 1
  · right
    obtain ⟨e, he, hi⟩ := hE
    obtain ⟨i, h1, h2, h3⟩ := h.num e he
    obtain rfl : i = j := by omega
    exact ⟨by rw [h3], e, he, hi, by rw [h3]⟩
  · left
    exact ⟨by rw [h.free j hj (fun e he hi => hE ⟨e, he, hi⟩)], fun e he hi => hE ⟨e, he, hi⟩⟩
/-- A file made. -/
theorem SI.make {m k : Nat} {E : List Ent} {H : List Tl} {L : List Int} {t t2 : Th} {r2 : Re} (h : SI m E H L t) (hk : k < 4) (hH : H.length < 60) (h0 : L.getD k 0 = 0) (he : doT t (ca 6 0 1 (nm k) 2 0 []) = (t2, r2)) :
    r2.st = 0 ∧ ∃ (x : Tl) (E2 : List Ent), r2.ai = (x.j : Int) + 1 ∧ r2.ag = x.g ∧ x.v = true ∧ SI (m + 1) E2 (H ++ [x]) (L.set k ((H.length : Int) + 1)) t2 := by
  obtain ⟨n1, n2⟩ := nm4_ok hk
  have hmb := h.mb
  have hln := h.ln
  obtain ⟨j, h1, h2, h3, h4, h5, h6, h7, h8, h9⟩ := h.v.create_do (by have := h.len; omega) (by omega) n1 n2 (h.no k hk h0) (Or.inr rfl) he
  have hg := h.v.gens j h1
  have hfree : (atT t (j + 1)).kind = 0 := by rw [h.v.free j h1 h2]
  refine ⟨h4, ⟨j, (atT t (j + 1)).gen + 1, true⟩, E ++ [⟨(m : Int) + 1, (j : Int) + 1, (atT t (j + 1)).gen + 1, nm k⟩], h5, h6, rfl, ?_⟩
  obtain ⟨x0, hx0⟩ : ∃ x0 : Tl, x0 = ⟨j, (atT t (j + 1)).gen + 1, true⟩ := ⟨_, rfl⟩
  obtain ⟨e0, he0⟩ : ∃ e0 : Ent, e0 = ⟨(m : Int) + 1, (j : Int) + 1, (atT t (j + 1)).gen + 1, nm k⟩ := ⟨_, rfl⟩
  rw [← hx0]
  rw [← he0] at h7 ⊢
  have hkind : ∀ i : Nat, i < 23 → (atT t2 (i + 1)).kind = if i = j then 1 else (atT t (i + 1)).kind := fun i hi => by
    by_cases hij : i = j
    · subst hij
      rw [if_pos rfl]
      rcases VI.kinds h7 hi with ⟨-, q⟩ | ⟨q, -⟩
      · exact absurd (by rw [he0]) (q e0 (List.mem_append_right _ (List.mem_singleton.2 rfl)))
      · exact q
    · rw [if_neg hij]
      rcases VI.kinds h.v hi with ⟨q1, q2⟩ | ⟨q1, e, q2, q3, q4⟩
      · rw [q1]
        rcases VI.kinds h7 hi with ⟨q, -⟩ | ⟨-, e, q3, q4, -⟩
        · exact q
        · rcases List.mem_append.1 q3 with q5 | q5
          · exact absurd q4 (q2 e q5)
          · rw [List.mem_singleton.1 q5, he0] at q4
            have q6 : (j : Int) + 1 = (i : Int) + 1 := q4
            omega
      · rw [q1]
        rcases VI.kinds h7 hi with ⟨-, q⟩ | ⟨q, -⟩
        · exact absurd q3 (q e (List.mem_append_left _ q2))
        · exact q
  have hgen : ∀ i : Nat, i < 23 → (atT t2 (i + 1)).gen = if i = j then (atT t (j + 1)).gen + 1 else (atT t (i + 1)).gen := fun i hi => by
    by_cases hij : i = j
    · subst hij; rw [if_pos rfl]; exact h8
    · rw [if_neg hij]; exact h9 i hi hij
  have hold : ∀ x ∈ H, x.v = true → x.j ≠ j := fun x hx hv e => (h.lv x hx hv).1 (by rw [e]; exact hfree)
  have hmem : ∀ {p : Tl → Prop}, (∀ x ∈ H, p x) → p x0 → ∀ x ∈ H ++ [x0], p x := by
    intro p q7 q8 x hx
    rcases List.mem_append.1 hx with q9 | q9
    · exact q7 x q9
    · rw [List.mem_singleton.1 q9]; exact q8
  refine ⟨h7, by simp [hln], by simp; omega, fun i hi hz e he => ?_, fun i hi hz => ?_, fun e he => ?_, hmem (fun x hx => ?_) ?_, hmem (fun x hx hv => ?_) (fun _ => ?_), hmem (fun x hx hv => ?_) (fun hv => ?_), ?_⟩
  · rw [getD_set (by omega)] at hz
    by_cases hik : i = k
    · rw [if_pos hik] at hz; omega
    · rw [if_neg hik] at hz
      rcases List.mem_append.1 he with q5 | q5
      · exact h.no i hi hz e q5
      · rw [List.mem_singleton.1 q5, he0]
        exact fun q => hik (nm4_ne hk hi q).symm
  · rw [getD_set (by omega)] at hz ⊢
    by_cases hik : i = k
    · rw [if_pos hik]
      exact ⟨H.length, x0, e0, rfl, by simp, by rw [hx0], List.mem_append_right _ (List.mem_singleton.2 rfl), by rw [he0, hik], by rw [he0, hx0], by rw [he0, hx0]⟩
    · rw [if_neg hik] at hz ⊢
      obtain ⟨q, x, e, a1, a2, a3, a4, a5, a6, a7⟩ := h.yes i hi hz
      exact ⟨q, x, e, a1, by rw [List.getElem?_append_left (List.getElem?_eq_some_iff.1 a2).1]; exact a2, a3, List.mem_append_left _ a4, a5, a6, a7⟩
  · rcases List.mem_append.1 he with q5 | q5
    · exact h.nms e q5
    · rw [List.mem_singleton.1 q5, he0]
      exact ⟨k, hk, rfl⟩
  · obtain ⟨q1, q2, q3⟩ := h.rg x hx
    refine ⟨q1, q2, ?_⟩
    rw [hgen x.j q1]
    split
    · rename_i q4; rw [q4] at q3; omega
    · exact q3
  · rw [hx0]
    refine ⟨h1, by show 1 ≤ (atT t (j + 1)).gen + 1; omega, ?_⟩
    show (atT t (j + 1)).gen + 1 ≤ (atT t2 (j + 1)).gen
    rw [h8]
    exact Int.le_refl _
  · have q1 := hold x hx hv
    rw [hkind x.j (h.rg x hx).1, hgen x.j (h.rg x hx).1, if_neg q1, if_neg q1]
    exact h.lv x hx hv
  · rw [hx0]
    show (atT t2 (j + 1)).kind ≠ 0 ∧ (atT t2 (j + 1)).gen = (atT t (j + 1)).gen + 1
    rw [hkind j h1, if_pos rfl]
    exact ⟨by decide, h8⟩
  · obtain ⟨q1, q2, q3⟩ := h.rg x hx
    rw [hkind x.j q1, hgen x.j q1]
    by_cases q4 : x.j = j
    · rw [if_pos q4, if_pos q4]
      right
      rw [q4] at q3
      omega
    · rw [if_neg q4, if_neg q4]
      exact h.dd x hx hv
  · rw [hx0] at hv
    cases hv
  · rw [List.pairwise_append]
    refine ⟨h.ne, List.pairwise_singleton .., fun a ha b hb => ?_⟩
    rw [List.mem_singleton.1 hb, hx0]
    rintro ⟨q1, q2⟩
    obtain ⟨-, -, q3⟩ := h.rg a ha
    have q4 : a.j = j := q1
    have q5 : a.g = (atT t (j + 1)).gen + 1 := q2
    rw [q4] at q3
    omega
/-- A file taken away. -/
theorem SI.gone {m k : Nat} {E : List Ent} {H : List Tl} {L : List Int} {t t2 : Th} {r2 : Re} (h : SI m E H L t) (hk : k < 4) (h0 : L.getD k 0 ≠ 0) (he : doT t (ca 10 0 1 (nm k) 0 0 []) = (t2, r2)) :
    r2.st = 0 ∧ ∃ (q : Nat) (x : Tl) (E2 : List Ent), L.getD k 0 = (q : Int) + 1 ∧ H[q]? = some x ∧ SI m E2 (H.set q { x with v := false }) (L.set k 0) t2 := by
  have hln := h.ln
  obtain ⟨q, x, e, a1, a2, a3, a4, a5, a6, a7⟩ := h.yes k hk h0
  obtain ⟨P, Q, hE⟩ := List.append_of_mem a4
  have hv := h.v
  rw [hE] at hv
  rw [← a5] at he
  obtain ⟨b1, b2, b3⟩ := hv.remove_do he
  obtain ⟨hq, hqx⟩ := List.getElem?_eq_some_iff.1 a2
  have hxH : x ∈ H := List.mem_of_getElem? a2
  have hin : ∀ y ∈ P ++ Q, y ∈ E ∧ y.i ≠ e.i ∧ y.s ≠ e.s := fun y hy => by
    rw [hE]
    rcases List.mem_append.1 hy with q1 | q1
    · exact ⟨List.mem_append_left _ q1, (List.pairwise_append.1 hv.dist).2.2 y q1 e List.mem_cons_self, (List.pairwise_append.1 hv.rows.di).2.2 y q1 e List.mem_cons_self⟩
    · exact ⟨List.mem_append_right _ (List.mem_cons_of_mem _ q1), fun q2 => (List.pairwise_cons.1 (List.pairwise_append.1 hv.dist).2.1).1 y q1 q2.symm, fun q2 => (List.pairwise_cons.1 (List.pairwise_append.1 hv.rows.di).2.1).1 y q1 q2.symm⟩
  have hout : ∀ y ∈ E, y ≠ e → y ∈ P ++ Q := fun y hy hne => by
    rw [hE] at hy
    rcases List.mem_append.1 hy with q1 | q1
    · exact List.mem_append_left _ q1
    · rcases List.mem_cons.1 q1 with q2 | q2
      · exact absurd q2 hne
      · exact List.mem_append_right _ q2
  have hxj := (h.rg x hxH).1
  have hkind : ∀ i : Nat, i < 23 → (atT t2 (i + 1)).kind = if i = x.j then 0 else (atT t (i + 1)).kind := fun i hi => by
    by_cases hij : i = x.j
    · subst hij
      rw [if_pos rfl]
      rcases VI.kinds b2 hi with ⟨q, -⟩ | ⟨-, y, q3, q4, -⟩
      · exact q
      · exact absurd (by rw [q4, a6]) (hin y q3).2.1
    · rw [if_neg hij]
      rcases VI.kinds h.v hi with ⟨q1, q2⟩ | ⟨q1, y, q2, q3, q4⟩
      · rw [q1]
        rcases VI.kinds b2 hi with ⟨q, -⟩ | ⟨-, y, q3, q4, -⟩
        · exact q
        · exact absurd q4 (q2 y (hin y q3).1)
      · rw [q1]
        rcases VI.kinds b2 hi with ⟨-, q⟩ | ⟨q, -⟩
        · exact absurd q3 (q y (hout y q2 (fun q9 => by rw [q9, a6] at q3; omega)))
        · exact q
  have hHx : ∀ y ∈ H.set q { x with v := false }, (∃ i : Nat, i ≠ q ∧ H[i]? = some y) ∨ y = { x with v := false } := fun y hy => by
    obtain ⟨i, hi, rfl⟩ := List.mem_iff_getElem.1 hy
    rw [List.getElem_set]
    by_cases q1 : q = i
    · rw [if_pos q1]; exact Or.inr rfl
    · rw [if_neg q1]; exact Or.inl ⟨i, fun q2 => q1 q2.symm, List.getElem?_eq_getElem _⟩
  have hne : ∀ (i : Nat) (y : Tl), i ≠ q → H[i]? = some y → ¬ (y.j = x.j ∧ y.g = x.g) := fun i y q1 q2 q3 => by
    obtain ⟨q4, q5⟩ := List.getElem?_eq_some_iff.1 q2
    have q6 := List.pairwise_iff_getElem.1 h.ne
    rcases Nat.lt_or_gt_of_ne q1 with q7 | q7
    · exact q6 i q q4 hq q7 (by rw [q5, hqx]; exact q3)
    · exact q6 q i hq q4 q7 (by rw [q5, hqx]; exact ⟨q3.1.symm, q3.2.symm⟩)
  refine ⟨b1, q, x, P ++ Q, a1, a2, b2, by simp [hln], by simp; exact h.mb, fun i hi hz y hy => ?_, fun i hi hz => ?_, fun y hy => h.nms y (hin y hy).1, fun y hy => ?_, fun y hy hyv => ?_, fun y hy hyv => ?_, ?_⟩
  · obtain ⟨q1, q2, q3⟩ := hin y hy
    rw [getD_set (by omega)] at hz
    by_cases hik : i = k
    · rw [hik, ← a5]; exact q3
    · rw [if_neg hik] at hz
      exact h.no i hi hz y q1
  · rw [getD_set (by omega)] at hz ⊢
    by_cases hik : i = k
    · rw [if_pos hik] at hz; exact absurd rfl hz
    · rw [if_neg hik] at hz ⊢
      obtain ⟨q', x', e', c1, c2, c3, c4, c5, c6, c7⟩ := h.yes i hi hz
      have hqq : q' ≠ q := fun q9 => by
        rw [q9, a2] at c2
        obtain rfl : x = x' := by simpa using c2
        have h9 : e' = e := Classical.byContradiction fun q8 => (hin e' (hout e' c4 q8)).2.1 (by rw [c6, a6])
        rw [h9, a5] at c5
        exact hik (nm4_ne hk hi c5).symm
      refine ⟨q', x', e', c1, by rw [List.getElem?_set_ne (fun q9 => hqq q9.symm)]; exact c2, c3, hout e' c4 (fun q9 => ?_), c5, c6, c7⟩
      rw [q9, a5] at c5
      exact hik (nm4_ne hk hi c5).symm
  · rcases hHx y hy with ⟨i, q1, q2⟩ | rfl
    · obtain ⟨c1, c2, c3⟩ := h.rg y (List.mem_of_getElem? q2)
      exact ⟨c1, c2, by rw [b3 y.j c1]; exact c3⟩
    · obtain ⟨c1, c2, c3⟩ := h.rg x hxH
      exact ⟨c1, c2, by show x.g ≤ (atT t2 (x.j + 1)).gen; rw [b3 x.j c1]; exact c3⟩
  · rcases hHx y hy with ⟨i, q1, q2⟩ | rfl
    · have c0 := h.lv y (List.mem_of_getElem? q2) hyv
      have c1 := (h.rg y (List.mem_of_getElem? q2)).1
      have c2 : y.j ≠ x.j := fun q9 => hne i y q1 q2 ⟨q9, by rw [← c0.2, ← (h.lv x hxH a3).2, q9]⟩
      rw [hkind y.j c1, if_neg c2, b3 y.j c1]
      exact c0
    · cases hyv
  · rcases hHx y hy with ⟨i, q1, q2⟩ | rfl
    · have c1 := (h.rg y (List.mem_of_getElem? q2)).1
      rw [hkind y.j c1, b3 y.j c1]
      split
      · exact Or.inl rfl
      · exact h.dd y (List.mem_of_getElem? q2) hyv
    · left
      show (atT t2 (x.j + 1)).kind = 0
      rw [hkind x.j hxj, if_pos rfl]
  · refine List.pairwise_iff_getElem.2 (fun i j hi hj hij => ?_)
    rw [List.length_set] at hi hj
    have q6 := List.pairwise_iff_getElem.1 h.ne i j hi hj hij
    rw [List.getElem_set, List.getElem_set]
    by_cases q1 : q = i
    · subst q1
      rw [if_pos rfl, if_neg (by omega)]
      rw [hqx] at q6
      exact q6
    · rw [if_neg q1]
      by_cases q2 : q = j
      · subst q2
        rw [if_pos rfl]
        rw [hqx] at q6
        exact q6
      · rw [if_neg q2]
        exact q6
/-- Whether a handle that was told is stale. -/
theorem SI.tell {m : Nat} {E : List Ent} {H : List Tl} {L : List Int} {t t2 : Th} {r2 : Re} (h : SI m E H L t) {x : Tl} (hx : x ∈ H) (he : doT t (ca 2 ((x.j : Int) + 1) x.g ⟨#[]⟩ 0 0 []) = (t2, r2)) :
    (x.v = true ∧ r2.st = 0 ∧ r2.ai = (x.j : Int) + 1 ∧ r2.ag = x.g) ∨ (x.v = false ∧ r2.st = 69) := by
  obtain ⟨c1, c2, c3⟩ := h.rg x hx
  rcases h.v.getattr_do (Or.inl rfl) c1 rfl he with ⟨q1, q2, q3, q4, q5⟩ | ⟨q1, q2⟩
  · left
    refine ⟨?_, q3, q4, q5⟩
    cases hv : x.v with
    | true => rfl
    | false => rcases h.dd x hx hv with q6 | q6
               · exact absurd q6 q1
               · exact absurd q2 q6
  · right
    refine ⟨?_, q2⟩
    cases hv : x.v with
    | false => rfl
    | true =>
      have q6 := h.lv x hx hv
      rcases q1 with q7 | q7
      · exact absurd q7 q6.1
      · exact absurd q6.2 q7
theorem SI.form {n : Int} (hn : 6 ≤ n) : SI 0 [] [] [0, 0, 0, 0] (formT n) := by
  refine ⟨VI.form hn, rfl, ⟨by simp, by simp⟩, fun k hk _ e he => by simp at he, fun k hk hz => ?_, fun e he => by simp at he, fun x hx => by simp at hx, fun x hx => by simp at hx, fun x hx => by simp at hx, .nil⟩
  have : k = 0 ∨ k = 1 ∨ k = 2 ∨ k = 3 := by omega
  rcases this with h | h | h | h <;> subst h <;> exact absurd rfl hz
end Go.Proofs.YtanemmcddgkpdaaGreat.Sx
