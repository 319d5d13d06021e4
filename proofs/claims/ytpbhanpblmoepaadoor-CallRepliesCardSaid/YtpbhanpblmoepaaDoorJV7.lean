/- Chapter 11: what is put is got, what is got is put; bytes that are cut, or have more behind; conditions: those that each theorem names. -/
import Derived.Test.YtpbhanpblmoepaaDoorJV5
namespace Go.Proofs.YtpbhanpblmoepaaDoor.Hm
open Go.RowKit Go.Proofs.YtpbhanpblmoepaaDoorW.PrintWords Go.Proofs.YtpbhanpblmoepaaDoorW.PrintLast Go.Proofs.YtpbhanpblmoepaaDoorW.PrintMore
set_option linter.unusedVariables false
set_option linter.unusedSimpArgs false

theorem rdS_put (s : Sl) (ys : List Int) (hw : s.wf) (hd : s.d.length ≤ 768) : rdS (encS s ++ ys) = (s, ys, 0) := by
  unfold rdS encS
  simp only [List.append_assoc]
  rw [rd32_put _ _ hw.ino.1 hw.ino.2]
  dsimp only
  rw [rd32_put _ _ hw.kind.1 hw.kind.2]
  dsimp only
  rw [rd32_put _ _ hw.gen.1 hw.gen.2]
  dsimp only
  rw [rd32_put _ _ hw.links.1 hw.links.2]
  dsimp only
  rw [rd32_put _ _ hw.mode.1 hw.mode.2]
  dsimp only
  rw [rd64_put _ _ hw.change.1 hw.change.2]
  dsimp only
  rw [rd64_put _ _ hw.cookie.1 hw.cookie.2]
  dsimp only
  rw [rd64_put _ _ hw.verf.1 hw.verf.2]
  dsimp only
  rw [opM_put _ _ _ (by omega) (by omega)]
theorem rdS_ok {b ys : List Int} {s : Sl} (hb : bytesB b = true) (h : rdS b = (s, ys, 0)) : b = encS s ++ ys ∧ s.wf ∧ s.d.length ≤ 768 := by
  unfold rdS at h
  obtain ⟨⟨x1, y1, e1⟩, h1⟩ : ∃ r, rdM b 0 4 = r := ⟨_, rfl⟩
  rw [h1] at h; dsimp only at h
  obtain ⟨⟨x2, y2, e2⟩, h2⟩ : ∃ r, rdM y1 e1 4 = r := ⟨_, rfl⟩
  rw [h2] at h; dsimp only at h
  obtain ⟨⟨x3, y3, e3⟩, h3⟩ : ∃ r, rdM y2 e2 4 = r := ⟨_, rfl⟩
  rw [h3] at h; dsimp only at h
  obtain ⟨⟨x4, y4, e4⟩, h4⟩ : ∃ r, rdM y3 e3 4 = r := ⟨_, rfl⟩
  rw [h4] at h; dsimp only at h
  obtain ⟨⟨x5, y5, e5⟩, h5⟩ : ∃ r, rdM y4 e4 4 = r := ⟨_, rfl⟩
  rw [h5] at h; dsimp only at h
  obtain ⟨⟨x6, y6, e6⟩, h6⟩ : ∃ r, rdM y5 e5 8 = r := ⟨_, rfl⟩
  rw [h6] at h; dsimp only at h
  obtain ⟨⟨x7, y7, e7⟩, h7⟩ : ∃ r, rdM y6 e6 8 = r := ⟨_, rfl⟩
  rw [h7] at h; dsimp only at h
  obtain ⟨⟨x8, y8, e8⟩, h8⟩ : ∃ r, rdM y7 e7 8 = r := ⟨_, rfl⟩
  rw [h8] at h; dsimp only at h
  obtain ⟨⟨d, y9, e9⟩, h9⟩ : ∃ r, opM y8 e8 768 = r := ⟨_, rfl⟩
  rw [h9] at h
  simp only [Prod.mk.injEq] at h
  obtain ⟨rfl, rfl, rfl⟩ := h
  have z8 := opM_e y8 e8 768 (by rw [h9])
  subst z8
  have z7 := (rdM_e y7 e7 8 (by rw [h8])).1
  subst z7
  have z6 := (rdM_e y6 e6 8 (by rw [h7])).1
  subst z6
  have z5 := (rdM_e y5 e5 8 (by rw [h6])).1
  subst z5
  have z4 := (rdM_e y4 e4 4 (by rw [h5])).1
  subst z4
  have z3 := (rdM_e y3 e3 4 (by rw [h4])).1
  subst z3
  have z2 := (rdM_e y2 e2 4 (by rw [h3])).1
  subst z2
  have z1 := (rdM_e y1 e1 4 (by rw [h2])).1
  subst z1
  obtain ⟨-, q1, b1⟩ := rd32_ok hb h1
  have w1 := rdM_range b 0 4 hb
  obtain ⟨-, q2, b2⟩ := rd32_ok b1 h2
  have w2 := rdM_range y1 0 4 b1
  obtain ⟨-, q3, b3⟩ := rd32_ok b2 h3
  have w3 := rdM_range y2 0 4 b2
  obtain ⟨-, q4, b4⟩ := rd32_ok b3 h4
  have w4 := rdM_range y3 0 4 b3
  obtain ⟨-, q5, b5⟩ := rd32_ok b4 h5
  have w5 := rdM_range y4 0 4 b4
  obtain ⟨-, q6, b6⟩ := rd64_ok b5 h6
  have w6 := rdM_range y5 0 8 b5
  obtain ⟨-, q7, b7⟩ := rd64_ok b6 h7
  have w7 := rdM_range y6 0 8 b6
  obtain ⟨-, q8, b8⟩ := rd64_ok b7 h8
  have w8 := rdM_range y7 0 8 b7
  obtain ⟨-, q9, bd, -, ld⟩ := opM_ok b8 h9
  rw [h1] at w1; rw [h2] at w2; rw [h3] at w3; rw [h4] at w4; rw [h5] at w5; rw [h6] at w6; rw [h7] at w7; rw [h8] at w8
  dsimp only at w1 w2 w3 w4 w5 w6 w7 w8
  refine ⟨?_, ⟨w1, w2, w3, w4, w5, w6, w7, w8, bd⟩, by show d.length ≤ 768; omega⟩
  rw [q1, q2, q3, q4, q5, q6, q7, q8, q9]
  simp only [encS, List.append_assoc]
theorem ok_len {s : Sl} (h : okB s = true) : s.d.length ≤ 768 := by
  unfold okB ok1 at h
  simp at h
  omega
/-- What is put is got. -/
theorem getS_put {s : Sl} (hw : s.wf) (h : okB s = true) : getS (encS s) = (s, 0) := by
  have h1 := rdS_put s [] hw (ok_len h)
  rw [List.append_nil] at h1
  unfold getS
  rw [h1]
  dsimp only
  rw [if_neg (by simp [endM]), if_pos h]
/-- What is got is put. -/
theorem getS_ok {b : List Int} {s : Sl} (hb : bytesB b = true) (h : getS b = (s, 0)) : putS s = (b, 0) ∧ s.wf ∧ okB s = true := by
  obtain ⟨⟨s', ys, e⟩, hr⟩ : ∃ r, rdS b = r := ⟨_, rfl⟩
  unfold getS at h
  rw [hr] at h
  dsimp only at h
  by_cases he : endM ys e = 0
  · rw [if_neg (by rw [he]; decide)] at h
    by_cases hk : okB s' = true
    · rw [if_pos hk] at h
      simp only [Prod.mk.injEq, and_true] at h
      subst h
      have h2 : e = 0 ∧ ys = [] := by
        unfold endM at he
        by_cases h0 : e = 0
        · rw [if_neg (by simpa using h0)] at he
          refine ⟨h0, ?_⟩
          cases ys with
          | nil => rfl
          | cons y ys => simp at he
        · rw [if_pos h0] at he; exact absurd he h0
      obtain ⟨rfl, rfl⟩ := h2
      obtain ⟨h3, h4, -⟩ := rdS_ok hb hr
      rw [List.append_nil] at h3
      exact ⟨by unfold putS; rw [if_pos hk, h3], h4, hk⟩
    · rw [if_neg hk] at h
      simp at h
  · rw [if_pos he] at h
    simp only [Prod.mk.injEq] at h
    exact absurd h.2 he
theorem getS_wf {b : List Int} {s : Sl} {n : Int} (hb : bytesB b = true) (h : getS b = (s, n)) : s.wf ∧ s.d.length ≤ 768 ∧ (n ≠ 0 → s = Sl0) := by
  by_cases hn : n = 0
  · subst hn
    obtain ⟨-, h1, h2⟩ := getS_ok hb h
    exact ⟨h1, ok_len h2, fun h => absurd rfl h⟩
  · have h0 : s = Sl0 := by
      unfold getS at h
      split at h
      split at h
      · simp only [Prod.mk.injEq] at h; exact h.1.symm
      · split at h
        · simp only [Prod.mk.injEq] at h; exact absurd h.2.symm hn
        · simp only [Prod.mk.injEq] at h; exact h.1.symm
    subst h0
    have u0 : u32ok 0 := ⟨by decide, by decide⟩
    have v0 : u64ok 0 := ⟨by decide, by decide⟩
    exact ⟨⟨u0, u0, u0, u0, u0, v0, v0, v0, rfl⟩, by decide, fun _ => rfl⟩
theorem getS_more {s : Sl} {m : List Int} (hw : s.wf) (h : okB s = true) (hm : m ≠ []) : getS (encS s ++ m) = (Sl0, 12) := by
  have h1 := rdS_put s m hw (ok_len h)
  have h2 : endM m 0 = 12 := by
    unfold endM
    rw [if_neg (by simp), if_pos (by cases m with | nil => exact absurd rfl hm | cons x m => simp)]
  unfold getS
  rw [h1]
  dsimp only
  rw [h2, if_pos (by decide)]
theorem encS_inj {s u : Sl} (hs : s.wf) (hu : u.wf) (ls : s.d.length ≤ 768) (lu : u.d.length ≤ 768) (h : encS s = encS u) : s = u := by
  have h1 := rdS_put s [] hs ls
  have h2 := rdS_put u [] hu lu
  rw [h, h2] at h1
  simp only [Prod.mk.injEq, and_true] at h1
  exact h1.symm
/-! ### bytes that end too early -/
theorem rdM_err (xs : List Int) (n : Nat) : rdM xs 10 n = (0, xs, 10) := by simp [rdM, takeM, numN]
theorem opM_err10 (xs : List Int) (m : Int) : opM xs 10 m = ([], xs, 10) := by simp [opM, rdM_err]
theorem rdM_short {xs : List Int} {n : Nat} (h : xs.length < n) : rdM xs 0 n = (0, xs, 10) := by simp [rdM, takeM, numN, h]
theorem pre {p t x r : List Int} (h : p ++ t = x ++ r) : (∃ p', p = x ++ p' ∧ p' ++ t = r) ∨ p.length < x.length := by
  rcases Nat.lt_or_ge p.length x.length with hl | hl
  · exact .inr hl
  · refine .inl ⟨p.drop x.length, ?_, ?_⟩
    · have h1 := congrArg (List.take x.length) h
      rw [List.take_append_of_le_length hl, List.take_left'] at h1
      · rw [← h1]
        conv => lhs; rw [← List.take_append_drop x.length p]
        rw [h1]
      · rfl
    · have h1 := congrArg (List.drop x.length) h
      rw [List.drop_append_of_le_length hl, List.drop_left'] at h1
      · exact h1
      · rfl
theorem opM_cut {p t d : List Int} {most : Int} (h : p ++ t = opq d) (ht : t ≠ []) (hm : (d.length : Int) ≤ most) (hl : d.length < 4294967296) : (opM p 0 most).2.2 = 10 := by
  have hlt : 0 < t.length := by cases t with | nil => exact absurd rfl ht | cons x t => simp
  unfold opq at h
  rw [List.append_assoc] at h
  unfold opM
  rcases pre h with ⟨p', rfl, h2⟩ | hs
  · rw [rd32_put _ _ (by omega) (by omega)]
    dsimp only
    rw [if_neg (by simp), if_neg (by omega)]
    have h3 := congrArg List.length h2
    simp only [List.length_append, List.length_replicate] at h3
    have h4 : takeM p' 0 ((d.length : Int).toNat + (4 - (d.length : Int).toNat % 4) % 4) = ([], p', 10) := by
      unfold takeM
      rw [if_neg (by simp), if_pos (by rw [Int.toNat_natCast]; omega)]
    rw [h4]
    simp
  · rw [rdM_short (by simpa [be32] using hs)]
    simp
theorem getS_cut {s : Sl} {p t : List Int} (hw : s.wf) (hk : okB s = true) (h : p ++ t = encS s) (ht : t ≠ []) : getS p = (Sl0, 10) := by
  have key : (rdS p).2.2 = 10 := by
    have hd := ok_len hk
    unfold encS at h
    simp only [List.append_assoc] at h
    unfold rdS
    rcases pre h with ⟨p1, rfl, k1⟩ | h1
    · rw [rd32_put _ _ hw.ino.1 hw.ino.2]
      dsimp only
      rcases pre k1 with ⟨p2, rfl, k2⟩ | h1
      · rw [rd32_put _ _ hw.kind.1 hw.kind.2]
        dsimp only
        rcases pre k2 with ⟨p3, rfl, k3⟩ | h1
        · rw [rd32_put _ _ hw.gen.1 hw.gen.2]
          dsimp only
          rcases pre k3 with ⟨p4, rfl, k4⟩ | h1
          · rw [rd32_put _ _ hw.links.1 hw.links.2]
            dsimp only
            rcases pre k4 with ⟨p5, rfl, k5⟩ | h1
            · rw [rd32_put _ _ hw.mode.1 hw.mode.2]
              dsimp only
              rcases pre k5 with ⟨p6, rfl, k6⟩ | h1
              · rw [rd64_put _ _ hw.change.1 hw.change.2]
                dsimp only
                rcases pre k6 with ⟨p7, rfl, k7⟩ | h1
                · rw [rd64_put _ _ hw.cookie.1 hw.cookie.2]
                  dsimp only
                  rcases pre k7 with ⟨p8, rfl, k8⟩ | h1
                  · rw [rd64_put _ _ hw.verf.1 hw.verf.2]
                    dsimp only
                    exact opM_cut k8 ht (by omega) (by omega)
                  · rw [rdM_short (by simpa [be64, be32] using h1)]; simp only [rdM_err, opM_err10]
                · rw [rdM_short (by simpa [be64, be32] using h1)]; simp only [rdM_err, opM_err10]
              · rw [rdM_short (by simpa [be64, be32] using h1)]; simp only [rdM_err, opM_err10]
            · rw [rdM_short (by simpa [be32] using h1)]; simp only [rdM_err, opM_err10]
          · rw [rdM_short (by simpa [be32] using h1)]; simp only [rdM_err, opM_err10]
        · rw [rdM_short (by simpa [be32] using h1)]; simp only [rdM_err, opM_err10]
      · rw [rdM_short (by simpa [be32] using h1)]; simp only [rdM_err, opM_err10]
    · rw [rdM_short (by simpa [be32] using h1)]; simp only [rdM_err, opM_err10]
  unfold getS
  obtain ⟨⟨s', ys, e⟩, hr⟩ : ∃ r, rdS p = r := ⟨_, rfl⟩
  rw [hr] at key ⊢
  dsimp only at key ⊢
  subst key
  have h2 : endM ys 10 = 10 := rfl
  rw [h2, if_pos (by decide)]
end Go.Proofs.YtpbhanpblmoepaaDoor.Hm
