/- Part V7 of the lemmas and walks of the Go functions that these statements reach; conditions: those that each theorem names. -/
import Derived.Test.YtlpjchighfdomaaJV5
import Derived.Test.YtlpjchighfdomaaJV6
import Derived.Test.YtlpjchighfdomaaJV4
section
/- Chapter 11: what is put is got, what is got is put; bytes that are cut, or have more behind; conditions: those that each theorem names. -/
namespace Go.Proofs.Ytlpjchighfdomaa.Hm
open Go.RowKit Go.Proofs.YtlpjchighfdomaaW.PrintWords Go.Proofs.YtlpjchighfdomaaW.PrintLast Go.Proofs.YtlpjchighfdomaaW.PrintMore
set_option linter.unusedVariables false
set_option linter.unusedSimpArgs false

theorem rdS_put (s : Sl) (ys : List Int) (hw : s.wf) (hd : s.d.length ≤ 768) : rdS (encS s ++ ys) = (s, ys, 0) := by
  unfold rdS encS
  simp only [List.append_assoc]
  rw [rd32_put _ _ hw.ino.1 hw.ino.2]
  dsimp only
  rw [rd32_put _ _ hw.kind.1 hw.kind.2]
  dsimp only
  rw [rd32_put _ _ hw.gen.1 hw.gen.2]
  dsimp only
  rw [rd32_put _ _ hw.links.1 hw.links.2]
  dsimp only
  rw [rd32_put _ _ hw.mode.1 hw.mode.2]
  dsimp only
  rw [rd64_put _ _ hw.change.1 hw.change.2]
  dsimp only
  rw [rd64_put _ _ hw.cookie.1 hw.cookie.2]
  dsimp only
  rw [rd64_put _ _ hw.verf.1 hw.verf.2]
  dsimp only
  rw [opM_put _ _ _ (by omega) (by omega)]
theorem rdS_ok {b ys : List Int} {s : Sl} (hb : bytesB b = true) (h : rdS b = (s, ys, 0)) : b = encS s ++ ys ∧ s.wf ∧ s.d.length ≤ 768 := by
  unfold rdS at h
  obtain ⟨⟨x1, y1, e1⟩, h1⟩ : ∃ r, rdM b 0 4 = r := ⟨_, rfl⟩
  rw [h1] at h; dsimp only at h
  obtain ⟨⟨x2, y2, e2⟩, h2⟩ : ∃ r, rdM y1 e1 4 = r := ⟨_, rfl⟩
  rw [h2] at h; dsimp only at h
  obtain ⟨⟨x3, y3, e3⟩, h3⟩ : ∃ r, rdM y2 e2 4 = r := ⟨_, rfl⟩
  rw [h3] at h; dsimp only at h
  obtain ⟨⟨x4, y4, e4⟩, h4⟩ : ∃ r, rdM y3 e3 4 = r := ⟨_, rfl⟩
  rw [h4] at h; dsimp only at h
  obtain ⟨⟨x5, y5, e5⟩, h5⟩ : ∃ r, rdM y4 e4 4 = r := ⟨_, rfl⟩
  rw [h5] at h; dsimp only at h
  obtain ⟨⟨x6, y6, e6⟩, h6⟩ : ∃ r, rdM y5 e5 8 = r := ⟨_, rfl⟩
  rw [h6] at h; dsimp only at h
  obtain ⟨⟨x7, y7, e7⟩, h7⟩ : ∃ r, rdM y6 e6 8 = r := ⟨_, rfl⟩
  rw [h7] at h; dsimp only at h
  obtain ⟨⟨x8, y8, e8⟩, h8⟩ : ∃ r, rdM y7 e7 8 = r := ⟨_, rfl⟩
  rw [h8] at h; dsimp only at h
  obtain ⟨⟨d, y9, e9⟩, h9⟩ : ∃ r, opM y8 e8 768 = r := ⟨_, rfl⟩
  rw [h9] at h
  simp only [Prod.mk.injEq] at h
  obtain ⟨rfl, rfl, rfl⟩ := h
  have z8 := opM_e y8 e8 768 (by rw [h9])
  subst z8
  have z7 := (rdM_e y7 e7 8 (by rw [h8])).1
  subst z7
  have z6 := (rdM_e y6 e6 8 (by rw [h7])).1
  subst z6
  have z5 := (rdM_e y5 e5 8 (by rw [h6])).1
  subst z5
  have z4 := (rdM_e y4 e4 4 (by rw [h5])).1
  subst z4
  have z3 := (rdM_e y3 e3 4 (by rw [h4])).1
  subst z3
  have z2 := (rdM_e y2 e2 4 (by rw [h3])).1
  subst z2
  have z1 := (rdM_e y1 e1 4 (by rw [h2])).1
  subst z1
  obtain ⟨-, q1, b1⟩ := rd32_ok hb h1
  have w1 := rdM_range b 0 4 hb
  obtain ⟨-, q2, b2⟩ := rd32_ok b1 h2
  have w2 := rdM_range y1 0 4 b1
  obtain ⟨-, q3, b3⟩ := rd32_ok b2 h3
  have w3 := rdM_range y2 0 4 b2
  obtain ⟨-, q4, b4⟩ := rd32_ok b3 h4
  have w4 := rdM_range y3 0 4 b3
  obtain ⟨-, q5, b5⟩ := rd32_ok b4 h5
  have w5 := rdM_range y4 0 4 b4
  obtain ⟨-, q6, b6⟩ := rd64_ok b5 h6
  have w6 := rdM_range y5 0 8 b5
  obtain ⟨-, q7, b7⟩ := rd64_ok b6 h7
  have w7 := rdM_range y6 0 8 b6
  obtain ⟨-, q8, b8⟩ := rd64_ok b7 h8
  have w8 := rdM_range y7 0 8 b7
  obtain ⟨-, q9, bd, -, ld⟩ := opM_ok b8 h9
  rw [h1] at w1; rw [h2] at w2; rw [h3] at w3; rw [h4] at w4; rw [h5] at w5; rw [h6] at w6; rw [h7] at w7; rw [h8] at w8
  dsimp only at w1 w2 w3 w4 w5 w6 w7 w8
  refine ⟨?_, ⟨w1, w2, w3, w4, w5, w6, w7, w8, bd⟩, by show d.length ≤ 768; omega⟩
  rw [q1, q2, q3, q4, q5, q6, q7, q8, q9]
  simp only [encS, List.append_assoc]
theorem ok_len {s : Sl} (h : okB s = true) : s.d.length ≤ 768 := by
  unfold okB ok1 at h
  simp at h
  omega
/-- What is put is got. -/
theorem getS_put {s : Sl} (hw : s.wf) (h : okB s = true) : getS (encS s) = (s, 0) := by
  have h1 := rdS_put s [] hw (ok_len h)
  rw [List.append_nil] at h1
  unfold getS
  rw [h1]
  dsimp only
  rw [if_neg (by simp [endM]), if_pos h]
/-- What is got is put. -/
theorem getS_ok {b : List Int} {s : Sl} (hb : bytesB b = true) (h : getS b = (s, 0)) : putS s = (b, 0) ∧ s.wf ∧ okB s = true := by
  obtain ⟨⟨s', ys, e⟩, hr⟩ : ∃ r, rdS b = r := ⟨_, rfl⟩
  unfold getS at h
  rw [hr] at h
  dsimp only at h
  by_cases he : endM ys e = 0
  · rw [if_neg (by rw [he]; decide)] at h
    by_cases hk : okB s' = true
    · rw [if_pos hk] at h
      simp only [Prod.mk.injEq, and_true] at h
      subst h
      have h2 : e = 0 ∧ ys = [] := by
        unfold endM at he
        by_cases h0 : e = 0
        · rw [if_neg (by simpa using h0)] at he
          refine ⟨h0, ?_⟩
          cases ys with
          | nil => rfl
          | cons y ys => simp at he
        · rw [if_pos h0] at he; exact absurd he h0
      obtain ⟨rfl, rfl⟩ := h2
      obtain ⟨h3, h4, -⟩ := rdS_ok hb hr
      rw [List.append_nil] at h3
      exact ⟨by unfold putS; rw [if_pos hk, h3], h4, hk⟩
    · rw [if_neg hk] at h
      simp at h
  · rw [if_pos he] at h
    simp only [Prod.mk.injEq] at h
    exact absurd h.2 he
theorem getS_wf {b : List Int} {s : Sl} {n : Int} (hb : bytesB b = true) (h : getS b = (s, n)) : s.wf ∧ s.d.length ≤ 768 ∧ (n ≠ 0 → s = Sl0) := by
  by_cases hn : n = 0
  · subst hn
    obtain ⟨-, h1, h2⟩ := getS_ok hb h
    exact ⟨h1, ok_len h2, fun h => absurd rfl h⟩
  · have h0 : s = Sl0 := by
      unfold getS at h
      split at h
      split at h
      · simp only [Prod.mk.injEq] at h; exact h.1.symm
      · split at h
        · simp only [Prod.mk.injEq] at h; exact absurd h.2.symm hn
        · simp only [Prod.mk.injEq] at h; exact h.1.symm
    subst h0
    have u0 : u32ok 0 := ⟨by decide, by decide⟩
    have v0 : u64ok 0 := ⟨by decide, by decide⟩
    exact ⟨⟨u0, u0, u0, u0, u0, v0, v0, v0, rfl⟩, by decide, fun _ => rfl⟩
theorem getS_more {s : Sl} {m : List Int} (hw : s.wf) (h : okB s = true) (hm : m ≠ []) : getS (encS s ++ m) = (Sl0, 12) := by
  have h1 := rdS_put s m hw (ok_len h)
  have h2 : endM m 0 = 12 := by
    unfold endM
    rw [if_neg (by simp), if_pos (by cases m with | nil => exact absurd rfl hm | cons x m => simp)]
  unfold getS
  rw [h1]
  dsimp only
  rw [h2, if_pos (by decide)]
theorem encS_inj {s u : Sl} (hs : s.wf) (hu : u.wf) (ls : s.d.length ≤ 768) (lu : u.d.length ≤ 768) (h : encS s = encS u) : s = u := by
  have h1 := rdS_put s [] hs ls
  have h2 := rdS_put u [] hu lu
  rw [h, h2] at h1
  simp only [Prod.mk.injEq, and_true] at h1
  exact h1.symm
/-! ### bytes that end too early -/
theorem rdM_err (xs : List Int) (n : Nat) : rdM xs 10 n = (0, xs, 10) := by simp [rdM, takeM, numN]
theorem opM_err10 (xs : List Int) (m : Int) : opM xs 10 m = ([], xs, 10) := by simp [opM, rdM_err]
theorem rdM_short {xs : List Int} {n : Nat} (h : xs.length < n) : rdM xs 0 n = (0, xs, 10) := by simp [rdM, takeM, numN, h]
theorem pre {p t x r : List Int} (h : p ++ t = x ++ r) : (∃ p', p = x ++ p' ∧ p' ++ t = r) ∨ p.length < x.length := by
  rcases Nat.lt_or_ge p.length x.length with hl | hl
  · exact .inr hl
  · refine .inl ⟨p.drop x.length, ?_, ?_⟩
    · have h1 := congrArg (List.take x.length) h
      rw [List.take_append_of_le_length hl, List.take_left'] at h1
      · rw [← h1]
        conv => lhs; rw [← List.take_append_drop x.length p]
        rw [h1]
      · rfl
    · have h1 := congrArg (List.drop x.length) h
      rw [List.drop_append_of_le_length hl, List.drop_left'] at h1
      · exact h1
      · rfl
theorem opM_cut {p t d : List Int} {most : Int} (h : p ++ t = opq d) (ht : t ≠ []) (hm : (d.length : Int) ≤ most) (hl : d.length < 4294967296) : (opM p 0 most).2.2 = 10 := by
  have hlt : 0 < t.length := by cases t with | nil => exact absurd rfl ht | cons x t => simp
  unfold opq at h
  rw [List.append_assoc] at h
  unfold opM
  rcases pre h with ⟨p', rfl, h2⟩ | hs
  · rw [rd32_put _ _ (by omega) (by omega)]
    dsimp only
    rw [if_neg (by simp), if_neg (by omega)]
    have h3 := congrArg List.length h2
    simp only [List.length_append, List.length_replicate] at h3
    have h4 : takeM p' 0 ((d.length : Int).toNat + (4 - (d.length : Int).toNat % 4) % 4) = ([], p', 10) := by
      unfold takeM
      rw [if_neg (by simp), if_pos (by rw [Int.toNat_natCast]; omega)]
    rw [h4]
    simp
  · rw [rdM_short (by simpa [be32] using hs)]
    simp
theorem getS_cut {s : Sl} {p t : List Int} (hw : s.wf) (hk : okB s = true) (h : p ++ t = encS s) (ht : t ≠ []) : getS p = (Sl0, 10) := by
  have key : (rdS p).2.2 = 10 := by
    have hd := ok_len hk
    unfold encS at h
    simp only [List.append_assoc] at h
    unfold rdS
    rcases pre h with ⟨p1, rfl, k1⟩ | h1
    · rw [rd32_put _ _ hw.ino.1 hw.ino.2]
      dsimp only
      rcases pre k1 with ⟨p2, rfl, k2⟩ | h1
      · rw [rd32_put _ _ hw.kind.1 hw.kind.2]
        dsimp only
        rcases pre k2 with ⟨p3, rfl, k3⟩ | h1
        · rw [rd32_put _ _ hw.gen.1 hw.gen.2]
          dsimp only
          rcases pre k3 with ⟨p4, rfl, k4⟩ | h1
          · rw [rd32_put _ _ hw.links.1 hw.links.2]
            dsimp only
            rcases pre k4 with ⟨p5, rfl, k5⟩ | h1
            · rw [rd32_put _ _ hw.mode.1 hw.mode.2]
              dsimp only
              rcases pre k5 with ⟨p6, rfl, k6⟩ | h1
              · rw [rd64_put _ _ hw.change.1 hw.change.2]
                dsimp only
                rcases pre k6 with ⟨p7, rfl, k7⟩ | h1
                · rw [rd64_put _ _ hw.cookie.1 hw.cookie.2]
                  dsimp only
                  rcases pre k7 with ⟨p8, rfl, k8⟩ | h1
                  · rw [rd64_put _ _ hw.verf.1 hw.verf.2]
                    dsimp only
                    exact opM_cut k8 ht (by omega) (by omega)
                  · rw [rdM_short (by simpa [be64, be32] using h1)]; simp only [rdM_err, opM_err10]
                · rw [rdM_short (by simpa [be64, be32] using h1)]; simp only [rdM_err, opM_err10]
              · rw [rdM_short (by simpa [be64, be32] using h1)]; simp only [rdM_err, opM_err10]
            · rw [rdM_short (by simpa [be32] using h1)]; simp only [rdM_err, opM_err10]
          · rw [rdM_short (by simpa [be32] using h1)]; simp only [rdM_err, opM_err10]
        · rw [rdM_short (by simpa [be32] using h1)]; simp only [rdM_err, opM_err10]
      · rw [rdM_short (by simpa [be32] using h1)]; simp only [rdM_err, opM_err10]
    · rw [rdM_short (by simpa [be32] using h1)]; simp only [rdM_err, opM_err10]
  unfold getS
  obtain ⟨⟨s', ys, e⟩, hr⟩ : ∃ r, rdS p = r := ⟨_, rfl⟩
  rw [hr] at key ⊢
  dsimp only at key ⊢
  subst key
  have h2 : endM ys 10 = 10 := rfl
  rw [h2, if_pos (by decide)]
end Go.Proofs.Ytlpjchighfdomaa.Hm
end
section
/- The reference for slot, walked; conditions: those that each theorem names. -/
namespace Go.Proofs.Ytlpjchighfdomaa.Sx
open Go.RowKit Go.Proofs.Ytlpjchighfdomaa.Hm Go.Proofs.YtlpjchighfdomaaW.PrintWords Go.Proofs.YtlpjchighfdomaaW.PrintLast Go.Proofs.YtlpjchighfdomaaW.PrintMore
set_option linter.unusedVariables false
set_option linter.unusedSimpArgs false
attribute [local irreducible] SX SXL SXA St callK Post Evals

section
variable {F R : List Thing} {K : Ending → List Thing → Prop} {s : Sl}
def srC (s : Sl) : List Value := [.int .u32 s.ino, .int .u32 s.kind, .int .u32 s.gen, .int .u32 s.links, .int .u32 s.mode, .int .u64 s.change, .int .u64 s.cookie, .int .u64 s.verf, .string (strOfNums s.d)]
set_option maxHeartbeats 1000000 in
set_option maxRecDepth 20000 in
theorem RCheck_S (hw : s.wf) (hl : s.d.length ≤ 4000000) (h : K (.returned (.int .i64 (checkM s))) F) : Fn (Try.prog) 40 [.agg (srC s).toArray] F K := by
  have hbs := bytesOf_strOfNums _ hw.d
  have hsz := size_strOfNums s.d
  have r3 := hw.links
  have r4 := hw.mode
  have r6 := hw.cookie
  have r7 := hw.verf
  have r1 := hw.kind
  unfold u32ok at r1 r3 r4
  unfold u64ok at r6 r7
  unfold srC
  refine Fn.enter Try.call40 Try.func40 rfl rfl rfl ?_
  repeat (first | refine Qa ?_ | refine Qb ?_ | refine Qc ?_ | refine Qd ?_ | refine Qe ?_ | refine Qf ?_ | refine Qg ?_ | refine Qh ?_ | refine Qi ?_ | refine Qj ?_ | refine Qk ?_ | refine Ql ?_ | refine Qm ?_ | refine Qn ?_ | refine Qo ?_ | refine Qp ?_ | refine Qq ?_ | fail)
  refine SXL.box rfl rfl rfl (fun b => ?_)
  repeat (first | refine Qa ?_ | refine Qb ?_ | refine Qc ?_ | refine Qd ?_ | refine Qe ?_ | refine Qf ?_ | refine Qg ?_ | refine Qh ?_ | refine Qi ?_ | refine Qj ?_ | refine Qk ?_ | refine Ql ?_ | refine Qm ?_ | refine Qn ?_ | refine Qo ?_ | refine Qp ?_ | refine Qq ?_ | fail)
  refine SXL.split (s := 9) rfl (fun h9 => ?_) (fun h9 => ?_)
  · have := of_decide_eq_true h9
    rw [check_1 (by unfold ok1; simp; omega)] at h
    repeat (first | refine Qa ?_ | refine Qb ?_ | refine Qc ?_ | refine Qd ?_ | refine Qe ?_ | refine Qf ?_ | refine Qg ?_ | refine Qh ?_ | refine Qi ?_ | refine Qj ?_ | refine Qk ?_ | refine Ql ?_ | refine Qm ?_ | refine Qn ?_ | refine Qo ?_ | refine Qp ?_ | refine Qq ?_ | fail)
    refine SX.ret (M' := F) rfl (Evals.tmp rfl Evals.nil) ?_ inferInstance
    exact h
  have h9' := of_decide_eq_false h9
  repeat (first | refine Qa ?_ | refine Qb ?_ | refine Qc ?_ | refine Qd ?_ | refine Qe ?_ | refine Qf ?_ | refine Qg ?_ | refine Qh ?_ | refine Qi ?_ | refine Qj ?_ | refine Qk ?_ | refine Ql ?_ | refine Qm ?_ | refine Qn ?_ | refine Qo ?_ | refine Qp ?_ | refine Qq ?_ | fail)
  refine SXL.split (s := 14) rfl (fun h14 => ?_) (fun h14 => ?_)
  · have := of_decide_eq_true h14
    rw [check_1 (by unfold ok1; simp; omega)] at h
    repeat (first | refine Qa ?_ | refine Qb ?_ | refine Qc ?_ | refine Qd ?_ | refine Qe ?_ | refine Qf ?_ | refine Qg ?_ | refine Qh ?_ | refine Qi ?_ | refine Qj ?_ | refine Qk ?_ | refine Ql ?_ | refine Qm ?_ | refine Qn ?_ | refine Qo ?_ | refine Qp ?_ | refine Qq ?_ | fail)
    refine SX.ret (M' := F) rfl (Evals.tmp rfl Evals.nil) ?_ inferInstance
    exact h
  have h14' := of_decide_eq_false h14
  repeat (first | refine Qa ?_ | refine Qb ?_ | refine Qc ?_ | refine Qd ?_ | refine Qe ?_ | refine Qf ?_ | refine Qg ?_ | refine Qh ?_ | refine Qi ?_ | refine Qj ?_ | refine Qk ?_ | refine Ql ?_ | refine Qm ?_ | refine Qn ?_ | refine Qo ?_ | refine Qp ?_ | refine Qq ?_ | fail)
  refine SX.condp rfl (fun hlen => ?_) (fun hlen => ?_)
  · rw [hsz] at hlen
    rw [check_1 (by unfold ok1; simp; omega)] at h
    repeat (first | refine Qa ?_ | refine Qb ?_ | refine Qc ?_ | refine Qd ?_ | refine Qe ?_ | refine Qf ?_ | refine Qg ?_ | refine Qh ?_ | refine Qi ?_ | refine Qj ?_ | refine Qk ?_ | refine Ql ?_ | refine Qm ?_ | refine Qn ?_ | refine Qo ?_ | refine Qp ?_ | refine Qq ?_ | fail)
    refine SX.ret (M' := F) rfl (Evals.tmp rfl Evals.nil) ?_ inferInstance
    exact h
  rw [hsz] at hlen
  have hk1 : ok1 s = true := by unfold ok1; simp; omega
  repeat (first | refine Qa ?_ | refine Qb ?_ | refine Qc ?_ | refine Qd ?_ | refine Qe ?_ | refine Qf ?_ | refine Qg ?_ | refine Qh ?_ | refine Qi ?_ | refine Qj ?_ | refine Qk ?_ | refine Ql ?_ | refine Qm ?_ | refine Qn ?_ | refine Qo ?_ | refine Qp ?_ | refine Qq ?_ | fail)
  refine SX.cond rfl (fun hk => ?_) (fun hk => ?_)
  · have hk' : s.kind = 0 := by simpa using hk
    have hk3 : ok3 s = true := by simp [ok3, hk']
    repeat (first | refine Qa ?_ | refine Qb ?_ | refine Qc ?_ | refine Qd ?_ | refine Qe ?_ | refine Qf ?_ | refine Qg ?_ | refine Qh ?_ | refine Qi ?_ | refine Qj ?_ | refine Qk ?_ | refine Ql ?_ | refine Qm ?_ | refine Qn ?_ | refine Qo ?_ | refine Qp ?_ | refine Qq ?_ | fail)
    refine SXL.split (s := 26) rfl (fun h26 => ?_) (fun h26 => ?_)
    · have := of_decide_eq_true h26
      rw [check_2 (by simp [ok2, bareB, hk']; omega)] at h
      repeat (first | refine Qa ?_ | refine Qb ?_ | refine Qc ?_ | refine Qd ?_ | refine Qe ?_ | refine Qf ?_ | refine Qg ?_ | refine Qh ?_ | refine Qi ?_ | refine Qj ?_ | refine Qk ?_ | refine Ql ?_ | refine Qm ?_ | refine Qn ?_ | refine Qo ?_ | refine Qp ?_ | refine Qq ?_ | fail)
      refine SX.ret (M' := F) rfl (Evals.tmp rfl Evals.nil) ?_ inferInstance
      exact h
    have h26' := of_decide_eq_false h26
    repeat (first | refine Qa ?_ | refine Qb ?_ | refine Qc ?_ | refine Qd ?_ | refine Qe ?_ | refine Qf ?_ | refine Qg ?_ | refine Qh ?_ | refine Qi ?_ | refine Qj ?_ | refine Qk ?_ | refine Ql ?_ | refine Qm ?_ | refine Qn ?_ | refine Qo ?_ | refine Qp ?_ | refine Qq ?_ | fail)
    refine SXL.split (s := 31) rfl (fun h31 => ?_) (fun h31 => ?_)
    · have := of_decide_eq_true h31
      rw [check_2 (by simp [ok2, bareB, hk']; omega)] at h
      repeat (first | refine Qa ?_ | refine Qb ?_ | refine Qc ?_ | refine Qd ?_ | refine Qe ?_ | refine Qf ?_ | refine Qg ?_ | refine Qh ?_ | refine Qi ?_ | refine Qj ?_ | refine Qk ?_ | refine Ql ?_ | refine Qm ?_ | refine Qn ?_ | refine Qo ?_ | refine Qp ?_ | refine Qq ?_ | fail)
      refine SX.ret (M' := F) rfl (Evals.tmp rfl Evals.nil) ?_ inferInstance
      exact h
    have h31' := of_decide_eq_false h31
    repeat (first | refine Qa ?_ | refine Qb ?_ | refine Qc ?_ | refine Qd ?_ | refine Qe ?_ | refine Qf ?_ | refine Qg ?_ | refine Qh ?_ | refine Qi ?_ | refine Qj ?_ | refine Qk ?_ | refine Ql ?_ | refine Qm ?_ | refine Qn ?_ | refine Qo ?_ | refine Qp ?_ | refine Qq ?_ | fail)
    refine SXL.split (s := 36) rfl (fun h36 => ?_) (fun h36 => ?_)
    · have := of_decide_eq_true h36
      rw [check_2 (by simp [ok2, bareB, hk']; omega)] at h
      repeat (first | refine Qa ?_ | refine Qb ?_ | refine Qc ?_ | refine Qd ?_ | refine Qe ?_ | refine Qf ?_ | refine Qg ?_ | refine Qh ?_ | refine Qi ?_ | refine Qj ?_ | refine Qk ?_ | refine Ql ?_ | refine Qm ?_ | refine Qn ?_ | refine Qo ?_ | refine Qp ?_ | refine Qq ?_ | fail)
      refine SX.ret (M' := F) rfl (Evals.tmp rfl Evals.nil) ?_ inferInstance
      exact h
    have h36' := of_decide_eq_false h36
    repeat (first | refine Qa ?_ | refine Qb ?_ | refine Qc ?_ | refine Qd ?_ | refine Qe ?_ | refine Qf ?_ | refine Qg ?_ | refine Qh ?_ | refine Qi ?_ | refine Qj ?_ | refine Qk ?_ | refine Ql ?_ | refine Qm ?_ | refine Qn ?_ | refine Qo ?_ | refine Qp ?_ | refine Qq ?_ | fail)
    refine SXL.split (s := 41) rfl (fun h41 => ?_) (fun h41 => ?_)
    · have := of_decide_eq_true h41
      rw [check_2 (by simp [ok2, bareB, hk']; omega)] at h
      repeat (first | refine Qa ?_ | refine Qb ?_ | refine Qc ?_ | refine Qd ?_ | refine Qe ?_ | refine Qf ?_ | refine Qg ?_ | refine Qh ?_ | refine Qi ?_ | refine Qj ?_ | refine Qk ?_ | refine Ql ?_ | refine Qm ?_ | refine Qn ?_ | refine Qo ?_ | refine Qp ?_ | refine Qq ?_ | fail)
      refine SX.ret (M' := F) rfl (Evals.tmp rfl Evals.nil) ?_ inferInstance
      exact h
    have h41' := of_decide_eq_false h41
    repeat (first | refine Qa ?_ | refine Qb ?_ | refine Qc ?_ | refine Qd ?_ | refine Qe ?_ | refine Qf ?_ | refine Qg ?_ | refine Qh ?_ | refine Qi ?_ | refine Qj ?_ | refine Qk ?_ | refine Ql ?_ | refine Qm ?_ | refine Qn ?_ | refine Qo ?_ | refine Qp ?_ | refine Qq ?_ | fail)
    refine SX.cond rfl (fun h45 => ?_) (fun h45 => ?_)
    · rw [str_empty, hsz] at h45
      have h45' : s.d.length ≠ 0 := by simpa using h45
      rw [check_2 (by simp [ok2, bareB, hk']; intros; exact fun h0 => h45' (by rw [h0]; rfl))] at h
      repeat (first | refine Qa ?_ | refine Qb ?_ | refine Qc ?_ | refine Qd ?_ | refine Qe ?_ | refine Qf ?_ | refine Qg ?_ | refine Qh ?_ | refine Qi ?_ | refine Qj ?_ | refine Qk ?_ | refine Ql ?_ | refine Qm ?_ | refine Qn ?_ | refine Qo ?_ | refine Qp ?_ | refine Qq ?_ | fail)
      refine SX.ret (M' := F) rfl (Evals.tmp rfl Evals.nil) ?_ inferInstance
      exact h
    · rw [str_empty, hsz] at h45
      have h45' : s.d.length = 0 := by simpa using h45
      have e1 : s.links = 0 := by omega
      have e2 : s.mode = 0 := by omega
      have e3 : s.cookie = 0 := by omega
      have e4 : s.verf = 0 := by omega
      rw [check_0 hk1 (by simp [ok2, bareB, hk', e1, e2, e3, e4, h45']) hk3] at h
      repeat (first | refine Qa ?_ | refine Qb ?_ | refine Qc ?_ | refine Qd ?_ | refine Qe ?_ | refine Qf ?_ | refine Qg ?_ | refine Qh ?_ | refine Qi ?_ | refine Qj ?_ | refine Qk ?_ | refine Ql ?_ | refine Qm ?_ | refine Qn ?_ | refine Qo ?_ | refine Qp ?_ | refine Qq ?_ | fail)
      refine SX.ret (M' := F) rfl (Evals.tmp rfl Evals.nil) ?_ inferInstance
      exact h
  have hk' : s.kind ≠ 0 := by simpa using hk
  repeat (first | refine Qa ?_ | refine Qb ?_ | refine Qc ?_ | refine Qd ?_ | refine Qe ?_ | refine Qf ?_ | refine Qg ?_ | refine Qh ?_ | refine Qi ?_ | refine Qj ?_ | refine Qk ?_ | refine Ql ?_ | refine Qm ?_ | refine Qn ?_ | refine Qo ?_ | refine Qp ?_ | refine Qq ?_ | fail)
  refine SX.cond rfl (fun hli => ?_) (fun hli => ?_)
  · have hli' : s.links = 0 := by simpa using hli
    rw [check_2 (by simp [ok2, hk', hli'])] at h
    repeat (first | refine Qa ?_ | refine Qb ?_ | refine Qc ?_ | refine Qd ?_ | refine Qe ?_ | refine Qf ?_ | refine Qg ?_ | refine Qh ?_ | refine Qi ?_ | refine Qj ?_ | refine Qk ?_ | refine Ql ?_ | refine Qm ?_ | refine Qn ?_ | refine Qo ?_ | refine Qp ?_ | refine Qq ?_ | fail)
    refine SX.ret (M' := F) rfl (Evals.tmp rfl Evals.nil) ?_ inferInstance
    exact h
  have hli' : s.links ≠ 0 := by simpa using hli
  have hk2 : ok2 s = true := by simp [ok2, hk']; omega
  repeat (first | refine Qa ?_ | refine Qb ?_ | refine Qc ?_ | refine Qd ?_ | refine Qe ?_ | refine Qf ?_ | refine Qg ?_ | refine Qh ?_ | refine Qi ?_ | refine Qj ?_ | refine Qk ?_ | refine Ql ?_ | refine Qm ?_ | refine Qn ?_ | refine Qo ?_ | refine Qp ?_ | refine Qq ?_ | fail)
  refine SX.cond rfl (fun hd => ?_) (fun hd => ?_)
  · have hd' : s.kind = 2 := by simpa using hd
    repeat (first | refine Qa ?_ | refine Qb ?_ | refine Qc ?_ | refine Qd ?_ | refine Qe ?_ | refine Qf ?_ | refine Qg ?_ | refine Qh ?_ | refine Qi ?_ | refine Qj ?_ | refine Qk ?_ | refine Ql ?_ | refine Qm ?_ | refine Qn ?_ | refine Qo ?_ | refine Qp ?_ | refine Qq ?_ | fail)
    refine SXL.call rfl rfl rfl ?_
    refine (RGet_S (strOfNums s.d) (by omega) (fun l n hm A1 c1 hc1 => callK.ret ?_))
    rw [hbs] at hm
    have hL : ok3 s = ((n == 0) && (((l.length : Int) == 0) || decide (lastC l ≤ s.cookie))) := by simp [ok3, hd', listB, hm]
    repeat (first | refine Qa ?_ | refine Qb ?_ | refine Qc ?_ | refine Qd ?_ | refine Qe ?_ | refine Qf ?_ | refine Qg ?_ | refine Qh ?_ | refine Qi ?_ | refine Qj ?_ | refine Qk ?_ | refine Ql ?_ | refine Qm ?_ | refine Qn ?_ | refine Qo ?_ | refine Qp ?_ | refine Qq ?_ | fail)
    refine SX.cond rfl (fun hn => ?_) (fun hn => ?_)
    · have hn' : n ≠ 0 := by simpa using hn
      rw [check_3 (by rw [hL]; simp [hn'])] at h
      repeat (first | refine Qa ?_ | refine Qb ?_ | refine Qc ?_ | refine Qd ?_ | refine Qe ?_ | refine Qf ?_ | refine Qg ?_ | refine Qh ?_ | refine Qi ?_ | refine Qj ?_ | refine Qk ?_ | refine Ql ?_ | refine Qm ?_ | refine Qn ?_ | refine Qo ?_ | refine Qp ?_ | refine Qq ?_ | fail)
      refine SX.ret (M' := F) rfl (Evals.tmp rfl Evals.nil) ?_ inferInstance
      exact h
    obtain rfl : n = 0 := by simpa using hn
    have hmay := getM_may hw.d hm
    have hll := getM_len hw.d hm
    repeat (first | refine Qa ?_ | refine Qb ?_ | refine Qc ?_ | refine Qd ?_ | refine Qe ?_ | refine Qf ?_ | refine Qg ?_ | refine Qh ?_ | refine Qi ?_ | refine Qj ?_ | refine Qk ?_ | refine Ql ?_ | refine Qm ?_ | refine Qn ?_ | refine Qo ?_ | refine Qp ?_ | refine Qq ?_ | fail)
    refine SX.loop (fun n a M => ∃ i : Nat, i + n = l.length ∧ (∀ e ∈ l.take i, e.c ≤ s.cookie) ∧ a = [(1, .pointer (some ⟨b, 0, none⟩)), (3, .slice A1 l.length c1), (5, .int .i64 i)] ∧
        .own A1 (rowR kE 50 (.slice A1 l.length c1) l) :: .own (some ⟨b, 0, none⟩) (cellsR b (srC s) 70) :: F = M) l.length ⟨0, by omega, by simp, rfl, rfl⟩ ⟨rfl, rfl, rfl, trivial⟩ (by unfold srC; infer_instance) ?_
    rintro n _ _ ⟨i, hi, hle, rfl, rfl⟩
    unfold srC
    repeat (first | refine Qa ?_ | refine Qb ?_ | refine Qc ?_ | refine Qd ?_ | refine Qe ?_ | refine Qf ?_ | refine Qg ?_ | refine Qh ?_ | refine Qi ?_ | refine Qj ?_ | refine Qk ?_ | refine Ql ?_ | refine Qm ?_ | refine Qn ?_ | refine Qo ?_ | refine Qp ?_ | refine Qq ?_ | fail)
    refine SX.condp rfl (fun hlt => ?_) (fun hlt => ?_)
    · obtain ⟨e, he⟩ : ∃ e, l[i]? = some e := ⟨_, List.getElem?_eq_getElem (by omega)⟩
      refine SX.addr (A := A1) kE (by decide) (xs := l) (by omega) (fun b3 o3 e3 => ?_)
      subst e3
      repeat (first | refine Qa ?_ | refine Qb ?_ | refine Qc ?_ | refine Qd ?_ | refine Qe ?_ | refine Qf ?_ | refine Qg ?_ | refine Qh ?_ | refine Qi ?_ | refine Qj ?_ | refine Qk ?_ | refine Ql ?_ | refine Qm ?_ | refine Qn ?_ | refine Qo ?_ | refine Qp ?_ | refine Qq ?_ | fail)
      refine SXA.begin [.own (some ⟨b3, o3, none⟩) (rowR kE 50 (.slice (some ⟨b3, o3, none⟩) l.length c1) l), .own (some ⟨b, 0, none⟩) (cellsR b (srC s) 70)] [] ?_
      unfold srC
      (first | refine Qr 0 ?_ | refine Qs 0 ?_ | refine Qt 0 ?_ | refine Qu 0 ?_ | fail)
      (first | refine Qr 1 ?_ | refine Qs 1 ?_ | refine Qt 1 ?_ | refine Qu 1 ?_ | fail)
      refine SXA.idx 2 rfl (by decide +kernel) rfl rfl rfl rfl rfl rfl (by omega) (by omega) rfl inferInstance ?_
      (first | refine Qr 3 ?_ | refine Qs 3 ?_ | refine Qt 3 ?_ | refine Qu 3 ?_ | fail)
      refine SXA.loadRow1 4 kE rfl (by decide +kernel) rfl rfl rfl inferInstance (by rw [Int.toNat_natCast]; exact he) rfl rfl inferInstance ?_
      (first | refine Qr 5 ?_ | refine Qs 5 ?_ | refine Qt 5 ?_ | refine Qu 5 ?_ | fail)
      (first | refine Qr 6 ?_ | refine Qs 6 ?_ | refine Qt 6 ?_ | refine Qu 6 ?_ | fail)
      (first | refine Qr 7 ?_ | refine Qs 7 ?_ | refine Qt 7 ?_ | refine Qu 7 ?_ | fail)
      refine Qv ?_
      refine SX.condp rfl (fun hgt => ?_) (fun hgt => ?_)
      · have hlast := mayOk_last rfl hmay e (List.mem_of_getElem? he)
        have hgt' : s.cookie < e.c := hgt
        rw [check_3 (by rw [hL]; have : ¬ l.length = 0 := by omega
                        simp [this]; omega)] at h
        repeat (first | refine Qa ?_ | refine Qb ?_ | refine Qc ?_ | refine Qd ?_ | refine Qe ?_ | refine Qf ?_ | refine Qg ?_ | refine Qh ?_ | refine Qi ?_ | refine Qj ?_ | refine Qk ?_ | refine Ql ?_ | refine Qm ?_ | refine Qn ?_ | refine Qo ?_ | refine Qp ?_ | refine Qq ?_ | fail)
        refine SX.ret (M' := F) rfl (Evals.tmp rfl Evals.nil) ?_ inferInstance
        exact h
      · repeat (first | refine Qa ?_ | refine Qb ?_ | refine Qc ?_ | refine Qd ?_ | refine Qe ?_ | refine Qf ?_ | refine Qg ?_ | refine Qh ?_ | refine Qi ?_ | refine Qj ?_ | refine Qk ?_ | refine Ql ?_ | refine Qm ?_ | refine Qn ?_ | refine Qo ?_ | refine Qp ?_ | refine Qq ?_ | fail)
        refine SX.same 5 (.int .i64 ((i + 1 : Nat) : Int)) rfl (by simp (disch := omega) only [IntWalk.i64_in, IntWalk.u8_in, IntWalk.u32_in, IntWalk.u64_in, IntWalk.rem_in, Int.natCast_add, Int.natCast_one]) ?_
        refine SX.again (n - 1) (by omega) ⟨i + 1, by omega, ?_, rfl, rfl⟩ (by repeat (first | exact trivial | refine ⟨rfl, ?_⟩)) inferInstance
        intro x hx
        obtain ⟨hil, hv⟩ := List.getElem?_eq_some_iff.1 he
        rw [List.take_succ_eq_append_getElem hil, hv] at hx
        rcases List.mem_append.1 hx with hx | hx
        · exact hle x hx
        · rw [List.mem_singleton.1 hx]; have hgt' : ¬ s.cookie < e.c := hgt; omega
    · have hi' : i = l.length := by omega
      rw [hi', List.take_length] at hle
      have hlast : lastC l ≤ s.cookie := by
        unfold lastC
        cases hg : l.getLast? with
        | none => exact r6.1
        | some e => exact hle e (List.mem_of_getLast? hg)
      rw [check_0 hk1 hk2 (by rw [hL]; simp [hlast])] at h
      repeat (first | refine Qa ?_ | refine Qb ?_ | refine Qc ?_ | refine Qd ?_ | refine Qe ?_ | refine Qf ?_ | refine Qg ?_ | refine Qh ?_ | refine Qi ?_ | refine Qj ?_ | refine Qk ?_ | refine Ql ?_ | refine Qm ?_ | refine Qn ?_ | refine Qo ?_ | refine Qp ?_ | refine Qq ?_ | fail)
      refine SX.ret (M' := F) rfl (Evals.tmp rfl Evals.nil) ?_ inferInstance
      exact h
  have hd' : s.kind ≠ 2 := by simpa using hd
  rw [check_0 hk1 hk2 (by simp [ok3, hd'])] at h
  repeat (first | refine Qa ?_ | refine Qb ?_ | refine Qc ?_ | refine Qd ?_ | refine Qe ?_ | refine Qf ?_ | refine Qg ?_ | refine Qh ?_ | refine Qi ?_ | refine Qj ?_ | refine Qk ?_ | refine Ql ?_ | refine Qm ?_ | refine Qn ?_ | refine Qo ?_ | refine Qp ?_ | refine Qq ?_ | fail)
  refine SX.ret (M' := F) rfl (Evals.tmp rfl Evals.nil) ?_ inferInstance
  exact h
theorem Ru_S (x : Int) (h0 : 0 ≤ x) (h1 : x < 4294967296) (h : K (.returned (.string (strOfNums (be32 x)))) F) : Fn (Try.prog) 70 [.int .u32 x] F K := by
  refine Fn.enter Try.call70 Try.func70 rfl rfl rfl ?_
  repeat (first | refine Qa ?_ | refine Qb ?_ | refine Qc ?_ | refine Qd ?_ | refine Qe ?_ | refine Qf ?_ | refine Qg ?_ | refine Qh ?_ | refine Qi ?_ | refine Qj ?_ | refine Qk ?_ | refine Ql ?_ | refine Qm ?_ | refine Qn ?_ | refine Qo ?_ | refine Qp ?_ | refine Qq ?_ | fail)
  refine SXL.call rfl rfl rfl ?_
  refine (SU32_S x h0 h1 (callK.ret ?_))
  repeat (first | refine Qa ?_ | refine Qb ?_ | refine Qc ?_ | refine Qd ?_ | refine Qe ?_ | refine Qf ?_ | refine Qg ?_ | refine Qh ?_ | refine Qi ?_ | refine Qj ?_ | refine Qk ?_ | refine Ql ?_ | refine Qm ?_ | refine Qn ?_ | refine Qo ?_ | refine Qp ?_ | refine Qq ?_ | fail)
  refine SX.ret (M' := F) rfl (Evals.tmp rfl Evals.nil) ?_ inferInstance
  exact h
theorem strOfNums_app (a b : List Int) : strOfNums (a ++ b) = strOfNums a ++ strOfNums b := by
  apply ByteArray.ext
  rw [ByteArray.data_append]
  unfold strOfNums
  simp
theorem be32_len (x : Int) : (be32 x).length = 4 := rfl
theorem be64_len (x : Int) : (be64 x).length = 8 := rfl
set_option maxHeartbeats 1000000 in
set_option maxRecDepth 20000 in
theorem RPut11_S (hw : s.wf) (hl : s.d.length ≤ 100000) (h : ∀ r n, putS s = (r, n) → K (.returned (.tuple #[.string (strOfNums r), .int .i64 n])) F) : Fn (Try.prog) 36 [.agg (srC s).toArray] F K := by
  have hbs := bytesOf_strOfNums _ hw.d
  have hsz := size_strOfNums s.d
  have hop : (opq s.d).length ≤ 200000 := by unfold opq; simp [be32]; omega
  unfold putS at h
  unfold srC
  refine Fn.enter Try.call36 Try.func36 rfl rfl rfl ?_
  repeat (first | refine Qa ?_ | refine Qb ?_ | refine Qc ?_ | refine Qd ?_ | refine Qe ?_ | refine Qf ?_ | refine Qg ?_ | refine Qh ?_ | refine Qi ?_ | refine Qj ?_ | refine Qk ?_ | refine Ql ?_ | refine Qm ?_ | refine Qn ?_ | refine Qo ?_ | refine Qp ?_ | refine Qq ?_ | fail)
  refine SXL.box rfl rfl rfl (fun b => ?_)
  repeat (first | refine Qa ?_ | refine Qb ?_ | refine Qc ?_ | refine Qd ?_ | refine Qe ?_ | refine Qf ?_ | refine Qg ?_ | refine Qh ?_ | refine Qi ?_ | refine Qj ?_ | refine Qk ?_ | refine Ql ?_ | refine Qm ?_ | refine Qn ?_ | refine Qo ?_ | refine Qp ?_ | refine Qq ?_ | fail)
  refine SXL.call rfl rfl rfl ?_
  refine (RCheck_S hw (by omega) (callK.ret ?_))
  repeat (first | refine Qa ?_ | refine Qb ?_ | refine Qc ?_ | refine Qd ?_ | refine Qe ?_ | refine Qf ?_ | refine Qg ?_ | refine Qh ?_ | refine Qi ?_ | refine Qj ?_ | refine Qk ?_ | refine Ql ?_ | refine Qm ?_ | refine Qn ?_ | refine Qo ?_ | refine Qp ?_ | refine Qq ?_ | fail)
  refine SX.cond rfl (fun e1 => ?_) (fun e1 => ?_)
  · have hk : okB s = false := by
      unfold checkM at e1
      cases hk : okB s with
      | true => rw [hk] at e1; simp at e1
      | false => rfl
    have hm : checkM s = 1 := by unfold checkM; rw [hk]; rfl
    rw [hk] at h
    rw [hm]
    repeat (first | refine Qa ?_ | refine Qb ?_ | refine Qc ?_ | refine Qd ?_ | refine Qe ?_ | refine Qf ?_ | refine Qg ?_ | refine Qh ?_ | refine Qi ?_ | refine Qj ?_ | refine Qk ?_ | refine Ql ?_ | refine Qm ?_ | refine Qn ?_ | refine Qo ?_ | refine Qp ?_ | refine Qq ?_ | fail)
    refine SX.ret (M' := F) rfl (Evals.tmp rfl (Evals.tmp rfl Evals.nil)) ?_ inferInstance
    exact h _ _ rfl
  have hk : okB s = true := by
    unfold checkM at e1
    cases hk : okB s with
    | true => rfl
    | false => rw [hk] at e1; simp at e1
  rw [hk] at h
  repeat (first | refine Qa ?_ | refine Qb ?_ | refine Qc ?_ | refine Qd ?_ | refine Qe ?_ | refine Qf ?_ | refine Qg ?_ | refine Qh ?_ | refine Qi ?_ | refine Qj ?_ | refine Qk ?_ | refine Ql ?_ | refine Qm ?_ | refine Qn ?_ | refine Qo ?_ | refine Qp ?_ | refine Qq ?_ | fail)
  refine SXA.begin [.own (some ⟨b, 0, none⟩) (cellsR b (srC s) 70)] [] ?_
  unfold srC
  (first | refine Qr 0 ?_ | refine Qs 0 ?_ | refine Qt 0 ?_ | refine Qu 0 ?_ | fail)
  (first | refine Qr 1 ?_ | refine Qs 1 ?_ | refine Qt 1 ?_ | refine Qu 1 ?_ | fail)
  (first | refine Qr 3 ?_ | refine Qs 3 ?_ | refine Qt 3 ?_ | refine Qu 3 ?_ | fail)
  (first | refine Qr 4 ?_ | refine Qs 4 ?_ | refine Qt 4 ?_ | refine Qu 4 ?_ | fail)
  (first | refine Qr 7 ?_ | refine Qs 7 ?_ | refine Qt 7 ?_ | refine Qu 7 ?_ | fail)
  (first | refine Qr 8 ?_ | refine Qs 8 ?_ | refine Qt 8 ?_ | refine Qu 8 ?_ | fail)
  (first | refine Qr 11 ?_ | refine Qs 11 ?_ | refine Qt 11 ?_ | refine Qu 11 ?_ | fail)
  (first | refine Qr 12 ?_ | refine Qs 12 ?_ | refine Qt 12 ?_ | refine Qu 12 ?_ | fail)
  (first | refine Qr 15 ?_ | refine Qs 15 ?_ | refine Qt 15 ?_ | refine Qu 15 ?_ | fail)
  (first | refine Qr 16 ?_ | refine Qs 16 ?_ | refine Qt 16 ?_ | refine Qu 16 ?_ | fail)
  (first | refine Qr 19 ?_ | refine Qs 19 ?_ | refine Qt 19 ?_ | refine Qu 19 ?_ | fail)
  (first | refine Qr 20 ?_ | refine Qs 20 ?_ | refine Qt 20 ?_ | refine Qu 20 ?_ | fail)
  (first | refine Qr 23 ?_ | refine Qs 23 ?_ | refine Qt 23 ?_ | refine Qu 23 ?_ | fail)
  (first | refine Qr 24 ?_ | refine Qs 24 ?_ | refine Qt 24 ?_ | refine Qu 24 ?_ | fail)
  (first | refine Qr 27 ?_ | refine Qs 27 ?_ | refine Qt 27 ?_ | refine Qu 27 ?_ | fail)
  (first | refine Qr 28 ?_ | refine Qs 28 ?_ | refine Qt 28 ?_ | refine Qu 28 ?_ | fail)
  (first | refine Qr 31 ?_ | refine Qs 31 ?_ | refine Qt 31 ?_ | refine Qu 31 ?_ | fail)
  (first | refine Qr 32 ?_ | refine Qs 32 ?_ | refine Qt 32 ?_ | refine Qu 32 ?_ | fail)
  refine Qw 2 ?_
  refine SXL.call rfl rfl rfl ?_
  refine (Ru_S s.ino hw.ino.1 hw.ino.2 (callK.ret ?_))
  refine SXL.nil (SXA.next inferInstance ?_)
  refine Qw 5 ?_
  refine SXL.call rfl rfl rfl ?_
  refine (Ru_S s.kind hw.kind.1 hw.kind.2 (callK.ret ?_))
  refine SXL.nil (SXA.next inferInstance ?_)
  refine SXA.cat 6 rfl (by decide +kernel) rfl rfl rfl (by simp only [ByteArray.size_append, size_strOfNums, be32_len, be64_len, hbs, hop]; omega) rfl inferInstance ?_
  refine Qw 9 ?_
  refine SXL.call rfl rfl rfl ?_
  refine (Ru_S s.gen hw.gen.1 hw.gen.2 (callK.ret ?_))
  refine SXL.nil (SXA.next inferInstance ?_)
  refine SXA.cat 10 rfl (by decide +kernel) rfl rfl rfl (by simp only [ByteArray.size_append, size_strOfNums, be32_len, be64_len, hbs, hop]; omega) rfl inferInstance ?_
  refine Qw 13 ?_
  refine SXL.call rfl rfl rfl ?_
  refine (Ru_S s.links hw.links.1 hw.links.2 (callK.ret ?_))
  refine SXL.nil (SXA.next inferInstance ?_)
  refine SXA.cat 14 rfl (by decide +kernel) rfl rfl rfl (by simp only [ByteArray.size_append, size_strOfNums, be32_len, be64_len, hbs, hop]; omega) rfl inferInstance ?_
  refine Qw 17 ?_
  refine SXL.call rfl rfl rfl ?_
  refine (Ru_S s.mode hw.mode.1 hw.mode.2 (callK.ret ?_))
  refine SXL.nil (SXA.next inferInstance ?_)
  refine SXA.cat 18 rfl (by decide +kernel) rfl rfl rfl (by simp only [ByteArray.size_append, size_strOfNums, be32_len, be64_len, hbs, hop]; omega) rfl inferInstance ?_
  refine Qw 21 ?_
  refine SXL.call rfl rfl rfl ?_
  refine (SU64_S s.change hw.change.1 hw.change.2 (callK.ret ?_))
  refine SXL.nil (SXA.next inferInstance ?_)
  refine SXA.cat 22 rfl (by decide +kernel) rfl rfl rfl (by simp only [ByteArray.size_append, size_strOfNums, be32_len, be64_len, hbs, hop]; omega) rfl inferInstance ?_
  refine Qw 25 ?_
  refine SXL.call rfl rfl rfl ?_
  refine (SU64_S s.cookie hw.cookie.1 hw.cookie.2 (callK.ret ?_))
  refine SXL.nil (SXA.next inferInstance ?_)
  refine SXA.cat 26 rfl (by decide +kernel) rfl rfl rfl (by simp only [ByteArray.size_append, size_strOfNums, be32_len, be64_len, hbs, hop]; omega) rfl inferInstance ?_
  refine Qw 29 ?_
  refine SXL.call rfl rfl rfl ?_
  refine (SU64_S s.verf hw.verf.1 hw.verf.2 (callK.ret ?_))
  refine SXL.nil (SXA.next inferInstance ?_)
  refine SXA.cat 30 rfl (by decide +kernel) rfl rfl rfl (by simp only [ByteArray.size_append, size_strOfNums, be32_len, be64_len, hbs, hop]; omega) rfl inferInstance ?_
  refine Qw 33 ?_
  refine SXL.call rfl rfl rfl ?_
  refine (SOpaque_S (strOfNums s.d) (by omega) (callK.ret ?_))
  refine SXL.nil (SXA.next inferInstance ?_)
  refine SXA.cat 34 rfl (by decide +kernel) rfl rfl rfl (by simp only [ByteArray.size_append, size_strOfNums, be32_len, be64_len, hbs, hop]; omega) rfl inferInstance ?_
  (first | refine Qr 35 ?_ | refine Qs 35 ?_ | refine Qt 35 ?_ | refine Qu 35 ?_ | fail)
  (first | refine Qr 36 ?_ | refine Qs 36 ?_ | refine Qt 36 ?_ | refine Qu 36 ?_ | fail)
  refine Qv ?_
  repeat (first | refine Qa ?_ | refine Qb ?_ | refine Qc ?_ | refine Qd ?_ | refine Qe ?_ | refine Qf ?_ | refine Qg ?_ | refine Qh ?_ | refine Qi ?_ | refine Qj ?_ | refine Qk ?_ | refine Ql ?_ | refine Qm ?_ | refine Qn ?_ | refine Qo ?_ | refine Qp ?_ | refine Qq ?_ | fail)
  refine SX.same 2 (.string (strOfNums (encS s))) rfl ?_ ?_
  · rw [hbs]
    simp only [encS, strOfNums_app]
  refine SX.ret (M' := F) rfl (Evals.tmp rfl (Evals.tmp rfl Evals.nil)) ?_ inferInstance
  exact h _ _ rfl
theorem REnd11_S (y : List Int) (e : Int) (h : K (.returned (.int .i64 (endM y e))) F) : Fn (Try.prog) 79 [.agg #[.string (strOfNums y), .int .i64 e]] F K := by
  refine Fn.enter Try.call79 Try.func79 rfl rfl rfl ?_
  repeat (first | refine Qa ?_ | refine Qb ?_ | refine Qc ?_ | refine Qd ?_ | refine Qe ?_ | refine Qf ?_ | refine Qg ?_ | refine Qh ?_ | refine Qi ?_ | refine Qj ?_ | refine Qk ?_ | refine Ql ?_ | refine Qm ?_ | refine Qn ?_ | refine Qo ?_ | refine Qp ?_ | refine Qq ?_ | fail)
  refine SXL.box rfl rfl rfl (fun b => ?_)
  repeat (first | refine Qa ?_ | refine Qb ?_ | refine Qc ?_ | refine Qd ?_ | refine Qe ?_ | refine Qf ?_ | refine Qg ?_ | refine Qh ?_ | refine Qi ?_ | refine Qj ?_ | refine Qk ?_ | refine Ql ?_ | refine Qm ?_ | refine Qn ?_ | refine Qo ?_ | refine Qp ?_ | refine Qq ?_ | fail)
  refine SXL.split (s := 6) rfl (fun h6 => ?_) (fun h6 => ?_)
  · obtain rfl : e = 0 := by simpa using h6
    repeat (first | refine Qa ?_ | refine Qb ?_ | refine Qc ?_ | refine Qd ?_ | refine Qe ?_ | refine Qf ?_ | refine Qg ?_ | refine Qh ?_ | refine Qi ?_ | refine Qj ?_ | refine Qk ?_ | refine Ql ?_ | refine Qm ?_ | refine Qn ?_ | refine Qo ?_ | refine Qp ?_ | refine Qq ?_ | fail)
    refine SX.cond rfl (fun hy => ?_) (fun hy => ?_)
    · rw [str_empty, size_strOfNums] at hy
      have hy' : y.length ≠ 0 := by simpa using hy
      unfold endM at h
      rw [if_neg (by simp), if_pos (by omega)] at h
      repeat (first | refine Qa ?_ | refine Qb ?_ | refine Qc ?_ | refine Qd ?_ | refine Qe ?_ | refine Qf ?_ | refine Qg ?_ | refine Qh ?_ | refine Qi ?_ | refine Qj ?_ | refine Qk ?_ | refine Ql ?_ | refine Qm ?_ | refine Qn ?_ | refine Qo ?_ | refine Qp ?_ | refine Qq ?_ | fail)
      refine SX.ret (M' := F) rfl (Evals.tmp rfl Evals.nil) ?_ inferInstance
      exact h
    · rw [str_empty, size_strOfNums] at hy
      have hy' : y.length = 0 := by simpa using hy
      unfold endM at h
      rw [if_neg (by simp), if_neg (by omega)] at h
      repeat (first | refine Qa ?_ | refine Qb ?_ | refine Qc ?_ | refine Qd ?_ | refine Qe ?_ | refine Qf ?_ | refine Qg ?_ | refine Qh ?_ | refine Qi ?_ | refine Qj ?_ | refine Qk ?_ | refine Ql ?_ | refine Qm ?_ | refine Qn ?_ | refine Qo ?_ | refine Qp ?_ | refine Qq ?_ | fail)
      refine SX.ret (M' := F) rfl (Evals.tmp rfl Evals.nil) ?_ inferInstance
      exact h
  · have he : e ≠ 0 := by simpa using h6
    unfold endM at h
    rw [if_pos he] at h
    repeat (first | refine Qa ?_ | refine Qb ?_ | refine Qc ?_ | refine Qd ?_ | refine Qe ?_ | refine Qf ?_ | refine Qg ?_ | refine Qh ?_ | refine Qi ?_ | refine Qj ?_ | refine Qk ?_ | refine Ql ?_ | refine Qm ?_ | refine Qn ?_ | refine Qo ?_ | refine Qp ?_ | refine Qq ?_ | fail)
    refine SX.ret (M' := F) rfl (Evals.tmp rfl Evals.nil) ?_ inferInstance
    exact h
set_option maxHeartbeats 1000000 in
set_option maxRecDepth 20000 in
theorem RGet11_S (x : ByteArray) (hx : x.size ≤ 4000000) (h : ∀ r n, getS (bytesOf x) = (r, n) → K (.returned (.tuple #[.agg (srC r).toArray, .int .i64 n])) F) : Fn (Try.prog) 43 [.string x] F K := by
  have hxl := bytesOf_length x
  unfold getS rdS at h
  refine Fn.enter Try.call43 Try.func43 rfl rfl rfl ?_
  repeat (first | refine Qa ?_ | refine Qb ?_ | refine Qc ?_ | refine Qd ?_ | refine Qe ?_ | refine Qf ?_ | refine Qg ?_ | refine Qh ?_ | refine Qi ?_ | refine Qj ?_ | refine Qk ?_ | refine Ql ?_ | refine Qm ?_ | refine Qn ?_ | refine Qo ?_ | refine Qp ?_ | refine Qq ?_ | fail)
  refine SXL.alloc rfl rfl (fun q => ?_)
  repeat (first | refine Qa ?_ | refine Qb ?_ | refine Qc ?_ | refine Qd ?_ | refine Qe ?_ | refine Qf ?_ | refine Qg ?_ | refine Qh ?_ | refine Qi ?_ | refine Qj ?_ | refine Qk ?_ | refine Ql ?_ | refine Qm ?_ | refine Qn ?_ | refine Qo ?_ | refine Qp ?_ | refine Qq ?_ | fail)
  refine SXL.alloc rfl rfl (fun b => ?_)
  repeat (first | refine Qa ?_ | refine Qb ?_ | refine Qc ?_ | refine Qd ?_ | refine Qe ?_ | refine Qf ?_ | refine Qg ?_ | refine Qh ?_ | refine Qi ?_ | refine Qj ?_ | refine Qk ?_ | refine Ql ?_ | refine Qm ?_ | refine Qn ?_ | refine Qo ?_ | refine Qp ?_ | refine Qq ?_ | fail)
  refine SXL.call rfl rfl rfl ?_
  refine (Read32_S x 0 (by omega) (fun x1 y1 e1 h1 => callK.ret ?_))
  have b1 := rdM_rest (bytesOf x) 0 4 (bytesOf_range x)
  have l1 := rdM_le (bytesOf x) 0 4
  have r1 := rdM_range (bytesOf x) 0 4 (bytesOf_range x)
  rw [h1] at b1 l1 r1 h
  dsimp only at b1 l1 r1 h
  repeat (first | refine Qa ?_ | refine Qb ?_ | refine Qc ?_ | refine Qd ?_ | refine Qe ?_ | refine Qf ?_ | refine Qg ?_ | refine Qh ?_ | refine Qi ?_ | refine Qj ?_ | refine Qk ?_ | refine Ql ?_ | refine Qm ?_ | refine Qn ?_ | refine Qo ?_ | refine Qp ?_ | refine Qq ?_ | fail)
  refine SXL.alloc rfl rfl (fun p => ?_)
  repeat (first | refine Qa ?_ | refine Qb ?_ | refine Qc ?_ | refine Qd ?_ | refine Qe ?_ | refine Qf ?_ | refine Qg ?_ | refine Qh ?_ | refine Qi ?_ | refine Qj ?_ | refine Qk ?_ | refine Ql ?_ | refine Qm ?_ | refine Qn ?_ | refine Qo ?_ | refine Qp ?_ | refine Qq ?_ | fail)
  refine SXL.call rfl rfl rfl ?_
  refine (Read32_S (strOfNums y1) e1 (by rw [size_strOfNums]; omega) (fun x2 y2 e2 h2 => callK.ret ?_))
  rw [bytesOf_strOfNums _ b1] at h2
  have b2 := rdM_rest y1 e1 4 b1
  have l2 := rdM_le y1 e1 4
  have r2 := rdM_range y1 e1 4 b1
  rw [h2] at b2 l2 r2 h
  dsimp only at b2 l2 r2 h
  repeat (first | refine Qa ?_ | refine Qb ?_ | refine Qc ?_ | refine Qd ?_ | refine Qe ?_ | refine Qf ?_ | refine Qg ?_ | refine Qh ?_ | refine Qi ?_ | refine Qj ?_ | refine Qk ?_ | refine Ql ?_ | refine Qm ?_ | refine Qn ?_ | refine Qo ?_ | refine Qp ?_ | refine Qq ?_ | fail)
  refine SXL.call rfl rfl rfl ?_
  refine (Read32_S (strOfNums y2) e2 (by rw [size_strOfNums]; omega) (fun x3 y3 e3 h3 => callK.ret ?_))
  rw [bytesOf_strOfNums _ b2] at h3
  have b3 := rdM_rest y2 e2 4 b2
  have l3 := rdM_le y2 e2 4
  have r3 := rdM_range y2 e2 4 b2
  rw [h3] at b3 l3 r3 h
  dsimp only at b3 l3 r3 h
  repeat (first | refine Qa ?_ | refine Qb ?_ | refine Qc ?_ | refine Qd ?_ | refine Qe ?_ | refine Qf ?_ | refine Qg ?_ | refine Qh ?_ | refine Qi ?_ | refine Qj ?_ | refine Qk ?_ | refine Ql ?_ | refine Qm ?_ | refine Qn ?_ | refine Qo ?_ | refine Qp ?_ | refine Qq ?_ | fail)
  refine SXL.call rfl rfl rfl ?_
  refine (Read32_S (strOfNums y3) e3 (by rw [size_strOfNums]; omega) (fun x4 y4 e4 h4 => callK.ret ?_))
  rw [bytesOf_strOfNums _ b3] at h4
  have b4 := rdM_rest y3 e3 4 b3
  have l4 := rdM_le y3 e3 4
  have r4 := rdM_range y3 e3 4 b3
  rw [h4] at b4 l4 r4 h
  dsimp only at b4 l4 r4 h
  repeat (first | refine Qa ?_ | refine Qb ?_ | refine Qc ?_ | refine Qd ?_ | refine Qe ?_ | refine Qf ?_ | refine Qg ?_ | refine Qh ?_ | refine Qi ?_ | refine Qj ?_ | refine Qk ?_ | refine Ql ?_ | refine Qm ?_ | refine Qn ?_ | refine Qo ?_ | refine Qp ?_ | refine Qq ?_ | fail)
  refine SXL.call rfl rfl rfl ?_
  refine (Read32_S (strOfNums y4) e4 (by rw [size_strOfNums]; omega) (fun x5 y5 e5 h5 => callK.ret ?_))
  rw [bytesOf_strOfNums _ b4] at h5
  have b5 := rdM_rest y4 e4 4 b4
  have l5 := rdM_le y4 e4 4
  have r5 := rdM_range y4 e4 4 b4
  rw [h5] at b5 l5 r5 h
  dsimp only at b5 l5 r5 h
  repeat (first | refine Qa ?_ | refine Qb ?_ | refine Qc ?_ | refine Qd ?_ | refine Qe ?_ | refine Qf ?_ | refine Qg ?_ | refine Qh ?_ | refine Qi ?_ | refine Qj ?_ | refine Qk ?_ | refine Ql ?_ | refine Qm ?_ | refine Qn ?_ | refine Qo ?_ | refine Qp ?_ | refine Qq ?_ | fail)
  refine SXL.call rfl rfl rfl ?_
  refine (Read64_S (strOfNums y5) e5 (by rw [size_strOfNums]; omega) (fun x6 y6 e6 h6 => callK.ret ?_))
  rw [bytesOf_strOfNums _ b5] at h6
  have b6 := rdM_rest y5 e5 8 b5
  have l6 := rdM_le y5 e5 8
  have r6 := rdM_range y5 e5 8 b5
  rw [h6] at b6 l6 r6 h
  dsimp only at b6 l6 r6 h
  repeat (first | refine Qa ?_ | refine Qb ?_ | refine Qc ?_ | refine Qd ?_ | refine Qe ?_ | refine Qf ?_ | refine Qg ?_ | refine Qh ?_ | refine Qi ?_ | refine Qj ?_ | refine Qk ?_ | refine Ql ?_ | refine Qm ?_ | refine Qn ?_ | refine Qo ?_ | refine Qp ?_ | refine Qq ?_ | fail)
  refine SXL.call rfl rfl rfl ?_
  refine (Read64_S (strOfNums y6) e6 (by rw [size_strOfNums]; omega) (fun x7 y7 e7 h7 => callK.ret ?_))
  rw [bytesOf_strOfNums _ b6] at h7
  have b7 := rdM_rest y6 e6 8 b6
  have l7 := rdM_le y6 e6 8
  have r7 := rdM_range y6 e6 8 b6
  rw [h7] at b7 l7 r7 h
  dsimp only at b7 l7 r7 h
  repeat (first | refine Qa ?_ | refine Qb ?_ | refine Qc ?_ | refine Qd ?_ | refine Qe ?_ | refine Qf ?_ | refine Qg ?_ | refine Qh ?_ | refine Qi ?_ | refine Qj ?_ | refine Qk ?_ | refine Ql ?_ | refine Qm ?_ | refine Qn ?_ | refine Qo ?_ | refine Qp ?_ | refine Qq ?_ | fail)
  refine SXL.call rfl rfl rfl ?_
  refine (Read64_S (strOfNums y7) e7 (by rw [size_strOfNums]; omega) (fun x8 y8 e8 h8 => callK.ret ?_))
  rw [bytesOf_strOfNums _ b7] at h8
  have b8 := rdM_rest y7 e7 8 b7
  have l8 := rdM_le y7 e7 8
  have r8 := rdM_range y7 e7 8 b7
  rw [h8] at b8 l8 r8 h
  dsimp only at b8 l8 r8 h
  repeat (first | refine Qa ?_ | refine Qb ?_ | refine Qc ?_ | refine Qd ?_ | refine Qe ?_ | refine Qf ?_ | refine Qg ?_ | refine Qh ?_ | refine Qi ?_ | refine Qj ?_ | refine Qk ?_ | refine Ql ?_ | refine Qm ?_ | refine Qn ?_ | refine Qo ?_ | refine Qp ?_ | refine Qq ?_ | fail)
  refine SXL.call rfl rfl rfl ?_
  refine (ReadOpaque_S (strOfNums y8) e8 768 (by rw [size_strOfNums]; omega) (by decide) (by decide) (fun d y9 e9 h9 => callK.ret ?_))
  rw [bytesOf_strOfNums _ b8] at h9
  obtain ⟨bd, ld⟩ := opM_bytes b8 (by decide) h9
  rw [h9] at h
  dsimp only at h
  repeat (first | refine Qa ?_ | refine Qb ?_ | refine Qc ?_ | refine Qd ?_ | refine Qe ?_ | refine Qf ?_ | refine Qg ?_ | refine Qh ?_ | refine Qi ?_ | refine Qj ?_ | refine Qk ?_ | refine Ql ?_ | refine Qm ?_ | refine Qn ?_ | refine Qo ?_ | refine Qp ?_ | refine Qq ?_ | fail)
  refine SXL.call rfl rfl rfl ?_
  refine (REnd11_S y9 e9 (callK.ret ?_))
  repeat (first | refine Qa ?_ | refine Qb ?_ | refine Qc ?_ | refine Qd ?_ | refine Qe ?_ | refine Qf ?_ | refine Qg ?_ | refine Qh ?_ | refine Qi ?_ | refine Qj ?_ | refine Qk ?_ | refine Ql ?_ | refine Qm ?_ | refine Qn ?_ | refine Qo ?_ | refine Qp ?_ | refine Qq ?_ | fail)
  refine SX.cond rfl (fun he => ?_) (fun he => ?_)
  · have he' : endM y9 e9 ≠ 0 := by simpa using he
    rw [if_pos he'] at h
    repeat (first | refine Qa ?_ | refine Qb ?_ | refine Qc ?_ | refine Qd ?_ | refine Qe ?_ | refine Qf ?_ | refine Qg ?_ | refine Qh ?_ | refine Qi ?_ | refine Qj ?_ | refine Qk ?_ | refine Ql ?_ | refine Qm ?_ | refine Qn ?_ | refine Qo ?_ | refine Qp ?_ | refine Qq ?_ | fail)
    refine SX.ret (M' := F) rfl (Evals.cell rfl inferInstance rfl (Evals.tmp rfl Evals.nil)) ?_ inferInstance
    exact h _ _ rfl
  · have he' : endM y9 e9 = 0 := by simpa using he
    rw [if_neg (by rw [he']; decide)] at h
    have hw : Sl.wf ⟨x1, x2, x3, x4, x5, x6, x7, x8, d⟩ := ⟨r1, r2, r3, r4, r5, r6, r7, r8, bd⟩
    repeat (first | refine Qa ?_ | refine Qb ?_ | refine Qc ?_ | refine Qd ?_ | refine Qe ?_ | refine Qf ?_ | refine Qg ?_ | refine Qh ?_ | refine Qi ?_ | refine Qj ?_ | refine Qk ?_ | refine Ql ?_ | refine Qm ?_ | refine Qn ?_ | refine Qo ?_ | refine Qp ?_ | refine Qq ?_ | fail)
    refine SXL.call rfl rfl rfl ?_
    refine (RCheck_S (s := ⟨x1, x2, x3, x4, x5, x6, x7, x8, d⟩) hw (by show d.length ≤ 4000000; omega) (callK.ret ?_))
    repeat (first | refine Qa ?_ | refine Qb ?_ | refine Qc ?_ | refine Qd ?_ | refine Qe ?_ | refine Qf ?_ | refine Qg ?_ | refine Qh ?_ | refine Qi ?_ | refine Qj ?_ | refine Qk ?_ | refine Ql ?_ | refine Qm ?_ | refine Qn ?_ | refine Qo ?_ | refine Qp ?_ | refine Qq ?_ | fail)
    refine SX.cond rfl (fun hk => ?_) (fun hk => ?_)
    · rw [if_neg (by intro h0; unfold checkM at hk; rw [h0] at hk; simp at hk)] at h
      repeat (first | refine Qa ?_ | refine Qb ?_ | refine Qc ?_ | refine Qd ?_ | refine Qe ?_ | refine Qf ?_ | refine Qg ?_ | refine Qh ?_ | refine Qi ?_ | refine Qj ?_ | refine Qk ?_ | refine Ql ?_ | refine Qm ?_ | refine Qn ?_ | refine Qo ?_ | refine Qp ?_ | refine Qq ?_ | fail)
      refine SX.ret (M' := F) rfl (Evals.cell rfl inferInstance rfl (Evals.tmp rfl Evals.nil)) ?_ inferInstance
      exact h _ _ rfl
    · have hok : okB ⟨x1, x2, x3, x4, x5, x6, x7, x8, d⟩ = true := by
        cases h0 : okB ⟨x1, x2, x3, x4, x5, x6, x7, x8, d⟩ with
        | true => rfl
        | false => unfold checkM at hk; rw [h0] at hk; simp at hk
      rw [if_pos hok] at h
      repeat (first | refine Qa ?_ | refine Qb ?_ | refine Qc ?_ | refine Qd ?_ | refine Qe ?_ | refine Qf ?_ | refine Qg ?_ | refine Qh ?_ | refine Qi ?_ | refine Qj ?_ | refine Qk ?_ | refine Ql ?_ | refine Qm ?_ | refine Qn ?_ | refine Qo ?_ | refine Qp ?_ | refine Qq ?_ | fail)
      refine SX.ret (M' := F) rfl (Evals.cell rfl inferInstance rfl (Evals.tmp rfl Evals.nil)) ?_ inferInstance
      exact h _ _ rfl
end
end Go.Proofs.Ytlpjchighfdomaa.Sx
end
section
/- Chapter 11's laws: what they call; conditions: those that each theorem names. -/
namespace Go.Proofs.Ytlpjchighfdomaa.Sx
open Go.RowKit Go.Proofs.Ytlpjchighfdomaa.Hm Go.Proofs.YtlpjchighfdomaaW.PrintWords Go.Proofs.YtlpjchighfdomaaW.PrintLast Go.Proofs.YtlpjchighfdomaaW.PrintMore
set_option linter.unusedVariables false
set_option linter.unusedSimpArgs false
attribute [local irreducible] SX SXL SXA St callK Post Evals

instance eqS : EqT Try.prog 70 := ⟨by kernel_rfl, by kernel_rfl, by kernel_rfl⟩
section
variable {F R : List Thing} {K : Ending → List Thing → Prop} {s : Sl} {A : Option Addr} {c : Nat}
theorem slotOf_S (hr : Ro (Kd.int .u8) A F s.d) (h : K (.returned (.agg (srC s).toArray)) F) : Fn (Try.prog) 37 [.agg (slC s A c).toArray] F K := by
  unfold slC
  refine Fn.enter Try.call37 Try.func37 rfl rfl rfl ?_
  repeat (first | refine Qa ?_ | refine Qb ?_ | refine Qc ?_ | refine Qd ?_ | refine Qe ?_ | refine Qf ?_ | refine Qg ?_ | refine Qh ?_ | refine Qi ?_ | refine Qj ?_ | refine Qk ?_ | refine Ql ?_ | refine Qm ?_ | refine Qn ?_ | refine Qo ?_ | refine Qp ?_ | refine Qq ?_ | fail)
  refine SXL.box rfl rfl rfl (fun b => ?_)
  repeat (first | refine Qa ?_ | refine Qb ?_ | refine Qc ?_ | refine Qd ?_ | refine Qe ?_ | refine Qf ?_ | refine Qg ?_ | refine Qh ?_ | refine Qi ?_ | refine Qj ?_ | refine Qk ?_ | refine Ql ?_ | refine Qm ?_ | refine Qn ?_ | refine Qo ?_ | refine Qp ?_ | refine Qq ?_ | fail)
  refine SXL.alloc rfl rfl (fun q => ?_)
  repeat (first | refine Qa ?_ | refine Qb ?_ | refine Qc ?_ | refine Qd ?_ | refine Qe ?_ | refine Qf ?_ | refine Qg ?_ | refine Qh ?_ | refine Qi ?_ | refine Qj ?_ | refine Qk ?_ | refine Ql ?_ | refine Qm ?_ | refine Qn ?_ | refine Qo ?_ | refine Qp ?_ | refine Qq ?_ | fail)
  refine SXL.bytesStr rfl inferInstance rfl Try.underlying22 Try.underlying5 Try.underlying9 rfl ?_
  repeat (first | refine Qa ?_ | refine Qb ?_ | refine Qc ?_ | refine Qd ?_ | refine Qe ?_ | refine Qf ?_ | refine Qg ?_ | refine Qh ?_ | refine Qi ?_ | refine Qj ?_ | refine Qk ?_ | refine Ql ?_ | refine Qm ?_ | refine Qn ?_ | refine Qo ?_ | refine Qp ?_ | refine Qq ?_ | fail)
  refine SX.ret (M' := F) rfl (Evals.cell rfl inferInstance rfl Evals.nil) ?_ inferInstance
  exact h
def sl0 : Sl := ⟨3, 0, 2, 0, 0, 0, 0, 0, []⟩
def sl1 : Sl := ⟨0, 1, 0, 0, 0, 0, 0, 0, []⟩
def sl2 : Sl := ⟨0, 2, 0, 1, 0, 0, 0, 0, []⟩
theorem sl_wf : sl0.wf ∧ sl1.wf ∧ sl2.wf := by
  have u0 : ∀ x : Int, 0 ≤ x → x < 4 → u32ok x := fun x h0 h1 => ⟨h0, by omega⟩
  have v0 : u64ok 0 := ⟨by decide, by decide⟩
  exact ⟨⟨u0 _ (by decide) (by decide), u0 _ (by decide) (by decide), u0 _ (by decide) (by decide), u0 _ (by decide) (by decide), u0 _ (by decide) (by decide), v0, v0, v0, rfl⟩, ⟨u0 _ (by decide) (by decide), u0 _ (by decide) (by decide), u0 _ (by decide) (by decide), u0 _ (by decide) (by decide), u0 _ (by decide) (by decide), v0, v0, v0, rfl⟩, ⟨u0 _ (by decide) (by decide), u0 _ (by decide) (by decide), u0 _ (by decide) (by decide), u0 _ (by decide) (by decide), u0 _ (by decide) (by decide), v0, v0, v0, rfl⟩⟩
set_option maxRecDepth 20000 in
theorem awake11_S (h : K (.returned (.bool true)) F) : Fn (Try.prog) 34 [] F K := by
  have hk0 : okB sl0 = true := by decide +kernel
  have hp0 : putS sl0 = (encS sl0, 0) := by unfold putS; rw [if_pos hk0]
  have hel : (encS sl0).length = 48 := by decide +kernel
  have heb : bytesB (encS sl0) = true := by decide +kernel
  have he3 : (encS sl0)[3]? = some 3 := by decide +kernel
  have hg0 := getS_put sl_wf.1 hk0
  have hk1 : checkM sl1 = 1 := by decide +kernel
  have hk2 : checkM sl2 = 0 := by decide +kernel
  refine Fn.enter Try.call34 Try.func34 rfl rfl rfl ?_
  repeat (first | refine Qa ?_ | refine Qb ?_ | refine Qc ?_ | refine Qd ?_ | refine Qe ?_ | refine Qf ?_ | refine Qg ?_ | refine Qh ?_ | refine Qi ?_ | refine Qj ?_ | refine Qk ?_ | refine Ql ?_ | refine Qm ?_ | refine Qn ?_ | refine Qo ?_ | refine Qp ?_ | refine Qq ?_ | fail)
  refine SXL.call rfl rfl rfl ?_
  refine (Put11_S (s := sl0) (A := none) (c := 0) inferInstance (Nat.le_refl _) sl_wf.1 (by decide) (fun r n hm A1 c1 hc1 => callK.ret ?_))
  rw [hp0] at hm
  simp only [Prod.mk.injEq] at hm
  obtain ⟨rfl, rfl⟩ := hm
  repeat (first | refine Qa ?_ | refine Qb ?_ | refine Qc ?_ | refine Qd ?_ | refine Qe ?_ | refine Qf ?_ | refine Qg ?_ | refine Qh ?_ | refine Qi ?_ | refine Qj ?_ | refine Qk ?_ | refine Ql ?_ | refine Qm ?_ | refine Qn ?_ | refine Qo ?_ | refine Qp ?_ | refine Qq ?_ | fail)
  refine SXL.call rfl rfl rfl ?_
  refine (Get11_S inferInstance hc1 heb (by omega) (fun r n hm A2 c2 hc2 => callK.ret ?_))
  rw [hg0] at hm
  simp only [Prod.mk.injEq] at hm
  obtain ⟨rfl, rfl⟩ := hm
  repeat (first | refine Qa ?_ | refine Qb ?_ | refine Qc ?_ | refine Qd ?_ | refine Qe ?_ | refine Qf ?_ | refine Qg ?_ | refine Qh ?_ | refine Qi ?_ | refine Qj ?_ | refine Qk ?_ | refine Ql ?_ | refine Qm ?_ | refine Qn ?_ | refine Qo ?_ | refine Qp ?_ | refine Qq ?_ | fail)
  refine SXL.alloc rfl rfl (fun b => ?_)
  repeat (first | refine Qa ?_ | refine Qb ?_ | refine Qc ?_ | refine Qd ?_ | refine Qe ?_ | refine Qf ?_ | refine Qg ?_ | refine Qh ?_ | refine Qi ?_ | refine Qj ?_ | refine Qk ?_ | refine Ql ?_ | refine Qm ?_ | refine Qn ?_ | refine Qo ?_ | refine Qp ?_ | refine Qq ?_ | fail)
  refine SXL.know 22 true rfl (by rw [hel]; rfl) ?_
  refine SXL.addr (A := A1) (Kd.int .u8) (by decide) (xs := encS sl0) (by omega) (fun b3 o3 e3 => ?_)
  subst e3
  repeat (first | refine Qa ?_ | refine Qb ?_ | refine Qc ?_ | refine Qd ?_ | refine Qe ?_ | refine Qf ?_ | refine Qg ?_ | refine Qh ?_ | refine Qi ?_ | refine Qj ?_ | refine Qk ?_ | refine Ql ?_ | refine Qm ?_ | refine Qn ?_ | refine Qo ?_ | refine Qp ?_ | refine Qq ?_ | fail)
  refine SXL.idx rfl rfl rfl rfl rfl (by omega) (by omega) rfl ?_
  repeat (first | refine Qa ?_ | refine Qb ?_ | refine Qc ?_ | refine Qd ?_ | refine Qe ?_ | refine Qf ?_ | refine Qg ?_ | refine Qh ?_ | refine Qi ?_ | refine Qj ?_ | refine Qk ?_ | refine Ql ?_ | refine Qm ?_ | refine Qn ?_ | refine Qo ?_ | refine Qp ?_ | refine Qq ?_ | fail)
  refine SXL.loadRow (Kd.int .u8) rfl rfl inferInstance (by exact he3) rfl rfl ?_
  repeat (first | refine Qa ?_ | refine Qb ?_ | refine Qc ?_ | refine Qd ?_ | refine Qe ?_ | refine Qf ?_ | refine Qg ?_ | refine Qh ?_ | refine Qi ?_ | refine Qj ?_ | refine Qk ?_ | refine Ql ?_ | refine Qm ?_ | refine Qn ?_ | refine Qo ?_ | refine Qp ?_ | refine Qq ?_ | fail)
  refine SXL.call rfl rfl rfl ?_
  refine (Handle_S (s := sl0) (A := A2) (c := c2) (callK.ret ?_))
  repeat (first | refine Qa ?_ | refine Qb ?_ | refine Qc ?_ | refine Qd ?_ | refine Qe ?_ | refine Qf ?_ | refine Qg ?_ | refine Qh ?_ | refine Qi ?_ | refine Qj ?_ | refine Qk ?_ | refine Ql ?_ | refine Qm ?_ | refine Qn ?_ | refine Qo ?_ | refine Qp ?_ | refine Qq ?_ | fail)
  refine SXL.call rfl rfl rfl ?_
  refine (Check_S (s := sl1) (A := none) (c := 0) inferInstance (Nat.le_refl _) rfl (by decide) (callK.ret ?_))
  rw [hk1]
  repeat (first | refine Qa ?_ | refine Qb ?_ | refine Qc ?_ | refine Qd ?_ | refine Qe ?_ | refine Qf ?_ | refine Qg ?_ | refine Qh ?_ | refine Qi ?_ | refine Qj ?_ | refine Qk ?_ | refine Ql ?_ | refine Qm ?_ | refine Qn ?_ | refine Qo ?_ | refine Qp ?_ | refine Qq ?_ | fail)
  refine SXL.call rfl rfl rfl ?_
  refine (Check_S (s := sl2) (A := none) (c := 0) inferInstance (Nat.le_refl _) rfl (by decide) (callK.ret ?_))
  rw [hk2]
  repeat (first | refine Qa ?_ | refine Qb ?_ | refine Qc ?_ | refine Qd ?_ | refine Qe ?_ | refine Qf ?_ | refine Qg ?_ | refine Qh ?_ | refine Qi ?_ | refine Qj ?_ | refine Qk ?_ | refine Ql ?_ | refine Qm ?_ | refine Qn ?_ | refine Qo ?_ | refine Qp ?_ | refine Qq ?_ | fail)
  refine SXL.call rfl rfl rfl ?_
  refine (Same11_S (s := sl0) (u := sl0) (A := A2) (c := c2) (B := none) (c' := 0) inferInstance inferInstance (callK.ret ?_))
  repeat (first | refine Qa ?_ | refine Qb ?_ | refine Qc ?_ | refine Qd ?_ | refine Qe ?_ | refine Qf ?_ | refine Qg ?_ | refine Qh ?_ | refine Qi ?_ | refine Qj ?_ | refine Qk ?_ | refine Ql ?_ | refine Qm ?_ | refine Qn ?_ | refine Qo ?_ | refine Qp ?_ | refine Qq ?_ | fail)
  refine SX.same 0 (.bool true) rfl (by rw [show sameM sl0 sl0 = true by decide +kernel]) ?_
  refine SX.ret (M' := F) rfl (Evals.tmp rfl Evals.nil) ?_ inferInstance
  exact h
end
end Go.Proofs.Ytlpjchighfdomaa.Sx
end
section
/- Chapter 11: what its laws say of bytes; conditions: those that each theorem names. -/
namespace Go.Proofs.Ytlpjchighfdomaa.Sx
open Go.RowKit Go.Proofs.Ytlpjchighfdomaa.Hm Go.Proofs.YtlpjchighfdomaaW.PrintWords Go.Proofs.YtlpjchighfdomaaW.PrintLast Go.Proofs.YtlpjchighfdomaaW.PrintMore
set_option linter.unusedVariables false
set_option linter.unusedSimpArgs false
attribute [local irreducible] SX SXL SXA St callK Post Evals

theorem sameM_iff {s u : Sl} (hs : s.wf) (hu : u.wf) : sameM s u = true ↔ s = u := by
  constructor
  · intro h
    unfold sameM at h
    simp only [Bool.and_eq_true, beq_iff_eq] at h
    obtain ⟨h1, h2, h3, h4, h5, h6, h7, h8, h9⟩ := h
    have h10 := (toList_iff _ _).1 h9
    rw [bytesOf_strOfNums _ hs.d, bytesOf_strOfNums _ hu.d] at h10
    cases s
    cases u
    simp_all
  · rintro rfl
    simp [sameM]
theorem putS_ok {s : Sl} {r : List Int} (h : putS s = (r, 0)) : okB s = true ∧ r = encS s := by
  unfold putS at h
  split at h
  · rename_i hk
    simp only [Prod.mk.injEq, and_true] at h
    exact ⟨hk, h.symm⟩
  · simp at h
theorem enc_wf {s : Sl} (hw : s.wf) (hl : s.d.length ≤ 768) : bytesB (encS s) = true := by
  unfold encS opq
  simp only [bytesB_append, hw.d, bytesB_zeros, bytesB_be64 _ hw.change.1 hw.change.2, bytesB_be64 _ hw.cookie.1 hw.cookie.2, bytesB_be64 _ hw.verf.1 hw.verf.2, bytesB_be32 _ hw.ino.1 hw.ino.2, bytesB_be32 _ hw.kind.1 hw.kind.2, bytesB_be32 _ hw.gen.1 hw.gen.2, bytesB_be32 _ hw.links.1 hw.links.2, bytesB_be32 _ hw.mode.1 hw.mode.2]
  rw [bytesB_be32 _ (by omega) (by omega)]
  rfl
theorem wf_mk {a0 a1 a2 a3 a4 a5 a6 a7 : Int} {l : List Int} (w0 : (Lit.int .u32 a0).wf = true) (w1 : (Lit.int .u32 a1).wf = true) (w2 : (Lit.int .u32 a2).wf = true) (w3 : (Lit.int .u32 a3).wf = true) (w4 : (Lit.int .u32 a4).wf = true) (w5 : (Lit.int .u64 a5).wf = true) (w6 : (Lit.int .u64 a6).wf = true) (w7 : (Lit.int .u64 a7).wf = true)
    (w8 : l.length ≤ maxLen ∧ ∀ x ∈ l, (Lit.int .u8 x).wf = true) : (⟨a0, a1, a2, a3, a4, a5, a6, a7, l⟩ : Sl).wf :=
  ⟨u32_of_wf _ w0, u32_of_wf _ w1, u32_of_wf _ w2, u32_of_wf _ w3, u32_of_wf _ w4, u64_of_wf _ w5, u64_of_wf _ w6, u64_of_wf _ w7, bytesB_of_wf l w8.2⟩
theorem encS_len48 (s : Sl) : (encS s).length = 44 + (opq s.d).length := by unfold encS; simp [be32, be64]; omega
theorem opq_len (d : List Int) : 4 ≤ (opq d).length ∧ (opq d).length ≤ d.length + 8 := by unfold opq; simp [be32]; omega
theorem bytesB_take {xs : List Int} (n : Nat) (h : bytesB xs = true) : bytesB (xs.take n) = true := by
  rw [← List.take_append_drop n xs, bytesB_append, Bool.and_eq_true] at h
  exact h.1
end Go.Proofs.Ytlpjchighfdomaa.Sx
end
