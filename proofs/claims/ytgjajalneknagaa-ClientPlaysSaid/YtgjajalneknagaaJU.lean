/- Part U of the lemmas and walks of the Go functions that these statements reach; conditions: those that each theorem names. -/
import Derived.Test.YtgjajalneknagaaJV4
import Derived.Test.YtgjajalneknagaaJT
import Derived.Test.YtgjajalneknagaaJF
section
/- Contracts that were shown of a world, as contracts of what is known: chapters 1 and 8; conditions: those that each theorem names. -/
namespace Go.Proofs.Ytgjajalneknagaa.Sx
open Go.RowKit Go.Proofs.Ytgjajalneknagaa.Hm Go.Proofs.YtgjajalneknagaaW.PrintWords Go.Proofs.YtgjajalneknagaaW.PrintLast Go.Proofs.YtgjajalneknagaaW.PrintMore
set_option linter.unusedVariables false
set_option linter.unusedSimpArgs false
attribute [local irreducible] SX SXL SXA St callK Post Evals

instance flatE : Flat kE entC := ⟨fun h => kE_K h, kE_of, fun w base ok x => kE_M w base ok x⟩
instance rowB : RowT Try.prog (Kd.int .u8) 38 5 1 := ⟨Try.underlying38, ⟨_, infoB, rfl⟩, by decide, by decide⟩
instance rowE : RowT Try.prog kE 43 101 32 := ⟨Try.underlying43, ⟨_, infoE, rfl⟩, by decide, by decide⟩
instance rowE8 : RowT Try.prog kE 64 102 32 := ⟨Try.underlying64, ⟨_, infoE8, rfl⟩, by decide, by decide⟩
section
variable {F : List Thing} {K : Ending → List Thing → Prop}
theorem SU32_S (x : Int) (h0 : 0 ≤ x) (h1 : x < 4294967296) (h : K (.returned (.string (strOfNums (be32 x)))) F) : Fn (Try.prog) 46 [.int .u32 x] F K :=
  Fn.ofVal _ Try.call46 (fun w _ => SU32_any x w h0 h1) h
theorem SU64_S (x : Int) (h0 : 0 ≤ x) (h1 : x < 18446744073709551616) (h : K (.returned (.string (strOfNums (be64 x)))) F) : Fn (Try.prog) 59 [.int .u64 x] F K :=
  Fn.ofVal _ Try.call59 (fun w _ => SU64_any x w h0 h1) h
theorem SOpaque_S (s : ByteArray) (hs : s.size ≤ 300000) (h : K (.returned (.string (strOfNums (opq (bytesOf s))))) F) : Fn (Try.prog) 47 [.string s] F K :=
  Fn.ofVal _ Try.call47 (fun w _ => SOpaque_any s w hs) h
section
variable {A : Option Addr} {c : Nat} {l : List Ent}
theorem RFind_S (s : ByteArray) (hr : Ro kE A F l) (hc : l.length ≤ c) (h : K (.returned (.int .i64 (idxE (fun e => e.s.toList == s.toList) l))) F) : Fn (Try.prog) 24 [.slice A l.length c, .string s] F K :=
  Fn.ofSame _ Try.call24 (fun w hw => RFind_any A c l s w (hw.ro hr) hc) h
theorem Put_S (hr : Ro kE A F l) (hc : l.length ≤ c) (hl : l.length ≤ 1000000) (hw : ∀ e ∈ l, e.wf) (h : ∀ r n, putM l = (r, n) → ∀ A' c', r.length ≤ c' → K (.returned (.tuple #[.slice A' r.length c', .int .i64 n])) (.own A' (rowR (Kd.int .u8) 5 (.slice A' r.length c') r) :: F)) :
    Fn (Try.prog) 52 [.slice A l.length c] F K :=
  Fn.ofRow (Kd.int .u8) 5 (fun v => .tuple #[v, .int .i64 (putM l).2]) (putM l).1 Try.call52 (fun w hM => Put_any A c l w (hM.ro hr) hc hl hw) (h _ _ rfl)
theorem RPut_S (hr : Ro kE A F l) (hc : l.length ≤ c) (hl : l.length ≤ 1000000) (hw : ∀ e ∈ l, e.wf) (h : ∀ r n, putM l = (r, n) → K (.returned (.tuple #[.string (strOfNums r), .int .i64 n])) F) : Fn (Try.prog) 66 [.slice A l.length c] F K :=
  Fn.ofVal _ Try.call66 (fun w hM => RPut_any A c l w (hM.ro hr) hc hl hw) (h _ _ rfl)
end
end
end Go.Proofs.Ytgjajalneknagaa.Sx
end
section
/- Chapter 8's reference: the entries of bytes; conditions: those that each theorem names. -/
namespace Go.Proofs.Ytgjajalneknagaa.Sx
open Go.RowKit Go.Proofs.Ytgjajalneknagaa.Hm Go.Proofs.YtgjajalneknagaaW.PrintWords Go.Proofs.YtgjajalneknagaaW.PrintLast Go.Proofs.YtgjajalneknagaaW.PrintMore
set_option linter.unusedVariables false
set_option linter.unusedSimpArgs false
attribute [local irreducible] SX SXL SXA St callK Post Evals

end Go.Proofs.Ytgjajalneknagaa.Sx
end
section
/- Numbers and bytes as chapter 1 has them: what is put is got, what is got is put; conditions: those that each theorem names. -/
namespace Go.Proofs.Ytgjajalneknagaa.Hm
open Go.RowKit Go.Proofs.YtgjajalneknagaaW.PrintWords Go.Proofs.YtgjajalneknagaaW.PrintLast Go.Proofs.YtgjajalneknagaaW.PrintMore
set_option linter.unusedVariables false
set_option linter.unusedSimpArgs false

theorem list4 {l : List Int} (h : l.length = 4) : ∃ a b c d, l = [a, b, c, d] := by
  match l, h with
  | [a, b, c, d], _ => exact ⟨a, b, c, d, rfl⟩
theorem list8 {l : List Int} (h : l.length = 8) : ∃ a b c d a' b' c' d', l = [a, b, c, d, a', b', c', d'] := by
  match l, h with
  | [a, b, c, d, a', b', c', d'], _ => exact ⟨a, b, c, d, a', b', c', d', rfl⟩
theorem be32_num {l : List Int} (h : l.length = 4) (hb : bytesB l = true) : be32 (numN 0 l) = l := by
  obtain ⟨a, b, c, d, rfl⟩ := list4 h
  simp only [bytesB_iff, List.mem_cons, List.not_mem_nil, or_false, forall_eq_or_imp, forall_eq] at hb
  simp only [numN, be32, List.foldl_cons, List.foldl_nil, List.cons.injEq, and_true]
  omega
theorem be64_num {l : List Int} (h : l.length = 8) (hb : bytesB l = true) : be64 (numN 0 l) = l := by
  obtain ⟨a, b, c, d, a', b', c', d', rfl⟩ := list8 h
  simp only [bytesB_iff, List.mem_cons, List.not_mem_nil, or_false, forall_eq_or_imp, forall_eq] at hb
  simp only [numN, be64, be32, List.cons_append, List.nil_append, List.foldl_cons, List.foldl_nil, List.cons.injEq, and_true]
  omega
theorem takeM_ok {xs r ys : List Int} {e : Int} {n : Nat} (h : takeM xs e n = (r, ys, 0)) : e = 0 ∧ r.length = n ∧ xs = r ++ ys := by
  unfold takeM at h
  by_cases he : e = 0
  · rw [if_neg (by simpa using he)] at h
    by_cases hl : xs.length < n
    · rw [if_pos hl] at h
      simp at h
    · rw [if_neg hl] at h
      simp only [Prod.mk.injEq, and_true] at h
      obtain ⟨rfl, rfl⟩ := h
      exact ⟨he, by rw [List.length_take]; omega, (List.take_append_drop n xs).symm⟩
  · rw [if_pos he] at h
    simp only [Prod.mk.injEq] at h
    exact absurd h.2.2 he
theorem rd32_ok {xs ys : List Int} {e n : Int} (hb : bytesB xs = true) (h : rdM xs e 4 = (n, ys, 0)) : e = 0 ∧ xs = be32 n ++ ys ∧ bytesB ys = true := by
  obtain ⟨⟨r, zs, e2⟩, ht⟩ : ∃ r, takeM xs e 4 = r := ⟨_, rfl⟩
  unfold rdM at h
  rw [ht] at h
  simp only [Prod.mk.injEq] at h
  obtain ⟨rfl, rfl, rfl⟩ := h
  obtain ⟨h1, h2, h3⟩ := takeM_ok ht
  subst h3
  rw [bytesB_append, Bool.and_eq_true] at hb
  exact ⟨h1, by rw [be32_num h2 hb.1], hb.2⟩
theorem rd64_ok {xs ys : List Int} {e n : Int} (hb : bytesB xs = true) (h : rdM xs e 8 = (n, ys, 0)) : e = 0 ∧ xs = be64 n ++ ys ∧ bytesB ys = true := by
  obtain ⟨⟨r, zs, e2⟩, ht⟩ : ∃ r, takeM xs e 8 = r := ⟨_, rfl⟩
  unfold rdM at h
  rw [ht] at h
  simp only [Prod.mk.injEq] at h
  obtain ⟨rfl, rfl, rfl⟩ := h
  obtain ⟨h1, h2, h3⟩ := takeM_ok ht
  subst h3
  rw [bytesB_append, Bool.and_eq_true] at hb
  exact ⟨h1, by rw [be64_num h2 hb.1], hb.2⟩
theorem nz_zeros {l : List Int} (h : nzB l = false) : l = List.replicate l.length 0 := by
  rw [List.eq_replicate_iff]
  refine ⟨rfl, fun x hx => ?_⟩
  unfold nzB at h
  rw [List.any_eq_false] at h
  simpa using h x hx
theorem opM_ok {xs s ys : List Int} {e most : Int} (hb : bytesB xs = true) (h : opM xs e most = (s, ys, 0)) : e = 0 ∧ xs = opq s ++ ys ∧ bytesB s = true ∧ bytesB ys = true ∧ (s.length : Int) ≤ most := by
  obtain ⟨⟨n, y1, e1⟩, h1⟩ : ∃ r, rdM xs e 4 = r := ⟨_, rfl⟩
  have hr := rdM_range xs e 4 hb
  unfold opM at h
  rw [h1] at h hr
  dsimp only at h hr
  by_cases he : e1 = 0
  · subst he
    rw [if_neg (by simp)] at h
    obtain ⟨r1, r2, r3⟩ := rd32_ok hb h1
    by_cases hm : most < n
    · rw [if_pos hm] at h
      simp at h
    · rw [if_neg hm] at h
      obtain ⟨⟨b, zs, e2⟩, h2⟩ : ∃ r, takeM y1 0 (n.toNat + (4 - n.toNat % 4) % 4) = r := ⟨_, rfl⟩
      rw [h2] at h
      dsimp only at h
      by_cases he2 : e2 = 0
      · subst he2
        rw [if_neg (by simp)] at h
        obtain ⟨t1, t2, t3⟩ := takeM_ok h2
        by_cases hz : nzB (b.drop n.toNat) = true
        · rw [if_pos hz] at h
          simp at h
        · rw [if_neg hz] at h
          simp only [Prod.mk.injEq, and_true] at h
          obtain ⟨rfl, rfl⟩ := h
          subst t3
          rw [bytesB_append, Bool.and_eq_true] at r3
          have hz' : nzB (b.drop n.toNat) = false := by simpa using hz
          have hbl : (b.take n.toNat).length = n.toNat := by rw [List.length_take]; omega
          have hdl : (b.drop n.toNat).length = (4 - n.toNat % 4) % 4 := by rw [List.length_drop]; omega
          have hzz := nz_zeros hz'
          rw [hdl] at hzz
          refine ⟨r1, ?_, bytesB_take _ _ r3.1, r3.2, by rw [hbl]; omega⟩
          rw [r2, opq, hbl, ← hzz, show ((n.toNat : Nat) : Int) = n by omega]
          conv => lhs; rw [← List.take_append_drop n.toNat b]
          simp only [List.append_assoc]
      · rw [if_pos he2] at h
        simp only [Prod.mk.injEq] at h
        exact absurd h.2.2 he2
  · rw [if_pos he] at h
    simp only [Prod.mk.injEq] at h
    exact absurd h.2.2 he
end Go.Proofs.Ytgjajalneknagaa.Hm
end
section
/- Chapter 8's entries: what is got is put as the same bytes, what is put is got; conditions: those that each theorem names. -/
namespace Go.Proofs.Ytgjajalneknagaa.Hm
open Go.RowKit Go.Proofs.YtgjajalneknagaaW.PrintWords Go.Proofs.YtgjajalneknagaaW.PrintLast Go.Proofs.YtgjajalneknagaaW.PrintMore
set_option linter.unusedVariables false
set_option linter.unusedSimpArgs false

theorem rdE_ok {xs ys : List Int} {e : Ent} (hb : bytesB xs = true) (h : rdE xs = (e, ys, 0)) : xs = encE e ++ ys ∧ bytesB ys = true ∧ e.s.size ≤ 24 ∧ e.wf := by
  obtain ⟨⟨c8, y1, e1⟩, h1⟩ : ∃ r, rdM xs 0 8 = r := ⟨_, rfl⟩
  obtain ⟨⟨i4, y2, e2⟩, h2⟩ : ∃ r, rdM y1 e1 4 = r := ⟨_, rfl⟩
  obtain ⟨⟨g4, y3, e3⟩, h3⟩ : ∃ r, rdM y2 e2 4 = r := ⟨_, rfl⟩
  obtain ⟨⟨s, y4, e4⟩, h4⟩ : ∃ r, opM y3 e3 24 = r := ⟨_, rfl⟩
  rw [rdE_eq h1 h2 h3 h4] at h
  simp only [Prod.mk.injEq] at h
  obtain ⟨rfl, rfl, rfl⟩ := h
  have z3 := opM_e y3 e3 24 (by rw [h4])
  subst z3
  have z2 := (rdM_e y2 e2 4 (by rw [h3])).1
  subst z2
  have z1 := (rdM_e y1 e1 4 (by rw [h2])).1
  subst z1
  obtain ⟨-, r1, b1⟩ := rd64_ok hb h1
  have w1 := rdM_range xs 0 8 hb
  rw [h1] at w1
  obtain ⟨-, r2, b2⟩ := rd32_ok b1 h2
  have w2 := rdM_range y1 0 4 b1
  rw [h2] at w2
  obtain ⟨-, r3, b3⟩ := rd32_ok b2 h3
  have w3 := rdM_range y2 0 4 b2
  rw [h3] at w3
  obtain ⟨-, r4, bs, b4, hs⟩ := opM_ok b3 h4
  dsimp only at w1 w2 w3
  refine ⟨?_, b4, by rw [size_strOfNums]; omega, ⟨w1.1, by have := w1.2; dsimp only; omega, w2.1, by have := w2.2; dsimp only; omega, w3.1, by have := w3.2; dsimp only; omega⟩⟩
  rw [r1, r2, r3, r4]
  simp only [encE, bytesOf_strOfNums _ bs, List.append_assoc]
theorem getL_ok : ∀ (f : Nat) (xs : List Int) (out l : List Ent), bytesB xs = true → xs.length < f → getL f xs out = (l, 0) → (∀ e ∈ out, e.wf) → l.flatMap encE = out.flatMap encE ++ xs ∧ (∀ e ∈ l, e.wf)
  | 0, xs, out, l, _, hf, _, _ => by omega
  | f + 1, xs, out, l, hb, hf, h, hw => by
    by_cases hx : xs.length = 0
    · rw [getL, if_pos hx] at h
      simp only [Prod.mk.injEq, and_true] at h
      subst h
      rw [List.eq_nil_of_length_eq_zero hx, List.append_nil]
      exact ⟨rfl, hw⟩
    · rw [getL_hit hx] at h
      obtain ⟨⟨e, ys, n⟩, he⟩ : ∃ r, rdE xs = r := ⟨_, rfl⟩
      rw [he] at h
      dsimp only at h
      by_cases hn : n = 0
      · subst hn
        rw [if_neg (by simp)] at h
        obtain ⟨h1, h2, h3, h4⟩ := rdE_ok hb he
        have hs := rdE_shrink (xs := xs) (by rw [he])
        rw [he] at hs
        dsimp only at hs
        have ih := getL_ok f ys (out ++ [e]) l h2 (by omega) h (fun x hx => by
          rcases List.mem_append.1 hx with hx | hx
          · exact hw x hx
          · rw [List.mem_singleton.1 hx]; exact h4)
        refine ⟨?_, ih.2⟩
        rw [ih.1, h1, List.flatMap_append, List.flatMap_singleton, List.append_assoc]
      · rw [if_pos hn] at h
        simp only [Prod.mk.injEq] at h
        exact absurd h.2 hn
/-- What is got is put as the same bytes. -/
theorem getM_put {b : List Int} {l : List Ent} (hb : bytesB b = true) (h : getM b = (l, 0)) : putM l = (b, 0) ∧ (∀ e ∈ l, e.wf) := by
  unfold getM at h
  obtain ⟨⟨r, n⟩, hr⟩ : ∃ r, getL (b.length + 1) b [] = r := ⟨_, rfl⟩
  rw [hr] at h
  dsimp only at h
  by_cases hn : n = 0
  · subst hn
    rw [if_neg (by simp)] at h
    by_cases hm : mayB r = true
    · rw [if_pos hm] at h
      simp only [Prod.mk.injEq, and_true] at h
      subst h
      obtain ⟨h1, h2⟩ := getL_ok _ _ _ _ hb (Nat.lt_succ_self _) hr (by simp)
      rw [List.flatMap_nil, List.nil_append] at h1
      exact ⟨by unfold putM; rw [if_pos hm, h1], h2⟩
    · rw [if_neg hm] at h
      simp at h
  · rw [if_pos hn] at h
    simp only [Prod.mk.injEq] at h
    exact absurd h.2 hn
end Go.Proofs.Ytgjajalneknagaa.Hm
end
