/- Part U of the lemmas and walks of the Go functions that these statements reach; conditions: those that each theorem names. -/
import Derived.Test.YtanemmcddgkpdaaGreatJV4
import Derived.Test.YtanemmcddgkpdaaGreatJT
import Derived.Test.YtanemmcddgkpdaaGreatJF
section
/- Contracts that were shown of a world, as contracts of what is known: chapters 1 and 8; conditions: those that each theorem names. -/
namespace Go.Proofs.YtanemmcddgkpdaaGreat.Sx
open Go.RowKit Go.Proofs.YtanemmcddgkpdaaGreat.Hm Go.Proofs.YtanemmcddgkpdaaGreatW.PrintWords Go.Proofs.YtanemmcddgkpdaaGreatW.PrintLast Go.Proofs.YtanemmcddgkpdaaGreatW.PrintMore
set_option linter.unusedVariables false
set_option linter.unusedSimpArgs false
attribute [local irreducible] SX SXL SXA St callK Post Evals
instance flatE : Flat kE entC := ⟨fun h => kE_K h, kE_of, fun w base ok x => kE_M w base ok x⟩
instance rowE8 : RowT Tryz.prog kE 53 109 32 := ⟨Tryz.underlying53, ⟨_, infoE8, rfl⟩, by decide, by decide⟩
section
variable {F : List Thing} {K : Ending → List Thing → Prop}
theorem Name_S (s : ByteArray) (h : K (.returned (.int .i64 (nameE (bytesOf s)))) F) : Fn (Tryz.prog) 31 [.string s] F K :=
  Fn.ofVal _ Tryz.call31 (fun w _ => Name_any s w) h
section
variable {A : Option Addr} {c : Nat} {l : List Ent}
theorem Find_S (s : ByteArray) (hr : Ro kE A F l) (hc : l.length ≤ c) (h : K (.returned (.int .i64 (idxE (fun e => e.s.toList == s.toList) l))) F) : Fn (Tryz.prog) 120 [.slice A l.length c, .string s] F K :=
  Fn.ofVal _ Tryz.call120 (fun w hw => Find_any A c l s w (hw.ro hr) hc) h
theorem Add_S (e : Ent) (hr : Ro kE A F l) (hc : l.length ≤ c) (hl : l.length ≤ 4398046511000) (h : ∀ r n, addM l e = (r, n) → ∀ A' c', r.length ≤ c' → K (.returned (.tuple #[.slice A' r.length c', .int .i64 n])) (.own A' (rowR kE 87 (.slice A' r.length c') r) :: F)) :
    Fn (Tryz.prog) 125 [.slice A l.length c, .agg #[.int .u64 e.c, .int .u32 e.i, .int .u32 e.g, .string e.s]] F K :=
  Fn.ofRow kE 87 (fun v => .tuple #[v, .int .i64 (addM l e).2]) (addM l e).1 Tryz.call125 (fun w hw => Add_any A c l e _ _ w (hw.ro hr) hc hl rfl) (h _ _ rfl)
theorem Remove_S (s : ByteArray) (hr : Ro kE A F l) (hc : l.length ≤ c) (hl : l.length ≤ 4398046511000) (h : ∀ r n, removeM l s = (r, n) → ∀ A' c', r.length ≤ c' → K (.returned (.tuple #[.slice A' r.length c', .int .i64 n])) (.own A' (rowR kE 87 (.slice A' r.length c') r) :: F)) :
    Fn (Tryz.prog) 123 [.slice A l.length c, .string s] F K :=
  Fn.ofRow kE 87 (fun v => .tuple #[v, .int .i64 (removeM l s).2]) (removeM l s).1 Tryz.call123 (fun w hw => Remove_any A c l s w (hw.ro hr) hc hl) (h _ _ rfl)
theorem After_S (s m : Int) (hr : Ro kE A F l) (hc : l.length ≤ c) (hl : l.length ≤ 4398046511000) (hm0 : -9223372036854775808 ≤ m) (hm1 : m ≤ 9223372036854775807) (h : ∀ r b, afterM l s m = (r, b) → ∀ A' c', r.length ≤ c' → K (.returned (.tuple #[.slice A' r.length c', .bool b])) (.own A' (rowR kE 87 (.slice A' r.length c') r) :: F)) :
    Fn (Tryz.prog) 86 [.slice A l.length c, .int .u64 s, .int .i64 m] F K :=
  Fn.ofRow kE 87 (fun v => .tuple #[v, .bool (afterM l s m).2]) (afterM l s m).1 Tryz.call86 (fun w hw => After_any A c l s m w (hw.ro hr) hc hl hm0 hm1) (h _ _ rfl)
theorem Put_S (hr : Ro kE A F l) (hc : l.length ≤ c) (hl : l.length ≤ 1000000) (hw : ∀ e ∈ l, e.wf) (h : ∀ r n, putM l = (r, n) → ∀ A' c', r.length ≤ c' → K (.returned (.tuple #[.slice A' r.length c', .int .i64 n])) (.own A' (rowR (Kd.int .u8) 5 (.slice A' r.length c') r) :: F)) :
    Fn (Tryz.prog) 148 [.slice A l.length c] F K :=
  Fn.ofRow (Kd.int .u8) 5 (fun v => .tuple #[v, .int .i64 (putM l).2]) (putM l).1 Tryz.call148 (fun w hM => Put_any A c l w (hM.ro hr) hc hl hw) (h _ _ rfl)
end
theorem Get_S {A : Option Addr} {c : Nat} {b : List Int} (hr : Ro (Kd.int .u8) A F b) (hc : b.length ≤ c) (hb : bytesB b = true) (hl : b.length ≤ 4000000000) (h : ∀ r n, getM b = (r, n) → ∀ A' c', r.length ≤ c' → K (.returned (.tuple #[.slice A' r.length c', .int .i64 n])) (.own A' (rowR kE 87 (.slice A' r.length c') r) :: F)) :
    Fn (Tryz.prog) 64 [.slice A b.length c] F K :=
  Fn.ofRow kE 87 (fun v => .tuple #[v, .int .i64 (getM b).2]) (getM b).1 Tryz.call64 (fun w hM => Get_any A c b w (hM.ro hr) hc hb hl) (h _ _ rfl)
end
end Go.Proofs.YtanemmcddgkpdaaGreat.Sx
end
section
/- Chapter 8's reference: the entries of bytes; conditions: those that each theorem names. -/
namespace Go.Proofs.YtanemmcddgkpdaaGreat.Sx
open Go.RowKit Go.Proofs.YtanemmcddgkpdaaGreat.Hm Go.Proofs.YtanemmcddgkpdaaGreatW.PrintWords Go.Proofs.YtanemmcddgkpdaaGreatW.PrintLast Go.Proofs.YtanemmcddgkpdaaGreatW.PrintMore
set_option linter.unusedVariables false
set_option linter.unusedSimpArgs false
attribute [local irreducible] SX SXL SXA St callK Post Evals
end Go.Proofs.YtanemmcddgkpdaaGreat.Sx
end
section
/- Numbers and bytes as chapter 1 has them: what is put is got, what is got is put; conditions: those that each theorem names. -/
namespace Go.Proofs.YtanemmcddgkpdaaGreat.Hm
open Go.RowKit Go.Proofs.YtanemmcddgkpdaaGreatW.PrintWords Go.Proofs.YtanemmcddgkpdaaGreatW.PrintLast Go.Proofs.YtanemmcddgkpdaaGreatW.PrintMore
set_option linter.unusedVariables false
set_option linter.unusedSimpArgs false
theorem num_be32 (x : Int) (h0 : 0 ≤ x) (h1 : x < 4294967296) : numN 0 (be32 x) = x := by
  simp only [numN, be32, List.foldl_cons, List.foldl_nil]
  omega
theorem num_be64 (x : Int) (h0 : 0 ≤ x) (h1 : x < 18446744073709551616) : numN 0 (be64 x) = x := by
  simp only [numN, be64, be32, List.cons_append, List.nil_append, List.foldl_cons, List.foldl_nil]
  omega
theorem list4 {l : List Int} (h : l.length = 4) : ∃ a b c d, l = [a, b, c, d] := by
  match l, h with
  | [a, b, c, d], _ => exact ⟨a, b, c, d, rfl⟩
theorem list8 {l : List Int} (h : l.length = 8) : ∃ a b c d a' b' c' d', l = [a, b, c, d, a', b', c', d'] := by
  match l, h with
  | [a, b, c, d, a', b', c', d'], _ => exact ⟨a, b, c, d, a', b', c', d', rfl⟩
theorem be32_num {l : List Int} (h : l.length = 4) (hb : bytesB l = true) : be32 (numN 0 l) = l := by
  obtain ⟨a, b, c, d, rfl⟩ := list4 h
  simp only [bytesB_iff, List.mem_cons, List.not_mem_nil, or_false, forall_eq_or_imp, forall_eq] at hb
  simp only [numN, be32, List.foldl_cons, List.foldl_nil, List.cons.injEq, and_true]
  omega
theorem be64_num {l : List Int} (h : l.length = 8) (hb : bytesB l = true) : be64 (numN 0 l) = l := by
  obtain ⟨a, b, c, d, a', b', c', d', rfl⟩ := list8 h
  simp only [bytesB_iff, List.mem_cons, List.not_mem_nil, or_false, forall_eq_or_imp, forall_eq] at hb
  simp only [numN, be64, be32, List.cons_append, List.nil_append, List.foldl_cons, List.foldl_nil, List.cons.injEq, and_true]
  omega
theorem takeM_ok {xs r ys : List Int} {e : Int} {n : Nat} (h : takeM xs e n = (r, ys, 0)) : e = 0 ∧ r.length = n ∧ xs = r ++ ys := by
  unfold takeM at h
  by_cases he : e = 0
  · rw [if_neg (by simpa using he)] at h
    by_cases hl : xs.length < n
    · rw [if_pos hl] at h
      simp at h
    · rw [if_neg hl] at h
      simp only [Prod.mk.injEq, and_true] at h
      obtain ⟨rfl, rfl⟩ := h
      exact ⟨he, by rw [List.length_take]; omega, (List.take_append_drop n xs).symm⟩
  · rw [if_pos he] at h
    simp only [Prod.mk.injEq] at h
    exact absurd h.2.2 he
theorem takeM_put (r ys : List Int) : takeM (r ++ ys) 0 r.length = (r, ys, 0) := by
  unfold takeM
  rw [if_neg (by simp), if_neg (by simp)]
  simp
theorem rd32_ok {xs ys : List Int} {e n : Int} (hb : bytesB xs = true) (h : rdM xs e 4 = (n, ys, 0)) : e = 0 ∧ xs = be32 n ++ ys ∧ bytesB ys = true := by
  obtain ⟨⟨r, zs, e2⟩, ht⟩ : ∃ r, takeM xs e 4 = r := ⟨_, rfl⟩
  unfold rdM at h
  rw [ht] at h
  simp only [Prod.mk.injEq] at h
  obtain ⟨rfl, rfl, rfl⟩ := h
  obtain ⟨h1, h2, h3⟩ := takeM_ok ht
  subst h3
  rw [bytesB_append, Bool.and_eq_true] at hb
  exact ⟨h1, by rw [be32_num h2 hb.1], hb.2⟩
theorem rd64_ok {xs ys : List Int} {e n : Int} (hb : bytesB xs = true) (h : rdM xs e 8 = (n, ys, 0)) : e = 0 ∧ xs = be64 n ++ ys ∧ bytesB ys = true := by
  obtain ⟨⟨r, zs, e2⟩, ht⟩ : ∃ r, takeM xs e 8 = r := ⟨_, rfl⟩
  unfold rdM at h
  rw [ht] at h
  simp only [Prod.mk.injEq] at h
  obtain ⟨rfl, rfl, rfl⟩ := h
  obtain ⟨h1, h2, h3⟩ := takeM_ok ht
  subst h3
  rw [bytesB_append, Bool.and_eq_true] at hb
  exact ⟨h1, by rw [be64_num h2 hb.1], hb.2⟩
theorem rd32_put (x : Int) (ys : List Int) (h0 : 0 ≤ x) (h1 : x < 4294967296) : rdM (be32 x ++ ys) 0 4 = (x, ys, 0) := by
  have h := takeM_put (be32 x) ys
  rw [show (be32 x).length = 4 from rfl] at h
  unfold rdM
  rw [h, num_be32 x h0 h1]
theorem rd64_put (x : Int) (ys : List Int) (h0 : 0 ≤ x) (h1 : x < 18446744073709551616) : rdM (be64 x ++ ys) 0 8 = (x, ys, 0) := by
  have h := takeM_put (be64 x) ys
  rw [show (be64 x).length = 8 from rfl] at h
  unfold rdM
  rw [h, num_be64 x h0 h1]
theorem nz_zeros {l : List Int} (h : nzB l = false) : l = List.replicate l.length 0 := by
  rw [List.eq_replicate_iff]
  refine ⟨rfl, fun x hx => ?_⟩
  unfold nzB at h
  rw [List.any_eq_false] at h
  simpa using h x hx
theorem opM_ok {xs s ys : List Int} {e most : Int} (hb : bytesB xs = true) (h : opM xs e most = (s, ys, 0)) : e = 0 ∧ xs = opq s ++ ys ∧ bytesB s = true ∧ bytesB ys = true ∧ (s.length : Int) ≤ most := by
  obtain ⟨⟨n, y1, e1⟩, h1⟩ : ∃ r, rdM xs e 4 = r := ⟨_, rfl⟩
  have hr := rdM_range xs e 4 hb
  unfold opM at h
  rw [h1] at h hr
  dsimp only at h hr
  by_cases he : e1 = 0
  · subst he
    rw [if_neg (by simp)] at h
    obtain ⟨r1, r2, r3⟩ := rd32_ok hb h1
    by_cases hm : most < n
    · rw [if_pos hm] at h
      simp at h
    · rw [if_neg hm] at h
      obtain ⟨⟨b, zs, e2⟩, h2⟩ : ∃ r, takeM y1 0 (n.toNat + (4 - n.toNat % 4) % 4) = r := ⟨_, rfl⟩
      rw [h2] at h
      dsimp only at h
      by_cases he2 : e2 = 0
      · subst he2
        rw [if_neg (by simp)] at h
        obtain ⟨t1, t2, t3⟩ := takeM_ok h2
        by_cases hz : nzB (b.drop n.toNat) = true
        · rw [if_pos hz] at h
          simp at h
        · rw [if_neg hz] at h
          simp only [Prod.mk.injEq, and_true] at h
          obtain ⟨rfl, rfl⟩ := h
          subst t3
          rw [bytesB_append, Bool.and_eq_true] at r3
          have hz' : nzB (b.drop n.toNat) = false := by simpa using hz
          have hbl : (b.take n.toNat).length = n.toNat := by rw [List.length_take]; omega
          have hdl : (b.drop n.toNat).length = (4 - n.toNat % 4) % 4 := by rw [List.length_drop]; omega
          have hzz := nz_zeros hz'
          rw [hdl] at hzz
          refine ⟨r1, ?_, bytesB_take _ _ r3.1, r3.2, by rw [hbl]; omega⟩
          rw [r2, opq, hbl, ← hzz, show ((n.toNat : Nat) : Int) = n by omega]
          conv => lhs; rw [← List.take_append_drop n.toNat b]
          simp only [List.append_assoc]
      · rw [if_pos he2] at h
        simp only [Prod.mk.injEq] at h
        exact absurd h.2.2 he2
  · rw [if_pos he] at h
    simp only [Prod.mk.injEq] at h
    exact absurd h.2.2 he
theorem opM_put (s ys : List Int) (most : Int) (h1 : (s.length : Int) ≤ most) (h2 : s.length < 4294967296) : opM (opq s ++ ys) 0 most = (s, ys, 0) := by
  unfold opM opq
  rw [List.append_assoc, List.append_assoc, rd32_put _ _ (by omega) (by omega)]
  dsimp only
  rw [if_neg (by simp), if_neg (by omega)]
  have ht := takeM_put (s ++ List.replicate ((4 - s.length % 4) % 4) 0) ys
  rw [List.length_append, List.length_replicate, List.append_assoc] at ht
  rw [Int.toNat_natCast, ht]
  dsimp only
  rw [if_neg (by simp), if_neg (by simp [nzB])]
  simp
end Go.Proofs.YtanemmcddgkpdaaGreat.Hm
end
section
/- Chapter 8's entries: what is got is put as the same bytes, what is put is got; conditions: those that each theorem names. -/
namespace Go.Proofs.YtanemmcddgkpdaaGreat.Hm
open Go.RowKit Go.Proofs.YtanemmcddgkpdaaGreatW.PrintWords Go.Proofs.YtanemmcddgkpdaaGreatW.PrintLast Go.Proofs.YtanemmcddgkpdaaGreatW.PrintMore
set_option linter.unusedVariables false
set_option linter.unusedSimpArgs false
theorem rdE_ok {xs ys : List Int} {e : Ent} (hb : bytesB xs = true) (h : rdE xs = (e, ys, 0)) : xs = encE e ++ ys ∧ bytesB ys = true ∧ e.s.size ≤ 24 ∧ e.wf := by
  obtain ⟨⟨c8, y1, e1⟩, h1⟩ : ∃ r, rdM xs 0 8 = r := ⟨_, rfl⟩
  obtain ⟨⟨i4, y2, e2⟩, h2⟩ : ∃ r, rdM y1 e1 4 = r := ⟨_, rfl⟩
  obtain ⟨⟨g4, y3, e3⟩, h3⟩ : ∃ r, rdM y2 e2 4 = r := ⟨_, rfl⟩
  obtain ⟨⟨s, y4, e4⟩, h4⟩ : ∃ r, opM y3 e3 24 = r := ⟨_, rfl⟩
  rw [rdE_eq h1 h2 h3 h4] at h
  simp only [Prod.mk.injEq] at h
  obtain ⟨rfl, rfl, rfl⟩ := h
  have z3 := opM_e y3 e3 24 (by rw [h4])
  subst z3
  have z2 := (rdM_e y2 e2 4 (by rw [h3])).1
  subst z2
  have z1 := (rdM_e y1 e1 4 (by rw [h2])).1
  subst z1
  obtain ⟨-, r1, b1⟩ := rd64_ok hb h1
  have w1 := rdM_range xs 0 8 hb
  rw [h1] at w1
  obtain ⟨-, r2, b2⟩ := rd32_ok b1 h2
  have w2 := rdM_range y1 0 4 b1
  rw [h2] at w2
  obtain ⟨-, r3, b3⟩ := rd32_ok b2 h3
  have w3 := rdM_range y2 0 4 b2
  rw [h3] at w3
  obtain ⟨-, r4, bs, b4, hs⟩ := opM_ok b3 h4
  dsimp only at w1 w2 w3
  refine ⟨?_, b4, by rw [size_strOfNums]; omega, ⟨w1.1, by have := w1.2; dsimp only; omega, w2.1, by have := w2.2; dsimp only; omega, w3.1, by have := w3.2; dsimp only; omega⟩⟩
  rw [r1, r2, r3, r4]
  simp only [encE, bytesOf_strOfNums _ bs, List.append_assoc]
theorem getL_ok : ∀ (f : Nat) (xs : List Int) (out l : List Ent), bytesB xs = true → xs.length < f → getL f xs out = (l, 0) → (∀ e ∈ out, e.wf) → l.flatMap encE = out.flatMap encE ++ xs ∧ (∀ e ∈ l, e.wf)
  | 0, xs, out, l, _, hf, _, _ => by omega
  | f + 1, xs, out, l, hb, hf, h, hw => by
    by_cases hx : xs.length = 0
    · rw [getL, if_pos hx] at h
      simp only [Prod.mk.injEq, and_true] at h
      subst h
      rw [List.eq_nil_of_length_eq_zero hx, List.append_nil]
      exact ⟨rfl, hw⟩
    · rw [getL_hit hx] at h
      obtain ⟨⟨e, ys, n⟩, he⟩ : ∃ r, rdE xs = r := ⟨_, rfl⟩
      rw [he] at h
      dsimp only at h
      by_cases hn : n = 0
      · subst hn
        rw [if_neg (by simp)] at h
        obtain ⟨h1, h2, h3, h4⟩ := rdE_ok hb he
        have hs := rdE_shrink (xs := xs) (by rw [he])
        rw [he] at hs
        dsimp only at hs
        have ih := getL_ok f ys (out ++ [e]) l h2 (by omega) h (fun x hx => by
          rcases List.mem_append.1 hx with hx | hx
          · exact hw x hx
          · rw [List.mem_singleton.1 hx]; exact h4)
        refine ⟨?_, ih.2⟩
        rw [ih.1, h1, List.flatMap_append, List.flatMap_singleton, List.append_assoc]
      · rw [if_pos hn] at h
        simp only [Prod.mk.injEq] at h
        exact absurd h.2 hn
/-- What is got is put as the same bytes. -/
theorem getM_put {b : List Int} {l : List Ent} (hb : bytesB b = true) (h : getM b = (l, 0)) : putM l = (b, 0) ∧ (∀ e ∈ l, e.wf) := by
  unfold getM at h
  obtain ⟨⟨r, n⟩, hr⟩ : ∃ r, getL (b.length + 1) b [] = r := ⟨_, rfl⟩
  rw [hr] at h
  dsimp only at h
  by_cases hn : n = 0
  · subst hn
    rw [if_neg (by simp)] at h
    by_cases hm : mayB r = true
    · rw [if_pos hm] at h
      simp only [Prod.mk.injEq, and_true] at h
      subst h
      obtain ⟨h1, h2⟩ := getL_ok _ _ _ _ hb (Nat.lt_succ_self _) hr (by simp)
      rw [List.flatMap_nil, List.nil_append] at h1
      exact ⟨by unfold putM; rw [if_pos hm, h1], h2⟩
    · rw [if_neg hm] at h
      simp at h
  · rw [if_pos hn] at h
    simp only [Prod.mk.injEq] at h
    exact absurd h.2 hn
theorem rdE_put (e : Ent) (ys : List Int) (hw : e.wf) (hs : e.s.size ≤ 24) : rdE (encE e ++ ys) = (e, ys, 0) := by
  have hl := bytesOf_length e.s
  have h1 := rd64_put e.c (be32 e.i ++ be32 e.g ++ opq (bytesOf e.s) ++ ys) hw.c0 hw.c1
  have h2 := rd32_put e.i (be32 e.g ++ opq (bytesOf e.s) ++ ys) hw.i0 hw.i1
  have h3 := rd32_put e.g (opq (bytesOf e.s) ++ ys) hw.g0 hw.g1
  have h4 := opM_put (bytesOf e.s) ys 24 (by omega) (by omega)
  simp only [List.append_assoc] at h1 h2 h3
  have h := rdE_eq h1 h2 h3 h4
  rw [strOfNums_bytesOf] at h
  rw [← h]
  simp only [encE, List.append_assoc]
theorem encE_pos (e : Ent) : 8 ≤ (encE e).length := by
  simp [encE, be64, be32]
theorem getL_put : ∀ (l : List Ent) (f : Nat) (out : List Ent), (∀ e ∈ l, e.wf ∧ e.s.size ≤ 24) → (l.flatMap encE).length < f → getL f (l.flatMap encE) out = (out ++ l, 0)
  | [], f, out, _, hf => by
    obtain ⟨f, rfl⟩ : ∃ g, f = g + 1 := ⟨f - 1, by omega⟩
    rw [getL, if_pos (by simp), List.append_nil]
  | e :: l, f, out, hw, hf => by
    obtain ⟨f, rfl⟩ : ∃ g, f = g + 1 := ⟨f - 1, by omega⟩
    rw [List.flatMap_cons, List.length_append] at hf
    have hp := encE_pos e
    have he := hw e List.mem_cons_self
    rw [List.flatMap_cons, getL_hit (by rw [List.length_append]; omega), rdE_put e _ he.1 he.2]
    dsimp only
    rw [if_neg (by simp), getL_put l f (out ++ [e]) (fun x hx => hw x (List.mem_cons_of_mem _ hx)) (by omega), List.append_assoc, List.singleton_append]
/-- What is put is got. -/
theorem putM_get {b : List Int} {l : List Ent} (hw : ∀ e ∈ l, e.wf) (h : putM l = (b, 0)) : getM b = (l, 0) := by
  unfold putM at h
  by_cases hm : mayB l = true
  · rw [if_pos hm] at h
    simp only [Prod.mk.injEq, and_true] at h
    subst h
    have hn := mayOk_len ((mayB_iff l).1 hm)
    have hg := getL_put l ((l.flatMap encE).length + 1) [] (fun e he => ⟨hw e he, by have h9 := hn e he; rw [bytesOf_length] at h9; exact h9⟩) (Nat.lt_succ_self _)
    rw [List.nil_append] at hg
    unfold getM
    rw [hg]
    dsimp only
    rw [if_neg (by simp), if_pos hm]
  · rw [if_neg hm] at h
    simp at h
theorem flat_le (l : List Ent) : l.length ≤ (l.flatMap encE).length := by
  induction l with
  | nil => simp
  | cons e l ih =>
    have := encE_pos e
    rw [List.flatMap_cons, List.length_append, List.length_cons]
    omega
theorem getM_len {b : List Int} {l : List Ent} {n : Int} (hb : bytesB b = true) (h : getM b = (l, n)) : l.length ≤ b.length ∧ (n ≠ 0 → l = []) := by
  by_cases hn : n = 0
  · subst hn
    obtain ⟨h1, -⟩ := getM_put hb h
    unfold putM at h1
    split at h1
    · simp only [Prod.mk.injEq, and_true] at h1
      have := flat_le l
      rw [h1] at this
      exact ⟨this, fun h => absurd rfl h⟩
    · simp at h1
  · unfold getM at h
    have hl : l = [] := by
      split at h
      · simp only [Prod.mk.injEq] at h; exact h.1.symm
      · split at h
        · simp only [Prod.mk.injEq] at h; exact absurd h.2.symm hn
        · simp only [Prod.mk.injEq] at h; exact h.1.symm
    rw [hl]
    exact ⟨by simp, fun _ => rfl⟩
end Go.Proofs.YtanemmcddgkpdaaGreat.Hm
end
