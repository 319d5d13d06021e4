/- Part U of the lemmas and walks of the Go functions that these statements reach; conditions: those that each theorem names. -/
import Derived.Test.YtpbhanpblmoepaaGreatJV4
import Derived.Test.YtpbhanpblmoepaaGreatJT
import Derived.Test.YtpbhanpblmoepaaGreatJF
section
/- Contracts that were shown of a world, as contracts of what is known: chapters 1 and 8; conditions: those that each theorem names. -/
namespace Go.Proofs.YtpbhanpblmoepaaGreat.Sx
open Go.RowKit Go.Proofs.YtpbhanpblmoepaaGreat.Hm Go.Proofs.YtpbhanpblmoepaaGreatW.PrintWords Go.Proofs.YtpbhanpblmoepaaGreatW.PrintLast Go.Proofs.YtpbhanpblmoepaaGreatW.PrintMore
set_option linter.unusedVariables false
set_option linter.unusedSimpArgs false
attribute [local irreducible] SX SXL SXA St callK Post Evals

instance flatE : Flat kE entC := ⟨fun h => kE_K h, kE_of, fun w base ok x => kE_M w base ok x⟩
instance rowB : RowT Tryz.prog (Kd.int .u8) 22 5 1 := ⟨Tryz.underlying22, ⟨_, infoB, rfl⟩, by decide, by decide⟩
instance rowE : RowT Tryz.prog kE 34 130 32 := ⟨Tryz.underlying34, ⟨_, infoE, rfl⟩, by decide, by decide⟩
instance rowE8 : RowT Tryz.prog kE 46 131 32 := ⟨Tryz.underlying46, ⟨_, infoE8, rfl⟩, by decide, by decide⟩
section
variable {F : List Thing} {K : Ending → List Thing → Prop}
theorem SU32_S (x : Int) (h0 : 0 ≤ x) (h1 : x < 4294967296) (h : K (.returned (.string (strOfNums (be32 x)))) F) : Fn (Tryz.prog) 11 [.int .u32 x] F K :=
  Fn.ofVal _ Tryz.call11 (fun w _ => SU32_any x w h0 h1) h
theorem Read64_S (x : ByteArray) (e : Int) (hx : x.size ≤ 4000000000) (h : ∀ n ys e2, rdM (bytesOf x) e 8 = (n, ys, e2) → K (.returned (.tuple #[.agg #[.string (strOfNums ys), .int .i64 e2], .int .u64 n])) F) : Fn (Tryz.prog) 64 [.agg #[.string x, .int .i64 e]] F K :=
  Fn.ofVal _ Tryz.call64 (fun w _ => Read64_any x e w hx) (h _ _ _ rfl)
theorem Read32_S (x : ByteArray) (e : Int) (hx : x.size ≤ 4000000000) (h : ∀ n ys e2, rdM (bytesOf x) e 4 = (n, ys, e2) → K (.returned (.tuple #[.agg #[.string (strOfNums ys), .int .i64 e2], .int .u32 n])) F) : Fn (Tryz.prog) 25 [.agg #[.string x, .int .i64 e]] F K :=
  Fn.ofVal _ Tryz.call25 (fun w _ => Read32_any x e w hx) (h _ _ _ rfl)
theorem ReadOpaque_S (x : ByteArray) (e most : Int) (hx : x.size ≤ 4000000000) (hk0 : 0 ≤ most) (hk1 : most ≤ 100000) (h : ∀ r ys e2, opM (bytesOf x) e most = (r, ys, e2) → K (.returned (.tuple #[.agg #[.string (strOfNums ys), .int .i64 e2], .string (strOfNums r)])) F) : Fn (Tryz.prog) 26 [.agg #[.string x, .int .i64 e], .int .i64 most] F K :=
  Fn.ofVal _ Tryz.call26 (fun w _ => ReadOpaque_any x e _ _ _ most hk0 hk1 w hx rfl) (h _ _ _ rfl)
section
variable {A : Option Addr} {c : Nat} {l : List Ent}
theorem Put_S (hr : Ro kE A F l) (hc : l.length ≤ c) (hl : l.length ≤ 1000000) (hw : ∀ e ∈ l, e.wf) (h : ∀ r n, putM l = (r, n) → ∀ A' c', r.length ≤ c' → K (.returned (.tuple #[.slice A' r.length c', .int .i64 n])) (.own A' (rowR (Kd.int .u8) 5 (.slice A' r.length c') r) :: F)) :
    Fn (Tryz.prog) 71 [.slice A l.length c] F K :=
  Fn.ofRow (Kd.int .u8) 5 (fun v => .tuple #[v, .int .i64 (putM l).2]) (putM l).1 Tryz.call71 (fun w hM => Put_any A c l w (hM.ro hr) hc hl hw) (h _ _ rfl)
theorem RMay_S (hr : Ro kE A F l) (hc : l.length ≤ c) (hp : ∀ e ∈ l, 0 ≤ e.c) (h : K (.returned (.bool (mayB l))) F) : Fn (Tryz.prog) 79 [.slice A l.length c] F K :=
  Fn.ofVal _ Tryz.call79 (fun w hM => RMay_any A c l w (hM.ro hr) hc hp) h
end
theorem Get_S {A : Option Addr} {c : Nat} {b : List Int} (hr : Ro (Kd.int .u8) A F b) (hc : b.length ≤ c) (hb : bytesB b = true) (hl : b.length ≤ 4000000000) (h : ∀ r n, getM b = (r, n) → ∀ A' c', r.length ≤ c' → K (.returned (.tuple #[.slice A' r.length c', .int .i64 n])) (.own A' (rowR kE 130 (.slice A' r.length c') r) :: F)) :
    Fn (Tryz.prog) 60 [.slice A b.length c] F K :=
  Fn.ofRow kE 130 (fun v => .tuple #[v, .int .i64 (getM b).2]) (getM b).1 Tryz.call60 (fun w hM => Get_any A c b w (hM.ro hr) hc hb hl) (h _ _ rfl)
end
end Go.Proofs.YtpbhanpblmoepaaGreat.Sx
end
section
/- Chapter 8's reference: the entries of bytes; conditions: those that each theorem names. -/
namespace Go.Proofs.YtpbhanpblmoepaaGreat.Sx
open Go.RowKit Go.Proofs.YtpbhanpblmoepaaGreat.Hm Go.Proofs.YtpbhanpblmoepaaGreatW.PrintWords Go.Proofs.YtpbhanpblmoepaaGreatW.PrintLast Go.Proofs.YtpbhanpblmoepaaGreatW.PrintMore
set_option linter.unusedVariables false
set_option linter.unusedSimpArgs false
attribute [local irreducible] SX SXL SXA St callK Post Evals

theorem str_empty (y : ByteArray) : (y.toList == (ByteArray.mk #[]).toList) = decide (y.size = 0) := by
  rw [ByteArray.toList_eq, ByteArray.toList_eq, Bool.eq_iff_iff, beq_iff_eq, decide_eq_true_eq, ← data_length]
  exact List.length_eq_zero_iff.symm
theorem opM_rest (xs : List Int) (e most : Int) (hb : bytesB xs = true) : bytesB (opM xs e most).2.1 = true := by
  have h1 := takeM_rest xs e 4 hb
  unfold opM
  split
  rename_i n ys e1 h
  have h2 : ys = (takeM xs e 4).2.1 := by unfold rdM at h; injection h with _ h; injection h with h _; exact h.symm
  have hy : bytesB ys = true := by rw [h2]; exact h1
  split
  · exact hy
  · split
    · exact hy
    · have h3 := takeM_rest ys 0 (n.toNat + (4 - n.toNat % 4) % 4) hy
      split
      rename_i b zs e2 h4
      rw [h4] at h3
      split
      · exact h3
      · split
        · exact h3
        · exact h3
theorem rdM_rest (xs : List Int) (e : Int) (n : Nat) (hb : bytesB xs = true) : bytesB (rdM xs e n).2.1 = true := takeM_rest xs e n hb
theorem rdM_le (xs : List Int) (e : Int) (n : Nat) : (rdM xs e n).2.1.length ≤ xs.length := takeM_le xs e n
set_option maxRecDepth 20000 in
theorem RGet_S {F : List Thing} {K : Ending → List Thing → Prop} (x : ByteArray) (hx : x.size ≤ 4000000)
    (h : ∀ r n, getM (bytesOf x) = (r, n) → ∀ A' c', r.length ≤ c' → K (.returned (.tuple #[.slice A' r.length c', .int .i64 n])) (.own A' (rowR kE 131 (.slice A' r.length c') r) :: F)) :
    Fn (Tryz.prog) 66 [.string x] F K := by
  obtain ⟨R, hR⟩ : ∃ R, getL ((bytesOf x).length + 1) (bytesOf x) [] = R := ⟨_, rfl⟩
  have HM : getM (bytesOf x) = if R.2 ≠ 0 then ([], R.2) else if mayB R.1 = true then (R.1, 0) else ([], 11) := by unfold getM; rw [hR]
  refine Fn.enter Tryz.call66 Tryz.func66 rfl rfl rfl ?_
  repeat (first | refine Qa ?_ | refine Qb ?_ | refine Qc ?_ | refine Qd ?_ | refine Qe ?_ | refine Qf ?_ | refine Qg ?_ | refine Qh ?_ | refine Qi ?_ | refine Qj ?_ | refine Qk ?_ | refine Ql ?_ | refine Qm ?_ | refine Qn ?_ | refine Qo ?_ | refine Qp ?_ | refine Qq ?_ | fail)
  refine SXL.alloc rfl rfl (fun p => ?_)
  repeat (first | refine Qa ?_ | refine Qb ?_ | refine Qc ?_ | refine Qd ?_ | refine Qe ?_ | refine Qf ?_ | refine Qg ?_ | refine Qh ?_ | refine Qi ?_ | refine Qj ?_ | refine Qk ?_ | refine Ql ?_ | refine Qm ?_ | refine Qn ?_ | refine Qo ?_ | refine Qp ?_ | refine Qq ?_ | fail)
  refine SX.loop (fun n a M => ∃ (y : ByteArray) (out : List Ent) (A : Option Addr) (c f : Nat), y.size = n ∧ y.size < f ∧ getL f (bytesOf y) out = R ∧ out.length ≤ c ∧ out.length + y.size ≤ 4000000 ∧ (∀ e ∈ out, 0 ≤ e.c) ∧
      a = [(4, .pointer (some ⟨p, 0, none⟩)), (5, .slice A out.length c)] ∧ .own A (rowR kE 131 (.slice A out.length c) out) :: .own (some ⟨p, 0, none⟩) (cellsR p [.string y, .int .i64 0] 78) :: F = M)
    x.size ⟨x, [], none, 0, _, rfl, Nat.lt_succ_self _, by rw [← bytesOf_length]; exact hR, Nat.zero_le _, by simpa using hx, by simp, rfl, rfl⟩ ⟨rfl, rfl, trivial⟩ inferInstance ?_
  rintro n _ _ ⟨y, out, A, c, f, hn, hf, hg, hc, hl, hp, rfl, rfl⟩
  obtain ⟨f, rfl⟩ : ∃ g, f = g + 1 := ⟨f - 1, by omega⟩
  repeat (first | refine Qa ?_ | refine Qb ?_ | refine Qc ?_ | refine Qd ?_ | refine Qe ?_ | refine Qf ?_ | refine Qg ?_ | refine Qh ?_ | refine Qi ?_ | refine Qj ?_ | refine Qk ?_ | refine Ql ?_ | refine Qm ?_ | refine Qn ?_ | refine Qo ?_ | refine Qp ?_ | refine Qq ?_ | fail)
  have hyb := bytesOf_range y
  have hyl := bytesOf_length y
  refine SX.cond rfl (fun hy => ?_) (fun hy => ?_)
  · repeat (first | refine Qa ?_ | refine Qb ?_ | refine Qc ?_ | refine Qd ?_ | refine Qe ?_ | refine Qf ?_ | refine Qg ?_ | refine Qh ?_ | refine Qi ?_ | refine Qj ?_ | refine Qk ?_ | refine Ql ?_ | refine Qm ?_ | refine Qn ?_ | refine Qo ?_ | refine Qp ?_ | refine Qq ?_ | fail)
    refine SXL.alloc rfl rfl (fun q => ?_)
    repeat (first | refine Qa ?_ | refine Qb ?_ | refine Qc ?_ | refine Qd ?_ | refine Qe ?_ | refine Qf ?_ | refine Qg ?_ | refine Qh ?_ | refine Qi ?_ | refine Qj ?_ | refine Qk ?_ | refine Ql ?_ | refine Qm ?_ | refine Qn ?_ | refine Qo ?_ | refine Qp ?_ | refine Qq ?_ | fail)
    refine SXL.call rfl rfl rfl ?_
    refine (Read64_S _ _ (by omega) (fun c8 y1 e1 h1 => callK.ret ?_))
    have b1 := rdM_rest (bytesOf y) 0 8 hyb
    have l1 := rdM_le (bytesOf y) 0 8
    have r1 := rdM_range (bytesOf y) 0 8 hyb
    rw [h1] at b1 l1 r1
    repeat (first | refine Qa ?_ | refine Qb ?_ | refine Qc ?_ | refine Qd ?_ | refine Qe ?_ | refine Qf ?_ | refine Qg ?_ | refine Qh ?_ | refine Qi ?_ | refine Qj ?_ | refine Qk ?_ | refine Ql ?_ | refine Qm ?_ | refine Qn ?_ | refine Qo ?_ | refine Qp ?_ | refine Qq ?_ | fail)
    refine SXL.call rfl rfl rfl ?_
    refine (Read32_S _ _ (by rw [size_strOfNums]; dsimp only at l1; omega) (fun i4 y2 e2 h2 => callK.ret ?_))
    rw [bytesOf_strOfNums _ b1] at h2
    have b2 := rdM_rest y1 e1 4 b1
    have l2 := rdM_le y1 e1 4
    rw [h2] at b2 l2
    repeat (first | refine Qa ?_ | refine Qb ?_ | refine Qc ?_ | refine Qd ?_ | refine Qe ?_ | refine Qf ?_ | refine Qg ?_ | refine Qh ?_ | refine Qi ?_ | refine Qj ?_ | refine Qk ?_ | refine Ql ?_ | refine Qm ?_ | refine Qn ?_ | refine Qo ?_ | refine Qp ?_ | refine Qq ?_ | fail)
    refine SXL.call rfl rfl rfl ?_
    refine (Read32_S _ _ (by rw [size_strOfNums]; dsimp only at l1 l2; omega) (fun g4 y3 e3 h3 => callK.ret ?_))
    rw [bytesOf_strOfNums _ b2] at h3
    have b3 := rdM_rest y2 e2 4 b2
    have l3 := rdM_le y2 e2 4
    rw [h3] at b3 l3
    repeat (first | refine Qa ?_ | refine Qb ?_ | refine Qc ?_ | refine Qd ?_ | refine Qe ?_ | refine Qf ?_ | refine Qg ?_ | refine Qh ?_ | refine Qi ?_ | refine Qj ?_ | refine Qk ?_ | refine Ql ?_ | refine Qm ?_ | refine Qn ?_ | refine Qo ?_ | refine Qp ?_ | refine Qq ?_ | fail)
    refine SXL.call rfl rfl rfl ?_
    refine (ReadOpaque_S _ _ 24 (by rw [size_strOfNums]; dsimp only at l1 l2 l3; omega) (by decide) (by decide) (fun s y4 e4 h4 => callK.ret ?_))
    rw [bytesOf_strOfNums _ b3] at h4
    have b4 := opM_rest y3 e3 24 b3
    have l4 := opM_le y3 e3 24
    rw [h4] at b4 l4
    have hE := rdE_eq h1 h2 h3 h4
    have hne : (bytesOf y).length ≠ 0 := by
      rw [str_empty] at hy
      rw [hyl]
      simpa using hy
    rw [getL_hit hne, hE] at hg
    dsimp only at b1 b2 b3 b4 l1 l2 l3 l4 hg
    repeat (first | refine Qa ?_ | refine Qb ?_ | refine Qc ?_ | refine Qd ?_ | refine Qe ?_ | refine Qf ?_ | refine Qg ?_ | refine Qh ?_ | refine Qi ?_ | refine Qj ?_ | refine Qk ?_ | refine Ql ?_ | refine Qm ?_ | refine Qn ?_ | refine Qo ?_ | refine Qp ?_ | refine Qq ?_ | fail)
    refine SX.cond rfl (fun he => ?_) (fun he => ?_)
    · rw [if_pos (by simpa using he)] at hg
      subst hg
      repeat (first | refine Qa ?_ | refine Qb ?_ | refine Qc ?_ | refine Qd ?_ | refine Qe ?_ | refine Qf ?_ | refine Qg ?_ | refine Qh ?_ | refine Qi ?_ | refine Qj ?_ | refine Qk ?_ | refine Ql ?_ | refine Qm ?_ | refine Qn ?_ | refine Qo ?_ | refine Qp ?_ | refine Qq ?_ | fail)
      refine SXA.begin [.own (some ⟨p, 0, none⟩) (cellsR p [.string (strOfNums y4), .int .i64 e4] 78)] [] ?_
      repeat (first | refine Qr 0 ?_ | refine Qr 1 ?_ | refine Qr 2 ?_ | refine Qr 3 ?_ | refine Qs 0 ?_ | refine Qs 1 ?_ | refine Qs 2 ?_ | refine Qs 3 ?_ | refine Qt 0 ?_ | refine Qt 1 ?_ | refine Qt 2 ?_ | refine Qt 3 ?_ | refine Qu 0 ?_ | refine Qu 1 ?_ | refine Qu 2 ?_ | refine Qu 3 ?_ | refine Qv ?_ | fail)
      refine SX.ret (M' := (.own none (rowR kE 131 (.slice none ([] : List Ent).length 0) []) :: F)) rfl (Evals.tmp rfl (Evals.tmp rfl Evals.nil)) ?_ inferInstance
      exact h [] e4 (by rw [HM, if_pos (by simpa using he)]) none 0 (Nat.le_refl _)
    · obtain rfl : e4 = 0 := by simpa using he
      rw [if_neg (by simp)] at hg
      have hshr := rdE_shrink (xs := bytesOf y) (by rw [hE])
      rw [hE] at hshr
      dsimp only at hshr
      repeat (first | refine Qa ?_ | refine Qb ?_ | refine Qc ?_ | refine Qd ?_ | refine Qe ?_ | refine Qf ?_ | refine Qg ?_ | refine Qh ?_ | refine Qi ?_ | refine Qj ?_ | refine Qk ?_ | refine Ql ?_ | refine Qm ?_ | refine Qn ?_ | refine Qo ?_ | refine Qp ?_ | refine Qq ?_ | fail)
      refine SXL.lit rfl rfl (fun g => ?_)
      refine SXL.litRow kE g [⟨c8, i4, g4, strOfNums s⟩] inferInstance rfl (fun _ => rfl) (by simp) ?_
      refine SXL.append kE rfl rfl inferInstance inferInstance rfl inferInstance (by simp; omega) rfl (fun A' c' hc' => ?_)
      repeat (first | refine Qa ?_ | refine Qb ?_ | refine Qc ?_ | refine Qd ?_ | refine Qe ?_ | refine Qf ?_ | refine Qg ?_ | refine Qh ?_ | refine Qi ?_ | refine Qj ?_ | refine Qk ?_ | refine Ql ?_ | refine Qm ?_ | refine Qn ?_ | refine Qo ?_ | refine Qp ?_ | refine Qq ?_ | fail)
      refine SX.again (strOfNums y4).size (by rw [size_strOfNums]; omega) ⟨strOfNums y4, _, A', c', f, rfl, by rw [size_strOfNums]; omega, by rw [bytesOf_strOfNums _ b4]; exact hg, hc', by simp [size_strOfNums]; omega, ?_, rfl, rfl⟩ ⟨rfl, rfl, trivial⟩ inferInstance
      intro e he
      rcases List.mem_append.1 he with he | he
      · exact hp e he
      · obtain rfl := List.mem_singleton.1 he
        exact r1.1
  · rw [str_empty] at hy
    have h0 : y.size = 0 := by simpa using hy
    rw [getL, if_pos (by rw [hyl, h0])] at hg
    subst hg
    repeat (first | refine Qa ?_ | refine Qb ?_ | refine Qc ?_ | refine Qd ?_ | refine Qe ?_ | refine Qf ?_ | refine Qg ?_ | refine Qh ?_ | refine Qi ?_ | refine Qj ?_ | refine Qk ?_ | refine Ql ?_ | refine Qm ?_ | refine Qn ?_ | refine Qo ?_ | refine Qp ?_ | refine Qq ?_ | fail)
    refine SXL.call rfl rfl rfl ?_
    refine (RMay_S inferInstance hc hp (callK.ret ?_))
    repeat (first | refine Qa ?_ | refine Qb ?_ | refine Qc ?_ | refine Qd ?_ | refine Qe ?_ | refine Qf ?_ | refine Qg ?_ | refine Qh ?_ | refine Qi ?_ | refine Qj ?_ | refine Qk ?_ | refine Ql ?_ | refine Qm ?_ | refine Qn ?_ | refine Qo ?_ | refine Qp ?_ | refine Qq ?_ | fail)
    refine SX.cond rfl (fun hm => ?_) (fun hm => ?_)
    · repeat (first | refine Qa ?_ | refine Qb ?_ | refine Qc ?_ | refine Qd ?_ | refine Qe ?_ | refine Qf ?_ | refine Qg ?_ | refine Qh ?_ | refine Qi ?_ | refine Qj ?_ | refine Qk ?_ | refine Ql ?_ | refine Qm ?_ | refine Qn ?_ | refine Qo ?_ | refine Qp ?_ | refine Qq ?_ | fail)
      refine SX.ret (M' := (.own none (rowR kE 131 (.slice none ([] : List Ent).length 0) []) :: F)) rfl (Evals.tmp rfl (Evals.tmp rfl Evals.nil)) ?_ inferInstance
      exact h [] 11 (by rw [HM, if_neg (by simp), if_neg (by simpa using hm)]) none 0 (Nat.le_refl _)
    · repeat (first | refine Qa ?_ | refine Qb ?_ | refine Qc ?_ | refine Qd ?_ | refine Qe ?_ | refine Qf ?_ | refine Qg ?_ | refine Qh ?_ | refine Qi ?_ | refine Qj ?_ | refine Qk ?_ | refine Ql ?_ | refine Qm ?_ | refine Qn ?_ | refine Qo ?_ | refine Qp ?_ | refine Qq ?_ | fail)
      refine SX.ret (M' := (.own A (rowR kE 131 (.slice A out.length c) out) :: F)) rfl (Evals.tmp rfl (Evals.tmp rfl Evals.nil)) ?_ inferInstance
      exact h out 0 (by rw [HM, if_neg (by simp), if_pos (by simpa using hm)]) A c hc
end Go.Proofs.YtpbhanpblmoepaaGreat.Sx
end
section
/- Numbers and bytes as chapter 1 has them: what is put is got, what is got is put; conditions: those that each theorem names. -/
namespace Go.Proofs.YtpbhanpblmoepaaGreat.Hm
open Go.RowKit Go.Proofs.YtpbhanpblmoepaaGreatW.PrintWords Go.Proofs.YtpbhanpblmoepaaGreatW.PrintLast Go.Proofs.YtpbhanpblmoepaaGreatW.PrintMore
set_option linter.unusedVariables false
set_option linter.unusedSimpArgs false

theorem num_be32 (x : Int) (h0 : 0 ≤ x) (h1 : x < 4294967296) : numN 0 (be32 x) = x := by
  simp only [numN, be32, List.foldl_cons, List.foldl_nil]
  omega
theorem num_be64 (x : Int) (h0 : 0 ≤ x) (h1 : x < 18446744073709551616) : numN 0 (be64 x) = x := by
  simp only [numN, be64, be32, List.cons_append, List.nil_append, List.foldl_cons, List.foldl_nil]
  omega
theorem list4 {l : List Int} (h : l.length = 4) : ∃ a b c d, l = [a, b, c, d] := by
  match l, h with
  | [a, b, c, d], _ => exact ⟨a, b, c, d, rfl⟩
theorem list8 {l : List Int} (h : l.length = 8) : ∃ a b c d a' b' c' d', l = [a, b, c, d, a', b', c', d'] := by
  match l, h with
  | [a, b, c, d, a', b', c', d'], _ => exact ⟨a, b, c, d, a', b', c', d', rfl⟩
theorem be32_num {l : List Int} (h : l.length = 4) (hb : bytesB l = true) : be32 (numN 0 l) = l := by
  obtain ⟨a, b, c, d, rfl⟩ := list4 h
  simp only [bytesB_iff, List.mem_cons, List.not_mem_nil, or_false, forall_eq_or_imp, forall_eq] at hb
  simp only [numN, be32, List.foldl_cons, List.foldl_nil, List.cons.injEq, and_true]
  omega
theorem be64_num {l : List Int} (h : l.length = 8) (hb : bytesB l = true) : be64 (numN 0 l) = l := by
  obtain ⟨a, b, c, d, a', b', c', d', rfl⟩ := list8 h
  simp only [bytesB_iff, List.mem_cons, List.not_mem_nil, or_false, forall_eq_or_imp, forall_eq] at hb
  simp only [numN, be64, be32, List.cons_append, List.nil_append, List.foldl_cons, List.foldl_nil, List.cons.injEq, and_true]
  omega
theorem takeM_ok {xs r ys : List Int} {e : Int} {n : Nat} (h : takeM xs e n = (r, ys, 0)) : e = 0 ∧ r.length = n ∧ xs = r ++ ys := by
  unfold takeM at h
  by_cases he : e = 0
  · rw [if_neg (by simpa using he)] at h
    by_cases hl : xs.length < n
    · rw [if_pos hl] at h
      simp at h
    · rw [if_neg hl] at h
      simp only [Prod.mk.injEq, and_true] at h
      obtain ⟨rfl, rfl⟩ := h
      exact ⟨he, by rw [List.length_take]; omega, (List.take_append_drop n xs).symm⟩
  · rw [if_pos he] at h
    simp only [Prod.mk.injEq] at h
    exact absurd h.2.2 he
theorem takeM_put (r ys : List Int) : takeM (r ++ ys) 0 r.length = (r, ys, 0) := by
  unfold takeM
  rw [if_neg (by simp), if_neg (by simp)]
  simp
theorem rd32_ok {xs ys : List Int} {e n : Int} (hb : bytesB xs = true) (h : rdM xs e 4 = (n, ys, 0)) : e = 0 ∧ xs = be32 n ++ ys ∧ bytesB ys = true := by
  obtain ⟨⟨r, zs, e2⟩, ht⟩ : ∃ r, takeM xs e 4 = r := ⟨_, rfl⟩
  unfold rdM at h
  rw [ht] at h
  simp only [Prod.mk.injEq] at h
  obtain ⟨rfl, rfl, rfl⟩ := h
  obtain ⟨h1, h2, h3⟩ := takeM_ok ht
  subst h3
  rw [bytesB_append, Bool.and_eq_true] at hb
  exact ⟨h1, by rw [be32_num h2 hb.1], hb.2⟩
theorem rd64_ok {xs ys : List Int} {e n : Int} (hb : bytesB xs = true) (h : rdM xs e 8 = (n, ys, 0)) : e = 0 ∧ xs = be64 n ++ ys ∧ bytesB ys = true := by
  obtain ⟨⟨r, zs, e2⟩, ht⟩ : ∃ r, takeM xs e 8 = r := ⟨_, rfl⟩
  unfold rdM at h
  rw [ht] at h
  simp only [Prod.mk.injEq] at h
  obtain ⟨rfl, rfl, rfl⟩ := h
  obtain ⟨h1, h2, h3⟩ := takeM_ok ht
  subst h3
  rw [bytesB_append, Bool.and_eq_true] at hb
  exact ⟨h1, by rw [be64_num h2 hb.1], hb.2⟩
theorem rd32_put (x : Int) (ys : List Int) (h0 : 0 ≤ x) (h1 : x < 4294967296) : rdM (be32 x ++ ys) 0 4 = (x, ys, 0) := by
  have h := takeM_put (be32 x) ys
  rw [show (be32 x).length = 4 from rfl] at h
  unfold rdM
  rw [h, num_be32 x h0 h1]
theorem rd64_put (x : Int) (ys : List Int) (h0 : 0 ≤ x) (h1 : x < 18446744073709551616) : rdM (be64 x ++ ys) 0 8 = (x, ys, 0) := by
  have h := takeM_put (be64 x) ys
  rw [show (be64 x).length = 8 from rfl] at h
  unfold rdM
  rw [h, num_be64 x h0 h1]
theorem nz_zeros {l : List Int} (h : nzB l = false) : l = List.replicate l.length 0 := by
  rw [List.eq_replicate_iff]
  refine ⟨rfl, fun x hx => ?_⟩
  unfold nzB at h
  rw [List.any_eq_false] at h
  simpa using h x hx
theorem opM_ok {xs s ys : List Int} {e most : Int} (hb : bytesB xs = true) (h : opM xs e most = (s, ys, 0)) : e = 0 ∧ xs = opq s ++ ys ∧ bytesB s = true ∧ bytesB ys = true ∧ (s.length : Int) ≤ most := by
  obtain ⟨⟨n, y1, e1⟩, h1⟩ : ∃ r, rdM xs e 4 = r := ⟨_, rfl⟩
  have hr := rdM_range xs e 4 hb
  unfold opM at h
  rw [h1] at h hr
  dsimp only at h hr
  by_cases he : e1 = 0
  · subst he
    rw [if_neg (by simp)] at h
    obtain ⟨r1, r2, r3⟩ := rd32_ok hb h1
    by_cases hm : most < n
    · rw [if_pos hm] at h
      simp at h
    · rw [if_neg hm] at h
      obtain ⟨⟨b, zs, e2⟩, h2⟩ : ∃ r, takeM y1 0 (n.toNat + (4 - n.toNat % 4) % 4) = r := ⟨_, rfl⟩
      rw [h2] at h
      dsimp only at h
      by_cases he2 : e2 = 0
      · subst he2
        rw [if_neg (by simp)] at h
        obtain ⟨t1, t2, t3⟩ := takeM_ok h2
        by_cases hz : nzB (b.drop n.toNat) = true
        · rw [if_pos hz] at h
          simp at h
        · rw [if_neg hz] at h
          simp only [Prod.mk.injEq, and_true] at h
          obtain ⟨rfl, rfl⟩ := h
          subst t3
          rw [bytesB_append, Bool.and_eq_true] at r3
          have hz' : nzB (b.drop n.toNat) = false := by simpa using hz
          have hbl : (b.take n.toNat).length = n.toNat := by rw [List.length_take]; omega
          have hdl : (b.drop n.toNat).length = (4 - n.toNat % 4) % 4 := by rw [List.length_drop]; omega
          have hzz := nz_zeros hz'
          rw [hdl] at hzz
          refine ⟨r1, ?_, bytesB_take _ _ r3.1, r3.2, by rw [hbl]; omega⟩
          rw [r2, opq, hbl, ← hzz, show ((n.toNat : Nat) : Int) = n by omega]
          conv => lhs; rw [← List.take_append_drop n.toNat b]
          simp only [List.append_assoc]
      · rw [if_pos he2] at h
        simp only [Prod.mk.injEq] at h
        exact absurd h.2.2 he2
  · rw [if_pos he] at h
    simp only [Prod.mk.injEq] at h
    exact absurd h.2.2 he
theorem opM_put (s ys : List Int) (most : Int) (h1 : (s.length : Int) ≤ most) (h2 : s.length < 4294967296) : opM (opq s ++ ys) 0 most = (s, ys, 0) := by
  unfold opM opq
  rw [List.append_assoc, List.append_assoc, rd32_put _ _ (by omega) (by omega)]
  dsimp only
  rw [if_neg (by simp), if_neg (by omega)]
  have ht := takeM_put (s ++ List.replicate ((4 - s.length % 4) % 4) 0) ys
  rw [List.length_append, List.length_replicate, List.append_assoc] at ht
  rw [Int.toNat_natCast, ht]
  dsimp only
  rw [if_neg (by simp), if_neg (by simp [nzB])]
  simp
end Go.Proofs.YtpbhanpblmoepaaGreat.Hm
end
section
/- Chapter 8's entries: what is got is put as the same bytes, what is put is got; conditions: those that each theorem names. -/
namespace Go.Proofs.YtpbhanpblmoepaaGreat.Hm
open Go.RowKit Go.Proofs.YtpbhanpblmoepaaGreatW.PrintWords Go.Proofs.YtpbhanpblmoepaaGreatW.PrintLast Go.Proofs.YtpbhanpblmoepaaGreatW.PrintMore
set_option linter.unusedVariables false
set_option linter.unusedSimpArgs false

theorem rdE_ok {xs ys : List Int} {e : Ent} (hb : bytesB xs = true) (h : rdE xs = (e, ys, 0)) : xs = encE e ++ ys ∧ bytesB ys = true ∧ e.s.size ≤ 24 ∧ e.wf := by
  obtain ⟨⟨c8, y1, e1⟩, h1⟩ : ∃ r, rdM xs 0 8 = r := ⟨_, rfl⟩
  obtain ⟨⟨i4, y2, e2⟩, h2⟩ : ∃ r, rdM y1 e1 4 = r := ⟨_, rfl⟩
  obtain ⟨⟨g4, y3, e3⟩, h3⟩ : ∃ r, rdM y2 e2 4 = r := ⟨_, rfl⟩
  obtain ⟨⟨s, y4, e4⟩, h4⟩ : ∃ r, opM y3 e3 24 = r := ⟨_, rfl⟩
  rw [rdE_eq h1 h2 h3 h4] at h
  simp only [Prod.mk.injEq] at h
  obtain ⟨rfl, rfl, rfl⟩ := h
  have z3 := opM_e y3 e3 24 (by rw [h4])
  subst z3
  have z2 := (rdM_e y2 e2 4 (by rw [h3])).1
  subst z2
  have z1 := (rdM_e y1 e1 4 (by rw [h2])).1
  subst z1
  obtain ⟨-, r1, b1⟩ := rd64_ok hb h1
  have w1 := rdM_range xs 0 8 hb
  rw [h1] at w1
  obtain ⟨-, r2, b2⟩ := rd32_ok b1 h2
  have w2 := rdM_range y1 0 4 b1
  rw [h2] at w2
  obtain ⟨-, r3, b3⟩ := rd32_ok b2 h3
  have w3 := rdM_range y2 0 4 b2
  rw [h3] at w3
  obtain ⟨-, r4, bs, b4, hs⟩ := opM_ok b3 h4
  dsimp only at w1 w2 w3
  refine ⟨?_, b4, by rw [size_strOfNums]; omega, ⟨w1.1, by have := w1.2; dsimp only; omega, w2.1, by have := w2.2; dsimp only; omega, w3.1, by have := w3.2; dsimp only; omega⟩⟩
  rw [r1, r2, r3, r4]
  simp only [encE, bytesOf_strOfNums _ bs, List.append_assoc]
theorem getL_ok : ∀ (f : Nat) (xs : List Int) (out l : List Ent), bytesB xs = true → xs.length < f → getL f xs out = (l, 0) → (∀ e ∈ out, e.wf) → l.flatMap encE = out.flatMap encE ++ xs ∧ (∀ e ∈ l, e.wf)
  | 0, xs, out, l, _, hf, _, _ => by omega
  | f + 1, xs, out, l, hb, hf, h, hw => by
    by_cases hx : xs.length = 0
    · rw [getL, if_pos hx] at h
      simp only [Prod.mk.injEq, and_true] at h
      subst h
      rw [List.eq_nil_of_length_eq_zero hx, List.append_nil]
      exact ⟨rfl, hw⟩
    · rw [getL_hit hx] at h
      obtain ⟨⟨e, ys, n⟩, he⟩ : ∃ r, rdE xs = r := ⟨_, rfl⟩
      rw [he] at h
      dsimp only at h
      by_cases hn : n = 0
      · subst hn
        rw [if_neg (by simp)] at h
        obtain ⟨h1, h2, h3, h4⟩ := rdE_ok hb he
        have hs := rdE_shrink (xs := xs) (by rw [he])
        rw [he] at hs
        dsimp only at hs
        have ih := getL_ok f ys (out ++ [e]) l h2 (by omega) h (fun x hx => by
          rcases List.mem_append.1 hx with hx | hx
          · exact hw x hx
          · rw [List.mem_singleton.1 hx]; exact h4)
        refine ⟨?_, ih.2⟩
        rw [ih.1, h1, List.flatMap_append, List.flatMap_singleton, List.append_assoc]
      · rw [if_pos hn] at h
        simp only [Prod.mk.injEq] at h
        exact absurd h.2 hn
/-- What is got is put as the same bytes. -/
theorem getM_put {b : List Int} {l : List Ent} (hb : bytesB b = true) (h : getM b = (l, 0)) : putM l = (b, 0) ∧ (∀ e ∈ l, e.wf) := by
  unfold getM at h
  obtain ⟨⟨r, n⟩, hr⟩ : ∃ r, getL (b.length + 1) b [] = r := ⟨_, rfl⟩
  rw [hr] at h
  dsimp only at h
  by_cases hn : n = 0
  · subst hn
    rw [if_neg (by simp)] at h
    by_cases hm : mayB r = true
    · rw [if_pos hm] at h
      simp only [Prod.mk.injEq, and_true] at h
      subst h
      obtain ⟨h1, h2⟩ := getL_ok _ _ _ _ hb (Nat.lt_succ_self _) hr (by simp)
      rw [List.flatMap_nil, List.nil_append] at h1
      exact ⟨by unfold putM; rw [if_pos hm, h1], h2⟩
    · rw [if_neg hm] at h
      simp at h
  · rw [if_pos hn] at h
    simp only [Prod.mk.injEq] at h
    exact absurd h.2 hn
theorem rdE_put (e : Ent) (ys : List Int) (hw : e.wf) (hs : e.s.size ≤ 24) : rdE (encE e ++ ys) = (e, ys, 0) := by
  have hl := bytesOf_length e.s
  have h1 := rd64_put e.c (be32 e.i ++ be32 e.g ++ opq (bytesOf e.s) ++ ys) hw.c0 hw.c1
  have h2 := rd32_put e.i (be32 e.g ++ opq (bytesOf e.s) ++ ys) hw.i0 hw.i1
  have h3 := rd32_put e.g (opq (bytesOf e.s) ++ ys) hw.g0 hw.g1
  have h4 := opM_put (bytesOf e.s) ys 24 (by omega) (by omega)
  simp only [List.append_assoc] at h1 h2 h3
  have h := rdE_eq h1 h2 h3 h4
  rw [strOfNums_bytesOf] at h
  rw [← h]
  simp only [encE, List.append_assoc]
theorem encE_pos (e : Ent) : 8 ≤ (encE e).length := by
  simp [encE, be64, be32]
theorem getL_put : ∀ (l : List Ent) (f : Nat) (out : List Ent), (∀ e ∈ l, e.wf ∧ e.s.size ≤ 24) → (l.flatMap encE).length < f → getL f (l.flatMap encE) out = (out ++ l, 0)
  | [], f, out, _, hf => by
    obtain ⟨f, rfl⟩ : ∃ g, f = g + 1 := ⟨f - 1, by omega⟩
    rw [getL, if_pos (by simp), List.append_nil]
  | e :: l, f, out, hw, hf => by
    obtain ⟨f, rfl⟩ : ∃ g, f = g + 1 := ⟨f - 1, by omega⟩
    rw [List.flatMap_cons, List.length_append] at hf
    have hp := encE_pos e
    have he := hw e List.mem_cons_self
    rw [List.flatMap_cons, getL_hit (by rw [List.length_append]; omega), rdE_put e _ he.1 he.2]
    dsimp only
    rw [if_neg (by simp), getL_put l f (out ++ [e]) (fun x hx => hw x (List.mem_cons_of_mem _ hx)) (by omega), List.append_assoc, List.singleton_append]
/-- What is put is got. -/
theorem putM_get {b : List Int} {l : List Ent} (hw : ∀ e ∈ l, e.wf) (h : putM l = (b, 0)) : getM b = (l, 0) := by
  unfold putM at h
  by_cases hm : mayB l = true
  · rw [if_pos hm] at h
    simp only [Prod.mk.injEq, and_true] at h
    subst h
    have hn := mayOk_len ((mayB_iff l).1 hm)
    have hg := getL_put l ((l.flatMap encE).length + 1) [] (fun e he => ⟨hw e he, by have h9 := hn e he; rw [bytesOf_length] at h9; exact h9⟩) (Nat.lt_succ_self _)
    rw [List.nil_append] at hg
    unfold getM
    rw [hg]
    dsimp only
    rw [if_neg (by simp), if_pos hm]
  · rw [if_neg hm] at h
    simp at h
end Go.Proofs.YtpbhanpblmoepaaGreat.Hm
end
