/- A frame and its bytes: what is put is got, what is got is put; plain lemmas, conditions: those that each names. -/
import Derived.Test.YtelhdgnolijpcaaHsecD
namespace Go.Proofs.Ytelhdgnolijpcaa.Hm
open Go.RowKit Go.Proofs.YtelhdgnolijpcaaW.PrintWords Go.Proofs.YtelhdgnolijpcaaW.PrintLast Go.Proofs.YtelhdgnolijpcaaW.PrintMore
set_option linter.unusedVariables false
set_option linter.unusedSimpArgs false

def putM (k i c : Int) (s a : Nat) (l : List Int) : List Int := frameL k i c s a l ++ be32 (crcM 0 (frameL k i c s a l))
theorem num_be64 (s : Nat) (h : s < 18446744073709551616) : numN 0 (be64 s) = s := by
  simp only [numN, be64, List.foldl_cons, List.foldl_nil]
  omega
theorem num_be4 (s : Nat) (h : s < 4294967296) : numN 0 (be4 s) = s := by
  simp only [numN, be4, List.foldl_cons, List.foldl_nil]
  omega
theorem cast_nat (x : Int) (n : Nat) (h : (n : Int) = x) : x.toNat = n := by omega
theorem be4_num (l : List Int) (hb : bytesB l = true) (h : l.length = 4) : be4 (numN 0 l).toNat = l := by
  have hb' := (bytesB_iff _).1 hb
  match l, h with
  | [a, b, c, d], _ =>
    have ha := hb' a (by simp)
    have hbb := hb' b (by simp)
    have hc := hb' c (by simp)
    have hd := hb' d (by simp)
    obtain ⟨a, rfl⟩ := Int.eq_ofNat_of_zero_le ha.1
    obtain ⟨b, rfl⟩ := Int.eq_ofNat_of_zero_le hbb.1
    obtain ⟨c, rfl⟩ := Int.eq_ofNat_of_zero_le hc.1
    obtain ⟨d, rfl⟩ := Int.eq_ofNat_of_zero_le hd.1
    have e : (numN 0 [(a : Int), (b : Int), (c : Int), (d : Int)]).toNat = ((a * 256 + b) * 256 + c) * 256 + d := by
      simp only [numN, List.foldl_cons, List.foldl_nil]; omega
    rw [e]
    simp only [be4, List.cons.injEq, and_true]
    refine ⟨?_, ?_, ?_, ?_⟩ <;> omega
theorem be64_num (l : List Int) (hb : bytesB l = true) (h : l.length = 8) : be64 (numN 0 l).toNat = l := by
  have hb' := (bytesB_iff _).1 hb
  match l, h with
  | [a, b, c, d, e, f, g, h], _ =>
    have ha := hb' a (by simp)
    have hbb := hb' b (by simp)
    have hc := hb' c (by simp)
    have hd := hb' d (by simp)
    have he := hb' e (by simp)
    have hf := hb' f (by simp)
    have hg := hb' g (by simp)
    have hh := hb' h (by simp)
    clear hb hb'
    obtain ⟨a, rfl⟩ := Int.eq_ofNat_of_zero_le ha.1
    obtain ⟨b, rfl⟩ := Int.eq_ofNat_of_zero_le hbb.1
    obtain ⟨c, rfl⟩ := Int.eq_ofNat_of_zero_le hc.1
    obtain ⟨d, rfl⟩ := Int.eq_ofNat_of_zero_le hd.1
    obtain ⟨e, rfl⟩ := Int.eq_ofNat_of_zero_le he.1
    obtain ⟨f, rfl⟩ := Int.eq_ofNat_of_zero_le hf.1
    obtain ⟨g, rfl⟩ := Int.eq_ofNat_of_zero_le hg.1
    obtain ⟨h, rfl⟩ := Int.eq_ofNat_of_zero_le hh.1
    have e : (numN 0 [(a : Int), (b : Int), (c : Int), (d : Int), (e : Int), (f : Int), (g : Int), (h : Int)]).toNat = ((((((a * 256 + b) * 256 + c) * 256 + d) * 256 + e) * 256 + f) * 256 + g) * 256 + h := by
      simp only [numN, List.foldl_cons, List.foldl_nil]; omega
    rw [e]
    simp only [be64, List.cons.injEq, and_true]
    refine ⟨?_, ?_, ?_, ?_, ?_, ?_, ?_, ?_⟩ <;> omega
theorem frameL_length (k i c : Int) (s a : Nat) (l : List Int) (h : l.length ≤ 108) : (frameL k i c s a l).length = 124 := by
  simp [frameL, be64, be4]; omega
theorem putM_length (k i c : Int) (s a : Nat) (l : List Int) (h : l.length ≤ 108) : (putM k i c s a l).length = 128 := by
  unfold putM
  rw [List.length_append, frameL_length _ _ _ _ _ _ h]
  rfl
theorem frameOk_iff (k i c : Int) (n : Nat) : frameOk k i c n = true ↔ 1 ≤ k ∧ k ≤ 4 ∧ 0 ≤ i ∧ i ≤ 255 ∧ 0 ≤ c ∧ c ≤ 255 ∧ n ≤ 108 := by
  simp [frameOk, bytefulB]; omega
theorem putM_cons (k i c : Int) (s a : Nat) (l : List Int) : ∃ r, putM k i c s a l = k :: i :: c :: (l.length : Int) :: (be64 s ++ (be4 a ++ (l ++ (List.replicate (108 - l.length) 0 ++ r)))) ∧ r.length = 4 := by
  refine ⟨be32 (crcM 0 (frameL k i c s a l)), ?_, rfl⟩
  unfold putM
  conv => lhs; lhs; unfold frameL
  simp only [List.append_assoc, List.cons_append, List.nil_append]
theorem drop_app (a b : List Int) (n : Nat) (h : a.length = n) : (a ++ b).drop n = b := by rw [← h]; simp
theorem take_app (a b : List Int) (n : Nat) (h : a.length = n) : (a ++ b).take n = a := by rw [← h]; simp
theorem cut_app (a b c : List Int) (m n : Nat) (h : a.length = m) (h2 : m + b.length = n) : ((a ++ (b ++ c)).take n).drop m = b := by
  rw [← List.append_assoc, take_app _ _ _ (by simp; omega), drop_app _ _ _ h]
theorem get_put (k i c : Int) (s a : Nat) (l : List Int) (hf : frameOk k i c l.length = true) (hs : s < 18446744073709551616) (ha : a < 4294967296) :
    getM (putM k i c s a l) = (k, i, c, (s : Int), (a : Int), l, 0) := by
  have hF := (frameOk_iff _ _ _ _).1 hf
  obtain ⟨h1, h2, h3, h4, h5, h6, h7⟩ := hF
  have hR : rightB (putM k i c s a l) = true := right_sealed _
  unfold getM
  rw [if_pos (putM_length _ _ _ _ _ _ h7), if_pos hR]
  obtain ⟨r, hr, hrl⟩ := putM_cons k i c s a l
  have r0 : rd (putM k i c s a l) 0 = k := by rw [hr]; rfl
  have r1 : rd (putM k i c s a l) 1 = i := by rw [hr]; rfl
  have r2 : rd (putM k i c s a l) 2 = c := by rw [hr]; rfl
  have r3 : rd (putM k i c s a l) 3 = (l.length : Int) := by rw [hr]; rfl
  have c1 : ((putM k i c s a l).take 12).drop 4 = be64 s := by
    rw [hr]; exact cut_app [k, i, c, (l.length : Int)] (be64 s) _ 4 12 rfl rfl
  have c2 : ((putM k i c s a l).take 16).drop 12 = be4 a := by
    rw [hr]; exact cut_app (k :: i :: c :: (l.length : Int) :: be64 s) (be4 a) _ 12 16 rfl rfl
  have c3 : ((putM k i c s a l).take (16 + l.length)).drop 16 = l := by
    rw [hr]; exact cut_app (k :: i :: c :: (l.length : Int) :: (be64 s ++ be4 a)) l _ 16 _ rfl rfl
  have c4 : ((putM k i c s a l).take 124).drop (16 + l.length) = List.replicate (108 - l.length) 0 := by
    rw [hr]
    have := cut_app (k :: i :: c :: (l.length : Int) :: (be64 s ++ (be4 a ++ l))) (List.replicate (108 - l.length) 0) r (16 + l.length) 124 (by simp [be64, be4]; omega) (by simp; omega)
    simpa using this
  rw [r0, r1, r2, r3, Int.toNat_natCast, c1, c2, c3, c4, num_be64 s hs, num_be4 a ha, if_pos ⟨h1, h2, by omega, by simp [cleanB]⟩]
theorem clean_zeros (l : List Int) (h : cleanB l = true) : l = List.replicate l.length 0 := by
  rw [List.eq_replicate_iff]
  refine ⟨rfl, fun x hx => ?_⟩
  have := List.all_eq_true.1 h x hx
  simpa using this
theorem put_get (l : List Int) (hb : bytesB l = true) (k i c s a : Int) (b : List Int) (h : getM l = (k, i, c, s, a, b, 0)) :
    frameOk k i c b.length = true ∧ 0 ≤ s ∧ s < 18446744073709551616 ∧ 0 ≤ a ∧ a < 4294967296 ∧ bytesB b = true ∧ putM k i c s.toNat a.toNat b = l := by
  unfold getM at h
  split at h
  · rename_i hlen
    split at h
    · rename_i hr
      split at h
      · rename_i hc
        obtain ⟨hk1, hk4, hn, hcl⟩ := hc
        simp only [Prod.mk.injEq] at h
        obtain ⟨rfl, rfl, rfl, rfl, rfl, rfl, _⟩ := h
        have b1 : 0 ≤ rd l 1 ∧ rd l 1 < 256 := rd_range l hb 1 (by omega)
        have b2 : 0 ≤ rd l 2 ∧ rd l 2 < 256 := rd_range l hb 2 (by omega)
        have b3 : 0 ≤ rd l 3 ∧ rd l 3 < 256 := rd_range l hb 3 (by omega)
        have e1 := numN_range ((l.take 12).drop 4) (bytesB_drop _ _ (bytesB_take _ _ hb)) 0 0 (by omega) (by omega)
        have e2 := numN_range ((l.take 16).drop 12) (bytesB_drop _ _ (bytesB_take _ _ hb)) 0 0 (by omega) (by omega)
        rw [show 0 + ((l.take 12).drop 4).length = 8 by simp; omega, show (256 : Int) ^ 8 = 18446744073709551616 from rfl] at e1
        rw [show 0 + ((l.take 16).drop 12).length = 4 by simp; omega, show (256 : Int) ^ 4 = 4294967296 from rfl] at e2
        obtain ⟨n, hn0⟩ := Int.eq_ofNat_of_zero_le b3.1
        rw [hn0, Int.toNat_natCast] at hcl ⊢
        have hbl : ((l.take (16 + n)).drop 16).length = n := by simp; omega
        refine ⟨(frameOk_iff _ _ _ _).2 ⟨hk1, hk4, b1.1, by omega, b2.1, by omega, by rw [hbl]; omega⟩, e1.1, e1.2, e2.1, e2.2, bytesB_drop _ _ (bytesB_take _ _ hb), ?_⟩
        have hfr : frameL (rd l 0) (rd l 1) (rd l 2) (numN 0 ((l.take 12).drop 4)).toNat (numN 0 ((l.take 16).drop 12)).toNat ((l.take (16 + n)).drop 16) = l.take 124 := by
          unfold frameL
          rw [be64_num _ (bytesB_drop _ _ (bytesB_take _ _ hb)) (by simp; omega), be4_num _ (bytesB_drop _ _ (bytesB_take _ _ hb)) (by simp; omega), hbl, ← hn0]
          have hz := clean_zeros _ hcl
          rw [show ((l.take 124).drop (16 + n)).length = 108 - n by simp; omega] at hz
          rw [← hz]
          have hd : ∀ p q : Nat, p ≤ q → l.take p ++ (l.take q).drop p = l.take q := by
            intro p q hpq
            have : l.take p = (l.take q).take p := by rw [List.take_take, Nat.min_eq_left hpq]
            rw [this, List.take_append_drop]
          have h4 : [rd l 0, rd l 1, rd l 2, rd l 3] = l.take 4 := by
            match l, hlen with
            | a :: b :: c :: d :: l', _ => rfl
          rw [h4, hd 4 12 (by omega), hd 12 16 (by omega), hd 16 (16 + n) (by omega), hd (16 + n) 124 (by omega)]
        unfold putM
        rw [hfr]
        unfold rightB at hr
        simp only [Bool.and_eq_true, decide_eq_true_eq] at hr
        rw [hlen] at hr
        exact hr.2
      · simp only [Prod.mk.injEq] at h; omega
    · simp only [Prod.mk.injEq] at h; omega
  · simp only [Prod.mk.injEq] at h; omega
/-- What getM tells when it does not tell a frame. -/
theorem get_bad (l : List Int) (k i c s a e : Int) (b : List Int) (h : getM l = (k, i, c, s, a, b, e)) (he : e ≠ 0) : k = 0 ∧ i = 0 ∧ c = 0 ∧ s = 0 ∧ a = 0 ∧ b = [] := by
  unfold getM at h
  repeat' split at h
  all_goals simp only [Prod.mk.injEq] at h
  · exact absurd h.2.2.2.2.2.2.symm he
  all_goals (obtain ⟨rfl, rfl, rfl, rfl, rfl, rfl, _⟩ := h; exact ⟨rfl, rfl, rfl, rfl, rfl, rfl⟩)
end Go.Proofs.Ytelhdgnolijpcaa.Hm
