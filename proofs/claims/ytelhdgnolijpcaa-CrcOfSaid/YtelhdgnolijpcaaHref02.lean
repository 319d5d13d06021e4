/- The reference's sum, sealed bytes and right bytes are the program's: for bytes, enough rounds given. -/
import Derived.Test.YtelhdgnolijpcaaHstr
import Derived.Test.YtelhdgnolijpcaaPCrcOfx2
namespace Go.Proofs.Ytelhdgnolijpcaa.Hm
open Go.RowKit Go.Proofs.YtelhdgnolijpcaaW.PrintWords Go.Proofs.YtelhdgnolijpcaaW.PrintLast Go.Proofs.YtelhdgnolijpcaaW.PrintMore Go.Proofs.Ytelhdgnolijpcaa.PCrcOf
set_option linter.unusedVariables false
set_option linter.unusedSimpArgs false

theorem wrap_up (i : Int) (h0 : 0 ≤ i) (h1 : i < 9223372036854775807) : wrap64 (i + 1) = i + 1 := by unfold wrap64; omega
theorem step8 (x c : Int) (h0 : 0 ≤ x) (h1 : x < 4294967296) (h2 : 0 ≤ c) (h3 : c < 256) : tn 8 (Go.bits .xor .u32 x ((c % 4294967296 * 16777216) % 4294967296)) = byteStep x c := by
  have e : (c % 4294967296 * 16777216) % 4294967296 = c * 16777216 := by omega
  rw [e]
  have hx : 0 ≤ Go.bits .xor .u32 x (c * 16777216) ∧ Go.bits .xor .u32 x (c * 16777216) < 4294967296 := by
    rw [u32_xor _ _ h0 h1 (by omega) (by omega)]
    have h := Nat.xor_lt_two_pow (n := 32) (x := x.toNat) (y := (c * 16777216).toNat) (by omega) (by omega)
    omega
  have h8 := tn_range 8 _ hx.1 hx.2
  have hb := byteStep_range x c h0 h1 h2 h3
  refine bv_inj _ _ h8.1 h8.2 hb.1 hb.2 ?_
  rw [bv_tn 8 _ hx.1 hx.2, byteStep_bv x c h0 h1 h2 h3, bv_xor _ _ h0 h1 (by omega) (by omega)]
theorem more_l1 (s : ByteArray) (i : Int) (d : Nat) : ∀ (k : Nat) (x j : Int), 0 ≤ x → x < 4294967296 → 0 ≤ j → j + d = 8 →
    removalistref02_More.l1 (k + d + 1) s x i j = removalistref02_More.l0 k s (tn d x) (wrap64 (i + 1)) := by
  induction d with
  | zero =>
    intro k x j h0 h1 hj hd
    simp only [removalistref02_More.l1, tn]
    rw [if_neg (by omega)]
  | succ d ih =>
    intro k x j h0 h1 hj hd
    have ht := t1_range x h0 h1
    have e : ∀ n (y : Int), tn n (t1 y) = tn (n + 1) y := by
      intro n y
      induction n with
      | zero => rfl
      | succ n ih => show t1 (tn n (t1 y)) = t1 (tn (n + 1) y); rw [ih]
    rw [show k + (d + 1) + 1 = (k + d + 1) + 1 by omega]
    simp only [removalistref02_More.l1]
    rw [if_pos (by omega), wrap_up j hj (by omega)]
    have hh := ih k (t1 x) (j + 1) ht.1 ht.2 (by omega) (by omega)
    rw [e] at hh
    by_cases hx : x ≥ 2147483648
    · rw [if_pos hx]
      unfold t1 at hh
      rw [if_pos hx] at hh
      exact hh
    · rw [if_neg hx]
      unfold t1 at hh
      rw [if_neg hx] at hh
      exact hh
theorem more_l0 (s : ByteArray) (hs : s.size ≤ 9223372036854775806) (d : Nat) : ∀ (k : Nat) (x : Int) (i : Nat), 0 ≤ x → x < 4294967296 → i + d = s.size →
    removalistref02_More.l0 (k + 10 * d + 1) s x i = some (4294967295 - crcRaw x ((bytesOf s).drop i)) := by
  induction d with
  | zero =>
    intro k x i h0 h1 hd
    have hl := bytesOf_length s
    simp only [removalistref02_More.l0]
    rw [if_neg (by omega), List.drop_eq_nil_of_le (by omega)]
    show some ((4294967295 - x) % 4294967296) = some (4294967295 - x)
    congr 1
    omega
  | succ d ih =>
    intro k x i h0 h1 hd
    have hl := bytesOf_length s
    have hc : 0 ≤ rd (bytesOf s) (i : Int) ∧ rd (bytesOf s) (i : Int) < 256 := by
      refine (bytesB_iff _).1 (bytesOf_range s) _ ?_
      rw [rd_at _ _ (by omega)]
      exact List.getElem_mem _
    have hs8 := step8 x (rd (bytesOf s) (i : Int)) h0 h1 hc.1 hc.2
    have hb := byteStep_range x _ h0 h1 hc.1 hc.2
    rw [show k + 10 * (d + 1) + 1 = (k + 10 * d + 1 + 8 + 1) + 1 by omega]
    simp only [removalistref02_More.l0]
    rw [if_pos (by omega), if_pos (by omega), bt_rd]
    have hx : 0 ≤ Go.bits .xor .u32 x ((rd (bytesOf s) (i : Int) % 4294967296 * 16777216) % 4294967296) ∧ Go.bits .xor .u32 x ((rd (bytesOf s) (i : Int) % 4294967296 * 16777216) % 4294967296) < 4294967296 := by
      rw [u32_xor _ _ h0 h1 (by omega) (by omega)]
      have h := Nat.xor_lt_two_pow (n := 32) (x := x.toNat) (y := ((rd (bytesOf s) (i : Int) % 4294967296 * 16777216) % 4294967296).toNat) (by omega) (by omega)
      omega
    rw [more_l1 s i 8 (k + 10 * d + 1) _ 0 hx.1 hx.2 (by omega) (by omega), hs8, wrap_up _ (by omega) (by omega)]
    have := ih k _ (i + 1) hb.1 hb.2 (by omega)
    rw [show ((i + 1 : Nat) : Int) = (i : Int) + 1 by omega] at this
    rw [this]
    rw [show (bytesOf s).drop i = rd (bytesOf s) (i : Int) :: (bytesOf s).drop (i + 1) by rw [rd_at _ _ (by omega), List.getElem_cons_drop]]
    rfl
/-- The reference's sum. -/
theorem ref_More (s : ByteArray) (hs : s.size ≤ 9223372036854775806) (a : Int) (h0 : 0 ≤ a) (h1 : a < 4294967296) (k : Nat) (hk : 10 * s.size + 1 ≤ k) : removalistref02_More.f k a s = some (crcM a (bytesOf s)) := by
  unfold removalistref02_More.f
  rw [show (4294967295 - a) % 4294967296 = 4294967295 - a by omega, show k = (k - (10 * s.size + 1)) + 10 * s.size + 1 by omega]
  exact more_l0 s hs s.size _ _ 0 (by omega) (by omega) (by omega)
theorem ref_Of (s : ByteArray) (hs : s.size ≤ 9223372036854775806) (k : Nat) (hk : 10 * s.size + 1 ≤ k) : removalistref02_Of.f k s = some (crcM 0 (bytesOf s)) := by
  unfold removalistref02_Of.f
  rw [ref_More s hs 0 (by omega) (by omega) k hk]
  rfl
theorem ref_U32 (x : Int) (h0 : 0 ≤ x) (h1 : x < 4294967296) : removalistref01_U32.f x = some (strOfNums (be32 x)) := by
  unfold removalistref01_U32.f be32
  rw [Int.tdiv_eq_ediv_of_nonneg h0, Int.tdiv_eq_ediv_of_nonneg h0, Int.tdiv_eq_ediv_of_nonneg h0, Int.emod_eq_of_lt (a := x / 16777216) (by omega) (by omega), Int.emod_eq_of_lt (a := x / 65536) (by omega) (by omega), Int.emod_eq_of_lt (a := x / 256) (by omega) (by omega)]
theorem ref_Sealed (s : ByteArray) (hs : s.size ≤ 9223372036854775800) (k : Nat) (hk : 10 * s.size + 1 ≤ k) : removalistref02_Sealed.f k s = some (s ++ strOfNums (be32 (crcM 0 (bytesOf s)))) := by
  have hr := crcM_range 0 (bytesOf s) (by omega) (by omega) ((bytesB_iff _).1 (bytesOf_range s))
  unfold removalistref02_Sealed.f
  rw [ref_Of s (by omega) k hk]
  simp only [Option.bind_some]
  rw [ref_U32 _ hr.1 hr.2]
  simp only [Option.bind_some]
  rw [if_pos (by rw [size_strOfNums]; show s.size + 4 ≤ _; omega)]
theorem ref_Right (s : ByteArray) (hs : s.size ≤ 9223372036854775800) (k : Nat) (hk : 10 * s.size + 1 ≤ k) : removalistref02_Right.f k s = some (rightB (bytesOf s)) := by
  have hl := bytesOf_length s
  unfold removalistref02_Right.f rightB
  by_cases h4 : (s.size : Int) ≥ 4
  · have hw : wrap64 ((s.size : Int) - 4) = (s.size : Int) - 4 := by unfold wrap64; omega
    rw [if_pos h4, hw, if_pos (by omega), if_pos (by omega), decide_eq_true (by omega)]
    have hz : (s.extract 0 ((s.size : Int) - 4).toNat).size = s.size - 4 := by simp; omega
    rw [ref_Sealed _ (by rw [hz]; omega) k (by rw [hz]; omega)]
    simp only [Option.bind_some, Bool.true_and]
    congr 1
    rw [Bool.eq_iff_iff, beq_iff_eq, decide_eq_true_iff, toList_iff, bytesOf_append, bytesOf_extract, List.drop_zero, hl]
    have e : ((s.size : Int) - 4).toNat = s.size - 4 := by omega
    rw [e]
    have hr := crcM_range 0 ((bytesOf s).take (s.size - 4)) (by omega) (by omega) ((bytesB_iff _).1 (bytesB_take _ _ (bytesOf_range s)))
    rw [bytesOf_strOfNums _ (bytesB_be32 _ hr.1 hr.2)]
  · rw [if_neg h4, decide_eq_false (by omega)]
    rfl
end Go.Proofs.Ytelhdgnolijpcaa.Hm
