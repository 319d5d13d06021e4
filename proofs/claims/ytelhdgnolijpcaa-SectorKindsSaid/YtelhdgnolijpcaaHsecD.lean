/- What sector.Get tells, as a plain Lean function of the bytes; conditions: the numbers are bytes. -/
import Derived.Test.YtelhdgnolijpcaaHsecC
import Derived.Test.YtelhdgnolijpcaaHburst
import Derived.Test.YtelhdgnolijpcaaPSecGetx2
import Derived.Laws.BitsLemmas
namespace Go.Proofs.Ytelhdgnolijpcaa.Hm
open Go.RowKit Go.Proofs.YtelhdgnolijpcaaW.PrintWords Go.Proofs.YtelhdgnolijpcaaW.PrintLast Go.Proofs.YtelhdgnolijpcaaW.PrintMore Go.Proofs.Ytelhdgnolijpcaa.PSecGet
set_option linter.unusedVariables false
set_option linter.unusedSimpArgs false

def numN (x : Int) (l : List Int) : Int := l.foldl (fun x c => x * 256 + c) x
def cleanB (l : List Int) : Bool := l.all fun x => decide (x = 0)
def getM (l : List Int) : Int × Int × Int × Int × Int × List Int × Int :=
  if l.length = 128 then
    if rightB l = true then
      if 1 ≤ rd l 0 ∧ rd l 0 ≤ 4 ∧ rd l 3 ≤ 108 ∧ cleanB ((l.take 124).drop (16 + (rd l 3).toNat)) = true then
        (rd l 0, rd l 1, rd l 2, numN 0 ((l.take 12).drop 4), numN 0 ((l.take 16).drop 12), (l.take (16 + (rd l 3).toNat)).drop 16, 0)
      else (0, 0, 0, 0, 0, [], 11)
    else (0, 0, 0, 0, 0, [], 14)
  else (0, 0, 0, 0, 0, [], 11)
theorem clean_l0 (l : List Int) (hl : (l.length : Int) ≤ 9223372036854775806) (d : Nat) : ∀ (k i : Nat), i + d = l.length → sector_clean.l0 (k + d + 1) l (l.length : Int) (i : Int) = some (cleanB (l.drop i)) := by
  induction d with
  | zero =>
    intro k i hi
    unfold sector_clean.l0
    rw [if_neg (by omega), List.drop_eq_nil_of_le (by omega)]
    rfl
  | succ d ih =>
    intro k i hi
    rw [show k + (d + 1) + 1 = (k + d + 1) + 1 by omega]
    unfold sector_clean.l0
    have hlt : i < l.length := by omega
    rw [if_pos (by omega), if_pos (by omega), if_pos (by omega), rd_at l i hlt, List.drop_eq_getElem_cons hlt]
    by_cases h0 : l[i] = 0
    · rw [if_pos h0, wrap_up i (by omega) (by omega)]
      have := ih k (i + 1) (by omega)
      rw [Int.natCast_add] at this
      rw [show ((i : Int) + 1) = (i : Int) + ((1 : Nat) : Int) from rfl, this]
      simp [cleanB, h0]
    · rw [if_neg h0]
      have : decide (l[i] = 0) = false := decide_eq_false h0
      unfold cleanB
      rw [List.all_cons, this, Bool.false_and]
theorem sclean (l : List Int) (hl : (l.length : Int) ≤ 9223372036854775806) (k : Nat) (hk : l.length + 1 ≤ k) : sector_clean.f k l = some (cleanB l) := by
  unfold sector_clean.f
  have := clean_l0 l hl l.length (k - l.length - 1) 0 (by omega)
  rw [show k - l.length - 1 + l.length + 1 = k by omega] at this
  exact this
theorem u64w (x : Int) (h0 : 0 ≤ x) (h1 : x < 18446744073709551616) : IntKind.u64.wrap x = x := by
  simp only [IntKind.wrap, IntKind.bits, IntKind.signed]
  simp
  omega
theorem p64 : (2 : Int) ^ 64 = 18446744073709551616 := rfl
theorem p8 : (2 : Int) ^ 8 = 256 := rfl
theorem u64_or8' (x y : Int) (hx0 : 0 ≤ x) (hx1 : x * 256 < 18446744073709551616) (hy0 : 0 ≤ y) (hy1 : y < 256) : Go.bits .or .u64 (x * 256) y = x * 256 + y :=
  bits_join .u64 64 (by decide) (fun n h0 h1 => u64w n h0 (by rw [p64] at h1; exact h1)) 8 (x * 256) y (by omega) (by rw [p8]; omega) (by rw [p64]; exact hx1) hy0 (by rw [p8]; exact hy1) (by rw [p64]; omega)
theorem p256 (i : Nat) (h : i ≤ 7) : (256 : Int) ^ i ≤ 72057594037927936 := by
  have h1 := Nat.pow_le_pow_right (n := 256) (by omega) h
  have h2 : (256 ^ 7 : Nat) = 72057594037927936 := rfl
  rw [h2] at h1
  have h3 := Int.ofNat_le.2 h1
  rw [Int.natCast_pow] at h3
  exact h3
theorem number_l0 (l : List Int) (hb : bytesB l = true) (h8 : l.length ≤ 8) (d : Nat) : ∀ (k i : Nat) (x : Int), i + d = l.length → 0 ≤ x → x < 256 ^ i → sector_number.l0 (k + d + 1) x l (l.length : Int) (i : Int) = some (numN x (l.drop i)) := by
  induction d with
  | zero =>
    intro k i x hi h0 h1
    unfold sector_number.l0
    rw [if_neg (by omega), List.drop_eq_nil_of_le (by omega)]
    rfl
  | succ d ih =>
    intro k i x hi h0 h1
    rw [show k + (d + 1) + 1 = (k + d + 1) + 1 by omega]
    unfold sector_number.l0
    have hlt : i < l.length := by omega
    have hr := (bytesB_iff l).1 hb l[i] (List.getElem_mem hlt)
    rw [if_pos (by omega), if_pos (by omega), if_pos (by omega), rd_at l i hlt, List.drop_eq_getElem_cons hlt]
    have hx : x * 256 < 18446744073709551616 := by
      have h7 := Int.lt_of_lt_of_le h1 (p256 i (by omega))
      clear h1
      omega
    have hx' : x * 256 + l[i] < 256 ^ (i + 1) := by rw [Int.pow_succ]; omega
    rw [u64w _ (by omega) hx, u64w _ hr.1 (by omega), u64_or8' x _ h0 hx hr.1 hr.2, wrap_up i (by omega) (by omega)]
    have := ih k (i + 1) (x * 256 + l[i]) (by omega) (by omega) hx'
    rw [Int.natCast_add] at this
    rw [show ((i : Int) + 1) = (i : Int) + ((1 : Nat) : Int) from rfl, this]
    rfl
theorem snumber (l : List Int) (hb : bytesB l = true) (h8 : l.length ≤ 8) (k : Nat) (hk : l.length + 1 ≤ k) : sector_number.f k l = some (numN 0 l) := by
  unfold sector_number.f
  have := number_l0 l hb h8 l.length (k - l.length - 1) 0 0 (by omega) (by omega) (by simp)
  rw [show k - l.length - 1 + l.length + 1 = k by omega] at this
  exact this
theorem numN_range (l : List Int) (hb : bytesB l = true) : ∀ (x : Int) (n : Nat), 0 ≤ x → x < 256 ^ n → 0 ≤ numN x l ∧ numN x l < 256 ^ (n + l.length) := by
  induction l with
  | nil => intro x n h0 h1; exact ⟨h0, h1⟩
  | cons c l ih =>
    intro x n h0 h1
    have hb' := (bytesB_iff _).1 hb
    have hc := hb' c (by simp)
    have := ih ((bytesB_iff _).2 fun y hy => hb' y (by simp [hy])) (x * 256 + c) (n + 1) (by omega) (by rw [Int.pow_succ]; omega)
    rw [show n + (c :: l).length = n + 1 + l.length by simp; omega]
    exact this
theorem wrap64_id (x : Int) (h0 : -9223372036854775808 ≤ x) (h1 : x ≤ 9223372036854775807) : wrap64 x = x := by unfold wrap64; omega
theorem sector_Get_k (l : List Int) (hb : bytesB l = true) (hl : l.length ≤ 140737488355000) : sector_Get.f 200 l = some (getM l) := by
  unfold sector_Get.f getM
  by_cases h : l.length = 128
  · rw [if_pos (by omega), if_pos h]
    have hR : crc_Right.f l = some (rightB l) := by unfold crc_Right.f; rw [if_pos ⟨hb, hl⟩]
    rw [hR]
    simp only [Option.bind_some]
    by_cases hr : rightB l = true
    · rw [if_pos hr, if_pos hr, if_pos (by omega), if_pos (by omega)]
      have b0 : 0 ≤ rd l 0 ∧ rd l 0 < 256 := rd_range l hb 0 (by omega)
      have b1 : 0 ≤ rd l 1 ∧ rd l 1 < 256 := rd_range l hb 1 (by omega)
      have b2 : 0 ≤ rd l 2 ∧ rd l 2 < 256 := rd_range l hb 2 (by omega)
      have b3 : 0 ≤ rd l 3 ∧ rd l 3 < 256 := rd_range l hb 3 (by omega)
      obtain ⟨n, hn⟩ := Int.eq_ofNat_of_zero_le b3.1
      have bad : sector_Get.j0 200 l (wrap64 (rd l 3)) true = some (0, 0, 0, 0, 0, [], 11) := by
        unfold sector_Get.j0
        simp
      rw [bad]
      by_cases h1 : rd l 0 < 1
      · rw [if_pos h1, if_neg (by omega)]
      · rw [if_neg h1]
        by_cases h4 : rd l 0 > 4
        · rw [if_pos h4, if_neg (by omega)]
        · rw [if_neg h4, wrap64_id (rd l 3) (by omega) (by omega)]
          by_cases hn1 : rd l 3 > 108
          · rw [if_pos hn1, if_neg (by omega)]
          · rw [if_neg hn1, wrap64_id (16 + rd l 3) (by omega) (by omega), if_pos (by omega), if_pos (by omega), if_pos (by omega)]
            have ht : (16 + rd l 3).toNat = 16 + (rd l 3).toNat := by omega
            rw [ht, sclean _ (by simp; omega) 200 (by simp; omega)]
            simp only [Option.bind_some]
            by_cases hc : cleanB ((l.take 124).drop (16 + (rd l 3).toNat)) = true
            · rw [hc, if_pos ⟨by omega, by omega, by omega, rfl⟩]
              rw [show (200 : Nat) = 199 + 1 from rfl]
              simp only [sector_Get.j0]
              rw [wrap64_id (16 + rd l 3) (by omega) (by omega), ht]
              simp only [Bool.not_true, Bool.false_eq_true, if_false, Option.bind_some]
              have hlen : ((l.take (16 + (rd l 3).toNat)).drop 16).length = (rd l 3).toNat := by simp; omega
              rw [if_pos (by omega), if_pos (by omega), if_pos (by rw [hlen]; show 0 + _ < _; omega), if_pos (by omega), if_pos (by omega), if_pos (by omega), if_pos (by omega), if_pos (by omega)]
              rw [snumber ((l.take 12).drop 4) (bytesB_drop _ _ (bytesB_take _ _ hb)) (by simp; omega) 199 (by simp; omega)]
              simp only [Option.bind_some]
              rw [if_pos (by omega), if_pos (by omega), snumber ((l.take 16).drop 12) (bytesB_drop _ _ (bytesB_take _ _ hb)) (by simp; omega) 199 (by simp; omega)]
              simp only [Option.bind_some]
              have hr4 := numN_range ((l.take 16).drop 12) (bytesB_drop _ _ (bytesB_take _ _ hb)) 0 0 (by omega) (by omega)
              rw [show 0 + ((l.take 16).drop 12).length = 4 by simp; omega, show (256 : Int) ^ 4 = 4294967296 from rfl] at hr4
              rw [wrap64_id _ (by omega) (by omega), wrap64_id _ (by omega) (by omega), wrap64_id _ (by omega) (by omega), Int.emod_eq_of_lt hr4.1 hr4.2]
              rfl
            · rw [if_neg (fun hh => hc hh.2.2.2)]
              have hcf : cleanB ((l.take 124).drop (16 + (rd l 3).toNat)) = false := by simpa using hc
              rw [hcf]
              unfold sector_Get.j0
              simp
    · rw [if_neg hr, if_neg hr]
  · rw [if_neg (by omega), if_neg h]
/-- sector.Get. -/
def sector_Get.f (l : List Int) : Option (Int × Int × Int × Int × Int × List Int × Int) := if bytesB l = true ∧ l.length ≤ 140737488355000 then some (getM l) else none
theorem sector_Get.calls (A0 : Option Addr) (c0 : Nat) (l0 : List Int) (r1 : Int) (r2 : Int) (r3 : Int) (r4 : Int) (r5 : Int) (r6 : List Int) (r7 : Int) (w : World) (hr0 : Kd.C (Kd.int .u8) w A0 l0.length l0) (hc0 : l0.length ≤ c0) (h : Hm.sector_Get.f l0 = some (r1, r2, r3, r4, r5, r6, r7)) :
    Calls Try.prog 26 #[.slice A0 l0.length c0] w fun e w' => ∃ v5_ : Value, e = .returned (.tuple #[.agg #[.int .i64 r1, .int .i64 r2, .int .i64 r3, .int .u64 r4, .int .u32 r5, v5_], .int .i64 r7]) ∧ Kd.R (Kd.int .u8) 5 w' w.heap.size (fun _ => True) v5_ r6 ∧ Below w.heap.size w w' := by
  unfold Hm.sector_Get.f at h
  split at h
  · rename_i hc
    exact PSecGet.sector_Get.calls 200 A0 c0 l0 r1 r2 r3 r4 r5 r6 r7 w hr0 hc0 ((sector_Get_k l0 hc.1 hc.2).trans h)
  · simp at h
end Go.Proofs.Ytelhdgnolijpcaa.Hm
