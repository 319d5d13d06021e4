/- The mathematics of the sum (no program in sight): the table's step is the bitwise step, it is linear, it is one-to-one; what is right is told by a residue; a burst of up to 32 bits changes it. No conditions but those that each lemma names. -/
import Derived.Test.YtelhdgnolijpcaaHcrcE
namespace Go.Proofs.Ytelhdgnolijpcaa.Hm
open Go.RowKit Go.Proofs.YtelhdgnolijpcaaW.PrintWords Go.Proofs.YtelhdgnolijpcaaW.PrintLast Go.Proofs.YtelhdgnolijpcaaW.PrintMore
set_option linter.unusedVariables false
set_option linter.unusedSimpArgs false

namespace Crc
def poly : BitVec 32 := 79764919#32
def T (x : BitVec 32) : BitVec 32 := if x.msb then (x <<< 1) ^^^ poly else x <<< 1
def Tn : Nat → BitVec 32 → BitVec 32
  | 0, x => x
  | n + 1, x => T (Tn n x)
theorem T_xor (a b : BitVec 32) : T (a ^^^ b) = T a ^^^ T b := by
  unfold T
  rw [BitVec.msb_xor, BitVec.shiftLeft_xor_distrib]
  cases a.msb <;> cases b.msb <;> simp
  · rw [BitVec.xor_assoc]
  · rw [BitVec.xor_assoc, BitVec.xor_assoc, BitVec.xor_comm poly]
  · rw [show (a <<< 1 ^^^ poly ^^^ (b <<< 1 ^^^ poly)) = (a <<< 1 ^^^ b <<< 1) ^^^ (poly ^^^ poly) by ac_rfl, BitVec.xor_self]
    simp
theorem T_zero : T 0#32 = 0#32 := by decide
theorem Tn_xor (n : Nat) (a b : BitVec 32) : Tn n (a ^^^ b) = Tn n a ^^^ Tn n b := by
  induction n with
  | zero => rfl
  | succ n ih => simp only [Tn, ih, T_xor]
theorem Tn_zero (n : Nat) : Tn n 0#32 = 0#32 := by
  induction n with
  | zero => rfl
  | succ n ih => simp only [Tn, ih, T_zero]
theorem Tn_add (m n : Nat) (x : BitVec 32) : Tn (m + n) x = Tn m (Tn n x) := by
  induction m with
  | zero => simp [Tn]
  | succ m ih => rw [Nat.succ_add]; simp only [Tn, ih]
theorem T_eq_zero (x : BitVec 32) (h : T x = 0#32) : x = 0#32 := by
  unfold T at h
  by_cases hm : x.msb = true
  · rw [if_pos hm] at h
    have h0 := congrArg (fun z : BitVec 32 => z.getLsbD 0) h
    simp [poly] at h0
  · rw [if_neg hm] at h
    apply BitVec.eq_of_getLsbD_eq
    intro i hi
    by_cases h31 : i = 31
    · subst h31
      simpa [BitVec.msb_eq_getLsbD_last] using hm
    · have h0 := congrArg (fun z : BitVec 32 => z.getLsbD (i + 1)) h
      simp only [BitVec.getLsbD_shiftLeft] at h0
      have e : (decide (i + 1 < 32) && !decide (i + 1 < 1) && x.getLsbD (i + 1 - 1)) = x.getLsbD i := by
        rw [decide_eq_true (by omega), decide_eq_false (by omega)]
        simp
      rw [e] at h0
      simpa using h0
theorem Tn_eq_zero (n : Nat) (x : BitVec 32) (h : Tn n x = 0#32) : x = 0#32 := by
  induction n with
  | zero => exact h
  | succ n ih => exact ih (T_eq_zero _ h)
theorem Tn_inj (n : Nat) (x y : BitVec 32) (h : Tn n x = Tn n y) : x = y := by
  have h1 : Tn n (x ^^^ y) = 0#32 := by rw [Tn_xor, h, BitVec.xor_self]
  have h2 := Tn_eq_zero n _ h1
  exact BitVec.xor_eq_zero_iff.1 h2
/-- Without a top bit the step is a shift. -/
theorem Tn_shift (n : Nat) (x : Nat) (h : x * 2 ^ n < 4294967296) : Tn n (BitVec.ofNat 32 x) = BitVec.ofNat 32 (x * 2 ^ n) := by
  induction n with
  | zero => simp [Tn]
  | succ n ih =>
    have hx : x * 2 ^ (n + 1) = x * 2 ^ n * 2 := by rw [Nat.pow_succ, Nat.mul_assoc]
    rw [hx] at h ⊢
    simp only [Tn]
    rw [ih (by omega)]
    unfold T
    rw [if_neg ?_]
    · apply BitVec.eq_of_toNat_eq
      rw [BitVec.toNat_shiftLeft, BitVec.toNat_ofNat, BitVec.toNat_ofNat, Nat.shiftLeft_eq]
      omega
    · rw [BitVec.msb_eq_decide, BitVec.toNat_ofNat]
      simp
      omega
end Crc

/-- A number as 32 bits. -/
def bv (x : Int) : BitVec 32 := BitVec.ofNat 32 x.toNat
theorem bv_toNat (x : Int) (h0 : 0 ≤ x) (h1 : x < 4294967296) : ((bv x).toNat : Int) = x := by
  unfold bv
  rw [BitVec.toNat_ofNat]
  omega
theorem bv_inj (x y : Int) (hx0 : 0 ≤ x) (hx1 : x < 4294967296) (hy0 : 0 ≤ y) (hy1 : y < 4294967296) (h : bv x = bv y) : x = y := by
  rw [← bv_toNat x hx0 hx1, ← bv_toNat y hy0 hy1, h]
theorem bv_xor (a b : Int) (ha0 : 0 ≤ a) (ha1 : a < 4294967296) (hb0 : 0 ≤ b) (hb1 : b < 4294967296) : bv (Go.bits .xor .u32 a b) = bv a ^^^ bv b := by
  rw [u32_xor a b ha0 ha1 hb0 hb1]
  apply BitVec.eq_of_toNat_eq
  unfold bv
  rw [BitVec.toNat_xor, BitVec.toNat_ofNat, BitVec.toNat_ofNat, BitVec.toNat_ofNat, Int.toNat_natCast]
  have h := Nat.xor_lt_two_pow (n := 32) (x := a.toNat) (y := b.toNat) (by omega) (by omega)
  rw [Nat.mod_eq_of_lt h, Nat.mod_eq_of_lt (a := a.toNat) (by omega), Nat.mod_eq_of_lt (a := b.toNat) (by omega)]
theorem bv_t1 (x : Int) (h0 : 0 ≤ x) (h1 : x < 4294967296) : bv (t1 x) = Crc.T (bv x) := by
  have hm : (bv x).msb = decide (x ≥ 2147483648) := by
    rw [BitVec.msb_eq_decide]
    have := bv_toNat x h0 h1
    by_cases h : x ≥ 2147483648
    · rw [decide_eq_true h, decide_eq_true (by omega)]
    · rw [decide_eq_false h, decide_eq_false (by omega)]
  have hs : bv (x * 2 % 4294967296) = bv x <<< 1 := by
    apply BitVec.eq_of_toNat_eq
    unfold bv
    rw [BitVec.toNat_shiftLeft, BitVec.toNat_ofNat, BitVec.toNat_ofNat, Nat.shiftLeft_eq]
    omega
  unfold t1 Crc.T
  rw [hm]
  by_cases h : x ≥ 2147483648
  · rw [if_pos h, decide_eq_true h, if_pos rfl, bv_xor _ _ (by omega) (by omega) (by omega) (by omega), hs]
    rfl
  · rw [if_neg h, decide_eq_false h, if_neg (by simp), hs]
theorem bv_tn (n : Nat) (x : Int) (h0 : 0 ≤ x) (h1 : x < 4294967296) : bv (tn n x) = Crc.Tn n (bv x) := by
  induction n with
  | zero => rfl
  | succ n ih =>
    have hr := tn_range n x h0 h1
    simp only [tn, Crc.Tn]
    rw [bv_t1 _ hr.1 hr.2, ih]
theorem bv_split (x : Nat) (h : x < 4294967296) (k : Nat) (hk : k ≤ 32) : BitVec.ofNat 32 x = BitVec.ofNat 32 (x / 2 ^ k * 2 ^ k) ^^^ BitVec.ofNat 32 (x % 2 ^ k) := by
  apply BitVec.eq_of_toNat_eq
  rw [BitVec.toNat_xor, BitVec.toNat_ofNat, BitVec.toNat_ofNat, BitVec.toNat_ofNat]
  have h1 : x / 2 ^ k * 2 ^ k ≤ x := Nat.div_mul_le_self x _
  have h2 : x % 2 ^ k ≤ x := Nat.mod_le x _
  rw [Nat.mod_eq_of_lt h, Nat.mod_eq_of_lt (Nat.lt_of_le_of_lt h1 h), Nat.mod_eq_of_lt (Nat.lt_of_le_of_lt h2 h)]
  apply Nat.eq_of_testBit_eq
  intro i
  rw [Nat.testBit_xor, Nat.testBit_mod_two_pow, Nat.testBit_mul_two_pow, Nat.testBit_div_two_pow]
  by_cases hi : i < k
  · simp [hi, show ¬ k ≤ i by omega]
  · simp [hi, show k ≤ i by omega]
theorem ofNat_xor (a b : Nat) : BitVec.ofNat 32 a ^^^ BitVec.ofNat 32 b = BitVec.ofNat 32 (a ^^^ b) := by
  apply BitVec.eq_of_getLsbD_eq
  intro i hi
  simp [BitVec.getLsbD_ofNat, hi]
theorem ofNat_shl (a k : Nat) : BitVec.ofNat 32 (a * 2 ^ k) = BitVec.ofNat 32 a <<< k := by
  apply BitVec.eq_of_getLsbD_eq
  intro i hi
  rw [BitVec.getLsbD_ofNat, BitVec.getLsbD_shiftLeft, BitVec.getLsbD_ofNat, Nat.testBit_mul_two_pow]
  by_cases h : k ≤ i
  · have h' : ¬ i < k := by omega
    have h2 : i - k < 32 := by omega
    simp [hi, h, h', h2]
  · have h' : i < k := by omega
    simp [hi, h, h']
theorem bv_shl (a : Nat) (k : Nat) : bv ((a : Int) * (2 ^ k : Nat)) = BitVec.ofNat 32 a <<< k := by
  unfold bv
  rw [show ((a : Int) * ((2 ^ k : Nat) : Int)).toNat = a * 2 ^ k by rw [← Int.natCast_mul, Int.toNat_natCast], ofNat_shl]
theorem bv_shl_int (a : Int) (k : Nat) (h0 : 0 ≤ a) : bv (a * (2 ^ k : Nat)) = BitVec.ofNat 32 a.toNat <<< k := by
  obtain ⟨n, rfl⟩ := Int.eq_ofNat_of_zero_le h0
  rw [bv_shl, Int.toNat_natCast]
theorem nib_bv (x n : Int) (h0 : 0 ≤ x) (h1 : x < 4294967296) (h2 : 0 ≤ n) (h3 : n < 16) : bv (nib x n) = Crc.Tn 4 (bv x ^^^ bv (n * 268435456)) := by
  have hx := xor16 (x / 268435456) n (by omega) (by omega) h2 h3
  have ht := tabI_range (Go.bits .xor .u8 (x / 268435456) n).toNat (by omega)
  unfold nib
  rw [bv_xor _ _ (by omega) (by omega) ht.1 ht.2]
  unfold tabI
  rw [bv_tn 4 _ (by omega) (by omega)]
  have e1 : bv (x * 16 % 4294967296) = Crc.Tn 4 (BitVec.ofNat 32 (x.toNat % 2 ^ 28)) := by
    rw [Crc.Tn_shift 4 _ (by omega)]
    unfold bv
    congr 1
    omega
  have e2 : bv ((((Go.bits .xor .u8 (x / 268435456) n).toNat : Nat) : Int) * 268435456) = BitVec.ofNat 32 (x.toNat / 2 ^ 28 * 2 ^ 28) ^^^ bv (n * 268435456) := by
    rw [u8_xor _ _ (by omega) (by omega) (by omega) (by omega), Int.toNat_natCast]
    have e3 : (x / 268435456).toNat = x.toNat / 2 ^ 28 := by omega
    have h28 := bv_shl (x.toNat / 2 ^ 28 ^^^ n.toNat) 28
    have h28' := bv_shl_int n 28 h2
    rw [show ((2 ^ 28 : Nat) : Int) = 268435456 from rfl] at h28 h28'
    rw [e3, h28, h28', ofNat_shl, Nat.xor_comm, ← ofNat_xor, BitVec.shiftLeft_xor_distrib, BitVec.xor_comm]
  rw [e1, e2, ← Crc.Tn_xor]
  congr 1
  have e6 : bv x = BitVec.ofNat 32 (x.toNat / 2 ^ 28 * 2 ^ 28) ^^^ BitVec.ofNat 32 (x.toNat % 2 ^ 28) := bv_split x.toNat (by omega) 28 (by omega)
  rw [e6]
  ac_rfl
/-- A byte's step, as eight bitwise ones. -/
theorem byteStep_bv (x c : Int) (h0 : 0 ≤ x) (h1 : x < 4294967296) (h2 : 0 ≤ c) (h3 : c < 256) : bv (byteStep x c) = Crc.Tn 8 (bv x ^^^ bv (c * 16777216)) := by
  have hn := nib_range x (c / 16) h0 h1 (by omega) (by omega)
  unfold byteStep
  rw [nib_bv _ _ hn.1 hn.2 (by omega) (by omega), nib_bv _ _ h0 h1 (by omega) (by omega), Crc.Tn_add 4 4]
  congr 1
  have e1 : bv (c % 16 * 268435456) = Crc.Tn 4 (BitVec.ofNat 32 ((c % 16 * 16777216).toNat)) := by
    rw [Crc.Tn_shift 4 _ (by omega)]
    unfold bv
    congr 1
    omega
  rw [e1, ← Crc.Tn_xor]
  congr 1
  have e2 : bv (c * 16777216) = bv (c / 16 * 268435456) ^^^ BitVec.ofNat 32 ((c % 16 * 16777216).toNat) := by
    have h := bv_split (c * 16777216).toNat (by omega) 28 (by omega)
    unfold bv
    rw [h]
    congr 2
    · omega
    · omega
  rw [e2, BitVec.xor_assoc]

/-- The sum's state behind bytes. -/
def raw (x : BitVec 32) (l : List Int) : BitVec 32 := l.foldl (fun x c => Crc.Tn 8 (x ^^^ bv (c * 16777216))) x
theorem crcRaw_bv (l : List Int) : ∀ (x : Int), 0 ≤ x → x < 4294967296 → (∀ c ∈ l, 0 ≤ c ∧ c < 256) → bv (crcRaw x l) = raw (bv x) l := by
  induction l with
  | nil => intro x _ _ _; rfl
  | cons c l ih =>
    intro x h0 h1 h
    have hc := h c (by simp)
    have hs := byteStep_range x c h0 h1 hc.1 hc.2
    have := ih (byteStep x c) hs.1 hs.2 fun d hd => h d (by simp [hd])
    show bv (crcRaw (byteStep x c) l) = raw (Crc.Tn 8 (bv x ^^^ bv (c * 16777216))) l
    rw [this, byteStep_bv x c h0 h1 hc.1 hc.2]
theorem raw_append (x : BitVec 32) (l m : List Int) : raw x (l ++ m) = raw (raw x l) m := by simp [raw, List.foldl_append]
theorem raw_xor (l : List Int) : ∀ (x d : BitVec 32), raw (x ^^^ d) l = raw x l ^^^ Crc.Tn (8 * l.length) d := by
  induction l with
  | nil => intro x d; rfl
  | cons c l ih =>
    intro x d
    have e : x ^^^ d ^^^ bv (c * 16777216) = (x ^^^ bv (c * 16777216)) ^^^ d := by ac_rfl
    show raw (Crc.Tn 8 (x ^^^ d ^^^ bv (c * 16777216))) l = raw (Crc.Tn 8 (x ^^^ bv (c * 16777216))) l ^^^ Crc.Tn (8 * (l.length + 1)) d
    rw [e, Crc.Tn_xor, ih, Nat.mul_add, Crc.Tn_add]
theorem raw_inj (l : List Int) (x y : BitVec 32) (h : raw x l = raw y l) : x = y := by
  have e : y = x ^^^ (x ^^^ y) := by rw [← BitVec.xor_assoc, BitVec.xor_self]; simp
  rw [e, raw_xor] at h
  have h1 : Crc.Tn (8 * l.length) (x ^^^ y) = 0#32 := by
    have := congrArg (fun z => raw x l ^^^ z) h
    simp only [← BitVec.xor_assoc, BitVec.xor_self, BitVec.zero_xor] at this
    exact this.symm
  exact BitVec.xor_eq_zero_iff.1 (Crc.Tn_eq_zero _ _ h1)
/-- Another byte at place j. -/
theorem raw_set (x : BitVec 32) (l : List Int) (j : Nat) (hj : j < l.length) (y : Int) (d : BitVec 32) (hd : bv (y * 16777216) = bv (l[j] * 16777216) ^^^ d) :
    raw x (l.set j y) = raw x l ^^^ Crc.Tn (8 * (l.length - j)) d := by
  have hl : l = l.take j ++ l[j] :: l.drop (j + 1) := by rw [List.getElem_cons_drop, List.take_append_drop]
  have hs : l.set j y = l.take j ++ y :: l.drop (j + 1) := by rw [List.set_eq_take_append_cons_drop, if_pos hj]
  have e1 : ∀ (c : Int) (m : List Int) (z : BitVec 32), raw z (c :: m) = raw (Crc.Tn 8 (z ^^^ bv (c * 16777216))) m := fun _ _ _ => rfl
  have e2 : 8 * (l.length - j) = 8 * (l.drop (j + 1)).length + 8 := by rw [List.length_drop]; omega
  have e3 : raw x l = raw x (l.take j ++ l[j] :: l.drop (j + 1)) := congrArg _ hl
  rw [hs, raw_append, e1, hd, ← BitVec.xor_assoc, Crc.Tn_xor, raw_xor, e2, Crc.Tn_add, e3, raw_append, e1]
end Go.Proofs.Ytelhdgnolijpcaa.Hm
