/- What is right is told by a residue; a burst of up to 32 bits on end, not all noughts, turns what is right into what isn't; so does another byte. Conditions: numbers that are bytes, places inside. -/
import Derived.Test.YtelhdgnolijpcaaHstr
namespace Go.Proofs.Ytelhdgnolijpcaa.Hm
open Go.RowKit Go.Proofs.YtelhdgnolijpcaaW.PrintWords Go.Proofs.YtelhdgnolijpcaaW.PrintLast Go.Proofs.YtelhdgnolijpcaaW.PrintMore
set_option linter.unusedVariables false
set_option linter.unusedSimpArgs false

def ones : BitVec 32 := bv 4294967295
theorem bv_shift (n : Nat) (x : Int) (h0 : 0 ≤ x) (h : x * (2 ^ n : Nat) < 4294967296) : Crc.Tn n (bv x) = bv (x * (2 ^ n : Nat)) := by
  obtain ⟨m, rfl⟩ := Int.eq_ofNat_of_zero_le h0
  have e : ((m : Int) * ((2 ^ n : Nat) : Int)).toNat = m * 2 ^ n := by rw [← Int.natCast_mul, Int.toNat_natCast]
  have h' : m * 2 ^ n < 4294967296 := by rw [← Int.natCast_mul] at h; omega
  unfold bv
  rw [Int.toNat_natCast, Crc.Tn_shift n m h', e]
theorem bv_part (x : Int) (h0 : 0 ≤ x) (h1 : x < 4294967296) (k : Nat) (hk : k ≤ 32) : bv x = bv (x / (2 ^ k : Nat) * (2 ^ k : Nat)) ^^^ bv (x % (2 ^ k : Nat)) := by
  obtain ⟨m, rfl⟩ := Int.eq_ofNat_of_zero_le h0
  have h := bv_split m (by omega) k hk
  unfold bv
  rw [Int.toNat_natCast, h, ← Int.natCast_ediv, ← Int.natCast_mul, Int.toNat_natCast, ← Int.natCast_emod, Int.toNat_natCast]
def val (a b c d : Int) : Int := a * 16777216 + b * 65536 + c * 256 + d
theorem raw4 (s : BitVec 32) (a b c d : Int) (ha0 : 0 ≤ a) (ha : a < 256) (hb0 : 0 ≤ b) (hb : b < 256) (hc0 : 0 ≤ c) (hc : c < 256) (hd0 : 0 ≤ d) (hd : d < 256) : raw s [a, b, c, d] = Crc.Tn 32 (s ^^^ bv (val a b c d)) := by
  have e24 := bv_part (val a b c d) (by unfold val; omega) (by unfold val; omega) 24 (by omega)
  have e16 := bv_part (b * 65536 + c * 256 + d) (by omega) (by omega) 16 (by omega)
  have e8 := bv_part (c * 256 + d) (by omega) (by omega) 8 (by omega)
  rw [show ((2 ^ 24 : Nat) : Int) = 16777216 from rfl] at e24
  rw [show ((2 ^ 16 : Nat) : Int) = 65536 from rfl] at e16
  rw [show ((2 ^ 8 : Nat) : Int) = 256 from rfl] at e8
  rw [show val a b c d / 16777216 * 16777216 = a * 16777216 by unfold val; omega, show val a b c d % 16777216 = b * 65536 + c * 256 + d by unfold val; omega] at e24
  rw [show (b * 65536 + c * 256 + d) / 65536 * 65536 = b * 65536 by omega, show (b * 65536 + c * 256 + d) % 65536 = c * 256 + d by omega] at e16
  rw [show (c * 256 + d) / 256 * 256 = c * 256 by omega, show (c * 256 + d) % 256 = d by omega] at e8
  have sb := bv_shift 8 (b * 65536) (by omega) (by rw [show ((2 ^ 8 : Nat) : Int) = 256 from rfl]; omega)
  have sc := bv_shift 16 (c * 256) (by omega) (by rw [show ((2 ^ 16 : Nat) : Int) = 65536 from rfl]; omega)
  have sd := bv_shift 24 d (by omega) (by rw [show ((2 ^ 24 : Nat) : Int) = 16777216 from rfl]; omega)
  rw [show ((2 ^ 8 : Nat) : Int) = 256 from rfl, show b * 65536 * 256 = b * 16777216 by omega] at sb
  rw [show ((2 ^ 16 : Nat) : Int) = 65536 from rfl, show c * 256 * 65536 = c * 16777216 by omega] at sc
  rw [show ((2 ^ 24 : Nat) : Int) = 16777216 from rfl] at sd
  show Crc.Tn 8 (Crc.Tn 8 (Crc.Tn 8 (Crc.Tn 8 (s ^^^ bv (a * 16777216)) ^^^ bv (b * 16777216)) ^^^ bv (c * 16777216)) ^^^ bv (d * 16777216)) = _
  rw [← sb, ← Crc.Tn_xor, ← Crc.Tn_add 8 8, ← sc, ← Crc.Tn_xor, ← Crc.Tn_add 8 16, ← sd, ← Crc.Tn_xor, ← Crc.Tn_add 8 24, e24, e16, e8]
  congr 1
  ac_rfl
theorem raw_be32 (s : BitVec 32) (x : Int) (h0 : 0 ≤ x) (h1 : x < 4294967296) : raw s (be32 x) = Crc.Tn 32 (s ^^^ bv x) := by
  unfold be32
  rw [raw4 s _ _ _ _ (by omega) (by omega) (by omega) (by omega) (by omega) (by omega) (by omega) (by omega)]
  congr 3
  unfold val
  omega
theorem be32_val (a b c d : Int) (ha0 : 0 ≤ a) (ha : a < 256) (hb0 : 0 ≤ b) (hb : b < 256) (hc0 : 0 ≤ c) (hc : c < 256) (hd0 : 0 ≤ d) (hd : d < 256) : be32 (val a b c d) = [a, b, c, d] := by
  unfold be32 val
  simp only [List.cons.injEq, and_true]
  omega
theorem four (q : List Int) (h : q.length = 4) : ∃ a b c d, q = [a, b, c, d] := by
  match q, h with
  | [a, b, c, d], _ => exact ⟨a, b, c, d, rfl⟩
theorem xor_ones (x : Int) (h0 : 0 ≤ x) (h1 : x < 4294967296) : bv (4294967295 - x) = bv x ^^^ ones := by
  have h := ones_xor x.toNat (by omega)
  apply BitVec.eq_of_toNat_eq
  unfold ones bv
  rw [BitVec.toNat_xor, BitVec.toNat_ofNat, BitVec.toNat_ofNat, BitVec.toNat_ofNat, Nat.mod_eq_of_lt (a := x.toNat) (by omega), show (4294967295 : Int).toNat % 2 ^ 32 = 4294967295 from rfl, Nat.xor_comm, h]
  omega
/-- Right: the residue. -/
theorem right_iff (l : List Int) (hb : bytesB l = true) : rightB l = true ↔ 4 ≤ l.length ∧ raw ones l = Crc.Tn 32 ones := by
  unfold rightB
  by_cases h4 : 4 ≤ l.length
  · rw [decide_eq_true h4, Bool.true_and, decide_eq_true_iff]
    have hl : l = l.take (l.length - 4) ++ l.drop (l.length - 4) := (List.take_append_drop _ _).symm
    obtain ⟨p, hp⟩ : ∃ p, l.take (l.length - 4) = p := ⟨_, rfl⟩
    obtain ⟨q, hq⟩ : ∃ q, l.drop (l.length - 4) = q := ⟨_, rfl⟩
    have hq4 : q.length = 4 := by rw [← hq, List.length_drop]; omega
    have hbp : bytesB p = true := by rw [← hp]; exact bytesB_take _ _ hb
    have hbq : bytesB q = true := by rw [← hq]; exact bytesB_drop _ _ hb
    rw [hp]
    rw [hp, hq] at hl
    have hr := crcRaw_range p 4294967295 (by omega) (by omega) ((bytesB_iff p).1 hbp)
    have hs := crcRaw_bv p 4294967295 (by omega) (by omega) ((bytesB_iff p).1 hbp)
    have hx : 0 ≤ crcM 0 p ∧ crcM 0 p < 4294967296 := crcM_range 0 p (by omega) (by omega) ((bytesB_iff p).1 hbp)
    have hm : bv (crcM 0 p) = raw ones p ^^^ ones := by
      unfold crcM
      rw [show (4294967295 : Int) - 0 = 4294967295 by omega, xor_ones _ hr.1 hr.2, hs]
      rfl
    obtain ⟨a, b, c, d, rfl⟩ := four q hq4
    have hbr := (bytesB_iff _).1 hbq
    have ha := hbr a (by simp)
    have hb' := hbr b (by simp)
    have hc := hbr c (by simp)
    have hd := hbr d (by simp)
    have hv : 0 ≤ val a b c d ∧ val a b c d < 4294967296 := by unfold val; omega
    constructor
    · intro h
      refine ⟨h4, ?_⟩
      rw [← h, raw_append, raw_be32 _ _ hx.1 hx.2, hm, ← BitVec.xor_assoc, BitVec.xor_self, BitVec.zero_xor]
    · rintro ⟨_, h⟩
      rw [hl, raw_append, raw4 _ _ _ _ _ ha.1 ha.2 hb'.1 hb'.2 hc.1 hc.2 hd.1 hd.2] at h
      have h1 := Crc.Tn_inj 32 _ _ h
      have h2 : bv (val a b c d) = bv (crcM 0 p) := by
        have h2 := congrArg (fun z => raw ones p ^^^ z) h1
        simp only [← BitVec.xor_assoc, BitVec.xor_self, BitVec.zero_xor] at h2
        rw [hm, h2]
      have h3 := bv_inj _ _ hv.1 hv.2 hx.1 hx.2 h2
      rw [hl, ← h3, be32_val a b c d ha.1 ha.2 hb'.1 hb'.2 hc.1 hc.2 hd.1 hd.2]
  · rw [decide_eq_false h4]
    simp [h4]
theorem right_sealed (l : List Int) : rightB (l ++ be32 (crcM 0 l)) = true := by
  unfold rightB
  have hlen : (l ++ be32 (crcM 0 l)).length = l.length + 4 := by simp [be32]
  rw [hlen, decide_eq_true (by omega), show l.length + 4 - 4 = l.length by omega, List.take_left' rfl]
  simp

/-- One bit turned: bit p, counted from the first byte's highest. -/
def flip (l : List Int) (p : Nat) : List Int := l.set (p / 8) (Go.bits .xor .u8 (rd l ((p / 8 : Nat) : Int)) (128 / 2 ^ (p % 8) : Nat))
def burstN (l : List Int) (k b : Nat) : Nat → List Int
  | 0 => l
  | i + 1 => if b / 2 ^ i % 2 = 1 then flip (burstN l k b i) (k + i) else burstN l k b i
def revN (b : Nat) : Nat → BitVec 32
  | 0 => 0#32
  | i + 1 => if b / 2 ^ i % 2 = 1 then revN b i ^^^ BitVec.ofNat 32 (2 ^ (31 - i)) else revN b i
theorem flip_length (l : List Int) (p : Nat) : (flip l p).length = l.length := by simp [flip]
theorem burstN_length (l : List Int) (k b i : Nat) : (burstN l k b i).length = l.length := by
  induction i with
  | zero => rfl
  | succ i ih => unfold burstN; split <;> simp [flip_length, ih]
theorem bit_range (t : Nat) (h : t < 8) : 1 ≤ 128 / 2 ^ t ∧ 128 / 2 ^ t ≤ 128 := by
  have : t = 0 ∨ t = 1 ∨ t = 2 ∨ t = 3 ∨ t = 4 ∨ t = 5 ∨ t = 6 ∨ t = 7 := by omega
  rcases this with rfl | rfl | rfl | rfl | rfl | rfl | rfl | rfl <;> decide
theorem rd_range (l : List Int) (h : bytesB l = true) (j : Nat) (hj : j < l.length) : 0 ≤ rd l (j : Int) ∧ rd l (j : Int) < 256 := by
  rw [rd_at l j hj]
  exact (bytesB_iff l).1 h _ (List.getElem_mem _)
theorem bytesB_set (l : List Int) (h : bytesB l = true) (j : Nat) (y : Int) (h0 : 0 ≤ y) (h1 : y < 256) : bytesB (l.set j y) = true := by
  rw [bytesB_iff]
  intro x hx
  rcases List.mem_or_eq_of_mem_set hx with hx | rfl
  · exact (bytesB_iff l).1 h x hx
  · exact ⟨h0, h1⟩
theorem xor256 (a b : Int) (h0 : 0 ≤ a) (h1 : a < 256) (h2 : 0 ≤ b) (h3 : b < 256) : 0 ≤ Go.bits .xor .u8 a b ∧ Go.bits .xor .u8 a b < 256 := by
  rw [u8_xor _ _ (by omega) (by omega) (by omega) (by omega)]
  have h := Nat.xor_lt_two_pow (n := 8) (x := a.toNat) (y := b.toNat) (by omega) (by omega)
  omega
theorem bv_top (a b : Int) (h0 : 0 ≤ a) (h1 : a < 256) (h2 : 0 ≤ b) (h3 : b < 256) : bv (Go.bits .xor .u8 a b * 16777216) = bv (a * 16777216) ^^^ bv (b * 16777216) := by
  obtain ⟨m, rfl⟩ := Int.eq_ofNat_of_zero_le h0
  obtain ⟨n, rfl⟩ := Int.eq_ofNat_of_zero_le h2
  rw [u8_xor_nat m n (by omega) (by omega)]
  have ha := bv_shl m 24
  have hb := bv_shl n 24
  have hc := bv_shl (m ^^^ n) 24
  rw [show ((2 ^ 24 : Nat) : Int) = 16777216 from rfl] at ha hb hc
  rw [ha, hb, hc, ← ofNat_xor, BitVec.shiftLeft_xor_distrib]
theorem flip_bytes (l : List Int) (p : Nat) (h : bytesB l = true) (hp : p < 8 * l.length) : bytesB (flip l p) = true := by
  have hj : p / 8 < l.length := by omega
  have hr := rd_range l h (p / 8) hj
  have ht := bit_range (p % 8) (by omega)
  have hx := xor256 (rd l ((p / 8 : Nat) : Int)) ((128 / 2 ^ (p % 8) : Nat) : Int) hr.1 hr.2 (by omega) (by omega)
  exact bytesB_set l h _ _ hx.1 hx.2
theorem burstN_bytes (l : List Int) (k b i : Nat) (h : bytesB l = true) (hk : k + i ≤ 8 * l.length) : bytesB (burstN l k b i) = true := by
  induction i with
  | zero => exact h
  | succ i ih =>
    have h1 := ih (by omega)
    unfold burstN
    split
    · exact flip_bytes _ _ h1 (by rw [burstN_length]; omega)
    · exact h1
theorem Tn_bit (m i : Nat) (h : m + i ≤ 31) : Crc.Tn m (BitVec.ofNat 32 (2 ^ i)) = BitVec.ofNat 32 (2 ^ (i + m)) := by
  rw [Crc.Tn_shift m (2 ^ i) ?_, ← Nat.pow_add]
  rw [← Nat.pow_add]
  exact Nat.lt_of_lt_of_le (Nat.pow_lt_pow_right (by decide) (by omega : i + m < 32)) (by decide)
theorem raw_flip (x : BitVec 32) (l : List Int) (k i : Nat) (h : bytesB l = true) (hp : k + i < 8 * l.length) (hi : i < 32) :
    raw x (flip l (k + i)) = raw x l ^^^ Crc.Tn (8 * l.length - k) (BitVec.ofNat 32 (2 ^ (31 - i))) := by
  have hj : (k + i) / 8 < l.length := by omega
  have hr := rd_range l h ((k + i) / 8) hj
  have ht := bit_range ((k + i) % 8) (by omega)
  have h8 : (k + i) % 8 < 8 := by omega
  unfold flip
  rw [raw_set x l _ hj _ (BitVec.ofNat 32 (2 ^ (31 - (k + i) % 8))) ?_]
  · congr 1
    have e1 : 8 * (l.length - (k + i) / 8) = (8 * l.length - (k + i)) + (k + i) % 8 := by omega
    have e2 : 8 * l.length - k = (8 * l.length - (k + i)) + i := by omega
    rw [e1, e2, Crc.Tn_add, Crc.Tn_add, Tn_bit ((k + i) % 8) (31 - (k + i) % 8) (by omega), Tn_bit i (31 - i) (by omega), show 31 - (k + i) % 8 + (k + i) % 8 = 31 by omega, show 31 - i + i = 31 by omega]
  · rw [rd_at l _ hj] at hr ⊢
    rw [bv_top _ _ hr.1 hr.2 (by omega) (by omega)]
    congr 1
    have hs := bv_shl (128 / 2 ^ ((k + i) % 8)) 24
    rw [show ((2 ^ 24 : Nat) : Int) = 16777216 from rfl] at hs
    rw [hs, ← ofNat_shl]
    congr 1
    have : ∀ t : Nat, t < 8 → 128 / 2 ^ t * 2 ^ 24 = 2 ^ (31 - t) := by
      intro t h
      have : t = 0 ∨ t = 1 ∨ t = 2 ∨ t = 3 ∨ t = 4 ∨ t = 5 ∨ t = 6 ∨ t = 7 := by omega
      rcases this with rfl | rfl | rfl | rfl | rfl | rfl | rfl | rfl <;> decide
    exact this _ h8
theorem raw_burst (x : BitVec 32) (l : List Int) (k b i : Nat) (h : bytesB l = true) (hk : k + i ≤ 8 * l.length) (hi : i ≤ 32) :
    raw x (burstN l k b i) = raw x l ^^^ Crc.Tn (8 * l.length - k) (revN b i) := by
  induction i with
  | zero =>
    show raw x l = raw x l ^^^ Crc.Tn (8 * l.length - k) 0#32
    rw [Crc.Tn_zero]
    simp
  | succ i ih =>
    have h1 := ih (by omega) (by omega)
    have hb := burstN_bytes l k b i h (by omega)
    unfold burstN revN
    by_cases hbit : b / 2 ^ i % 2 = 1
    · rw [if_pos hbit, if_pos hbit, raw_flip x _ k i hb (by rw [burstN_length]; omega) (by omega), h1, burstN_length, Crc.Tn_xor, BitVec.xor_assoc]
    · rw [if_neg hbit, if_neg hbit, h1]
theorem revN_bit (b i p : Nat) (hi : i ≤ 32) (hp : p < 32) : (revN b i).getLsbD p = (decide (31 - p < i) && decide (b / 2 ^ (31 - p) % 2 = 1)) := by
  induction i with
  | zero => simp [revN]
  | succ i ih =>
    have h1 := ih (by omega)
    unfold revN
    by_cases hbit : b / 2 ^ i % 2 = 1
    · rw [if_pos hbit, BitVec.getLsbD_xor, h1, BitVec.getLsbD_ofNat, Nat.testBit_two_pow]
      by_cases e : 31 - p = i
      · subst e
        rw [decide_eq_false (by omega : ¬ 31 - p < 31 - p), decide_eq_true (by omega : 31 - p < 31 - p + 1), decide_eq_true hbit, decide_eq_true (by omega : p < 32), decide_eq_true (by omega : 31 - (31 - p) = p)]
        rfl
      · rw [decide_eq_false (by omega : ¬ 31 - i = p)]
        by_cases h : 31 - p < i
        · simp [h, show 31 - p < i + 1 by omega]
        · simp [h, show ¬ 31 - p < i + 1 by omega]
    · rw [if_neg hbit, h1]
      by_cases e : 31 - p = i
      · subst e
        simp [hbit]
      · by_cases h : 31 - p < i
        · simp [h, show 31 - p < i + 1 by omega]
        · simp [h, show ¬ 31 - p < i + 1 by omega]
theorem revN_zero (b : Nat) (hb : b < 4294967296) (h : revN b 32 = 0#32) : b = 0 := by
  apply Nat.eq_of_testBit_eq
  intro j
  rw [Nat.zero_testBit]
  by_cases hj : j < 32
  · have h1 := revN_bit b 32 (31 - j) (by omega) (by omega)
    rw [h, show 31 - (31 - j) = j by omega, decide_eq_true (by omega : j < 32), Bool.true_and] at h1
    have h2 : ¬ b / 2 ^ j % 2 = 1 := by simpa using h1.symm
    rw [Nat.testBit_eq_decide_div_mod_eq, decide_eq_false h2]
  · exact Nat.testBit_lt_two_pow (Nat.lt_of_lt_of_le (show b < 2 ^ 32 from hb) (Nat.pow_le_pow_right (by decide) (by omega)))
/-- A burst spoils what is right. -/
theorem burst_spoils (l : List Int) (k b : Nat) (h : bytesB l = true) (hk : k + 32 ≤ 8 * l.length) (hb : b < 4294967296) (hr : rightB l = true) : rightB (burstN l k b 32) = decide (b = 0) := by
  have h1 := (right_iff l h).1 hr
  have hbb := burstN_bytes l k b 32 h hk
  have h2 := raw_burst ones l k b 32 h hk (by omega)
  have h3 := right_iff (burstN l k b 32) hbb
  rw [burstN_length, h2, h1.2] at h3
  rw [Bool.eq_iff_iff, h3, decide_eq_true_iff]
  constructor
  · rintro ⟨_, h4⟩
    have h5 : Crc.Tn (8 * l.length - k) (revN b 32) = 0#32 := by
      have := congrArg (fun z => Crc.Tn 32 ones ^^^ z) h4
      simp only [← BitVec.xor_assoc, BitVec.xor_self, BitVec.zero_xor] at this
      exact this
    exact revN_zero b hb (Crc.Tn_eq_zero _ _ h5)
  · rintro rfl
    refine ⟨h1.1, ?_⟩
    have : ∀ i, revN 0 i = 0#32 := by
      intro i
      induction i with
      | zero => rfl
      | succ i ih => unfold revN; rw [if_neg (by simp), ih]
    rw [this, Crc.Tn_zero]
    simp
/-- Another byte, another sum. -/
theorem crcM_set (l : List Int) (h : bytesB l = true) (j : Nat) (hj : j < l.length) (x : Int) (h0 : 0 ≤ x) (h1 : x < 256) :
    decide (crcM 0 (l.set j (Go.bits .xor .u8 (rd l (j : Int)) x)) = crcM 0 l) = decide (x = 0) := by
  have hr := rd_range l h j hj
  have hx := xor256 _ x hr.1 hr.2 h0 h1
  have hb := bytesB_set l h j _ hx.1 hx.2
  have r1 := crcRaw_range l 4294967295 (by omega) (by omega) ((bytesB_iff l).1 h)
  have r2 := crcRaw_range _ 4294967295 (by omega) (by omega) ((bytesB_iff _).1 hb)
  have b1 := crcRaw_bv l 4294967295 (by omega) (by omega) ((bytesB_iff l).1 h)
  have b2 := crcRaw_bv _ 4294967295 (by omega) (by omega) ((bytesB_iff _).1 hb)
  rw [raw_set _ l j hj _ (bv (x * 16777216)) (by rw [rd_at l j hj] at hr ⊢; exact bv_top _ _ hr.1 hr.2 h0 h1), ← b1] at b2
  rw [Bool.eq_iff_iff, decide_eq_true_iff, decide_eq_true_iff]
  unfold crcM
  rw [show (4294967295 : Int) - 0 = 4294967295 by omega]
  constructor
  · intro h4
    have h5 : crcRaw 4294967295 (l.set j (Go.bits .xor .u8 (rd l (j : Int)) x)) = crcRaw 4294967295 l := by omega
    rw [h5] at b2
    have h6 : Crc.Tn (8 * (l.length - j)) (bv (x * 16777216)) = 0#32 := by
      have := congrArg (fun z => bv (crcRaw 4294967295 l) ^^^ z) b2
      simp only [← BitVec.xor_assoc, BitVec.xor_self, BitVec.zero_xor] at this
      exact this.symm
    have h7 := Crc.Tn_eq_zero _ _ h6
    have h8 := bv_inj (x * 16777216) 0 (by omega) (by omega) (by omega) (by omega) (by rw [h7]; rfl)
    omega
  · intro h4
    subst h4
    have h6 : bv (0 * 16777216) = 0#32 := rfl
    rw [h6, Crc.Tn_zero] at b2
    have := bv_inj _ _ r2.1 r2.2 r1.1 r1.2 (by rw [b2]; simp)
    omega
theorem crcM_append (a : Int) (p q : List Int) : crcM (crcM a p) q = crcM a (p ++ q) := by
  unfold crcM
  rw [show crcRaw (4294967295 - a) (p ++ q) = crcRaw (crcRaw (4294967295 - a) p) q by simp [crcRaw, List.foldl_append]]
  congr 2
  omega
end Go.Proofs.Ytelhdgnolijpcaa.Hm
