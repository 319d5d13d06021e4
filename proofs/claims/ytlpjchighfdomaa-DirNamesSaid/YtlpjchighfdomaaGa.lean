/- Bytes, strings and numbers as plain lists; slices.Clone of bytes; conditions: those that each theorem names. -/
import Derived.Test.YtlpjchighfdomaaHhead
namespace Go.Proofs.Ytlpjchighfdomaa.Hm
open Go.RowKit Go.Proofs.YtlpjchighfdomaaW.PrintWords Go.Proofs.YtlpjchighfdomaaW.PrintLast Go.Proofs.YtlpjchighfdomaaW.PrintMore
set_option linter.unusedVariables false
set_option linter.unusedSimpArgs false

def bytesB (l : List Int) : Bool := l.all fun x => decide (0 ≤ x) && decide (x < 256)
theorem bytesB_iff (l : List Int) : bytesB l = true ↔ ∀ x ∈ l, 0 ≤ x ∧ x < 256 := by
  simp [bytesB]
def be32 (x : Int) : List Int := [x / 16777216 % 256, x / 65536 % 256, x / 256 % 256, x % 256]
theorem wrap_up (i : Int) (h0 : 0 ≤ i) (h1 : i < 9223372036854775807) : wrap64 (i + 1) = i + 1 := by unfold wrap64; omega
theorem size_strOfNums (l : List Int) : (strOfNums l).size = l.length := by
  show ((l.map fun n => UInt8.ofNat n.toNat).toArray).size = _
  simp
theorem bytesOf_strOfNums (l : List Int) (h : bytesB l = true) : bytesOf (strOfNums l) = l := by
  have h' := (bytesB_iff l).1 h
  unfold bytesOf
  rw [strOfNums_data, List.map_map]
  conv => rhs; rw [← List.map_id l]
  apply List.map_congr_left
  intro x hx
  have := h' x hx
  simp only [Function.comp, id, UInt8.toNat_ofNat']
  omega
theorem bytesOf_range (s : ByteArray) : bytesB (bytesOf s) = true := by
  rw [bytesB_iff]
  intro x hx
  simp only [bytesOf, List.mem_map] at hx
  obtain ⟨b, _, rfl⟩ := hx
  have := b.toNat_lt
  omega
theorem bt_rd (s : ByteArray) (i : Int) : bt s i = rd (bytesOf s) i := (rd_bytesOf s i).symm
theorem bytesOf_inj (s t : ByteArray) (h : bytesOf s = bytesOf t) : s = t := by
  have h1 : s.data.toList = t.data.toList := by
    unfold bytesOf at h
    have hi : Function.Injective (fun b : UInt8 => (b.toNat : Int)) := fun a b hab => UInt8.toNat_inj.1 (Int.ofNat_inj.1 hab)
    exact List.map_inj_right (fun a b hab => hi hab) |>.1 h
  have h2 : s.data = t.data := by
    rw [← Array.toArray_toList (xs := s.data), ← Array.toArray_toList (xs := t.data), h1]
  cases s; cases t; simp_all
theorem toList_iff (s t : ByteArray) : s.toList = t.toList ↔ bytesOf s = bytesOf t := by
  rw [ByteArray.toList_eq, ByteArray.toList_eq]
  constructor
  · intro h; unfold bytesOf; rw [h]
  · intro h; rw [bytesOf_inj s t h]
theorem toList_strs (a b : List Int) (ha : bytesB a = true) (hb : bytesB b = true) : (strOfNums a).toList = (strOfNums b).toList ↔ a = b := by
  rw [toList_iff, bytesOf_strOfNums a ha, bytesOf_strOfNums b hb]
theorem bytesOf_append (s t : ByteArray) : bytesOf (s ++ t) = bytesOf s ++ bytesOf t := by
  unfold bytesOf
  rw [show (s ++ t).data.toList = s.data.toList ++ t.data.toList by simp, List.map_append]
theorem bytesOf_extract (s : ByteArray) (i j : Nat) : bytesOf (s.extract i j) = ((bytesOf s).take j).drop i := by
  unfold bytesOf
  have e : (s.extract i j).data.toList = (s.data.toList.take j).drop i := by
    obtain ⟨⟨l⟩⟩ := s
    have e := ByteArray.extract_mk l i j
    rw [show (ByteArray.mk { toList := l }) = ByteArray.mk l.toArray from rfl, e]
    simp only [List.take_drop]
    by_cases h : i ≤ j
    · rw [show i + (j - i) = j by omega]
    · rw [List.drop_eq_nil_of_le (by rw [List.length_take]; omega), List.drop_eq_nil_of_le (by rw [List.length_take]; omega)]
  rw [e, List.map_drop, List.map_take]
theorem strOfNums_bytesOf (s : ByteArray) : strOfNums (bytesOf s) = s := bytesOf_inj _ _ (bytesOf_strOfNums _ (bytesOf_range s))
theorem bytesB_append (a b : List Int) : bytesB (a ++ b) = (bytesB a && bytesB b) := by simp [bytesB]
theorem bytesB_drop (l : List Int) (k : Nat) (h : bytesB l = true) : bytesB (l.drop k) = true := (bytesB_iff _).2 fun x hx => (bytesB_iff l).1 h x (List.mem_of_mem_drop hx)
theorem bytesB_be32 (x : Int) (h0 : 0 ≤ x) (h1 : x < 4294967296) : bytesB (be32 x) = true := by
  rw [bytesB_iff]
  intro y hy
  simp only [be32, List.mem_cons, List.not_mem_nil, or_false] at hy
  omega
theorem bytesB_of_wf (l : List Int) (h : ∀ x ∈ l, (Lit.int .u8 x).wf = true) : bytesB l = true := by
  rw [bytesB_iff]
  intro x hx
  have := h x hx
  simp [Lit.wf] at this
  simp [IntKind.min, IntKind.max, IntKind.bits, IntKind.signed] at this
  omega
theorem u32_of_wf (x : Int) (h : (Lit.int .u32 x).wf = true) : 0 ≤ x ∧ x < 4294967296 := by
  simp [Lit.wf] at h
  simp [IntKind.min, IntKind.max, IntKind.bits, IntKind.signed] at h
  omega
theorem u16_of_wf (x : Int) (h : (Lit.int .u16 x).wf = true) : 0 ≤ x ∧ x < 65536 := by
  simp [Lit.wf] at h
  simp [IntKind.min, IntKind.max, IntKind.bits, IntKind.signed] at h
  omega
theorem u8_of_wf (x : Int) (h : (Lit.int .u8 x).wf = true) : 0 ≤ x ∧ x < 256 := by
  simp [Lit.wf] at h
  simp [IntKind.min, IntKind.max, IntKind.bits, IntKind.signed] at h
  omega
theorem u64_of_wf (x : Int) (h : (Lit.int .u64 x).wf = true) : 0 ≤ x ∧ x < 18446744073709551616 := by
  simp [Lit.wf] at h
  simp [IntKind.min, IntKind.max, IntKind.bits, IntKind.signed] at h
  omega
theorem i64_of_wf (x : Int) (h : (Lit.int .i64 x).wf = true) : -9223372036854775808 ≤ x ∧ x ≤ 9223372036854775807 := by
  simp [Lit.wf] at h
  simp [IntKind.min, IntKind.max, IntKind.bits, IntKind.signed] at h
  omega
/-- slices.Clone of bytes. -/
def slices_Clone.f (l : List Int) : Option (List Int) := if l.length ≤ 140737488355327 then some l else none
set_option maxHeartbeats 1000000 in
theorem slices_Clone.calls (A0 : Option Addr) (c0 : Nat) (l0 : List Int) (r : List Int) (w : World) (hr0 : Kd.C (Kd.int .u8) w A0 l0.length l0) (hc0 : l0.length ≤ c0) (h : slices_Clone.f l0 = some r) :
    Calls Try.prog 80 #[.slice A0 l0.length c0] w fun e w' => ∃ v0_ : Value, e = .returned v0_ ∧ Kd.R (Kd.int .u8) 5 w' w.heap.size (fun _ => True) v0_ r ∧ Below w.heap.size w w' := by
  unfold slices_Clone.f at h
  by_cases hl : l0.length ≤ 140737488355327
  · rw [if_pos hl] at h
    obtain rfl := Option.some.inj h
    clear h
    have HR := Aside0.mk hr0
    clear hr0
    have hn := fun (w : World) => Lib.run_eql_slice_nil (P := Try.prog) w 22 5 A0 l0.length c0 0 0 Try.underlying22
    cases A0 with
    | none =>
      have e : l0.length = 0 := by
        rcases Nat.eq_zero_or_pos l0.length with h0 | h0
        · exact h0
        · obtain ⟨ad, h1, _⟩ := Kd.at_int HR.out 0 (by omega) (by omega)
          cases h1
      have e' : l0 = [] := List.eq_nil_of_length_eq_zero e
      subst e'
      clear hn
      have hn := fun (w : World) => Lib.run_eql_slice_nil (P := Try.prog) w 22 5 none 0 c0 0 0 Try.underlying22
      go_enter Try.func80, Try.ntmps80
      go_wp2
      go_ret
      exact ⟨_, rfl, Kd.R_nil _ _ _ _ _, Below.refl _ _⟩
    | some ad =>
      go_enter Try.func80, Try.ntmps80
      go_wp2_with (first | ((with_reducible refine gate_dst (N := 5) rfl ?_); refine Kd.R_lit (Kd.int .u8) (w0 := w) w.heap.size 5 ?hg (N := 5) ?hd (xs := []) (inner := []) (ok := fun _ => True) (okp := fun _ => True) ?hr (Reps.none _ _) (fun _ hk => hk) trivial (Below.refl _ _) (Nat.le_refl _) (by simp) ?_; (case hd => rfl); (case hg => rfl); (case hr => first | (go_simp; done) | (go_simp; rfl)); intro v5 w1 hro hb1 hg1 hat1; have HRO := Aside0.mk hro; have HB := Aside0.mk hb1; clear hro hb1 hg1 hat1) | (at_builtin; refine Kd.R_append_row (Value.int .u8) 0 (w0 := w) w.heap.size rfl (.tmp 5) (.tmp 6) 22 5 (.int .u8 0) 1 rfl Try.underlying22 infoB rfl (by decide) v5 [] l0 (some ad) l0.length c0 (fun _ => True) rfl rfl (fun _ _ => trivial) HRO.out (Kd.C_below HR.out HB.out) HB.out HB.out.size (by simp; omega) ?_; intro v7 w2 hro hb2 hg2 hat2; have HRO2 := Aside0.mk hro; have HB2 := Aside0.mk hb2; clear hro hb2 hg2 hat2))
      go_ret
      exact ⟨_, rfl, HRO2.out, HB2.out⟩
  · rw [if_neg hl] at h
    cases h


/-- Eight bytes of a number. -/
def be64 (x : Int) : List Int := be32 (x / 4294967296) ++ be32 (x % 4294967296)
def numN (x : Int) (l : List Int) : Int := l.foldl (fun x c => x * 256 + c) x
/-- The lowest k bytes of a number, the highest first. -/
def beR (x : Int) : Nat → List Int
  | 0 => []
  | k + 1 => (x / 2 ^ (8 * k) % 256) :: beR x k
theorem beR_4 (x : Int) : beR x 4 = be32 x := by simp [beR, be32]
theorem beR_8 (x : Int) (h0 : 0 ≤ x) (h1 : x < 18446744073709551616) : beR x 8 = be64 x := by
  simp only [beR, be64, be32, List.cons_append, List.nil_append, List.cons.injEq]
  refine ⟨?_, ?_, ?_, ?_, ?_, ?_, ?_, ?_, trivial⟩ <;> (simp only [Nat.reduceMul, Int.reducePow]; try omega)
theorem bytesB_take (l : List Int) (k : Nat) (h : bytesB l = true) : bytesB (l.take k) = true := (bytesB_iff _).2 fun x hx => (bytesB_iff l).1 h x (List.mem_of_mem_take hx)
theorem bytesB_zeros (n : Nat) : bytesB (List.replicate n 0) = true := by
  rw [bytesB_iff]
  intro x hx
  rw [List.mem_replicate] at hx
  omega
theorem bytesB_be64 (x : Int) (h0 : 0 ≤ x) (h1 : x < 18446744073709551616) : bytesB (be64 x) = true := by
  unfold be64
  rw [bytesB_append, bytesB_be32 _ (by omega) (by omega), bytesB_be32 _ (by omega) (by omega)]
  rfl
theorem str_append (a b : List Int) (ha : bytesB a = true) (hb : bytesB b = true) : strOfNums a ++ strOfNums b = strOfNums (a ++ b) := by
  apply bytesOf_inj
  rw [bytesOf_append, bytesOf_strOfNums a ha, bytesOf_strOfNums b hb, bytesOf_strOfNums (a ++ b) (by rw [bytesB_append, ha, hb]; rfl)]
theorem rd_at (l : List Int) (k : Nat) (h : k < l.length) : rd l (k : Int) = l[k] := by simp [rd, h]
theorem rd_range (l : List Int) (h : bytesB l = true) (j : Nat) (hj : j < l.length) : 0 ≤ rd l (j : Int) ∧ rd l (j : Int) < 256 := by
  rw [rd_at l j hj]
  exact (bytesB_iff l).1 h _ (List.getElem_mem _)
theorem u64w (x : Int) (h0 : 0 ≤ x) (h1 : x < 18446744073709551616) : IntKind.u64.wrap x = x := by
  simp only [IntKind.wrap, IntKind.bits, IntKind.signed]
  simp
  omega
theorem p64 : (2 : Int) ^ 64 = 18446744073709551616 := rfl
theorem p8 : (2 : Int) ^ 8 = 256 := rfl
theorem u64_or8' (x y : Int) (hx0 : 0 ≤ x) (hx1 : x * 256 < 18446744073709551616) (hy0 : 0 ≤ y) (hy1 : y < 256) : Go.bits .or .u64 (x * 256) y = x * 256 + y :=
  bits_join .u64 64 (by decide) (fun n h0 h1 => u64w n h0 (by rw [p64] at h1; exact h1)) 8 (x * 256) y (by omega) (by rw [p8]; omega) (by rw [p64]; exact hx1) hy0 (by rw [p8]; exact hy1) (by rw [p64]; omega)
theorem p256 (i : Nat) (h : i ≤ 7) : (256 : Int) ^ i ≤ 72057594037927936 := by
  have h1 := Nat.pow_le_pow_right (n := 256) (by omega) h
  have h2 : (256 ^ 7 : Nat) = 72057594037927936 := rfl
  rw [h2] at h1
  have h3 := Int.ofNat_le.2 h1
  rw [Int.natCast_pow] at h3
  exact h3

theorem u32w (x : Int) (h0 : 0 ≤ x) (h1 : x < 4294967296) : IntKind.u32.wrap x = x := by
  simp only [IntKind.wrap, IntKind.bits, IntKind.signed]
  simp
  omega
theorem p32 : (2 : Int) ^ 32 = 4294967296 := rfl
theorem u32_or8' (x y : Int) (hx0 : 0 ≤ x) (hx1 : x * 256 < 4294967296) (hy0 : 0 ≤ y) (hy1 : y < 256) : Go.bits .or .u32 (x * 256) y = x * 256 + y :=
  bits_join .u32 32 (by decide) (fun n h0 h1 => u32w n h0 (by rw [p32] at h1; exact h1)) 8 (x * 256) y (by omega) (by rw [p8]; omega) (by rw [p32]; exact hx1) hy0 (by rw [p8]; exact hy1) (by rw [p32]; omega)
theorem p256s (i : Nat) (h : i ≤ 3) : (256 : Int) ^ i ≤ 16777216 := by
  have h1 := Nat.pow_le_pow_right (n := 256) (by omega) h
  have h2 : (256 ^ 3 : Nat) = 16777216 := rfl
  rw [h2] at h1
  have h3 := Int.ofNat_le.2 h1
  rw [Int.natCast_pow] at h3
  exact h3
/-- Bytes, with how many they are, filled up to four. -/
def opq (l : List Int) : List Int := be32 l.length ++ l ++ List.replicate ((4 - l.length % 4) % 4) 0
end Go.Proofs.Ytlpjchighfdomaa.Hm
