/- Part B of the lemmas and walks of the Go functions that these statements reach; conditions: those that each theorem names. -/
import Derived.Test.YtanemmcddgkpdaaGreatJA
import Derived.Lib.IndexAny
import Derived.Lib.IndexBytes
import Derived.Lib.AsciiSet
import Derived.Lib.Bytealg
import Derived.Laws.RangeString
import Derived.Laws.Strings3
import Derived.Laws.StandIn
import Derived.Laws.ResultCell
import Derived.Deep.WholeRow
import Derived.Lib.OthersKept
section
/- Go's strings.ContainsAny at the two bytes that part names: whatever string comes in; conditions: those that each theorem names. -/
namespace Go.Proofs.YtanemmcddgkpdaaGreat.Hm
open Go.RowKit Go.Proofs.YtanemmcddgkpdaaGreatW.PrintWords Go.Proofs.YtanemmcddgkpdaaGreatW.PrintLast Go.Proofs.YtanemmcddgkpdaaGreatW.PrintMore
set_option linter.unusedVariables false
set_option linter.unusedSimpArgs false
theorem quiet_add_same {P : Program} {f : FuncId} {args : Array Value} {w : World} {a n : Nat} {v : Value}
    (h : Calls P f args (w.drewN (a + n)) fun e w' => e = .returned v ∧ w' = w.drewN (a + n)) :
    Calls P f args (w.drewN (a + n)) fun e w'' => e = .returned v ∧ ∃ m, w'' = w.drewN (a + m) :=
  h.mono fun _ _ ⟨he, hm⟩ => ⟨he, n, hm⟩
/-- The string of the bytes 47 and 0. -/
def seps : ByteArray := ⟨#[47, 0]⟩
set_option maxHeartbeats 1000000 in
set_option maxRecDepth 100000 in
theorem liteIndexByte_any (s : ByteArray) (c : Int) (w : World) :
    Calls Tryz.prog 170 #[.string s, .int .u8 c] w fun e w' => e = .returned (.int .i64 (Lib.indexByte s.data.toList c.toNat.toUInt8)) ∧ w' = w := by
  go_enter Tryz.func170, Tryz.ntmps170
  go_wp2
  rw [run_callFunc_extern Tryz.func173 (by kernel_rfl) (by kernel_rfl) (by kernel_rfl) (e := Extern.BytealgIndexByte.indexByte) (by kernel_rfl), Lib.run_indexByteString]
  simp only [Result.andThen]
  rw [Oper.upon_value]
  go_wp2
  go_ret
  exact ⟨rfl, rfl⟩
theorem IndexByte_any (s : ByteArray) (c : Int) (w : World) :
    Calls Tryz.prog 157 #[.string s, .int .u8 c] w fun e w' => e = .returned (.int .i64 (Lib.indexByte s.data.toList c.toNat.toUInt8)) ∧ w' = w := by
  go_enter Tryz.func157, Tryz.ntmps157
  go_wp2_with (go_at_call 170; (with_reducible refine (liteIndexByte_any s c _).mono ?_); rintro e w1 ⟨rfl, rfl⟩)
  go_ret
  exact ⟨rfl, rfl⟩
/-- Bytes from 128 on are read as a rune from 128 on; it takes such bytes alone. -/
theorem decode_high (s : ByteArray) (i : Nat) (h : i < s.size) (hb : 128 ≤ (s[i]'h).toNat) :
    ∃ c n, Utf8.decode s i = (c, n) ∧ 128 ≤ c ∧ c ≤ 1114111 ∧ (c < 55296 ∨ 57343 < c) ∧ 1 ≤ n ∧ i + n ≤ s.size ∧ ∀ j (hj : j < s.size), i ≤ j → j < i + n → 128 ≤ (s[j]'hj).toNat := by
  have e0 : s.get! (i + 0) = s[i]'h := by
    show s.get! i = _
    simp [ByteArray.get!, getElem!_pos, h]
    rfl
  have ek : ∀ k, (hk : i + k < s.size) → s.get! (i + k) = s[i + k]'hk := by
    intro k hk
    simp [ByteArray.get!, getElem!_pos, hk]
    rfl
  have one : ∀ j (hj : j < s.size), i ≤ j → j < i + 1 → 128 ≤ (s[j]'hj).toNat := by
    intro j hj h1 h2
    obtain rfl : j = i := by omega
    exact hb
  unfold Utf8.decode
  simp only [e0]
  rw [if_neg (by omega)]
  split
  · rename_i hc
    simp only [Bool.and_eq_true, decide_eq_true_eq, beq_iff_eq] at hc
    obtain ⟨h6, h1, h2⟩ := hc
    rw [ek 1 h1] at h2 ⊢
    split
    · refine ⟨_, _, rfl, by omega, by omega, by omega, by omega, by omega, ?_⟩
      intro j hj g1 g2
      rcases (by omega : j = i ∨ j = i + 1) with rfl | rfl
      · exact hb
      · omega
    · exact ⟨_, _, rfl, by simp [Utf8.runeError], by simp [Utf8.runeError], by simp [Utf8.runeError], by omega, by omega, one⟩
  · split
    · rename_i hc
      simp only [Bool.and_eq_true, decide_eq_true_eq, beq_iff_eq] at hc
      obtain ⟨⟨h6, h1, h2⟩, h3, h4⟩ := hc
      rw [ek 1 h1] at h2 ⊢
      rw [ek 2 h3] at h4 ⊢
      split
      · rename_i hv
        simp only [Bool.and_eq_true, decide_eq_true_eq, ge_iff_le, Utf8.valid] at hv
        refine ⟨_, _, rfl, by omega, by omega, ?_, by omega, by omega, ?_⟩
        · have := hv.2; simp at this; omega
        · intro j hj g1 g2
          rcases (by omega : j = i ∨ j = i + 1 ∨ j = i + 2) with rfl | rfl | rfl
          · exact hb
          · omega
          · omega
      · exact ⟨_, _, rfl, by simp [Utf8.runeError], by simp [Utf8.runeError], by simp [Utf8.runeError], by omega, by omega, one⟩
    · split
      · rename_i hc
        simp only [Bool.and_eq_true, decide_eq_true_eq, beq_iff_eq] at hc
        obtain ⟨⟨⟨h6, h1, h2⟩, h3, h4⟩, h5, h7⟩ := hc
        rw [ek 1 h1] at h2 ⊢
        rw [ek 2 h3] at h4 ⊢
        rw [ek 3 h5] at h7 ⊢
        split
        · rename_i hv
          simp only [Bool.and_eq_true, decide_eq_true_eq, ge_iff_le, Utf8.valid] at hv
          refine ⟨_, _, rfl, by omega, ?_, ?_, by omega, by omega, ?_⟩
          · have := hv.2; simp at this; omega
          · have := hv.2; simp at this; omega
          · intro j hj g1 g2
            rcases (by omega : j = i ∨ j = i + 1 ∨ j = i + 2 ∨ j = i + 3) with rfl | rfl | rfl | rfl
            · exact hb
            · omega
            · omega
            · omega
        · exact ⟨_, _, rfl, by simp [Utf8.runeError], by simp [Utf8.runeError], by simp [Utf8.runeError], by omega, by omega, one⟩
      · exact ⟨_, _, rfl, by simp [Utf8.runeError], by simp [Utf8.runeError], by simp [Utf8.runeError], by omega, by omega, one⟩
def sepR (r : Int) : Bool := decide (r = 47 ∨ r = 0)
theorem sepR_index (r : Int) (h0 : 0 ≤ r) (h1 : r < 128) : decide (0 ≤ Lib.indexByte seps.data.toList r.toNat.toUInt8) = sepR r := by
  obtain ⟨n, rfl⟩ := Int.eq_ofNat_of_zero_le h0
  have hn : n < 128 := by omega
  have key : ∀ m : Fin 128, decide (0 ≤ Lib.indexByte seps.data.toList ((m.val : Int)).toNat.toUInt8) = sepR (m.val : Int) := by decide +kernel
  exact key ⟨n, hn⟩
set_option maxHeartbeats 2000000 in
set_option maxRecDepth 100000 in
theorem IndexRune_low (r : Int) (w : World) (h0 : 0 ≤ r) (h1 : r < 128) :
    Calls Tryz.prog 134 #[.string seps, .int .i32 r] w fun e w' => (∃ z : Int, e = .returned (.int .i64 z) ∧ decide (0 ≤ z) = sepR r) ∧ Below w.heap.size w w' := by
  have hw : r % 256 = r := Int.emod_eq_of_lt h0 (by omega)
  have HZ := Aside0.mk (sepR_index r h0 h1)
  go_enter Tryz.func134, Tryz.ntmps134
  go_wp2_with (go_at_call 157; (with_reducible refine (IndexByte_any seps r _).mono ?_); rintro e w1 ⟨rfl, rfl⟩)
  go_ret
  exact ⟨⟨_, rfl, HZ.out⟩, Below.refl _ _⟩
theorem seps_at (i : Nat) (h : i < seps.size) : (seps[i]'h).toNat = if i = 0 then 47 else 0 := by
  have h2 : i < 2 := h
  rcases (by omega : i = 0 ∨ i = 1) with rfl | rfl <;> rfl
set_option maxHeartbeats 2000000 in
set_option maxRecDepth 100000 in
theorem IndexRune_err (w : World) :
    Calls Tryz.prog 134 #[.string seps, .int .i32 65533] w fun e w' => (∃ z : Int, e = .returned (.int .i64 z) ∧ decide (0 ≤ z) = sepR 65533) ∧ Below w.heap.size w w' := by
  have HS : Aside0 (seps.size = 2) := ⟨rfl⟩
  have hs0 : seps.size ≤ 2 := Nat.le_refl _
  obtain ⟨sp, hsp⟩ : ∃ x, seps = x := ⟨_, rfl⟩
  rw [hsp] at HS hs0
  simp only [hsp]
  have HSP := Aside0.mk hsp
  clear hsp
  go_enter Tryz.func134, Tryz.ntmps134
  go_wp2
  go_loopg [5, 6] sp.size (fun g _ _ wx => ∃ i : Nat, i + g = sp.size ∧ wx = w.iter sp i)
  case atStart => exact ⟨0, by omega, rfl⟩
  case round =>
    obtain ⟨i, hig, rfl⟩ := hrel
    cases gk with
    | zero =>
      have hi : i = sp.size := by omega
      subst hi
      have hnx := run_next_end (P := Tryz.prog) w sp sp.size
      go_wp2
      go_ret
      exact ⟨⟨-1, rfl, rfl⟩, below_alloc (Below.refl _ _) _⟩
    | succ g =>
      have hi : i < sp.size := by omega
      obtain ⟨x, hx⟩ : ∃ x : UInt8, sp[i]'hi = x := ⟨_, rfl⟩
      have hx128 : x.toNat < 128 := by
        have h := HSP.out
        subst h
        rw [← hx, seps_at i hi]
        split <;> omega
      have hnx := fun ty => run_next_ascii (P := Tryz.prog) w sp i ty hi (by rw [hx]; exact hx128)
      rw [hx] at hnx
      have hne : ((x.toNat : Int) == 65533) = false := by simp; omega
      clear hx
      go_wp2
      go_roundg g
      case measure => omega
      case rel => exact ⟨i + 1, by omega, rfl⟩
theorem encode_size (r : Int) (h0 : 128 ≤ r) (h1 : r ≤ 1114111) (hv : r < 55296 ∨ 57343 < r) : ∃ n, (Utf8.encode r).size = n + 2 ∧ n ≤ 2 ∧ ∀ (h : 1 < (Utf8.encode r).size), 128 ≤ ((Utf8.encode r)[1]'h).toNat := by
  have hval : Utf8.valid r = true := by unfold Utf8.valid; simp; omega
  obtain ⟨c, rfl⟩ := Int.eq_ofNat_of_zero_le (show 0 ≤ r by omega)
  by_cases c1 : c < 2048
  · have he : Utf8.encode (c : Int) = ⟨#[UInt8.ofNat (192 + c / 64), UInt8.ofNat (128 + c % 64)]⟩ := by
      unfold Utf8.encode
      rw [hval]
      simp only [if_true, Int.toNat_natCast]
      rw [if_neg (by omega), if_pos c1]
    rw [he]
    refine ⟨0, rfl, by omega, fun h => ?_⟩
    show 128 ≤ (UInt8.ofNat (128 + c % 64)).toNat
    simp; omega
  · by_cases c2 : c < 65536
    · have he : Utf8.encode (c : Int) = ⟨#[UInt8.ofNat (224 + c / 4096), UInt8.ofNat (128 + c / 64 % 64), UInt8.ofNat (128 + c % 64)]⟩ := by
        unfold Utf8.encode
        rw [hval]
        simp only [if_true, Int.toNat_natCast]
        rw [if_neg (by omega), if_neg c1, if_pos c2]
      rw [he]
      refine ⟨1, rfl, by omega, fun h => ?_⟩
      show 128 ≤ (UInt8.ofNat (128 + c / 64 % 64)).toNat
      simp; omega
    · have he : Utf8.encode (c : Int) = ⟨#[UInt8.ofNat (240 + c / 262144), UInt8.ofNat (128 + c / 4096 % 64), UInt8.ofNat (128 + c / 64 % 64), UInt8.ofNat (128 + c % 64)]⟩ := by
        unfold Utf8.encode
        rw [hval]
        simp only [if_true, Int.toNat_natCast]
        rw [if_neg (by omega), if_neg c1, if_neg c2]
      rw [he]
      refine ⟨2, rfl, by omega, fun h => ?_⟩
      show 128 ≤ (UInt8.ofNat (128 + c / 4096 % 64)).toNat
      simp; omega
set_option maxHeartbeats 1000000 in
theorem ValidRune_any (r : Int) (w : World) (h0 : 128 ≤ r) (h1 : r ≤ 1114111) (hv : r < 55296 ∨ 57343 < r) :
    Calls Tryz.prog 158 #[.int .i32 r] w fun e w' => e = .returned (.bool true) ∧ w' = w := by
  rcases hv with hv | hv
  · go_enter Tryz.func158, Tryz.ntmps158
    go_wp2
    go_ret
    exact ⟨rfl, rfl⟩
  · have hd : decide (r < 55296) = false := decide_eq_false (by omega)
    go_enter Tryz.func158, Tryz.ntmps158
    go_wp2
    go_ret
    exact ⟨rfl, rfl⟩
set_option maxHeartbeats 4000000 in
set_option maxRecDepth 100000 in
theorem IndexRune_high (sp : ByteArray) (hs0 : sp.size ≤ 2) (hs1 : 2 ≤ sp.size) (hq' : ∀ h : 1 < sp.size, (sp[1]'h).toNat < 128) (r : Int) (w : World) (h0 : 128 ≤ r) (h1 : r ≤ 1114111) (hv : r < 55296 ∨ 57343 < r) (hne : r ≠ 65533) :
    Calls Tryz.prog 134 #[.string sp, .int .i32 r] w fun e w' => (∃ z : Int, e = .returned (.int .i64 z) ∧ decide (0 ≤ z) = sepR r) ∧ Below w.heap.size w w' := by
  obtain ⟨n, hn, hn2, hb⟩ := encode_size r h0 h1 hv
  have hd1 : ((r : Int) == 65533) = false := by simp [hne]
  have hd2 : decide (r < 128) = false := decide_eq_false (by omega)
  have HSR : Aside0 (sepR r = false) := ⟨decide_eq_false (by omega)⟩
  have HV := Aside0.mk hv
  obtain ⟨rs, hrs⟩ : ∃ x, Utf8.encode r = x := ⟨_, rfl⟩
  rw [hrs] at hn
  simp only [hrs] at hb
  have hz1 : rs.size ≤ 4 := by omega
  have hz2 : 2 ≤ rs.size := by omega
  have hb1 := hb hz2
  have hnx : (-1 : Int) < 0 := by decide
  have hq := hq' hs1
  clear hne hv hn hb hq'
  by_cases h2 : rs.size ≤ 2
  · have he : rs.size = 2 := by omega
    have hne2 : ((sp[1].toNat : Int) != (rs[1].toNat : Int)) = true := by simp; omega
    have hsps : sp.size = 2 := by omega
    go_enter Tryz.func134, Tryz.ntmps134
    go_wp2_with (go_at_call 158; (with_reducible refine (ValidRune_any r _ h0 h1 HV.out).mono ?_); rintro e w1 ⟨rfl, rfl⟩)
    go_step3
    go_wp2
    go_loopg [9] 0 (fun _ v9 w' => v9 = .int .i64 1 ∧ w' = w1)
    case atStart => exact ⟨rfl, rfl⟩
    case round =>
      obtain ⟨rfl, rfl⟩ := hrel
      go_wp2
      go_step3
      go_wp2
      go_quiet (fail)
      go_wp2
      go_quiet ((go_at_call 157; exact quiet_add_same (IndexByte_any _ _ _)))
      have hemp : ∀ x : UInt8, Lib.indexByte ByteArray.empty.data.toList x = -1 := fun _ => rfl
      simp only [hemp]
      clear hemp
      go_wp2
      rw [Exit.noGoto_ret]
      go_wp2
      try rw [Exit.noGoto_ret]
      go_ret
      exact ⟨⟨-1, rfl, by rw [HSR.out]; rfl⟩, pw_below_drewN (Below.refl _ _) _⟩
  · have hd : decide ((rs.size : Int) - 1 < (sp.size : Int)) = false := decide_eq_false (by omega)
    go_enter Tryz.func134, Tryz.ntmps134
    go_wp2_with (go_at_call 158; (with_reducible refine (ValidRune_any r _ h0 h1 HV.out).mono ?_); rintro e w1 ⟨rfl, rfl⟩)
    go_step3
    go_wp2
    go_loopg [9] 0 (fun _ v9 w' => v9 = .int .i64 ((rs.size : Int) - 1) ∧ w' = w1)
    case atStart => exact ⟨by go_num, rfl⟩
    case round =>
      obtain ⟨rfl, rfl⟩ := hrel
      go_wp2
      rw [Exit.noGoto_ret]
      go_ret
      exact ⟨⟨-1, rfl, by rw [HSR.out]; rfl⟩, Below.refl _ _⟩
theorem IndexRune_any (r : Int) (w : World) (h0 : 0 ≤ r) (h1 : r ≤ 1114111) (hv : r < 55296 ∨ 57343 < r) :
    Calls Tryz.prog 134 #[.string seps, .int .i32 r] w fun e w' => (∃ z : Int, e = .returned (.int .i64 z) ∧ decide (0 ≤ z) = sepR r) ∧ Below w.heap.size w w' := by
  by_cases c1 : r < 128
  · exact IndexRune_low r w h0 c1
  · by_cases c2 : r = 65533
    · subst c2; exact IndexRune_err w
    · exact IndexRune_high seps (Nat.le_refl _) (Nat.le_refl _) (fun h => by rw [seps_at]; decide) r w (by omega) h1 hv c2
/-- Does one of the bytes part names? -/
def sepB (l : List Int) : Bool := l.any sepR
set_option maxHeartbeats 1000000 in
theorem useSet_any (n : Int) (w : World) :
    Calls Tryz.prog 135 #[.int .i64 n] w fun e w' => e = .returned (.bool (decide (8 < n))) ∧ w' = w := by
  go_enter Tryz.func135, Tryz.ntmps135
  go_wp2
  go_ret
  exact ⟨rfl, rfl⟩
theorem byte_rd (s : ByteArray) (i : Nat) (h : i < s.size) : ((s[i]'h).toNat : Int) = rd (bytesOf s) (i : Int) := by
  rw [rd_at (bytesOf s) i (by rw [bytesOf_length]; exact h)]
  simp [bytesOf]
  rfl
theorem sepB_take (s : ByteArray) (i : Nat) (h : i < s.size) : sepB ((bytesOf s).take (i + 1)) = (sepB ((bytesOf s).take i) || sepR ((s[i]'h).toNat : Int)) := by
  rw [List.take_succ_eq_append_getElem (by rw [bytesOf_length]; exact h), byte_rd s i h, rd_at (bytesOf s) i (by rw [bytesOf_length]; exact h)]
  simp only [sepB, List.any_append, List.any_cons, List.any_nil, Bool.or_false]
theorem sepR_high (r : Int) (h : 128 ≤ r) : sepR r = false := decide_eq_false (by omega)
theorem sepB_high (s : ByteArray) (i n : Nat) (hn : i + n ≤ s.size) (hh : ∀ j (hj : j < s.size), i ≤ j → j < i + n → 128 ≤ (s[j]'hj).toNat) : sepB ((bytesOf s).take (i + n)) = sepB ((bytesOf s).take i) := by
  induction n with
  | zero => rfl
  | succ n ih =>
    rw [← Nat.add_assoc, sepB_take s (i + n) (by omega), ih (by omega) (fun j hj a b => hh j hj a (by omega)), sepR_high _ (by have := hh (i + n) (by omega) (by omega) (by omega); omega), Bool.or_false]
theorem sepB_hit (l : List Int) (i : Nat) (h : sepB (l.take i) = true) : sepB l = true := by
  unfold sepB at h ⊢
  rw [List.any_eq_true] at h ⊢
  obtain ⟨x, hx, hy⟩ := h
  exact ⟨x, List.mem_of_mem_take hx, hy⟩
theorem below_iter {w W : World} (h : Below w.heap.size w W) (k : Nat) (hk : w.heap.size ≤ k) (s : ByteArray) (p : Nat) : Below w.heap.size w (W.iterAt k s p) :=
  ⟨h.os, h.tape, h.output, by simpa [World.iterAt] using h.size, fun i hi => by
    have e : (W.iterAt k s p).heap[i]? = W.heap[i]? := by
      simp only [World.iterAt]
      rw [Array.getElem?_setIfInBounds_ne (by omega)]
    rw [e]
    exact h.block i hi⟩
theorem iter_at {W : World} {k : Nat} {s : ByteArray} {p : Nat} (h : W.heap[k]? = some (.stringIter s p)) (q : Nat) : (W.iterAt k s q).heap[k]? = some (.stringIter s q) := by
  have hl := blk_lt h
  simp [World.iterAt, hl]
/-- The rune at a place: what it says of the bytes that it takes. -/
theorem decode_sep (s : ByteArray) (i : Nat) (h : i < s.size) : ∃ c n, Utf8.decode s i = (c, n) ∧ c ≤ 1114111 ∧ (c < 55296 ∨ 57343 < c) ∧ 1 ≤ n ∧ i + n ≤ s.size ∧ sepB ((bytesOf s).take (i + n)) = (sepB ((bytesOf s).take i) || sepR (c : Int)) := by
  by_cases hb : (s[i]'h).toNat < 128
  · refine ⟨_, _, decode_ascii s i h hb, by omega, by omega, by omega, by omega, sepB_take s i h⟩
  · obtain ⟨c, n, hd, h1, h2, h3, h4, h5, h6⟩ := decode_high s i h (by omega)
    exact ⟨c, n, hd, h2, h3, h4, h5, by rw [sepB_high s i n h5 h6, sepR_high _ (by omega), Bool.or_false]⟩
set_option maxHeartbeats 4000000 in
set_option maxRecDepth 100000 in
theorem IndexAny_short (s : ByteArray) (w : World) (h8 : s.size ≤ 8) :
    Calls Tryz.prog 106 #[.string s, .string seps] w fun e w' => (∃ z : Int, e = .returned (.int .i64 z) ∧ decide (0 ≤ z) = sepB (bytesOf s)) ∧ Below w.heap.size w w' := by
  have hemp : seps.toList.isEmpty = false := by decide +kernel
  have hn1 : ((seps.size : Int) == 1) = false := by decide +kernel
  have h8z : decide ((8 : Int) < (s.size : Int)) = false := decide_eq_false (by omega)
  go_enter Tryz.func106, Tryz.ntmps106
  go_wp2_with (go_at_call 135; (with_reducible refine (useSet_any _ _).mono ?_); rintro e w1 ⟨rfl, rfl⟩)
  go_loopg [9, 10] s.size (fun g _ _ wx => ∃ i : Nat, i + g = s.size ∧ Aside0 (Below w1.heap.size w1 wx) ∧ wx.heap[w1.heap.size]? = some (.stringIter s i) ∧ Aside0 (sepB ((bytesOf s).take i) = false))
  case atStart => exact ⟨0, by omega, ⟨below_alloc (Below.refl _ _) _⟩, World.iter_heap _ _ _, ⟨rfl⟩⟩
  case round =>
    obtain ⟨i, hig, HB, hit, HN⟩ := hrel
    by_cases hi : i < s.size
    · obtain ⟨c, n, hd, h1, h2, h3, h4, h5⟩ := decode_sep s i hi
      have hnx := fun ty => Lib.run_next_any_at (P := Tryz.prog) wr w1.heap.size s i ty hit hi
      rw [hd] at hnx
      dsimp only at hnx
      have HI := Aside0.mk (iter_at hit (i + n))
      have HB2 := Aside0.mk (below_iter HB.out w1.heap.size (Nat.le_refl _) s (i + n))
      rw [HN.out, Bool.false_or] at h5
      have H5 := Aside0.mk h5
      obtain ⟨W2, hW2⟩ : ∃ x, wr.iterAt w1.heap.size s (i + n) = x := ⟨_, rfl⟩
      rw [hW2] at HI HB2
      simp only [hW2] at hnx
      clear hW2 hit hd h5
      cases hs : sepR (c : Int) with
      | true =>
        rw [hs] at H5
        have HS := Aside0.mk hs
        clear hs
        go_wp2_with fail
        (with_reducible refine (IndexRune_any (c : Int) _ (by omega) (by omega) (by omega)).mono ?_)
        rintro e w3 ⟨⟨z, rfl, hz⟩, hb3⟩
        rw [HS.out] at hz
        have HB3 := Aside0.mk (below_step HB2.out hb3)
        clear hb3
        go_wp2
        go_ret
        exact ⟨⟨(i : Int), rfl, by rw [sepB_hit _ _ H5.out]; exact decide_eq_true (by omega)⟩, HB3.out⟩
      | false =>
        rw [hs] at H5
        have HS := Aside0.mk hs
        clear hs
        go_wp2_with fail
        (with_reducible refine (IndexRune_any (c : Int) _ (by omega) (by omega) (by omega)).mono ?_)
        rintro e w3 ⟨⟨z, rfl, hz⟩, hb3⟩
        rw [HS.out] at hz
        have HB3 := Aside0.mk (below_step HB2.out hb3)
        have HI3 := Aside0.mk (blk_below HI.out hb3)
        clear hb3
        go_wp2
        go_roundg (s.size - (i + n))
        case measure => omega
        case rel => exact ⟨i + n, by omega, HB3, HI3.out, H5⟩
    · have hi2 : i = s.size := by omega
      subst hi2
      have hnx := fun ty => Lib.run_next_end_at (P := Tryz.prog) wr w1.heap.size s s.size ty hit (Nat.lt_irrefl _)
      have hnn := HN.out
      rw [List.take_of_length_le (by rw [bytesOf_length]; exact Nat.le_refl _)] at hnn
      have HN2 := Aside0.mk hnn
      clear hnn
      go_wp2
      go_ret
      exact ⟨⟨-1, rfl, by rw [HN2.out]; rfl⟩, HB.out⟩
end Go.Proofs.YtanemmcddgkpdaaGreat.Hm
end
section
/- Go's strings.ContainsAny at the two bytes that part names, and dir.Name: whatever string comes in; conditions: those that each theorem names. -/
namespace Go.Proofs.YtanemmcddgkpdaaGreat.Hm
open Go.RowKit Go.Proofs.YtanemmcddgkpdaaGreatW.PrintWords Go.Proofs.YtanemmcddgkpdaaGreatW.PrintLast Go.Proofs.YtanemmcddgkpdaaGreatW.PrintMore
set_option linter.unusedVariables false
set_option linter.unusedSimpArgs false
theorem setSize : (Tryz.prog.info? 190).map (·.size) = some 256 := by kernel_rfl
theorem wp_loads {P : Program} {o : Oper} {a : Act} {w w' : World} {K : Act → World → Prop} {Q : Exit → Act → World → Prop} {t : TypeId} {x : Operand} {A v : Value} (ho : o.op = .load t x) (hx : a.eval x = A)
    (hr : (Instr.loadAt t A).run P w = .ok v w') (h : K (a.put o.dst v) w') : Oper.wp P o a w K Q := by
  have e : (execOp a.eval o).run P w = .ok (.value v) w' := by unfold execOp; simp [ho, hx, hr]
  unfold Oper.wp
  rw [e, Oper.upon_value]
  exact h
set_option maxHeartbeats 4000000 in
set_option maxRecDepth 1000000 in
theorem makeSet_any (w : World) :
    Calls Tryz.prog 136 #[.string seps] w fun e w' => e = .returned (.tuple #[.agg (Lib.setCells seps.data.toList), .bool true]) ∧ w' = w.alloc (.cells (Lib.setCells seps.data.toList) 190) := by
  obtain ⟨chars, hch⟩ : ∃ x, seps = x := ⟨_, rfl⟩
  have HA : Aside0 (∀ (j : Nat) b, chars.data.toList[j]? = some b → b.toNat < 128) := ⟨by
    subst hch
    intro j b hb
    rcases j with _ | _ | j
    · obtain rfl : 47 = b := by simpa [seps] using hb
      decide
    · obtain rfl : 0 = b := by simpa [seps] using hb
      decide
    · simp [seps] at hb⟩
  have hcz : chars.size ≤ 2 := by subst hch; exact Nat.le_refl _
  rw [hch]
  clear hch
  go_enter Tryz.func136, Tryz.ntmps136
  go_wp2
  rw [show Tryz.zeroCells190 = Lib.setCells [] from by kernel_rfl]
  go_loopg [4] chars.size (fun g s4 wx => ∃ i : Nat, i + g = chars.size ∧ s4 = .int .i64 i ∧ wx = w.alloc (.cells (Lib.setCells (chars.data.toList.take i)) 190))
  case atStart => exact ⟨0, by omega, rfl, rfl⟩
  case round =>
    obtain ⟨i, hig, rfl, rfl⟩ := hrel
    cases gk with
    | zero =>
      obtain rfl : i = chars.size := by omega
      have hiz : ¬ ((chars.size : Int) < (chars.size : Int)) := by omega
      rw [show chars.data.toList.take chars.size = chars.data.toList from List.take_of_length_le (by rw [← Lib.size_eq]; exact Nat.le_refl _)]
      have hld := run_loadVar_new (P := Tryz.prog) w 190 (Lib.setCells chars.data.toList) 256 4 Tryz.underlying190 (by rw [Lib.setCells_size]; exact setSize)
      have hsz := Lib.setCells_size chars.data.toList
      have hla := run_loadAt_new (P := Tryz.prog) w 190 (Lib.setCells chars.data.toList) 256 4 Tryz.underlying190 (by rw [Lib.setCells_size]; exact setSize)
      have hsa := run_storeAt_new (P := Tryz.prog) w 190 (Lib.setCells chars.data.toList) (Lib.setCells chars.data.toList) (by rw [hsz]; exact setSize) rfl (Lib.setCells_one _)
      go_wp2
      refine wp_loads rfl rfl hla ?_
      go_wp2
      have hsc := run_storeCells_new (P := Tryz.prog) w 190 (Lib.setCells chars.data.toList) (Lib.setCells chars.data.toList) (by rw [hsz]; exact setSize) rfl (Lib.setCells_one _)
      simp only [Result.andThen, hsc]
      rw [Oper.upon_skip]
      go_wp2
      (try simp only [Exit.inBlock, Exit.then])
      refine bodyPost_ret (v := .tuple #[.agg (Lib.setCells chars.data.toList), .bool true]) ?_ rfl ⟨rfl, rfl⟩
      rw [results_cell_tmp rfl]
      simp [asAddr, Result.andThen, hld]
    | succ g =>
      have hi : i < chars.size := by omega
      have hiz : (i : Int) < (chars.size : Int) := by omega
      obtain ⟨x, hx⟩ : ∃ x : UInt8, chars[i]'hi = x := ⟨_, rfl⟩
      have hxl : chars.data.toList[i]? = some x := by rw [← hx]; exact Lib.data_getElem? chars i hi
      have hx128 : ¬ ((128 : Int) ≤ (x.toNat : Int)) := by have := HA.out i x hxl; omega
      have hx256 : (x.toNat : Int) < 256 := by have := HA.out i x hxl; omega
      have hcell := Lib.setCells_at (chars.data.toList.take i) x
      have Hx := Aside0.mk hxl
      clear hxl
      go_wp2
      go_roundg g
      case measure => omega
      case rel => exact ⟨i + 1, by omega, by go_num, by rw [List.take_add_one, Hx.out]; simp only [Option.toList]; rw [Lib.setCells_snoc]⟩
theorem setHas_any (b : Nat) (x : UInt8) (v : Bool) (w : World) (hc : w.cell? ⟨b, x.toNat, none⟩ = some (.bool v)) :
    Calls Tryz.prog 137 #[.pointer (some ⟨b, 0, none⟩), .int .u8 x.toNat] w fun e w' => e = .returned (.bool v) ∧ w' = w := by
  have hx256 : (x.toNat : Int) < 256 := by have := UInt8.toNat_lt x; omega
  go_enter Tryz.func137, Tryz.ntmps137
  go_wp2
  go_ret
  exact ⟨rfl, rfl⟩
theorem sepR_contains (x : UInt8) : seps.data.toList.contains x = sepR (x.toNat : Int) := by
  have key : ∀ m : Fin 256, seps.data.toList.contains (UInt8.ofNat m.val) = sepR ((UInt8.ofNat m.val).toNat : Int) := by decide +kernel
  have h := key ⟨x.toNat, x.toNat_lt⟩
  simpa using h
set_option maxHeartbeats 8000000 in
set_option maxRecDepth 1000000 in
theorem IndexAny_long (s : ByteArray) (w : World) (h8 : 8 < s.size) (hs : s.size ≤ 100000) :
    Calls Tryz.prog 106 #[.string s, .string seps] w fun e w' => (∃ z : Int, e = .returned (.int .i64 z) ∧ decide (0 ≤ z) = sepB (bytesOf s)) ∧ Below w.heap.size w w' := by
  have hemp : seps.toList.isEmpty = false := by decide +kernel
  have hn1 : ((seps.size : Int) == 1) = false := by decide +kernel
  have h8z : decide ((8 : Int) < (s.size : Int)) = true := decide_eq_true (by omega)
  obtain ⟨cells, hcs⟩ : ∃ x, Lib.setCells seps.data.toList = x := ⟨_, rfl⟩
  have hM := makeSet_any w
  rw [hcs] at hM
  have hsz : cells.size = 256 := by rw [← hcs]; exact Lib.setCells_size _
  have hone : cells.all (·.oneCell') = true := by rw [← hcs]; exact Lib.setCells_one _
  have HC : Aside0 (∀ x : UInt8, cells[x.toNat]? = some (.bool (sepR (x.toNat : Int)))) := ⟨fun x => by rw [← hcs, Lib.setCells_at, sepR_contains]⟩
  have hsc := run_storeCells_new (P := Tryz.prog) (w.alloc (.cells cells 190)) 190 Tryz.zeroCells190 cells (by rw [hsz]; exact setSize) (by rw [hsz]; kernel_rfl) hone
  have HSC := Aside0.mk hsc
  have HM := Aside0.mk hM
  clear hM hcs hone hsc
  go_enter Tryz.func106, Tryz.ntmps106
  go_wp2_with (first | (go_at_call 135; (with_reducible refine (useSet_any _ _).mono ?_); rintro e w1 ⟨rfl, rfl⟩) | (go_at_call 136; (with_reducible refine HM.out.mono ?_); rintro e w1 ⟨rfl, rfl⟩))
  have hsc := HSC.out
  rw [show (w1.alloc (.cells cells 190)).heap.size = w1.heap.size + 1 from by simp] at hsc
  simp only [Result.andThen, hsc]
  rw [Oper.upon_skip]
  clear hsc
  go_wp2
  have hbk := blk_new (w1.alloc (.cells cells 190)) (.cells cells 190)
  rw [show (w1.alloc (.cells cells 190)).heap.size = w1.heap.size + 1 from by simp] at hbk
  have HB := Aside0.mk (below_alloc (below_alloc (Below.refl w1.heap.size w1) (.cells cells 190)) (.cells cells 190))
  obtain ⟨W, hW⟩ : ∃ x, (w1.alloc (.cells cells 190)).alloc (.cells cells 190) = x := ⟨_, rfl⟩
  rw [hW] at hbk HB
  simp only [hW]
  have HBK := Aside0.mk hbk
  clear hW hbk HM HSC
  go_loopg [8] s.size (fun g s8 wx => ∃ i : Nat, i + g = s.size ∧ s8 = .int .i64 i ∧ wx = W ∧ Aside0 (sepB ((bytesOf s).take i) = false))
  case atStart => exact ⟨0, by omega, rfl, rfl, ⟨rfl⟩⟩
  case round =>
    obtain ⟨i, hig, rfl, rfl, HN⟩ := hrel
    by_cases hi : i < s.size
    · have hiz : (i : Int) < (s.size : Int) := by omega
      obtain ⟨x, hx⟩ : ∃ x : UInt8, s[i]'hi = x := ⟨_, rfl⟩
      have h5 := sepB_take s i hi
      rw [hx, HN.out, Bool.false_or] at h5
      have hcx : wr.cell? ⟨w1.heap.size + 1, x.toNat, none⟩ = some (.bool (sepR (x.toNat : Int))) := by rw [blk_cell HBK.out]; exact HC.out x
      cases hs : sepR (x.toNat : Int) with
      | true =>
        rw [hs] at h5 hcx
        have H5 := Aside0.mk h5
        clear hs h5
        go_wp2_with (go_at_call 137; (with_reducible refine (setHas_any _ x true _ hcx).mono ?_); rintro e w3 ⟨rfl, rfl⟩)
        go_ret
        exact ⟨⟨(i : Int), rfl, by rw [sepB_hit _ _ H5.out]; exact decide_eq_true (by omega)⟩, HB.out⟩
      | false =>
        rw [hs] at h5 hcx
        have H5 := Aside0.mk h5
        clear hs h5
        go_wp2_with (go_at_call 137; (with_reducible refine (setHas_any _ x false _ hcx).mono ?_); rintro e w3 ⟨rfl, rfl⟩)
        go_roundg (s.size - (i + 1))
        case measure => omega
        case rel => exact ⟨i + 1, by omega, by go_num, rfl, H5⟩
    · have hi2 : i = s.size := by omega
      subst hi2
      have hnn := HN.out
      rw [List.take_of_length_le (by rw [bytesOf_length]; exact Nat.le_refl _)] at hnn
      have HN2 := Aside0.mk hnn
      clear hnn
      go_wp2
      go_ret
      exact ⟨⟨-1, rfl, by rw [HN2.out]; rfl⟩, HB.out⟩
theorem ContainsSep_any (s : ByteArray) (w : World) (hs : s.size ≤ 100000) :
    Calls Tryz.prog 62 #[.string s, .string seps] w fun e w' => e = .returned (.bool (sepB (bytesOf s))) ∧ Below w.heap.size w w' := by
  have HI : Aside0 (Calls Tryz.prog 106 #[.string s, .string seps] w fun e w' => (∃ z : Int, e = .returned (.int .i64 z) ∧ decide (0 ≤ z) = sepB (bytesOf s)) ∧ Below w.heap.size w w') := ⟨by
    by_cases h8 : s.size ≤ 8
    · exact IndexAny_short s w h8
    · exact IndexAny_long s w (by omega) hs⟩
  go_enter Tryz.func62, Tryz.ntmps62
  go_wp2_with fail
  (with_reducible refine HI.out.mono ?_)
  rintro e w1 ⟨⟨z, rfl, hz⟩, hb⟩
  have HB := Aside0.mk hb
  clear hb HI
  cases hn : sepB (bytesOf s) with
  | true =>
    rw [hn] at hz
    go_wp2
    go_ret
    exact ⟨by rw [hn]; rfl, HB.out⟩
  | false =>
    rw [hn] at hz
    go_wp2
    go_ret
    exact ⟨by rw [hn]; rfl, HB.out⟩
/-- May a name be? -/
def nameB (l : List Int) : Bool := decide (1 ≤ l.length) && (decide (l.length ≤ 24) && (!sepB l && (decide (l ≠ [46]) && decide (l ≠ [46, 46]))))
def nameE (l : List Int) : Int := if nameB l = true then 0 else 67
set_option maxHeartbeats 2000000 in
set_option maxRecDepth 100000 in
theorem Name_any (s : ByteArray) (w : World) :
    Calls Tryz.prog 31 #[.string s] w fun e w' => e = .returned (.int .i64 (nameE (bytesOf s))) ∧ Below w.heap.size w w' := by
  have hbl := bytesOf_length s
  by_cases h0 : s.size = 0
  · have hnil : bytesOf s = [] := List.eq_nil_of_length_eq_zero (by rw [hbl]; exact h0)
    have hemp : s.toList.isEmpty = true := by rw [(toList_iff s ⟨#[]⟩).2 hnil]; decide +kernel
    have HE : Aside0 (nameE (bytesOf s) = 67) := ⟨by rw [hnil]; rfl⟩
    clear h0 hnil hbl
    go_enter Tryz.func31, Tryz.ntmps31
    go_wp2
    go_ret
    exact ⟨by rw [HE.out]; rfl, Below.refl _ _⟩
  · have hemp : s.toList.isEmpty = false := by
      rw [ByteArray.toList_eq, List.isEmpty_eq_false_iff]
      intro h
      apply h0
      have := congrArg List.length h
      simpa using this
    by_cases h24 : s.size ≤ 24
    · have hd : decide ((24 : Int) < (s.size : Int)) = false := decide_eq_false (by omega)
      have hC := ContainsSep_any s w (by omega)
      unfold seps at hC
      have HC := Aside0.mk hC
      clear hC
      cases hsp : sepB (bytesOf s) with
      | true =>
        rw [hsp] at HC
        have HE : Aside0 (nameE (bytesOf s) = 67) := ⟨by unfold nameE nameB; rw [hsp]; simp⟩
        clear hsp h0 hbl
        go_enter Tryz.func31, Tryz.ntmps31
        go_wp2_with (go_at_call 62; (with_reducible refine HC.out.mono ?_); rintro e w1 ⟨rfl, hb⟩; have HB := Aside0.mk hb; clear hb)
        go_ret
        exact ⟨by rw [HE.out]; rfl, HB.out⟩
      | false =>
        rw [hsp] at HC
        have q1 : s.toList = [46] ↔ bytesOf s = [46] := by have h := toList_iff s ⟨#[46]⟩; rwa [show (⟨#[46]⟩ : ByteArray).toList = [46] from by decide +kernel, show bytesOf ⟨#[46]⟩ = [46] from by decide +kernel] at h
        have q2 : s.toList = [46, 46] ↔ bytesOf s = [46, 46] := by have h := toList_iff s ⟨#[46, 46]⟩; rwa [show (⟨#[46, 46]⟩ : ByteArray).toList = [46, 46] from by decide +kernel, show bytesOf ⟨#[46, 46]⟩ = [46, 46] from by decide +kernel] at h
        by_cases hdot : bytesOf s = [46]
        · have HE : Aside0 (nameE (bytesOf s) = 67) := ⟨by rw [hdot]; decide⟩
          have e1 : s.toList = [46] := q1.2 hdot
          have e2 : (s.toList == [46]) = true := beq_iff_eq.2 e1
          clear hsp h0 hbl hdot q1 q2
          go_enter Tryz.func31, Tryz.ntmps31
          go_wp2_with (go_at_call 62; (with_reducible refine HC.out.mono ?_); rintro e w1 ⟨rfl, hb⟩; have HB := Aside0.mk hb; clear hb)
          go_ret
          exact ⟨by rw [HE.out]; rfl, HB.out⟩
        · have e1 : ¬ s.toList = [46] := fun h => hdot (q1.1 h)
          have e2 : (s.toList == [46]) = false := beq_eq_false_iff_ne.2 e1
          by_cases hdd : bytesOf s = [46, 46]
          · have HE : Aside0 (nameE (bytesOf s) = 67) := ⟨by rw [hdd]; decide⟩
            have e3 : (s.toList == [46, 46]) = true := beq_iff_eq.2 (q2.2 hdd)
            clear hsp h0 hbl hdot hdd q1 q2
            go_enter Tryz.func31, Tryz.ntmps31
            go_wp2_with (go_at_call 62; (with_reducible refine HC.out.mono ?_); rintro e w1 ⟨rfl, hb⟩; have HB := Aside0.mk hb; clear hb)
            go_ret
            exact ⟨by rw [HE.out]; rfl, HB.out⟩
          · have HE : Aside0 (nameE (bytesOf s) = 0) := ⟨by unfold nameE nameB; rw [hsp, hbl, if_pos (by simp [hdot, hdd, h24]; omega)]⟩
            have e3 : (s.toList == [46, 46]) = false := beq_eq_false_iff_ne.2 (fun h => hdd (q2.1 h))
            clear hsp h0 hbl hdot hdd q1 q2
            go_enter Tryz.func31, Tryz.ntmps31
            go_wp2_with (go_at_call 62; (with_reducible refine HC.out.mono ?_); rintro e w1 ⟨rfl, hb⟩; have HB := Aside0.mk hb; clear hb)
            go_ret
            exact ⟨by rw [HE.out]; rfl, HB.out⟩
    · have hd : decide ((24 : Int) < (s.size : Int)) = true := decide_eq_true (by omega)
      have HE : Aside0 (nameE (bytesOf s) = 67) := ⟨by unfold nameE nameB; rw [hbl, if_neg (by simp; omega)]⟩
      clear h0 hbl
      go_enter Tryz.func31, Tryz.ntmps31
      go_wp2
      go_ret
      exact ⟨by rw [HE.out]; rfl, Below.refl _ _⟩
end Go.Proofs.YtanemmcddgkpdaaGreat.Hm
end
