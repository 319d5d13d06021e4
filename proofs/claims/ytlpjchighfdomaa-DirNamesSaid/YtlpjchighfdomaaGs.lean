/- Go's strings.ContainsAny at the two bytes that part names: whatever string comes in; conditions: those that each theorem names. -/
import Derived.Test.YtlpjchighfdomaaGa
import Derived.Lib.IndexAny
import Derived.Lib.IndexBytes
import Derived.Lib.AsciiSet
import Derived.Lib.Bytealg
import Derived.Laws.RangeString
import Derived.Laws.Strings3
import Derived.Laws.StandIn
import Derived.Laws.ResultCell
import Derived.Deep.WholeRow
import Derived.Lib.OthersKept
namespace Go.Proofs.Ytlpjchighfdomaa.Hm
open Go.RowKit Go.Proofs.YtlpjchighfdomaaW.PrintWords Go.Proofs.YtlpjchighfdomaaW.PrintLast Go.Proofs.YtlpjchighfdomaaW.PrintMore
set_option linter.unusedVariables false
set_option linter.unusedSimpArgs false

theorem quiet_add {P : Program} {f : FuncId} {args : Array Value} {w : World} {a n : Nat} {v : Value}
    (h : Calls P f args (w.drewN (a + n)) fun e w' => e = .returned v ∧ ∃ m, w' = (w.drewN (a + n)).drewN m) :
    Calls P f args (w.drewN (a + n)) fun e w'' => e = .returned v ∧ ∃ m, w'' = w.drewN (a + m) :=
  h.mono fun _ _ ⟨he, m, hm⟩ => ⟨he, n + m, by rw [hm, World.drewN_drewN, Nat.add_assoc]⟩
theorem quiet_add_same {P : Program} {f : FuncId} {args : Array Value} {w : World} {a n : Nat} {v : Value}
    (h : Calls P f args (w.drewN (a + n)) fun e w' => e = .returned v ∧ w' = w.drewN (a + n)) :
    Calls P f args (w.drewN (a + n)) fun e w'' => e = .returned v ∧ ∃ m, w'' = w.drewN (a + m) :=
  h.mono fun _ _ ⟨he, hm⟩ => ⟨he, n, hm⟩
/-- The string of the bytes 47 and 0. -/
def seps : ByteArray := ⟨#[47, 0]⟩
set_option maxHeartbeats 1000000 in
set_option maxRecDepth 100000 in
theorem liteIndexByte_any (s : ByteArray) (c : Int) (w : World) :
    Calls Try.prog 104 #[.string s, .int .u8 c] w fun e w' => e = .returned (.int .i64 (Lib.indexByte s.data.toList c.toNat.toUInt8)) ∧ w' = w := by
  go_enter Try.func104, Try.ntmps104
  go_wp2
  rw [run_callFunc_extern Try.func105 (by kernel_rfl) (by kernel_rfl) (by kernel_rfl) (e := Extern.BytealgIndexByte.indexByte) (by kernel_rfl), Lib.run_indexByteString]
  simp only [Result.andThen]
  rw [Oper.upon_value]
  go_wp2
  go_ret
  exact ⟨rfl, rfl⟩
theorem IndexByte_any (s : ByteArray) (c : Int) (w : World) :
    Calls Try.prog 100 #[.string s, .int .u8 c] w fun e w' => e = .returned (.int .i64 (Lib.indexByte s.data.toList c.toNat.toUInt8)) ∧ w' = w := by
  go_enter Try.func100, Try.ntmps100
  go_wp2_with (go_at_call 104; (with_reducible refine (liteIndexByte_any s c _).mono ?_); rintro e w1 ⟨rfl, rfl⟩)
  go_ret
  exact ⟨rfl, rfl⟩
/-- Bytes from 128 on are read as a rune from 128 on; it takes such bytes alone. -/
theorem decode_high (s : ByteArray) (i : Nat) (h : i < s.size) (hb : 128 ≤ (s[i]'h).toNat) :
    ∃ c n, Utf8.decode s i = (c, n) ∧ 128 ≤ c ∧ c ≤ 1114111 ∧ (c < 55296 ∨ 57343 < c) ∧ 1 ≤ n ∧ i + n ≤ s.size ∧ ∀ j (hj : j < s.size), i ≤ j → j < i + n → 128 ≤ (s[j]'hj).toNat := by
  have e0 : s.get! (i + 0) = s[i]'h := by
    show s.get! i = _
    simp [ByteArray.get!, getElem!_pos, h]
    rfl
  have ek : ∀ k, (hk : i + k < s.size) → s.get! (i + k) = s[i + k]'hk := by
    intro k hk
    simp [ByteArray.get!, getElem!_pos, hk]
    rfl
  have one : ∀ j (hj : j < s.size), i ≤ j → j < i + 1 → 128 ≤ (s[j]'hj).toNat := by
    intro j hj h1 h2
    obtain rfl : j = i := by omega
    exact hb
  unfold Utf8.decode
  simp only [e0]
  rw [if_neg (by omega)]
  split
  · rename_i hc
    simp only [Bool.and_eq_true, decide_eq_true_eq, beq_iff_eq] at hc
    obtain ⟨h6, h1, h2⟩ := hc
    rw [ek 1 h1] at h2 ⊢
    split
    · refine ⟨_, _, rfl, by omega, by omega, by omega, by omega, by omega, ?_⟩
      intro j hj g1 g2
      rcases (by omega : j = i ∨ j = i + 1) with rfl | rfl
      · exact hb
      · omega
    · exact ⟨_, _, rfl, by simp [Utf8.runeError], by simp [Utf8.runeError], by simp [Utf8.runeError], by omega, by omega, one⟩
  · split
    · rename_i hc
      simp only [Bool.and_eq_true, decide_eq_true_eq, beq_iff_eq] at hc
      obtain ⟨⟨h6, h1, h2⟩, h3, h4⟩ := hc
      rw [ek 1 h1] at h2 ⊢
      rw [ek 2 h3] at h4 ⊢
      split
      · rename_i hv
        simp only [Bool.and_eq_true, decide_eq_true_eq, ge_iff_le, Utf8.valid] at hv
        refine ⟨_, _, rfl, by omega, by omega, ?_, by omega, by omega, ?_⟩
        · have := hv.2; simp at this; omega
        · intro j hj g1 g2
          rcases (by omega : j = i ∨ j = i + 1 ∨ j = i + 2) with rfl | rfl | rfl
          · exact hb
          · omega
          · omega
      · exact ⟨_, _, rfl, by simp [Utf8.runeError], by simp [Utf8.runeError], by simp [Utf8.runeError], by omega, by omega, one⟩
    · split
      · rename_i hc
        simp only [Bool.and_eq_true, decide_eq_true_eq, beq_iff_eq] at hc
        obtain ⟨⟨⟨h6, h1, h2⟩, h3, h4⟩, h5, h7⟩ := hc
        rw [ek 1 h1] at h2 ⊢
        rw [ek 2 h3] at h4 ⊢
        rw [ek 3 h5] at h7 ⊢
        split
        · rename_i hv
          simp only [Bool.and_eq_true, decide_eq_true_eq, ge_iff_le, Utf8.valid] at hv
          refine ⟨_, _, rfl, by omega, ?_, ?_, by omega, by omega, ?_⟩
          · have := hv.2; simp at this; omega
          · have := hv.2; simp at this; omega
          · intro j hj g1 g2
            rcases (by omega : j = i ∨ j = i + 1 ∨ j = i + 2 ∨ j = i + 3) with rfl | rfl | rfl | rfl
            · exact hb
            · omega
            · omega
            · omega
        · exact ⟨_, _, rfl, by simp [Utf8.runeError], by simp [Utf8.runeError], by simp [Utf8.runeError], by omega, by omega, one⟩
      · exact ⟨_, _, rfl, by simp [Utf8.runeError], by simp [Utf8.runeError], by simp [Utf8.runeError], by omega, by omega, one⟩
theorem run_next_any {P : Program} (w : World) (s : ByteArray) (pos : Nat) (ty : TypeId) (c n : Nat) (h : pos < s.size) (hd : Utf8.decode s pos = (c, n)) :
    (Instr.next (.pointer (some ⟨w.heap.size, 0, none⟩)) true ty).run P (w.iter s pos) = .ok (.tuple #[.bool true, .int .i64 pos, .int .i32 c]) (w.iter s (pos + n)) := by
  simp only [Instr.next, getObj, setObj, Sem.run_bind, Sem.run, World.iter_heap, Result.andThen, h, if_true, hd, World.iter_set]
  simp [goInt, Sem.run, World.iter_heap, World.iter_set]
def sepR (r : Int) : Bool := decide (r = 47 ∨ r = 0)
theorem sepR_index (r : Int) (h0 : 0 ≤ r) (h1 : r < 128) : decide (0 ≤ Lib.indexByte seps.data.toList r.toNat.toUInt8) = sepR r := by
  obtain ⟨n, rfl⟩ := Int.eq_ofNat_of_zero_le h0
  have hn : n < 128 := by omega
  have key : ∀ m : Fin 128, decide (0 ≤ Lib.indexByte seps.data.toList ((m.val : Int)).toNat.toUInt8) = sepR (m.val : Int) := by decide +kernel
  exact key ⟨n, hn⟩
set_option maxHeartbeats 2000000 in
set_option maxRecDepth 100000 in
theorem IndexRune_low (r : Int) (w : World) (h0 : 0 ≤ r) (h1 : r < 128) :
    Calls Try.prog 96 #[.string seps, .int .i32 r] w fun e w' => (∃ z : Int, e = .returned (.int .i64 z) ∧ decide (0 ≤ z) = sepR r) ∧ Below w.heap.size w w' := by
  have hw : r % 256 = r := Int.emod_eq_of_lt h0 (by omega)
  have HZ := Aside0.mk (sepR_index r h0 h1)
  go_enter Try.func96, Try.ntmps96
  go_wp2_with (go_at_call 100; (with_reducible refine (IndexByte_any seps r _).mono ?_); rintro e w1 ⟨rfl, rfl⟩)
  go_ret
  exact ⟨⟨_, rfl, HZ.out⟩, Below.refl _ _⟩
theorem seps_at (i : Nat) (h : i < seps.size) : (seps[i]'h).toNat = if i = 0 then 47 else 0 := by
  have h2 : i < 2 := h
  rcases (by omega : i = 0 ∨ i = 1) with rfl | rfl <;> rfl
set_option maxHeartbeats 2000000 in
set_option maxRecDepth 100000 in
theorem IndexRune_err (w : World) :
    Calls Try.prog 96 #[.string seps, .int .i32 65533] w fun e w' => (∃ z : Int, e = .returned (.int .i64 z) ∧ decide (0 ≤ z) = sepR 65533) ∧ Below w.heap.size w w' := by
  have HS : Aside0 (seps.size = 2) := ⟨rfl⟩
  have hs0 : seps.size ≤ 2 := Nat.le_refl _
  obtain ⟨sp, hsp⟩ : ∃ x, seps = x := ⟨_, rfl⟩
  rw [hsp] at HS hs0
  simp only [hsp]
  have HSP := Aside0.mk hsp
  clear hsp
  go_enter Try.func96, Try.ntmps96
  go_wp2
  go_loopg [5, 6] sp.size (fun g _ _ wx => ∃ i : Nat, i + g = sp.size ∧ wx = w.iter sp i)
  case atStart => exact ⟨0, by omega, rfl⟩
  case round =>
    obtain ⟨i, hig, rfl⟩ := hrel
    cases gk with
    | zero =>
      have hi : i = sp.size := by omega
      subst hi
      have hnx := run_next_end (P := Try.prog) w sp sp.size
      go_wp2
      go_ret
      exact ⟨⟨-1, rfl, rfl⟩, below_alloc (Below.refl _ _) _⟩
    | succ g =>
      have hi : i < sp.size := by omega
      obtain ⟨x, hx⟩ : ∃ x : UInt8, sp[i]'hi = x := ⟨_, rfl⟩
      have hx128 : x.toNat < 128 := by
        have h := HSP.out
        subst h
        rw [← hx, seps_at i hi]
        split <;> omega
      have hnx := fun ty => run_next_ascii (P := Try.prog) w sp i ty hi (by rw [hx]; exact hx128)
      rw [hx] at hnx
      have hne : ((x.toNat : Int) == 65533) = false := by simp; omega
      clear hx
      go_wp2
      go_roundg g
      case measure => omega
      case rel => exact ⟨i + 1, by omega, rfl⟩
theorem encode_size (r : Int) (h0 : 128 ≤ r) (h1 : r ≤ 1114111) (hv : r < 55296 ∨ 57343 < r) : ∃ n, (Utf8.encode r).size = n + 2 ∧ n ≤ 2 ∧ ∀ (h : 1 < (Utf8.encode r).size), 128 ≤ ((Utf8.encode r)[1]'h).toNat := by
  have hval : Utf8.valid r = true := by unfold Utf8.valid; simp; omega
  obtain ⟨c, rfl⟩ := Int.eq_ofNat_of_zero_le (show 0 ≤ r by omega)
  by_cases c1 : c < 2048
  · have he : Utf8.encode (c : Int) = ⟨#[UInt8.ofNat (192 + c / 64), UInt8.ofNat (128 + c % 64)]⟩ := by
      unfold Utf8.encode
      rw [hval]
      simp only [if_true, Int.toNat_natCast]
      rw [if_neg (by omega), if_pos c1]
    rw [he]
    refine ⟨0, rfl, by omega, fun h => ?_⟩
    show 128 ≤ (UInt8.ofNat (128 + c % 64)).toNat
    simp; omega
  · by_cases c2 : c < 65536
    · have he : Utf8.encode (c : Int) = ⟨#[UInt8.ofNat (224 + c / 4096), UInt8.ofNat (128 + c / 64 % 64), UInt8.ofNat (128 + c % 64)]⟩ := by
        unfold Utf8.encode
        rw [hval]
        simp only [if_true, Int.toNat_natCast]
        rw [if_neg (by omega), if_neg c1, if_pos c2]
      rw [he]
      refine ⟨1, rfl, by omega, fun h => ?_⟩
      show 128 ≤ (UInt8.ofNat (128 + c / 64 % 64)).toNat
      simp; omega
    · have he : Utf8.encode (c : Int) = ⟨#[UInt8.ofNat (240 + c / 262144), UInt8.ofNat (128 + c / 4096 % 64), UInt8.ofNat (128 + c / 64 % 64), UInt8.ofNat (128 + c % 64)]⟩ := by
        unfold Utf8.encode
        rw [hval]
        simp only [if_true, Int.toNat_natCast]
        rw [if_neg (by omega), if_neg c1, if_neg c2]
      rw [he]
      refine ⟨2, rfl, by omega, fun h => ?_⟩
      show 128 ≤ (UInt8.ofNat (128 + c / 4096 % 64)).toNat
      simp; omega
set_option maxHeartbeats 1000000 in
theorem ValidRune_any (r : Int) (w : World) (h0 : 128 ≤ r) (h1 : r ≤ 1114111) (hv : r < 55296 ∨ 57343 < r) :
    Calls Try.prog 101 #[.int .i32 r] w fun e w' => e = .returned (.bool true) ∧ w' = w := by
  rcases hv with hv | hv
  · go_enter Try.func101, Try.ntmps101
    go_wp2
    go_ret
    exact ⟨rfl, rfl⟩
  · have hd : decide (r < 55296) = false := decide_eq_false (by omega)
    go_enter Try.func101, Try.ntmps101
    go_wp2
    go_ret
    exact ⟨rfl, rfl⟩
set_option maxHeartbeats 4000000 in
set_option maxRecDepth 100000 in
theorem IndexRune_high (sp : ByteArray) (hs0 : sp.size ≤ 2) (hs1 : 2 ≤ sp.size) (hq' : ∀ h : 1 < sp.size, (sp[1]'h).toNat < 128) (r : Int) (w : World) (h0 : 128 ≤ r) (h1 : r ≤ 1114111) (hv : r < 55296 ∨ 57343 < r) (hne : r ≠ 65533) :
    Calls Try.prog 96 #[.string sp, .int .i32 r] w fun e w' => (∃ z : Int, e = .returned (.int .i64 z) ∧ decide (0 ≤ z) = sepR r) ∧ Below w.heap.size w w' := by
  obtain ⟨n, hn, hn2, hb⟩ := encode_size r h0 h1 hv
  have hd1 : ((r : Int) == 65533) = false := by simp [hne]
  have hd2 : decide (r < 128) = false := decide_eq_false (by omega)
  have HSR : Aside0 (sepR r = false) := ⟨decide_eq_false (by omega)⟩
  have HV := Aside0.mk hv
  obtain ⟨rs, hrs⟩ : ∃ x, Utf8.encode r = x := ⟨_, rfl⟩
  rw [hrs] at hn
  simp only [hrs] at hb
  have hz1 : rs.size ≤ 4 := by omega
  have hz2 : 2 ≤ rs.size := by omega
  have hb1 := hb hz2
  have hnx : (-1 : Int) < 0 := by decide
  have hq := hq' hs1
  clear hne hv hn hb hq'
  by_cases h2 : rs.size ≤ 2
  · have he : rs.size = 2 := by omega
    have hne2 : ((sp[1].toNat : Int) != (rs[1].toNat : Int)) = true := by simp; omega
    have hsps : sp.size = 2 := by omega
    go_enter Try.func96, Try.ntmps96
    go_wp2_with (go_at_call 101; (with_reducible refine (ValidRune_any r _ h0 h1 HV.out).mono ?_); rintro e w1 ⟨rfl, rfl⟩)
    go_step3
    go_wp2
    go_loopg [9] 0 (fun _ v9 w' => v9 = .int .i64 1 ∧ w' = w1)
    case atStart => exact ⟨rfl, rfl⟩
    case round =>
      obtain ⟨rfl, rfl⟩ := hrel
      go_wp2
      go_step3
      go_wp2
      go_quiet (fail)
      go_wp2
      go_quiet ((go_at_call 100; exact quiet_add_same (IndexByte_any _ _ _)))
      have hemp : ∀ x : UInt8, Lib.indexByte ByteArray.empty.data.toList x = -1 := fun _ => rfl
      simp only [hemp]
      clear hemp
      go_wp2
      rw [Exit.noGoto_ret]
      go_wp2
      try rw [Exit.noGoto_ret]
      go_ret
      exact ⟨⟨-1, rfl, by rw [HSR.out]; rfl⟩, pw_below_drewN (Below.refl _ _) _⟩
  · have hd : decide ((rs.size : Int) - 1 < (sp.size : Int)) = false := decide_eq_false (by omega)
    go_enter Try.func96, Try.ntmps96
    go_wp2_with (go_at_call 101; (with_reducible refine (ValidRune_any r _ h0 h1 HV.out).mono ?_); rintro e w1 ⟨rfl, rfl⟩)
    go_step3
    go_wp2
    go_loopg [9] 0 (fun _ v9 w' => v9 = .int .i64 ((rs.size : Int) - 1) ∧ w' = w1)
    case atStart => exact ⟨by go_num, rfl⟩
    case round =>
      obtain ⟨rfl, rfl⟩ := hrel
      go_wp2
      rw [Exit.noGoto_ret]
      go_ret
      exact ⟨⟨-1, rfl, by rw [HSR.out]; rfl⟩, Below.refl _ _⟩
theorem IndexRune_any (r : Int) (w : World) (h0 : 0 ≤ r) (h1 : r ≤ 1114111) (hv : r < 55296 ∨ 57343 < r) :
    Calls Try.prog 96 #[.string seps, .int .i32 r] w fun e w' => (∃ z : Int, e = .returned (.int .i64 z) ∧ decide (0 ≤ z) = sepR r) ∧ Below w.heap.size w w' := by
  by_cases c1 : r < 128
  · exact IndexRune_low r w h0 c1
  · by_cases c2 : r = 65533
    · subst c2; exact IndexRune_err w
    · exact IndexRune_high seps (Nat.le_refl _) (Nat.le_refl _) (fun h => by rw [seps_at]; decide) r w (by omega) h1 hv c2
/-- Does one of the bytes part names? -/
def sepB (l : List Int) : Bool := l.any sepR
set_option maxHeartbeats 1000000 in
theorem useSet_any (n : Int) (w : World) :
    Calls Try.prog 97 #[.int .i64 n] w fun e w' => e = .returned (.bool (decide (8 < n))) ∧ w' = w := by
  go_enter Try.func97, Try.ntmps97
  go_wp2
  go_ret
  exact ⟨rfl, rfl⟩
theorem byte_rd (s : ByteArray) (i : Nat) (h : i < s.size) : ((s[i]'h).toNat : Int) = rd (bytesOf s) (i : Int) := by
  rw [rd_at (bytesOf s) i (by rw [bytesOf_length]; exact h)]
  simp [bytesOf]
  rfl
theorem sepB_take (s : ByteArray) (i : Nat) (h : i < s.size) : sepB ((bytesOf s).take (i + 1)) = (sepB ((bytesOf s).take i) || sepR ((s[i]'h).toNat : Int)) := by
  rw [List.take_succ_eq_append_getElem (by rw [bytesOf_length]; exact h), byte_rd s i h, rd_at (bytesOf s) i (by rw [bytesOf_length]; exact h)]
  simp only [sepB, List.any_append, List.any_cons, List.any_nil, Bool.or_false]
theorem sepR_high (r : Int) (h : 128 ≤ r) : sepR r = false := decide_eq_false (by omega)
theorem sepB_high (s : ByteArray) (i n : Nat) (hn : i + n ≤ s.size) (hh : ∀ j (hj : j < s.size), i ≤ j → j < i + n → 128 ≤ (s[j]'hj).toNat) : sepB ((bytesOf s).take (i + n)) = sepB ((bytesOf s).take i) := by
  induction n with
  | zero => rfl
  | succ n ih =>
    rw [← Nat.add_assoc, sepB_take s (i + n) (by omega), ih (by omega) (fun j hj a b => hh j hj a (by omega)), sepR_high _ (by have := hh (i + n) (by omega) (by omega) (by omega); omega), Bool.or_false]
theorem sepB_hit (l : List Int) (i : Nat) (h : sepB (l.take i) = true) : sepB l = true := by
  unfold sepB at h ⊢
  rw [List.any_eq_true] at h ⊢
  obtain ⟨x, hx, hy⟩ := h
  exact ⟨x, List.mem_of_mem_take hx, hy⟩
theorem below_iter {w W : World} (h : Below w.heap.size w W) (k : Nat) (hk : w.heap.size ≤ k) (s : ByteArray) (p : Nat) : Below w.heap.size w (W.iterAt k s p) :=
  ⟨h.os, h.tape, h.output, by simpa [World.iterAt] using h.size, fun i hi => by
    have e : (W.iterAt k s p).heap[i]? = W.heap[i]? := by
      simp only [World.iterAt]
      rw [Array.getElem?_setIfInBounds_ne (by omega)]
    rw [e]
    exact h.block i hi⟩
theorem iter_at {W : World} {k : Nat} {s : ByteArray} {p : Nat} (h : W.heap[k]? = some (.stringIter s p)) (q : Nat) : (W.iterAt k s q).heap[k]? = some (.stringIter s q) := by
  have hl := blk_lt h
  simp [World.iterAt, hl]
/-- The rune at a place: what it says of the bytes that it takes. -/
theorem decode_sep (s : ByteArray) (i : Nat) (h : i < s.size) : ∃ c n, Utf8.decode s i = (c, n) ∧ c ≤ 1114111 ∧ (c < 55296 ∨ 57343 < c) ∧ 1 ≤ n ∧ i + n ≤ s.size ∧ sepB ((bytesOf s).take (i + n)) = (sepB ((bytesOf s).take i) || sepR (c : Int)) := by
  by_cases hb : (s[i]'h).toNat < 128
  · refine ⟨_, _, decode_ascii s i h hb, by omega, by omega, by omega, by omega, sepB_take s i h⟩
  · obtain ⟨c, n, hd, h1, h2, h3, h4, h5, h6⟩ := decode_high s i h (by omega)
    exact ⟨c, n, hd, h2, h3, h4, h5, by rw [sepB_high s i n h5 h6, sepR_high _ (by omega), Bool.or_false]⟩
set_option maxHeartbeats 4000000 in
set_option maxRecDepth 100000 in
theorem IndexAny_short (s : ByteArray) (w : World) (h8 : s.size ≤ 8) :
    Calls Try.prog 93 #[.string s, .string seps] w fun e w' => (∃ z : Int, e = .returned (.int .i64 z) ∧ decide (0 ≤ z) = sepB (bytesOf s)) ∧ Below w.heap.size w w' := by
  have hemp : seps.toList.isEmpty = false := by decide +kernel
  have hn1 : ((seps.size : Int) == 1) = false := by decide +kernel
  have h8z : decide ((8 : Int) < (s.size : Int)) = false := decide_eq_false (by omega)
  go_enter Try.func93, Try.ntmps93
  go_wp2_with (go_at_call 97; (with_reducible refine (useSet_any _ _).mono ?_); rintro e w1 ⟨rfl, rfl⟩)
  go_loopg [9, 10] s.size (fun g _ _ wx => ∃ i : Nat, i + g = s.size ∧ Aside0 (Below w1.heap.size w1 wx) ∧ wx.heap[w1.heap.size]? = some (.stringIter s i) ∧ Aside0 (sepB ((bytesOf s).take i) = false))
  case atStart => exact ⟨0, by omega, ⟨below_alloc (Below.refl _ _) _⟩, World.iter_heap _ _ _, ⟨rfl⟩⟩
  case round =>
    obtain ⟨i, hig, HB, hit, HN⟩ := hrel
    by_cases hi : i < s.size
    · obtain ⟨c, n, hd, h1, h2, h3, h4, h5⟩ := decode_sep s i hi
      have hnx := fun ty => Lib.run_next_any_at (P := Try.prog) wr w1.heap.size s i ty hit hi
      rw [hd] at hnx
      dsimp only at hnx
      have HI := Aside0.mk (iter_at hit (i + n))
      have HB2 := Aside0.mk (below_iter HB.out w1.heap.size (Nat.le_refl _) s (i + n))
      rw [HN.out, Bool.false_or] at h5
      have H5 := Aside0.mk h5
      obtain ⟨W2, hW2⟩ : ∃ x, wr.iterAt w1.heap.size s (i + n) = x := ⟨_, rfl⟩
      rw [hW2] at HI HB2
      simp only [hW2] at hnx
      clear hW2 hit hd h5
      cases hs : sepR (c : Int) with
      | true =>
        rw [hs] at H5
        have HS := Aside0.mk hs
        clear hs
        go_wp2_with fail
        (with_reducible refine (IndexRune_any (c : Int) _ (by omega) (by omega) (by omega)).mono ?_)
        rintro e w3 ⟨⟨z, rfl, hz⟩, hb3⟩
        rw [HS.out] at hz
        have HB3 := Aside0.mk (below_step HB2.out hb3)
        clear hb3
        go_wp2
        go_ret
        exact ⟨⟨(i : Int), rfl, by rw [sepB_hit _ _ H5.out]; exact decide_eq_true (by omega)⟩, HB3.out⟩
      | false =>
        rw [hs] at H5
        have HS := Aside0.mk hs
        clear hs
        go_wp2_with fail
        (with_reducible refine (IndexRune_any (c : Int) _ (by omega) (by omega) (by omega)).mono ?_)
        rintro e w3 ⟨⟨z, rfl, hz⟩, hb3⟩
        rw [HS.out] at hz
        have HB3 := Aside0.mk (below_step HB2.out hb3)
        have HI3 := Aside0.mk (blk_below HI.out hb3)
        clear hb3
        go_wp2
        go_roundg (s.size - (i + n))
        case measure => omega
        case rel => exact ⟨i + n, by omega, HB3, HI3.out, H5⟩
    · have hi2 : i = s.size := by omega
      subst hi2
      have hnx := fun ty => Lib.run_next_end_at (P := Try.prog) wr w1.heap.size s s.size ty hit (Nat.lt_irrefl _)
      have hnn := HN.out
      rw [List.take_of_length_le (by rw [bytesOf_length]; exact Nat.le_refl _)] at hnn
      have HN2 := Aside0.mk hnn
      clear hnn
      go_wp2
      go_ret
      exact ⟨⟨-1, rfl, by rw [HN2.out]; rfl⟩, HB.out⟩
end Go.Proofs.Ytlpjchighfdomaa.Hm
