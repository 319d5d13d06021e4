/- Part X7 of the lemmas and walks of the Go functions that these statements reach; conditions: those that each theorem names. -/
import Derived.Test.YtgjajalneknagaaJA
section
/- The Go function crc.table returns the table that tabRow 16 is, whatever the world. -/
namespace Go.Proofs.Ytgjajalneknagaa.Hm
open Go.RowKit Go.Proofs.YtgjajalneknagaaW.PrintWords Go.Proofs.YtgjajalneknagaaW.PrintLast Go.Proofs.YtgjajalneknagaaW.PrintMore
set_option linter.unusedVariables false
set_option linter.unusedSimpArgs false

def t1 (x : Int) : Int := if x ≥ 2147483648 then Go.bits .xor .u32 ((x * 2) % 4294967296) 79764919 else (x * 2) % 4294967296
def tn : Nat → Int → Int
  | 0, x => x
  | n + 1, x => t1 (tn n x)
def tabI (i : Nat) : Int := tn 4 ((i : Int) * 268435456)
def tabRow (k : Nat) : Array Value := ((List.range 16).map fun j => Value.int .u32 (if j < k then tabI j else 0)).toArray
theorem tabRow_zero : #[Value.int .u32 0, .int .u32 0, .int .u32 0, .int .u32 0, .int .u32 0, .int .u32 0, .int .u32 0, .int .u32 0, .int .u32 0, .int .u32 0, .int .u32 0, .int .u32 0, .int .u32 0, .int .u32 0, .int .u32 0, .int .u32 0] = tabRow 0 := by
  simp [tabRow, List.range, List.range.loop]
theorem tabRow_size (k : Nat) : (tabRow k).size = 16 := by simp [tabRow]
theorem tabRow_get (k j : Nat) (h : j < 16) : (tabRow k)[j]? = some (.int .u32 (if j < k then tabI j else 0)) := by
  simp [tabRow, h]
theorem tabRow_set (k : Nat) : (tabRow k).setIfInBounds k (.int .u32 (tabI k)) = tabRow (k + 1) := by
  apply Array.ext_getElem?
  intro i
  rw [Array.getElem?_setIfInBounds, tabRow_size]
  by_cases hi : i < 16
  · rw [tabRow_get _ _ hi]
    by_cases e : k = i
    · subst e
      rw [if_pos rfl, if_pos hi, tabRow_get _ _ hi, if_pos (by omega)]
    · rw [if_neg e, tabRow_get _ _ hi]
      by_cases h2 : i < k
      · rw [if_pos h2, if_pos (by omega)]
      · rw [if_neg h2, if_neg (by omega)]
  · have hz : ∀ k, (tabRow k)[i]? = none := fun k => Array.getElem?_eq_none (by rw [tabRow_size]; omega)
    rw [hz, hz]
    split
    · rw [if_neg (by omega)]
    · rfl
theorem tabRow_all (k : Nat) : (tabRow k).all (·.oneCell') = true := by simp [tabRow, Value.oneCell']
theorem t1_range (x : Int) (h0 : 0 ≤ x) (h1 : x < 4294967296) : 0 ≤ t1 x ∧ t1 x < 4294967296 := by
  unfold t1
  split
  · rw [u32_xor _ _ (by omega) (by omega) (by omega) (by omega)]
    have h := Nat.xor_lt_two_pow (n := 32) (x := (x * 2 % 4294967296).toNat) (y := (79764919 : Int).toNat) (by omega) (by decide)
    omega
  · omega
theorem tn_range (n : Nat) (x : Int) (h0 : 0 ≤ x) (h1 : x < 4294967296) : 0 ≤ tn n x ∧ tn n x < 4294967296 := by
  induction n with
  | zero => exact ⟨h0, h1⟩
  | succ n ih => exact t1_range _ ih.1 ih.2
theorem tabI_range (i : Nat) (h : i < 16) : 0 ≤ tabI i ∧ tabI i < 4294967296 := tn_range 4 _ (by omega) (by omega)

set_option maxHeartbeats 400000 in
theorem table_any (w : World) : Calls Try.prog 71 #[] w fun e w' => e = .returned (.agg (tabRow 16)) ∧ Below w.heap.size w w' := by
  go_enter Try.func71, Try.ntmps71
  go_wp2
  go_loopg [4] 16 (fun kq v4 w' => ∃ k : Nat, k + kq = 16 ∧ v4 = .int .i64 k ∧ Aside0 (Below w.heap.size w w') ∧ Aside0 (w'.heap[w.heap.size+1]? = some (.cells (tabRow k) 144 (0,0))) ∧ Aside0 (w'.heap[w.heap.size]? = some (.cells (tabRow 0) 144 (0,0))))
  case atStart =>
    refine ⟨0, rfl, rfl, ⟨?_⟩, ⟨?_⟩, ⟨?_⟩⟩
    · exact ((Below.refl _ _).alloc (Nat.le_refl _) _).alloc (by simp) _
    · rw [tabRow_zero]; exact heap_alloc2_new _ _ _
    · rw [tabRow_zero]; exact heap_alloc2_old _ _ _
  case round =>
    obtain ⟨k, hk, rfl, HB, H1, H0⟩ := hrel
    by_cases hlt : k < 16
    · have hd : decide ((k : Int) < 16) = true := decide_eq_true (by omega)
      go_wp2
      go_loopg [3, 10] 4 (fun jq v3 v10 w' => ∃ j : Nat, j + jq = 4 ∧ v10 = .int .i64 j ∧ v3 = .int .u32 (tn j (k * 268435456)) ∧ w' = wr)
      case atStart => exact ⟨0, rfl, rfl, rfl, rfl⟩
      case round =>
        obtain ⟨j, hj, rfl, rfl, rfl⟩ := hrel
        have hr := tn_range j (k * 268435456) (by omega) (by omega)
        obtain ⟨y, hy⟩ : ∃ y, tn j ((k : Int) * 268435456) = y := ⟨_, rfl⟩
        rw [hy] at hr
        have HY := Aside0.mk hy
        simp only [hy]
        clear hy
        obtain ⟨hr0, hr1⟩ := hr
        by_cases hj4 : j < 4
        · have hd4 : decide ((j : Int) < 4) = true := decide_eq_true (by omega)
          by_cases hy2 : y ≥ 2147483648
          all_goals
            first | (have hb2 : decide ((2147483648 : Int) ≤ y) = true := decide_eq_true hy2) | (have hb2 : decide ((2147483648 : Int) ≤ y) = false := decide_eq_false hy2)
            go_wp2
            go_roundg (3 - j)
            case measure => omega
            case rel =>
              refine ⟨j + 1, by omega, by go_num, ?_, rfl⟩
              simp only [tn, HY.out, t1]
              first
                | rw [if_pos hy2]
                | (rw [if_neg (by omega), Int.emod_eq_of_lt (by omega) (by omega)])
        · have hj' : j = 4 := by omega
          subst hj'
          have c1 := tabRow_get k k hlt
          have c2 : wr.cell? ⟨w.heap.size + 1, k, none⟩ = some (.int .u32 (if k < k then tabI k else 0)) := by rw [blk_cell H1.out, c1]
          have c3 : wr.frozen? ⟨w.heap.size + 1, k, none⟩ = false := blk_frozen H1.out k
          rw [if_neg (Nat.lt_irrefl _)] at c2
          clear c1
          go_wp2
          go_roundg (15 - k)
          case measure => omega
          case rel =>
            refine ⟨k + 1, by omega, by go_num, ⟨?_⟩, ⟨?_⟩, ⟨?_⟩⟩
            · exact HB.out.setCell (by simp) _
            · rw [← tabRow_set, tabI, HY.out]
              exact blk_set H1.out k _
            · exact blk_far H0.out (by simp) _
    · have hk' : k = 16 := by omega
      subst hk'
      go_wp2_with (first | (refine wpList_load_row rfl 144 _ rfl (w.heap.size + 1) rfl _ _ _ _ H1.out Try.underlying144 rfl (by kernel_rfl) ?_) | (refine wpList_store_row rfl 144 _ _ rfl w.heap.size (tabRow 16) rfl rfl _ _ H0.out (by kernel_rfl) ((tabRow_size 0).trans (tabRow_size 16).symm) (tabRow_all 16) ?_))
      refine bodyPost_ret (results_cell_row rfl _ _ w.heap.size _ (tabRow 16) _ _ rfl (setRow_heap _ _ _ _ _ _ H0.out) Try.underlying144 rfl (by kernel_rfl)) rfl ⟨rfl, ?_⟩
      exact below_setRow HB.out (Nat.le_refl _) _

end Go.Proofs.Ytgjajalneknagaa.Hm
end
section
/- The Go function crc.More returns 4294967295 - crcRaw (4294967295 - a0) l1; conditions: a0 is a uint32, the numbers of l1 are bytes. -/
namespace Go.Proofs.Ytgjajalneknagaa.Hm
open Go.RowKit Go.Proofs.YtgjajalneknagaaW.PrintWords Go.Proofs.YtgjajalneknagaaW.PrintLast Go.Proofs.YtgjajalneknagaaW.PrintMore
set_option linter.unusedVariables false
set_option linter.unusedSimpArgs false

def nib (x n : Int) : Int := Go.bits .xor .u32 ((x * 16) % 4294967296) (tabI (Go.bits .xor .u8 (x / 268435456) n).toNat)
def byteStep (x c : Int) : Int := nib (nib x (c / 16)) (c % 16)
def inner (x c : Int) : Nat → Int
  | 0 => x
  | 1 => nib x (c / 16)
  | _ => byteStep x c
def crcRaw (x : Int) (l : List Int) : Int := l.foldl byteStep x

theorem ones_xor (a : Nat) (h : a < 4294967296) : 4294967295 ^^^ a = 4294967295 - a := by
  apply Nat.eq_of_testBit_eq
  intro i
  rw [Nat.testBit_xor]
  have e : (4294967295 : Nat) - a = 2 ^ 32 - (a + 1) := by omega
  have e1 : (4294967295 : Nat) = 2 ^ 32 - 1 := rfl
  rw [e, Nat.testBit_two_pow_sub_succ h, e1, Nat.testBit_two_pow_sub_one]
  by_cases hi : i < 32
  · simp [hi]
  · have hb : a < 2 ^ i := Nat.lt_of_lt_of_le (show a < 2 ^ 32 from h) (Nat.pow_le_pow_right (by decide) (by omega))
    simp [hi, Nat.testBit_lt_two_pow hb]
theorem not32 (a : Int) (h0 : 0 ≤ a) (h1 : a < 4294967296) : Go.bits .xor .u32 IntKind.u32.max a = 4294967295 - a := by
  have e : IntKind.u32.max = 4294967295 := by decide
  rw [e, u32_xor _ _ (by omega) (by omega) h0 h1]
  have h := ones_xor a.toNat (by omega)
  have e2 : (4294967295 : Int).toNat = 4294967295 := rfl
  rw [e2, h]
  omega
theorem xor16 (a b : Int) (h0 : 0 ≤ a) (h1 : a < 16) (h2 : 0 ≤ b) (h3 : b < 16) : 0 ≤ Go.bits .xor .u8 a b ∧ Go.bits .xor .u8 a b < 16 := by
  rw [u8_xor _ _ (by omega) (by omega) (by omega) (by omega)]
  have h := Nat.xor_lt_two_pow (n := 4) (x := a.toNat) (y := b.toNat) (by omega) (by omega)
  omega
theorem nib_range (x n : Int) (h0 : 0 ≤ x) (h1 : x < 4294967296) (h2 : 0 ≤ n) (h3 : n < 16) : 0 ≤ nib x n ∧ nib x n < 4294967296 := by
  unfold nib
  have hx := xor16 (x / 268435456) n (by omega) (by omega) h2 h3
  have ht := tabI_range (Go.bits .xor .u8 (x / 268435456) n).toNat (by omega)
  rw [u32_xor _ _ (by omega) (by omega) ht.1 ht.2]
  have h := Nat.xor_lt_two_pow (n := 32) (x := (x * 16 % 4294967296).toNat) (y := (tabI (Go.bits .xor .u8 (x / 268435456) n).toNat).toNat) (by omega) (by omega)
  omega
theorem byteStep_range (x c : Int) (h0 : 0 ≤ x) (h1 : x < 4294967296) (h2 : 0 ≤ c) (h3 : c < 256) : 0 ≤ byteStep x c ∧ byteStep x c < 4294967296 := by
  have h := nib_range x (c / 16) h0 h1 (by omega) (by omega)
  exact nib_range _ (c % 16) h.1 h.2 (by omega) (by omega)
theorem crcRaw_range (l : List Int) : ∀ (x : Int), 0 ≤ x → x < 4294967296 → (∀ c ∈ l, 0 ≤ c ∧ c < 256) → 0 ≤ crcRaw x l ∧ crcRaw x l < 4294967296 := by
  induction l with
  | nil => intro x h0 h1 _; exact ⟨h0, h1⟩
  | cons c l ih =>
    intro x h0 h1 h
    have hc := h c (by simp)
    have hs := byteStep_range x c h0 h1 hc.1 hc.2
    exact ih _ hs.1 hs.2 fun d hd => h d (by simp [hd])
theorem crcRaw_take (x : Int) (l : List Int) (k : Nat) (h : k < l.length) : crcRaw x (l.take (k + 1)) = byteStep (crcRaw x (l.take k)) (rd l k) := by
  rw [List.take_succ_eq_append_getElem h, crcRaw, List.foldl_append]
  simp [crcRaw, rd, h]

set_option maxHeartbeats 1000000 in
theorem more_any (a0 : Int) (A1 : Option Addr) (c1 : Nat) (l1 : List Int) (w : World) (hr1 : Kd.C (Kd.int .u8) w A1 l1.length l1) (hc1 : l1.length ≤ c1)
    (ha0 : 0 ≤ a0) (ha1 : a0 < 4294967296) (hl : ∀ x ∈ l1, 0 ≤ x ∧ x < 256) :
    Calls Try.prog 63 #[.int .u32 a0, .slice A1 l1.length c1] w fun e w' => e = .returned (.int .u32 (4294967295 - crcRaw (4294967295 - a0) l1)) ∧ Below w.heap.size w w' := by
  have HR := Aside0.mk hr1
  have HL := Aside0.mk hl
  have hm := Kd.C_max hr1
  clear hr1 hl
  go_enter Try.func63, Try.ntmps63
  go_wp2_with (first | (go_at_call 71; refine (table_any _).mono ?_; rintro e w1 ⟨rfl, hb⟩; have HB := Aside0.mk hb; clear hb) | (refine wpList_store_row rfl 144 _ _ rfl _ (tabRow 16) rfl rfl _ _ (heap_alloc_new _ _) (by kernel_rfl) ((tabRow_size 0).trans (tabRow_size 16).symm) (tabRow_all 16) ?_))
  go_loopg [6, 16] l1.length (fun kq v6 v16 w' => ∃ k : Nat, k + kq = l1.length ∧ v16 = .int .i64 k ∧ v6 = .int .u32 (crcRaw (4294967295 - a0) (l1.take k)) ∧ Aside0 (Below w.heap.size w w') ∧ Aside0 (w'.heap[w1.heap.size]? = some (.cells (tabRow 16) 144 (0,0))))
  case atStart =>
    refine ⟨0, by omega, rfl, ?_, ⟨?_⟩, ⟨?_⟩⟩
    · rw [not32 a0 ha0 ha1]; rfl
    · exact below_setRow (HB.out.alloc HB.out.size _) HB.out.size _
    · exact setRow_heap _ _ _ _ _ _ (heap_alloc_new _ _)
  case round =>
    obtain ⟨k, hk, rfl, rfl, HB', HT⟩ := hrel
    have hx := crcRaw_range (l1.take k) (4294967295 - a0) (by omega) (by omega) (fun c hc => HL.out c (List.mem_of_mem_take hc))
    obtain ⟨x, hX⟩ : ∃ x, crcRaw (4294967295 - a0) (l1.take k) = x := ⟨_, rfl⟩
    rw [hX] at hx
    simp only [hX]
    have HX := Aside0.mk hX
    clear hX
    obtain ⟨hx0, hx1⟩ := hx
    by_cases hlt : k < l1.length
    · have hd : decide ((k : Int) < (l1.length : Int)) = true := decide_eq_true (by omega)
      have hd2 : decide (k < l1.length) = true := decide_eq_true hlt
      obtain ⟨ad, hA, hcell⟩ := Kd.at_int (Kd.C_below HR.out HB'.out) (k : Int) (by omega) (by omega)
      subst hA
      rw [Int.toNat_natCast] at hcell
      have hc := HL.out (rd l1 k) (by unfold rd; simp [hlt])
      obtain ⟨c, hC⟩ : ∃ c, rd l1 (k : Int) = c := ⟨_, rfl⟩
      rw [hC] at hc hcell
      have HC := Aside0.mk hC
      clear hC
      obtain ⟨hc0, hc1⟩ := hc
      go_wp2
      go_loopg [6, 25] 2 (fun jq v6 v25 w' => ∃ j : Nat, j + jq = 2 ∧ v25 = .int .i64 j ∧ v6 = .int .u32 (inner x c j) ∧ w' = wr)
      case atStart => exact ⟨0, rfl, rfl, rfl, rfl⟩
      case round =>
        obtain ⟨j, hj, rfl, rfl, rfl⟩ := hrel
        have hj3 : j = 0 ∨ j = 1 ∨ j = 2 := by omega
        rcases hj3 with rfl | rfl | rfl
        · have hy : inner x c 0 = x := rfl
          rw [hy]
          clear hy
          have hb := xor16 (x / 268435456) (c / 16) (by omega) (by omega) (by omega) (by omega)
          obtain ⟨i, hi⟩ := Int.eq_ofNat_of_zero_le hb.1
          rw [hi] at hb
          have hi16 : i < 16 := by omega
          have hcl : wr.cell? ⟨w1.heap.size, i, none⟩ = some (.int .u32 (tabI i)) := by rw [blk_cell HT.out, tabRow_get 16 i hi16, if_pos hi16]
          have ht := tabI_range i hi16
          clear hb
          have ix : ∀ w, (Instr.index 146 (.agg #[.int .u8 (c / 16), .int .u8 (c % 16)]) (.int .i64 0)).run Try.prog w = .ok (.int .u8 (c / 16)) w := fun _ => by kernel_rfl
          go_wp2
          go_roundg 1
          case measure => omega
          case rel =>
            refine ⟨1, by omega, by go_num, ?_, rfl⟩
            simp only [inner, nib, hi]
            rfl
        · have hn := nib_range x (c / 16) hx0 hx1 (by omega) (by omega)
          have hy : inner x c 1 = nib x (c / 16) := rfl
          rw [hy]
          clear hy
          obtain ⟨y, hY⟩ : ∃ y, nib x (c / 16) = y := ⟨_, rfl⟩
          rw [hY] at hn ⊢
          have HY := Aside0.mk hY
          clear hY
          obtain ⟨hn0, hn1⟩ := hn
          have hb := xor16 (y / 268435456) (c % 16) (by omega) (by omega) (by omega) (by omega)
          obtain ⟨i, hi⟩ := Int.eq_ofNat_of_zero_le hb.1
          rw [hi] at hb
          have hi16 : i < 16 := by omega
          have hcl : wr.cell? ⟨w1.heap.size, i, none⟩ = some (.int .u32 (tabI i)) := by rw [blk_cell HT.out, tabRow_get 16 i hi16, if_pos hi16]
          have ht := tabI_range i hi16
          clear hb
          have ix : ∀ w, (Instr.index 146 (.agg #[.int .u8 (c / 16), .int .u8 (c % 16)]) (.int .i64 1)).run Try.prog w = .ok (.int .u8 (c % 16)) w := fun _ => by kernel_rfl
          go_wp2
          go_roundg 0
          case measure => omega
          case rel =>
            refine ⟨2, by omega, by go_num, ?_, rfl⟩
            simp only [inner, byteStep, HY.out]
            simp only [nib, hi]
            rfl
        · have hy : inner x c 2 = byteStep x c := rfl
          rw [hy]
          clear hy
          obtain ⟨y, hY⟩ : ∃ y, byteStep x c = y := ⟨_, rfl⟩
          rw [hY]
          have HY := Aside0.mk hY
          clear hY
          go_wp2
          go_roundg (l1.length - k - 1)
          case measure => omega
          case rel =>
            refine ⟨k + 1, by omega, by go_num, ?_, HB', HT⟩
            rw [crcRaw_take _ _ _ hlt, HX.out, HC.out, HY.out]
    · have hk' : k = l1.length := by omega
      subst hk'
      go_wp2
      go_ret
      refine ⟨?_, HB'.out⟩
      have e := HX.out
      rw [List.take_length] at e
      rw [not32 x hx0 hx1, e]
      rfl

end Go.Proofs.Ytgjajalneknagaa.Hm
end
section
/- The sum of bytes, and what is sealed (no program in sight); conditions: those that each lemma names. -/
namespace Go.Proofs.Ytgjajalneknagaa.Hm
open Go.RowKit Go.Proofs.YtgjajalneknagaaW.PrintWords Go.Proofs.YtgjajalneknagaaW.PrintLast Go.Proofs.YtgjajalneknagaaW.PrintMore
set_option linter.unusedVariables false
set_option linter.unusedSimpArgs false

def crcM (a : Int) (l : List Int) : Int := 4294967295 - crcRaw (4294967295 - a) l
theorem crcM_range (a : Int) (l : List Int) (h0 : 0 ≤ a) (h1 : a < 4294967296) (hl : ∀ x ∈ l, 0 ≤ x ∧ x < 256) : 0 ≤ crcM a l ∧ crcM a l < 4294967296 := by
  have h := crcRaw_range l (4294967295 - a) (by omega) (by omega) hl
  unfold crcM
  omega
def sealM (l : List Int) : List Int := l ++ be32 (crcM 0 l)
end Go.Proofs.Ytgjajalneknagaa.Hm
end
section
/- The mathematics of the sum (no program in sight): the table's step is the bitwise step, it is linear, it is one-to-one; what is right is told by a residue; a burst of up to 32 bits changes it. No conditions but those that each lemma names. -/
namespace Go.Proofs.Ytgjajalneknagaa.Hm
open Go.RowKit Go.Proofs.YtgjajalneknagaaW.PrintWords Go.Proofs.YtgjajalneknagaaW.PrintLast Go.Proofs.YtgjajalneknagaaW.PrintMore
set_option linter.unusedVariables false
set_option linter.unusedSimpArgs false

namespace Crc
def poly : BitVec 32 := 79764919#32
def T (x : BitVec 32) : BitVec 32 := if x.msb then (x <<< 1) ^^^ poly else x <<< 1
def Tn : Nat → BitVec 32 → BitVec 32
  | 0, x => x
  | n + 1, x => T (Tn n x)
theorem T_xor (a b : BitVec 32) : T (a ^^^ b) = T a ^^^ T b := by
  unfold T
  rw [BitVec.msb_xor, BitVec.shiftLeft_xor_distrib]
  cases a.msb <;> cases b.msb <;> simp
  · rw [BitVec.xor_assoc]
  · rw [BitVec.xor_assoc, BitVec.xor_assoc, BitVec.xor_comm poly]
  · rw [show (a <<< 1 ^^^ poly ^^^ (b <<< 1 ^^^ poly)) = (a <<< 1 ^^^ b <<< 1) ^^^ (poly ^^^ poly) by ac_rfl, BitVec.xor_self]
    simp
theorem Tn_xor (n : Nat) (a b : BitVec 32) : Tn n (a ^^^ b) = Tn n a ^^^ Tn n b := by
  induction n with
  | zero => rfl
  | succ n ih => simp only [Tn, ih, T_xor]
theorem Tn_add (m n : Nat) (x : BitVec 32) : Tn (m + n) x = Tn m (Tn n x) := by
  induction m with
  | zero => simp [Tn]
  | succ m ih => rw [Nat.succ_add]; simp only [Tn, ih]
/-- Without a top bit the step is a shift. -/
theorem Tn_shift (n : Nat) (x : Nat) (h : x * 2 ^ n < 4294967296) : Tn n (BitVec.ofNat 32 x) = BitVec.ofNat 32 (x * 2 ^ n) := by
  induction n with
  | zero => simp [Tn]
  | succ n ih =>
    have hx : x * 2 ^ (n + 1) = x * 2 ^ n * 2 := by rw [Nat.pow_succ, Nat.mul_assoc]
    rw [hx] at h ⊢
    simp only [Tn]
    rw [ih (by omega)]
    unfold T
    rw [if_neg ?_]
    · apply BitVec.eq_of_toNat_eq
      rw [BitVec.toNat_shiftLeft, BitVec.toNat_ofNat, BitVec.toNat_ofNat, Nat.shiftLeft_eq]
      omega
    · rw [BitVec.msb_eq_decide, BitVec.toNat_ofNat]
      simp
      omega
end Crc

/-- A number as 32 bits. -/
def bv (x : Int) : BitVec 32 := BitVec.ofNat 32 x.toNat
theorem bv_toNat (x : Int) (h0 : 0 ≤ x) (h1 : x < 4294967296) : ((bv x).toNat : Int) = x := by
  unfold bv
  rw [BitVec.toNat_ofNat]
  omega
theorem bv_inj (x y : Int) (hx0 : 0 ≤ x) (hx1 : x < 4294967296) (hy0 : 0 ≤ y) (hy1 : y < 4294967296) (h : bv x = bv y) : x = y := by
  rw [← bv_toNat x hx0 hx1, ← bv_toNat y hy0 hy1, h]
theorem bv_xor (a b : Int) (ha0 : 0 ≤ a) (ha1 : a < 4294967296) (hb0 : 0 ≤ b) (hb1 : b < 4294967296) : bv (Go.bits .xor .u32 a b) = bv a ^^^ bv b := by
  rw [u32_xor a b ha0 ha1 hb0 hb1]
  apply BitVec.eq_of_toNat_eq
  unfold bv
  rw [BitVec.toNat_xor, BitVec.toNat_ofNat, BitVec.toNat_ofNat, BitVec.toNat_ofNat, Int.toNat_natCast]
  have h := Nat.xor_lt_two_pow (n := 32) (x := a.toNat) (y := b.toNat) (by omega) (by omega)
  rw [Nat.mod_eq_of_lt h, Nat.mod_eq_of_lt (a := a.toNat) (by omega), Nat.mod_eq_of_lt (a := b.toNat) (by omega)]
theorem bv_t1 (x : Int) (h0 : 0 ≤ x) (h1 : x < 4294967296) : bv (t1 x) = Crc.T (bv x) := by
  have hm : (bv x).msb = decide (x ≥ 2147483648) := by
    rw [BitVec.msb_eq_decide]
    have := bv_toNat x h0 h1
    by_cases h : x ≥ 2147483648
    · rw [decide_eq_true h, decide_eq_true (by omega)]
    · rw [decide_eq_false h, decide_eq_false (by omega)]
  have hs : bv (x * 2 % 4294967296) = bv x <<< 1 := by
    apply BitVec.eq_of_toNat_eq
    unfold bv
    rw [BitVec.toNat_shiftLeft, BitVec.toNat_ofNat, BitVec.toNat_ofNat, Nat.shiftLeft_eq]
    omega
  unfold t1 Crc.T
  rw [hm]
  by_cases h : x ≥ 2147483648
  · rw [if_pos h, decide_eq_true h, if_pos rfl, bv_xor _ _ (by omega) (by omega) (by omega) (by omega), hs]
    rfl
  · rw [if_neg h, decide_eq_false h, if_neg (by simp), hs]
theorem bv_tn (n : Nat) (x : Int) (h0 : 0 ≤ x) (h1 : x < 4294967296) : bv (tn n x) = Crc.Tn n (bv x) := by
  induction n with
  | zero => rfl
  | succ n ih =>
    have hr := tn_range n x h0 h1
    simp only [tn, Crc.Tn]
    rw [bv_t1 _ hr.1 hr.2, ih]
theorem bv_split (x : Nat) (h : x < 4294967296) (k : Nat) (hk : k ≤ 32) : BitVec.ofNat 32 x = BitVec.ofNat 32 (x / 2 ^ k * 2 ^ k) ^^^ BitVec.ofNat 32 (x % 2 ^ k) := by
  apply BitVec.eq_of_toNat_eq
  rw [BitVec.toNat_xor, BitVec.toNat_ofNat, BitVec.toNat_ofNat, BitVec.toNat_ofNat]
  have h1 : x / 2 ^ k * 2 ^ k ≤ x := Nat.div_mul_le_self x _
  have h2 : x % 2 ^ k ≤ x := Nat.mod_le x _
  rw [Nat.mod_eq_of_lt h, Nat.mod_eq_of_lt (Nat.lt_of_le_of_lt h1 h), Nat.mod_eq_of_lt (Nat.lt_of_le_of_lt h2 h)]
  apply Nat.eq_of_testBit_eq
  intro i
  rw [Nat.testBit_xor, Nat.testBit_mod_two_pow, Nat.testBit_mul_two_pow, Nat.testBit_div_two_pow]
  by_cases hi : i < k
  · simp [hi, show ¬ k ≤ i by omega]
  · simp [hi, show k ≤ i by omega]
theorem ofNat_xor (a b : Nat) : BitVec.ofNat 32 a ^^^ BitVec.ofNat 32 b = BitVec.ofNat 32 (a ^^^ b) := by
  apply BitVec.eq_of_getLsbD_eq
  intro i hi
  simp [BitVec.getLsbD_ofNat, hi]
theorem ofNat_shl (a k : Nat) : BitVec.ofNat 32 (a * 2 ^ k) = BitVec.ofNat 32 a <<< k := by
  apply BitVec.eq_of_getLsbD_eq
  intro i hi
  rw [BitVec.getLsbD_ofNat, BitVec.getLsbD_shiftLeft, BitVec.getLsbD_ofNat, Nat.testBit_mul_two_pow]
  by_cases h : k ≤ i
  · have h' : ¬ i < k := by omega
    have h2 : i - k < 32 := by omega
    simp [hi, h, h', h2]
  · have h' : i < k := by omega
    simp [hi, h, h']
theorem bv_shl (a : Nat) (k : Nat) : bv ((a : Int) * (2 ^ k : Nat)) = BitVec.ofNat 32 a <<< k := by
  unfold bv
  rw [show ((a : Int) * ((2 ^ k : Nat) : Int)).toNat = a * 2 ^ k by rw [← Int.natCast_mul, Int.toNat_natCast], ofNat_shl]
theorem bv_shl_int (a : Int) (k : Nat) (h0 : 0 ≤ a) : bv (a * (2 ^ k : Nat)) = BitVec.ofNat 32 a.toNat <<< k := by
  obtain ⟨n, rfl⟩ := Int.eq_ofNat_of_zero_le h0
  rw [bv_shl, Int.toNat_natCast]
theorem nib_bv (x n : Int) (h0 : 0 ≤ x) (h1 : x < 4294967296) (h2 : 0 ≤ n) (h3 : n < 16) : bv (nib x n) = Crc.Tn 4 (bv x ^^^ bv (n * 268435456)) := by
  have hx := xor16 (x / 268435456) n (by omega) (by omega) h2 h3
  have ht := tabI_range (Go.bits .xor .u8 (x / 268435456) n).toNat (by omega)
  unfold nib
  rw [bv_xor _ _ (by omega) (by omega) ht.1 ht.2]
  unfold tabI
  rw [bv_tn 4 _ (by omega) (by omega)]
  have e1 : bv (x * 16 % 4294967296) = Crc.Tn 4 (BitVec.ofNat 32 (x.toNat % 2 ^ 28)) := by
    rw [Crc.Tn_shift 4 _ (by omega)]
    unfold bv
    congr 1
    omega
  have e2 : bv ((((Go.bits .xor .u8 (x / 268435456) n).toNat : Nat) : Int) * 268435456) = BitVec.ofNat 32 (x.toNat / 2 ^ 28 * 2 ^ 28) ^^^ bv (n * 268435456) := by
    rw [u8_xor _ _ (by omega) (by omega) (by omega) (by omega), Int.toNat_natCast]
    have e3 : (x / 268435456).toNat = x.toNat / 2 ^ 28 := by omega
    have h28 := bv_shl (x.toNat / 2 ^ 28 ^^^ n.toNat) 28
    have h28' := bv_shl_int n 28 h2
    rw [show ((2 ^ 28 : Nat) : Int) = 268435456 from rfl] at h28 h28'
    rw [e3, h28, h28', ofNat_shl, Nat.xor_comm, ← ofNat_xor, BitVec.shiftLeft_xor_distrib, BitVec.xor_comm]
  rw [e1, e2, ← Crc.Tn_xor]
  congr 1
  have e6 : bv x = BitVec.ofNat 32 (x.toNat / 2 ^ 28 * 2 ^ 28) ^^^ BitVec.ofNat 32 (x.toNat % 2 ^ 28) := bv_split x.toNat (by omega) 28 (by omega)
  rw [e6]
  ac_rfl
/-- A byte's step, as eight bitwise ones. -/
theorem byteStep_bv (x c : Int) (h0 : 0 ≤ x) (h1 : x < 4294967296) (h2 : 0 ≤ c) (h3 : c < 256) : bv (byteStep x c) = Crc.Tn 8 (bv x ^^^ bv (c * 16777216)) := by
  have hn := nib_range x (c / 16) h0 h1 (by omega) (by omega)
  unfold byteStep
  rw [nib_bv _ _ hn.1 hn.2 (by omega) (by omega), nib_bv _ _ h0 h1 (by omega) (by omega), Crc.Tn_add 4 4]
  congr 1
  have e1 : bv (c % 16 * 268435456) = Crc.Tn 4 (BitVec.ofNat 32 ((c % 16 * 16777216).toNat)) := by
    rw [Crc.Tn_shift 4 _ (by omega)]
    unfold bv
    congr 1
    omega
  rw [e1, ← Crc.Tn_xor]
  congr 1
  have e2 : bv (c * 16777216) = bv (c / 16 * 268435456) ^^^ BitVec.ofNat 32 ((c % 16 * 16777216).toNat) := by
    have h := bv_split (c * 16777216).toNat (by omega) 28 (by omega)
    unfold bv
    rw [h]
    congr 2
    · omega
    · omega
  rw [e2, BitVec.xor_assoc]

end Go.Proofs.Ytgjajalneknagaa.Hm
end
section
/- One byte of the sum is eight bits; conditions: those that each lemma names. -/
namespace Go.Proofs.Ytgjajalneknagaa.Hm
open Go.RowKit Go.Proofs.YtgjajalneknagaaW.PrintWords Go.Proofs.YtgjajalneknagaaW.PrintLast Go.Proofs.YtgjajalneknagaaW.PrintMore
set_option linter.unusedVariables false
set_option linter.unusedSimpArgs false

theorem step8 (x c : Int) (h0 : 0 ≤ x) (h1 : x < 4294967296) (h2 : 0 ≤ c) (h3 : c < 256) : tn 8 (Go.bits .xor .u32 x ((c % 4294967296 * 16777216) % 4294967296)) = byteStep x c := by
  have e : (c % 4294967296 * 16777216) % 4294967296 = c * 16777216 := by omega
  rw [e]
  have hx : 0 ≤ Go.bits .xor .u32 x (c * 16777216) ∧ Go.bits .xor .u32 x (c * 16777216) < 4294967296 := by
    rw [u32_xor _ _ h0 h1 (by omega) (by omega)]
    have h := Nat.xor_lt_two_pow (n := 32) (x := x.toNat) (y := (c * 16777216).toNat) (by omega) (by omega)
    omega
  have h8 := tn_range 8 _ hx.1 hx.2
  have hb := byteStep_range x c h0 h1 h2 h3
  refine bv_inj _ _ h8.1 h8.2 hb.1 hb.2 ?_
  rw [bv_tn 8 _ hx.1 hx.2, byteStep_bv x c h0 h1 h2 h3, bv_xor _ _ h0 h1 (by omega) (by omega)]
end Go.Proofs.Ytgjajalneknagaa.Hm
end
section
/- What is right is told by a residue; a burst of up to 32 bits on end, not all noughts, turns what is right into what isn't; so does another byte. Conditions: numbers that are bytes, places inside. -/
namespace Go.Proofs.Ytgjajalneknagaa.Hm
open Go.RowKit Go.Proofs.YtgjajalneknagaaW.PrintWords Go.Proofs.YtgjajalneknagaaW.PrintLast Go.Proofs.YtgjajalneknagaaW.PrintMore
set_option linter.unusedVariables false
set_option linter.unusedSimpArgs false

def ones : BitVec 32 := bv 4294967295
def val (a b c d : Int) : Int := a * 16777216 + b * 65536 + c * 256 + d
theorem four (q : List Int) (h : q.length = 4) : ∃ a b c d, q = [a, b, c, d] := by
  match q, h with
  | [a, b, c, d], _ => exact ⟨a, b, c, d, rfl⟩
end Go.Proofs.Ytgjajalneknagaa.Hm
end
