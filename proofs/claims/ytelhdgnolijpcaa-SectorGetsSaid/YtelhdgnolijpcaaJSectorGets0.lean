/- Part 1 of the proof of the statement SectorGets: lemmas and walks of the Go functions that it reaches; conditions: those that each theorem names. -/
import Derived.Test.YtelhdgnolijpcaaProg
import Derived.Below
import Derived.Deep.Draws
import Derived.Deep.AppendLies
import Derived.Maps.AppendAt
import Derived.OwnWalk
import Derived.Laws.BytesArg
import Derived.Laws.MakeOwn
import Derived.Laws.OwnMore
import Derived.Deep.OwnRows
import Derived.Tactics
import Derived.Lib.ConvBytes
import Derived.Laws.Slices
import Derived.WalkKit
import Derived.KernelRfl
import Derived.RowKit3
import Derived.Deep.LoopGhost
import Derived.Deep.QuietTactic
import Derived.BigQuiet
import Derived.WideLaws
import Derived.Deep.DeepCutAuto
import Derived.Deep.CutBlock
import Derived.Deep.RegionHeld3
import Derived.Laws.Rows
import Derived.Lib.AppendStr
import Derived.ArgAppend
import Derived.Laws.IdiomCopy
import Derived.OrdersHeld
import Derived.Laws.BitsLemmas
import Derived.RowKit
import Derived.Laws.BitsAllLaws
import Derived.Laws.CopyOwn
import Derived.Lib.SliceRun
import Derived.LoopTactic
import Derived.WalkLawsBesides
import Derived.WalkSpells
import Derived.Lib.SlBytesConst
import Derived.Test.YtelhdgnolijpcaaWWords
import Derived.Test.YtelhdgnolijpcaaWLast
import Derived.Test.YtelhdgnolijpcaaWTab
import Derived.Test.YtelhdgnolijpcaaWFour
import Derived.Test.YtelhdgnolijpcaaWQPut
import Derived.Test.YtelhdgnolijpcaaWApart
import Derived.Test.YtelhdgnolijpcaaWArr
import Derived.Test.YtelhdgnolijpcaaWZeros
import Derived.Test.YtelhdgnolijpcaaWFoot
import Derived.Test.YtelhdgnolijpcaaWKept
import Derived.Test.YtelhdgnolijpcaaWShare
import Derived.Test.YtelhdgnolijpcaaWN
import Derived.Test.YtelhdgnolijpcaaWFootNe
import Derived.Test.YtelhdgnolijpcaaWAt
import Derived.Test.YtelhdgnolijpcaaWEqStruct
import Derived.Test.YtelhdgnolijpcaaWRepsOne
import Derived.Test.YtelhdgnolijpcaaWInv
import Derived.Test.YtelhdgnolijpcaaWInvWords
import Derived.Test.YtelhdgnolijpcaaWGuard
import Derived.Test.YtelhdgnolijpcaaWNEv
import Derived.Test.YtelhdgnolijpcaaWMore
import Derived.BigRegion
import Derived.StillTailTactics
import Derived.RegionTactic
import Derived.ChangeAlike
section
/- What the hand-made texts of this seat import: the program, the library's laws, the print's words. -/
namespace Go.Proofs.Ytelhdgnolijpcaa.Hm
open Go.RowKit Go.Proofs.YtelhdgnolijpcaaW.PrintWords Go.Proofs.YtelhdgnolijpcaaW.PrintLast Go.Proofs.YtelhdgnolijpcaaW.PrintMore
set_option linter.unusedVariables false
set_option linter.unusedSimpArgs false
theorem infoB : (Try.prog.info? 5).map (fun i => (i.zero, i.size, i.bytes)) = some (some (.int .u8 0), 1, 1) := by kernel_rfl
set_option linter.unusedVariables false
set_option linter.unusedSimpArgs false
/-- A block of bytes, marked or not, reads as its numbers. -/
theorem C_of_block {W : World} {g : Nat} {C : Array Value} {e : TypeId} {fr : Nat × Nat} (xs : List Int) (h : W.heap[g]? = some (.cells C e fr)) (hC : C = (nums .u8 xs).toArray) (hl : xs.length ≤ 9223372036854775807) :
    Kd.C (Kd.int .u8) W (some ⟨g, 0, none⟩) xs.length xs := by
  refine Kd.C_of_reads (d := (0 : Int)) (h1 := fun _ => rfl) (show ReadsInt W .u8 (some ⟨g, 0, none⟩) xs.length xs from ⟨rfl, hl, fun _ => ⟨_, rfl, fun j hj => ?_⟩⟩)
  rw [add_plain, cell_of_row W g j C e fr h, hC]
  simp [nums, hj]
section
variable {ops : Array Oper} {rest : List Oper} {o : Oper} {a : Act} {Q : Exit → Act → World → Prop} {W : World}
/-- '[]byte("..")' of a constant: the literal's row is marked by the conversion; what it holds is read, never written. -/
theorem V_conv_lit (hgd : o.guard = none) {N' : Tmp} (_hd : o.dst = some N') (x : Operand) (ho : o.op = .convert 23 23 x) (xs : List Int) {C : Array Value} (hC : C = (nums .u8 xs).toArray) (hx : a.eval x = .slice (some ⟨W.heap.size, 0, none⟩) xs.length xs.length)
    (hl : xs.length ≤ 9223372036854775807)
    (h : ∀ v1 w1, Kd.V (Kd.int .u8) 5 w1 W.heap.size (fun k => W.heap.size ≤ k) v1 xs → Below W.heap.size W w1 → wpList Try.prog ops Q rest (a.put o.dst v1) w1) : wpList Try.prog ops Q (o :: rest) a (W.alloc (.cells C 5)) := by
  refine Kd.event_run hgd (v := .slice (some ⟨W.heap.size, 0, none⟩) xs.length xs.length) (w1 := W.alloc (.cells C 5 (C.size, C.size + 1))) ?_ (h _ _ (Kd.V_mk (Nat.le_refl _) ?_) (below_alloc (Below.refl _ _) _))
  · unfold execOp
    simp only [ho, hx, Sem.run_bind, Lib.run_convert_bytes_const (P := Try.prog) W 23 5 C xs.length xs.length Try.underlying23 Try.underlying5]
    rfl
  · intro W' hk
    have hb := hk W.heap.size (Nat.le_refl _) (by simp)
    rw [heap_alloc_new] at hb
    exact C_of_block xs hb hC hl
/-- '[]byte(s)' of a string. -/
theorem V_conv_str (hgd : o.guard = none) {N' : Tmp} (_hd : o.dst = some N') (x : Operand) (ho : o.op = .convert 9 23 x) (s : ByteArray) (hx : a.eval x = .string s)
    (hl : s.size ≤ 9223372036854775807)
    (h : ∀ v1 w1, Kd.V (Kd.int .u8) 5 w1 W.heap.size (fun k => W.heap.size ≤ k) v1 (bytesOf s) → Below W.heap.size W w1 → wpList Try.prog ops Q rest (a.put o.dst v1) w1) : wpList Try.prog ops Q (o :: rest) a W := by
  have hr := print_bytes (P := Try.prog) 9 23 5 Try.underlying9 Try.underlying23 Try.underlying5 s W
  refine Kd.event_run hgd (v := .slice (some ⟨W.heap.size, 0, none⟩) s.size (grownCap W s.size 0 5)) (w1 := Lib.bytesWorld W 5 s) ?_ (h _ _ ?_ (bytes_below (Below.refl _ _) (Nat.le_refl _) _ _))
  · unfold execOp
    simp only [ho, hx, Sem.run_bind, hr]
    rfl
  · have hcap : s.size ≤ grownCap W s.size 0 5 := Nat.le_add_right s.size _
    refine ⟨_, _, by rw [bytesOf_length], by rw [bytesOf_length]; exact hcap, fun W' hk => ?_⟩
    have hb := hk W.heap.size (Nat.le_refl _) (by rw [Lib.bytesWorld_size]; omega)
    refine Kd.C_of_reads (d := (0 : Int)) (h1 := fun _ => rfl) (show ReadsInt W' .u8 (some ⟨W.heap.size, 0, none⟩) (bytesOf s).length (bytesOf s) from ⟨rfl, by rw [bytesOf_length]; exact hl, fun _ => ⟨_, rfl, fun j hj => ?_⟩⟩)
    rw [bytesOf_length] at hj
    have hr := bytes_reads W 5 s hl
    obtain ⟨ad, e1, e2⟩ := hr.2.2 (by omega)
    injection e1 with e1
    subst e1
    have h2 := e2 j hj
    have h3 : W'.cell? ((⟨W.heap.size, 0, none⟩ : Addr).add j) = (Lib.bytesWorld W 5 s).cell? ((⟨W.heap.size, 0, none⟩ : Addr).add j) := by
      rw [add_plain]
      simp only [World.cell?, hb]
    rw [h3, h2]
end
end Go.Proofs.Ytelhdgnolijpcaa.Hm
end
section
/- The Go function crc.table returns the table that tabRow 16 is, whatever the world. -/
namespace Go.Proofs.Ytelhdgnolijpcaa.Hm
open Go.RowKit Go.Proofs.YtelhdgnolijpcaaW.PrintWords Go.Proofs.YtelhdgnolijpcaaW.PrintLast Go.Proofs.YtelhdgnolijpcaaW.PrintMore
set_option linter.unusedVariables false
set_option linter.unusedSimpArgs false

def t1 (x : Int) : Int := if x ≥ 2147483648 then Go.bits .xor .u32 ((x * 2) % 4294967296) 79764919 else (x * 2) % 4294967296
def tn : Nat → Int → Int
  | 0, x => x
  | n + 1, x => t1 (tn n x)
def tabI (i : Nat) : Int := tn 4 ((i : Int) * 268435456)
def tabRow (k : Nat) : Array Value := ((List.range 16).map fun j => Value.int .u32 (if j < k then tabI j else 0)).toArray
theorem tabRow_zero : #[Value.int .u32 0, .int .u32 0, .int .u32 0, .int .u32 0, .int .u32 0, .int .u32 0, .int .u32 0, .int .u32 0, .int .u32 0, .int .u32 0, .int .u32 0, .int .u32 0, .int .u32 0, .int .u32 0, .int .u32 0, .int .u32 0] = tabRow 0 := by
  simp [tabRow, List.range, List.range.loop]
theorem tabRow_size (k : Nat) : (tabRow k).size = 16 := by simp [tabRow]
theorem tabRow_get (k j : Nat) (h : j < 16) : (tabRow k)[j]? = some (.int .u32 (if j < k then tabI j else 0)) := by
  simp [tabRow, h]
theorem tabRow_set (k : Nat) : (tabRow k).setIfInBounds k (.int .u32 (tabI k)) = tabRow (k + 1) := by
  apply Array.ext_getElem?
  intro i
  rw [Array.getElem?_setIfInBounds, tabRow_size]
  by_cases hi : i < 16
  · rw [tabRow_get _ _ hi]
    by_cases e : k = i
    · subst e
      rw [if_pos rfl, if_pos hi, tabRow_get _ _ hi, if_pos (by omega)]
    · rw [if_neg e, tabRow_get _ _ hi]
      by_cases h2 : i < k
      · rw [if_pos h2, if_pos (by omega)]
      · rw [if_neg h2, if_neg (by omega)]
  · have hz : ∀ k, (tabRow k)[i]? = none := fun k => Array.getElem?_eq_none (by rw [tabRow_size]; omega)
    rw [hz, hz]
    split
    · rw [if_neg (by omega)]
    · rfl
theorem tabRow_all (k : Nat) : (tabRow k).all (·.oneCell') = true := by simp [tabRow, Value.oneCell']
theorem t1_range (x : Int) (h0 : 0 ≤ x) (h1 : x < 4294967296) : 0 ≤ t1 x ∧ t1 x < 4294967296 := by
  unfold t1
  split
  · rw [u32_xor _ _ (by omega) (by omega) (by omega) (by omega)]
    have h := Nat.xor_lt_two_pow (n := 32) (x := (x * 2 % 4294967296).toNat) (y := (79764919 : Int).toNat) (by omega) (by decide)
    omega
  · omega
theorem tn_range (n : Nat) (x : Int) (h0 : 0 ≤ x) (h1 : x < 4294967296) : 0 ≤ tn n x ∧ tn n x < 4294967296 := by
  induction n with
  | zero => exact ⟨h0, h1⟩
  | succ n ih => exact t1_range _ ih.1 ih.2
theorem tabI_range (i : Nat) (h : i < 16) : 0 ≤ tabI i ∧ tabI i < 4294967296 := tn_range 4 _ (by omega) (by omega)

theorem ret_cell {P : Program} {R : Ending → World → Prop} {fn : Func} {v : Value} {a : Act} {w : World} (h : (results fn a.tmps).run P w = .ok v w) (hd : a.defers = []) (hr : R (.returned v) w) : bodyPost P fn R .ret a w := bodyPost_ret h hd hr

set_option maxHeartbeats 400000 in
theorem table_any (w : World) : Calls Try.prog 28 #[] w fun e w' => e = .returned (.agg (tabRow 16)) ∧ Below w.heap.size w w' := by
  go_enter Try.func28, Try.ntmps28
  go_wp2
  go_loopg [4] 16 (fun kq v4 w' => ∃ k : Nat, k + kq = 16 ∧ v4 = .int .i64 k ∧ Aside0 (Below w.heap.size w w') ∧ Aside0 (w'.heap[w.heap.size+1]? = some (.cells (tabRow k) 60 (0,0))) ∧ Aside0 (w'.heap[w.heap.size]? = some (.cells (tabRow 0) 60 (0,0))))
  case atStart =>
    refine ⟨0, rfl, rfl, ⟨?_⟩, ⟨?_⟩, ⟨?_⟩⟩
    · exact ((Below.refl _ _).alloc (Nat.le_refl _) _).alloc (by simp) _
    · rw [tabRow_zero]; exact heap_alloc2_new _ _ _
    · rw [tabRow_zero]; exact heap_alloc2_old _ _ _
  case round =>
    obtain ⟨k, hk, rfl, HB, H1, H0⟩ := hrel
    by_cases hlt : k < 16
    · have hd : decide ((k : Int) < 16) = true := decide_eq_true (by omega)
      go_wp2
      go_loopg [3, 10] 4 (fun jq v3 v10 w' => ∃ j : Nat, j + jq = 4 ∧ v10 = .int .i64 j ∧ v3 = .int .u32 (tn j (k * 268435456)) ∧ w' = wr)
      case atStart => exact ⟨0, rfl, rfl, rfl, rfl⟩
      case round =>
        obtain ⟨j, hj, rfl, rfl, rfl⟩ := hrel
        have hr := tn_range j (k * 268435456) (by omega) (by omega)
        obtain ⟨y, hy⟩ : ∃ y, tn j ((k : Int) * 268435456) = y := ⟨_, rfl⟩
        rw [hy] at hr
        have HY := Aside0.mk hy
        simp only [hy]
        clear hy
        obtain ⟨hr0, hr1⟩ := hr
        by_cases hj4 : j < 4
        · have hd4 : decide ((j : Int) < 4) = true := decide_eq_true (by omega)
          by_cases hy2 : y ≥ 2147483648
          all_goals
            first | (have hb2 : decide ((2147483648 : Int) ≤ y) = true := decide_eq_true hy2) | (have hb2 : decide ((2147483648 : Int) ≤ y) = false := decide_eq_false hy2)
            go_wp2
            go_roundg (3 - j)
            case measure => omega
            case rel =>
              refine ⟨j + 1, by omega, by go_num, ?_, rfl⟩
              simp only [tn, HY.out, t1]
              first
                | rw [if_pos hy2]
                | (rw [if_neg (by omega), Int.emod_eq_of_lt (by omega) (by omega)])
        · have hj' : j = 4 := by omega
          subst hj'
          have c1 := tabRow_get k k hlt
          have c2 : wr.cell? ⟨w.heap.size + 1, k, none⟩ = some (.int .u32 (if k < k then tabI k else 0)) := by rw [blk_cell H1.out, c1]
          have c3 : wr.frozen? ⟨w.heap.size + 1, k, none⟩ = false := blk_frozen H1.out k
          rw [if_neg (Nat.lt_irrefl _)] at c2
          clear c1
          go_wp2
          go_roundg (15 - k)
          case measure => omega
          case rel =>
            refine ⟨k + 1, by omega, by go_num, ⟨?_⟩, ⟨?_⟩, ⟨?_⟩⟩
            · exact HB.out.setCell (by simp) _
            · rw [← tabRow_set, tabI, HY.out]
              exact blk_set H1.out k _
            · exact blk_far H0.out (by simp) _
    · have hk' : k = 16 := by omega
      subst hk'
      go_wp2_with (first | (refine wpList_load_row rfl 60 _ rfl (w.heap.size + 1) rfl _ _ _ _ H1.out Try.underlying60 rfl (by kernel_rfl) ?_) | (refine wpList_store_row rfl 60 _ _ rfl w.heap.size (tabRow 16) rfl rfl _ _ H0.out (by kernel_rfl) ((tabRow_size 0).trans (tabRow_size 16).symm) (tabRow_all 16) ?_))
      refine bodyPost_ret (results_cell_row rfl _ _ w.heap.size _ (tabRow 16) _ _ rfl (setRow_heap _ _ _ _ _ _ H0.out) Try.underlying60 rfl (by kernel_rfl)) rfl ⟨rfl, ?_⟩
      exact below_setRow HB.out (Nat.le_refl _) _

end Go.Proofs.Ytelhdgnolijpcaa.Hm
end
section
/- The Go function crc.More returns 4294967295 - crcRaw (4294967295 - a0) l1; conditions: a0 is a uint32, the numbers of l1 are bytes. -/
namespace Go.Proofs.Ytelhdgnolijpcaa.Hm
open Go.RowKit Go.Proofs.YtelhdgnolijpcaaW.PrintWords Go.Proofs.YtelhdgnolijpcaaW.PrintLast Go.Proofs.YtelhdgnolijpcaaW.PrintMore
set_option linter.unusedVariables false
set_option linter.unusedSimpArgs false

def nib (x n : Int) : Int := Go.bits .xor .u32 ((x * 16) % 4294967296) (tabI (Go.bits .xor .u8 (x / 268435456) n).toNat)
def byteStep (x c : Int) : Int := nib (nib x (c / 16)) (c % 16)
def inner (x c : Int) : Nat → Int
  | 0 => x
  | 1 => nib x (c / 16)
  | _ => byteStep x c
def crcRaw (x : Int) (l : List Int) : Int := l.foldl byteStep x

theorem ones_xor (a : Nat) (h : a < 4294967296) : 4294967295 ^^^ a = 4294967295 - a := by
  apply Nat.eq_of_testBit_eq
  intro i
  rw [Nat.testBit_xor]
  have e : (4294967295 : Nat) - a = 2 ^ 32 - (a + 1) := by omega
  have e1 : (4294967295 : Nat) = 2 ^ 32 - 1 := rfl
  rw [e, Nat.testBit_two_pow_sub_succ h, e1, Nat.testBit_two_pow_sub_one]
  by_cases hi : i < 32
  · simp [hi]
  · have hb : a < 2 ^ i := Nat.lt_of_lt_of_le (show a < 2 ^ 32 from h) (Nat.pow_le_pow_right (by decide) (by omega))
    simp [hi, Nat.testBit_lt_two_pow hb]
theorem not32 (a : Int) (h0 : 0 ≤ a) (h1 : a < 4294967296) : Go.bits .xor .u32 IntKind.u32.max a = 4294967295 - a := by
  have e : IntKind.u32.max = 4294967295 := by decide
  rw [e, u32_xor _ _ (by omega) (by omega) h0 h1]
  have h := ones_xor a.toNat (by omega)
  have e2 : (4294967295 : Int).toNat = 4294967295 := rfl
  rw [e2, h]
  omega
theorem xor16 (a b : Int) (h0 : 0 ≤ a) (h1 : a < 16) (h2 : 0 ≤ b) (h3 : b < 16) : 0 ≤ Go.bits .xor .u8 a b ∧ Go.bits .xor .u8 a b < 16 := by
  rw [u8_xor _ _ (by omega) (by omega) (by omega) (by omega)]
  have h := Nat.xor_lt_two_pow (n := 4) (x := a.toNat) (y := b.toNat) (by omega) (by omega)
  omega
theorem nib_range (x n : Int) (h0 : 0 ≤ x) (h1 : x < 4294967296) (h2 : 0 ≤ n) (h3 : n < 16) : 0 ≤ nib x n ∧ nib x n < 4294967296 := by
  unfold nib
  have hx := xor16 (x / 268435456) n (by omega) (by omega) h2 h3
  have ht := tabI_range (Go.bits .xor .u8 (x / 268435456) n).toNat (by omega)
  rw [u32_xor _ _ (by omega) (by omega) ht.1 ht.2]
  have h := Nat.xor_lt_two_pow (n := 32) (x := (x * 16 % 4294967296).toNat) (y := (tabI (Go.bits .xor .u8 (x / 268435456) n).toNat).toNat) (by omega) (by omega)
  omega
theorem byteStep_range (x c : Int) (h0 : 0 ≤ x) (h1 : x < 4294967296) (h2 : 0 ≤ c) (h3 : c < 256) : 0 ≤ byteStep x c ∧ byteStep x c < 4294967296 := by
  have h := nib_range x (c / 16) h0 h1 (by omega) (by omega)
  exact nib_range _ (c % 16) h.1 h.2 (by omega) (by omega)
theorem crcRaw_range (l : List Int) : ∀ (x : Int), 0 ≤ x → x < 4294967296 → (∀ c ∈ l, 0 ≤ c ∧ c < 256) → 0 ≤ crcRaw x l ∧ crcRaw x l < 4294967296 := by
  induction l with
  | nil => intro x h0 h1 _; exact ⟨h0, h1⟩
  | cons c l ih =>
    intro x h0 h1 h
    have hc := h c (by simp)
    have hs := byteStep_range x c h0 h1 hc.1 hc.2
    exact ih _ hs.1 hs.2 fun d hd => h d (by simp [hd])
theorem crcRaw_take (x : Int) (l : List Int) (k : Nat) (h : k < l.length) : crcRaw x (l.take (k + 1)) = byteStep (crcRaw x (l.take k)) (rd l k) := by
  rw [List.take_succ_eq_append_getElem h, crcRaw, List.foldl_append]
  simp [crcRaw, rd, h]

set_option maxHeartbeats 1000000 in
theorem more_any (a0 : Int) (A1 : Option Addr) (c1 : Nat) (l1 : List Int) (w : World) (hr1 : Kd.C (Kd.int .u8) w A1 l1.length l1) (hc1 : l1.length ≤ c1)
    (ha0 : 0 ≤ a0) (ha1 : a0 < 4294967296) (hl : ∀ x ∈ l1, 0 ≤ x ∧ x < 256) :
    Calls Try.prog 16 #[.int .u32 a0, .slice A1 l1.length c1] w fun e w' => e = .returned (.int .u32 (4294967295 - crcRaw (4294967295 - a0) l1)) ∧ Below w.heap.size w w' := by
  have HR := Aside0.mk hr1
  have HL := Aside0.mk hl
  have hm := Kd.C_max hr1
  clear hr1 hl
  go_enter Try.func16, Try.ntmps16
  go_wp2_with (first | (go_at_call 28; refine (table_any _).mono ?_; rintro e w1 ⟨rfl, hb⟩; have HB := Aside0.mk hb; clear hb) | (refine wpList_store_row rfl 60 _ _ rfl _ (tabRow 16) rfl rfl _ _ (heap_alloc_new _ _) (by kernel_rfl) ((tabRow_size 0).trans (tabRow_size 16).symm) (tabRow_all 16) ?_))
  go_loopg [6, 16] l1.length (fun kq v6 v16 w' => ∃ k : Nat, k + kq = l1.length ∧ v16 = .int .i64 k ∧ v6 = .int .u32 (crcRaw (4294967295 - a0) (l1.take k)) ∧ Aside0 (Below w.heap.size w w') ∧ Aside0 (w'.heap[w1.heap.size]? = some (.cells (tabRow 16) 60 (0,0))))
  case atStart =>
    refine ⟨0, by omega, rfl, ?_, ⟨?_⟩, ⟨?_⟩⟩
    · rw [not32 a0 ha0 ha1]; rfl
    · exact below_setRow (HB.out.alloc HB.out.size _) HB.out.size _
    · exact setRow_heap _ _ _ _ _ _ (heap_alloc_new _ _)
  case round =>
    obtain ⟨k, hk, rfl, rfl, HB', HT⟩ := hrel
    have hx := crcRaw_range (l1.take k) (4294967295 - a0) (by omega) (by omega) (fun c hc => HL.out c (List.mem_of_mem_take hc))
    obtain ⟨x, hX⟩ : ∃ x, crcRaw (4294967295 - a0) (l1.take k) = x := ⟨_, rfl⟩
    rw [hX] at hx
    simp only [hX]
    have HX := Aside0.mk hX
    clear hX
    obtain ⟨hx0, hx1⟩ := hx
    by_cases hlt : k < l1.length
    · have hd : decide ((k : Int) < (l1.length : Int)) = true := decide_eq_true (by omega)
      have hd2 : decide (k < l1.length) = true := decide_eq_true hlt
      obtain ⟨ad, hA, hcell⟩ := Kd.at_int (Kd.C_below HR.out HB'.out) (k : Int) (by omega) (by omega)
      subst hA
      rw [Int.toNat_natCast] at hcell
      have hc := HL.out (rd l1 k) (by unfold rd; simp [hlt])
      obtain ⟨c, hC⟩ : ∃ c, rd l1 (k : Int) = c := ⟨_, rfl⟩
      rw [hC] at hc hcell
      have HC := Aside0.mk hC
      clear hC
      obtain ⟨hc0, hc1⟩ := hc
      go_wp2
      go_loopg [6, 25] 2 (fun jq v6 v25 w' => ∃ j : Nat, j + jq = 2 ∧ v25 = .int .i64 j ∧ v6 = .int .u32 (inner x c j) ∧ w' = wr)
      case atStart => exact ⟨0, rfl, rfl, rfl, rfl⟩
      case round =>
        obtain ⟨j, hj, rfl, rfl, rfl⟩ := hrel
        have hj3 : j = 0 ∨ j = 1 ∨ j = 2 := by omega
        rcases hj3 with rfl | rfl | rfl
        · have hy : inner x c 0 = x := rfl
          rw [hy]
          clear hy
          have hb := xor16 (x / 268435456) (c / 16) (by omega) (by omega) (by omega) (by omega)
          obtain ⟨i, hi⟩ := Int.eq_ofNat_of_zero_le hb.1
          rw [hi] at hb
          have hi16 : i < 16 := by omega
          have hcl : wr.cell? ⟨w1.heap.size, i, none⟩ = some (.int .u32 (tabI i)) := by rw [blk_cell HT.out, tabRow_get 16 i hi16, if_pos hi16]
          have ht := tabI_range i hi16
          clear hb
          have ix : ∀ w, (Instr.index 62 (.agg #[.int .u8 (c / 16), .int .u8 (c % 16)]) (.int .i64 0)).run Try.prog w = .ok (.int .u8 (c / 16)) w := fun _ => by kernel_rfl
          go_wp2
          go_roundg 1
          case measure => omega
          case rel =>
            refine ⟨1, by omega, by go_num, ?_, rfl⟩
            simp only [inner, nib, hi]
            rfl
        · have hn := nib_range x (c / 16) hx0 hx1 (by omega) (by omega)
          have hy : inner x c 1 = nib x (c / 16) := rfl
          rw [hy]
          clear hy
          obtain ⟨y, hY⟩ : ∃ y, nib x (c / 16) = y := ⟨_, rfl⟩
          rw [hY] at hn ⊢
          have HY := Aside0.mk hY
          clear hY
          obtain ⟨hn0, hn1⟩ := hn
          have hb := xor16 (y / 268435456) (c % 16) (by omega) (by omega) (by omega) (by omega)
          obtain ⟨i, hi⟩ := Int.eq_ofNat_of_zero_le hb.1
          rw [hi] at hb
          have hi16 : i < 16 := by omega
          have hcl : wr.cell? ⟨w1.heap.size, i, none⟩ = some (.int .u32 (tabI i)) := by rw [blk_cell HT.out, tabRow_get 16 i hi16, if_pos hi16]
          have ht := tabI_range i hi16
          clear hb
          have ix : ∀ w, (Instr.index 62 (.agg #[.int .u8 (c / 16), .int .u8 (c % 16)]) (.int .i64 1)).run Try.prog w = .ok (.int .u8 (c % 16)) w := fun _ => by kernel_rfl
          go_wp2
          go_roundg 0
          case measure => omega
          case rel =>
            refine ⟨2, by omega, by go_num, ?_, rfl⟩
            simp only [inner, byteStep, HY.out]
            simp only [nib, hi]
            rfl
        · have hy : inner x c 2 = byteStep x c := rfl
          rw [hy]
          clear hy
          obtain ⟨y, hY⟩ : ∃ y, byteStep x c = y := ⟨_, rfl⟩
          rw [hY]
          have HY := Aside0.mk hY
          clear hY
          go_wp2
          go_roundg (l1.length - k - 1)
          case measure => omega
          case rel =>
            refine ⟨k + 1, by omega, by go_num, ?_, HB', HT⟩
            rw [crcRaw_take _ _ _ hlt, HX.out, HC.out, HY.out]
    · have hk' : k = l1.length := by omega
      subst hk'
      go_wp2
      go_ret
      refine ⟨?_, HB'.out⟩
      have e := HX.out
      rw [List.take_length] at e
      rw [not32 x hx0 hx1, e]
      rfl

end Go.Proofs.Ytelhdgnolijpcaa.Hm
end
section
/- The Go functions slices.Clone (of bytes), crc.Of, crc.Sealed and crc.Right return what plain Lean functions of lists compute; conditions: the numbers are bytes, the lengths fit. -/
namespace Go.Proofs.Ytelhdgnolijpcaa.Hm
open Go.RowKit Go.Proofs.YtelhdgnolijpcaaW.PrintWords Go.Proofs.YtelhdgnolijpcaaW.PrintLast Go.Proofs.YtelhdgnolijpcaaW.PrintMore
set_option linter.unusedVariables false
set_option linter.unusedSimpArgs false

/-- slices.Clone of bytes. -/
def slices_Clone.f (l : List Int) : Option (List Int) := if l.length ≤ 140737488355327 then some l else none
set_option maxHeartbeats 1000000 in
theorem slices_Clone.calls (A0 : Option Addr) (c0 : Nat) (l0 : List Int) (r : List Int) (w : World) (hr0 : Kd.C (Kd.int .u8) w A0 l0.length l0) (hc0 : l0.length ≤ c0) (h : slices_Clone.f l0 = some r) :
    Calls Try.prog 29 #[.slice A0 l0.length c0] w fun e w' => ∃ v0_ : Value, e = .returned v0_ ∧ Kd.R (Kd.int .u8) 5 w' w.heap.size (fun _ => True) v0_ r ∧ Below w.heap.size w w' := by
  unfold slices_Clone.f at h
  by_cases hl : l0.length ≤ 140737488355327
  · rw [if_pos hl] at h
    obtain rfl := Option.some.inj h
    clear h
    have HR := Aside0.mk hr0
    clear hr0
    have hn := fun (w : World) => Lib.run_eql_slice_nil (P := Try.prog) w 23 5 A0 l0.length c0 0 0 Try.underlying23
    cases A0 with
    | none =>
      have e : l0.length = 0 := by
        rcases Nat.eq_zero_or_pos l0.length with h0 | h0
        · exact h0
        · obtain ⟨ad, h1, _⟩ := Kd.at_int HR.out 0 (by omega) (by omega)
          cases h1
      have e' : l0 = [] := List.eq_nil_of_length_eq_zero e
      subst e'
      clear hn
      have hn := fun (w : World) => Lib.run_eql_slice_nil (P := Try.prog) w 23 5 none 0 c0 0 0 Try.underlying23
      go_enter Try.func29, Try.ntmps29
      go_wp2
      go_ret
      exact ⟨_, rfl, Kd.R_nil _ _ _ _ _, Below.refl _ _⟩
    | some ad =>
      go_enter Try.func29, Try.ntmps29
      go_wp2_with (first | ((with_reducible refine gate_dst (N := 5) rfl ?_); refine Kd.R_lit (Kd.int .u8) (w0 := w) w.heap.size 5 ?hg (N := 5) ?hd (xs := []) (inner := []) (ok := fun _ => True) (okp := fun _ => True) ?hr (Reps.none _ _) (fun _ hk => hk) trivial (Below.refl _ _) (Nat.le_refl _) (by simp) ?_; (case hd => rfl); (case hg => rfl); (case hr => first | (go_simp; done) | (go_simp; rfl)); intro v5 w1 hro hb1 hg1 hat1; have HRO := Aside0.mk hro; have HB := Aside0.mk hb1; clear hro hb1 hg1 hat1) | (at_builtin; refine Kd.R_append_row (Value.int .u8) 0 (w0 := w) w.heap.size rfl (.tmp 5) (.tmp 6) 23 5 (.int .u8 0) 1 rfl Try.underlying23 infoB rfl (by decide) v5 [] l0 (some ad) l0.length c0 (fun _ => True) rfl rfl (fun _ _ => trivial) HRO.out (Kd.C_below HR.out HB.out) HB.out HB.out.size (by simp; omega) ?_; intro v7 w2 hro hb2 hg2 hat2; have HRO2 := Aside0.mk hro; have HB2 := Aside0.mk hb2; clear hro hb2 hg2 hat2))
      go_ret
      exact ⟨_, rfl, HRO2.out, HB2.out⟩
  · rw [if_neg hl] at h
    cases h

def bytesB (l : List Int) : Bool := l.all fun x => decide (0 ≤ x) && decide (x < 256)
theorem bytesB_iff (l : List Int) : bytesB l = true ↔ ∀ x ∈ l, 0 ≤ x ∧ x < 256 := by
  simp [bytesB]
def crcM (a : Int) (l : List Int) : Int := 4294967295 - crcRaw (4294967295 - a) l
theorem crcM_range (a : Int) (l : List Int) (h0 : 0 ≤ a) (h1 : a < 4294967296) (hl : ∀ x ∈ l, 0 ≤ x ∧ x < 256) : 0 ≤ crcM a l ∧ crcM a l < 4294967296 := by
  have h := crcRaw_range l (4294967295 - a) (by omega) (by omega) hl
  unfold crcM
  omega
/-- crc.More. -/
def crc_More.f (a : Int) (l : List Int) : Option Int := if 0 ≤ a ∧ a < 4294967296 ∧ bytesB l = true then some (crcM a l) else none
theorem crc_More.calls (a0 : Int) (A1 : Option Addr) (c1 : Nat) (l1 : List Int) (r : Int) (w : World) (hr1 : Kd.C (Kd.int .u8) w A1 l1.length l1) (hc1 : l1.length ≤ c1) (h : crc_More.f a0 l1 = some r) :
    Calls Try.prog 16 #[.int .u32 a0, .slice A1 l1.length c1] w fun e w' => e = .returned (.int .u32 r) ∧ Below w.heap.size w w' := by
  unfold crc_More.f at h
  split at h
  · rename_i hc
    obtain rfl := Option.some.inj h
    exact more_any a0 A1 c1 l1 w hr1 hc1 hc.1 hc.2.1 ((bytesB_iff l1).1 hc.2.2)
  · cases h
/-- crc.Of. -/
def crc_Of.f (l : List Int) : Option Int := if bytesB l = true then some (crcM 0 l) else none
set_option maxHeartbeats 400000 in
theorem crc_Of.calls (A0 : Option Addr) (c0 : Nat) (l0 : List Int) (r : Int) (w : World) (hr0 : Kd.C (Kd.int .u8) w A0 l0.length l0) (hc0 : l0.length ≤ c0) (h : crc_Of.f l0 = some r) :
    Calls Try.prog 14 #[.slice A0 l0.length c0] w fun e w' => e = .returned (.int .u32 r) ∧ Below w.heap.size w w' := by
  unfold crc_Of.f at h
  split at h
  · rename_i hb
    obtain rfl := Option.some.inj h
    have hm := Aside0.mk (crc_More.calls 0 A0 c0 l0 (crcM 0 l0) w hr0 hc0 (by unfold crc_More.f; rw [if_pos ⟨by omega, by omega, hb⟩]))
    clear hr0 h hb
    go_enter Try.func14, Try.ntmps14
    go_wp2_with (go_at_call 16; refine hm.out.mono ?_; rintro e w' ⟨rfl, hb⟩)
    go_ret
    exact ⟨rfl, hb⟩
  · cases h
def be32 (x : Int) : List Int := [x / 16777216 % 256, x / 65536 % 256, x / 256 % 256, x % 256]
/-- crc.Sealed. -/
def crc_Sealed.f (l : List Int) : Option (List Int) := if bytesB l = true ∧ l.length ≤ 140737488355000 then some (l ++ be32 (crcM 0 l)) else none
set_option maxHeartbeats 1000000 in
theorem crc_Sealed.calls (A0 : Option Addr) (c0 : Nat) (l0 : List Int) (r : List Int) (w : World) (hr0 : Kd.C (Kd.int .u8) w A0 l0.length l0) (hc0 : l0.length ≤ c0) (h : crc_Sealed.f l0 = some r) :
    Calls Try.prog 18 #[.slice A0 l0.length c0] w fun e w' => ∃ v0_ : Value, e = .returned v0_ ∧ Kd.R (Kd.int .u8) 5 w' w.heap.size (fun _ => True) v0_ r ∧ Below w.heap.size w w' := by
  unfold crc_Sealed.f at h
  split at h
  · rename_i hc
    obtain rfl := Option.some.inj h
    obtain ⟨hb, hl⟩ := hc
    have HR := Aside0.mk hr0
    have hx := crcM_range 0 l0 (by omega) (by omega) ((bytesB_iff l0).1 hb)
    obtain ⟨x, hX⟩ : ∃ x, crcM 0 l0 = x := ⟨_, rfl⟩
    rw [hX] at hx
    have HX := Aside0.mk hX
    have HB0 := Aside0.mk hb
    clear hr0 h hb hX
    obtain ⟨hx0, hx1⟩ := hx
    go_enter Try.func18, Try.ntmps18
    go_wp2_with fail
    refine (crc_Of.calls A0 c0 l0 x w HR.out hc0 (by unfold crc_Of.f; rw [if_pos HB0.out, HX.out])).mono ?_
    rintro e w1 ⟨rfl, hb1⟩
    have HB1 := Aside0.mk hb1
    clear hb1
    go_wp2_with fail
    refine (slices_Clone.calls A0 c0 l0 l0 w1 (Kd.C_below HR.out HB1.out) hc0 (by unfold slices_Clone.f; rw [if_pos (by omega)])).mono ?_
    rintro e w2 ⟨v7, rfl, hro, hb2⟩
    have HRO := Aside0.mk hro
    have HB2 := Aside0.mk (below_then HB1.out HB1.out.size hb2)
    clear hro hb2
    have HRO' := Aside0.mk (Kd.R_lower HRO.out HB1.out.size)
    clear HRO
    go_wp2_with (first | ((with_reducible refine gate_dst (N := 19) rfl ?_); refine Kd.R_lit (Kd.int .u8) (w0 := w) w.heap.size 5 ?hg (N := 19) ?hd (xs := [x / 16777216, x / 65536 % 256, x / 256 % 256, x % 256]) (inner := [.int .u8 (x / 16777216), .int .u8 (x / 65536 % 256), .int .u8 (x / 256 % 256), .int .u8 (x % 256)]) (ok := fun _ => True) (okp := fun _ => True) ?hr (Reps.one (show Kd.M (Kd.int .u8) _ _ _ _ [_] from rfl) (Reps.one (show Kd.M (Kd.int .u8) _ _ _ _ [_] from rfl) (Reps.one (show Kd.M (Kd.int .u8) _ _ _ _ [_] from rfl) (Reps.one (show Kd.M (Kd.int .u8) _ _ _ _ [_] from rfl) (Reps.none _ _))))) (fun _ hk => hk) trivial HB2.out HB2.out.size (by simp) ?_; (case hd => rfl); (case hg => rfl); (case hr => first | (go_simp; done) | (go_simp; rfl)); intro v19 w3 hrl hb3 hg3 hat3; have HRL := Aside0.mk hrl; have HB3 := Aside0.mk hb3; have HRO := Aside0.mk (Kd.R_grown HRO'.out hg3 (fun _ _ => by simp)); clear hrl hb3 hg3 hat3; obtain ⟨A19, c19, e19, _, hc19⟩ := Kd.R_reads HRL.out; subst e19; have HC19 := Aside0.mk hc19; clear hc19) | (at_builtin; refine Kd.R_append_row (Value.int .u8) 0 (w0 := w) w.heap.size rfl (.tmp 7) (.tmp 19) 23 5 (.int .u8 0) 1 rfl Try.underlying23 infoB rfl (by decide) v7 l0 [x / 16777216, x / 65536 % 256, x / 256 % 256, x % 256] A19 4 c19 (fun _ => True) rfl rfl (fun _ _ => trivial) HRO.out HC19.out HB3.out HB3.out.size (by omega) ?_; intro v20 w4 hro4 hb4 hg4 hat4; have HRO4 := Aside0.mk hro4; have HB4 := Aside0.mk hb4; clear hro4 hb4 hg4 hat4))
    go_ret
    refine ⟨_, rfl, ?_, HB4.out⟩
    rw [be32, HX.out, Int.emod_eq_of_lt (a := x / 16777216) (by omega) (by omega)]
    exact HRO4.out
  · cases h
end Go.Proofs.Ytelhdgnolijpcaa.Hm
end
section
/- The Go functions slices.Equal (of bytes) and crc.Right return what plain Lean functions of lists compute; conditions: the numbers are bytes, the lengths fit. -/
namespace Go.Proofs.Ytelhdgnolijpcaa.Hm
open Go.RowKit Go.Proofs.YtelhdgnolijpcaaW.PrintWords Go.Proofs.YtelhdgnolijpcaaW.PrintLast Go.Proofs.YtelhdgnolijpcaaW.PrintMore
set_option linter.unusedVariables false
set_option linter.unusedSimpArgs false

theorem rd_at (l : List Int) (k : Nat) (h : k < l.length) : rd l (k : Int) = l[k] := by simp [rd, h]
theorem eq_of_take (l m : List Int) (he : l.length = m.length) (h : l.take l.length = m.take l.length) : l = m := by
  rw [List.take_length] at h
  rw [h, he, List.take_length]
theorem take_snoc_eq (l m : List Int) (k : Nat) (h1 : k < l.length) (h2 : k < m.length) (h : l.take k = m.take k) (hr : rd l k = rd m k) : l.take (k + 1) = m.take (k + 1) := by
  rw [List.take_succ_eq_append_getElem h1, List.take_succ_eq_append_getElem h2, h, ← rd_at l k h1, ← rd_at m k h2, hr]
theorem ne_of_rd (l m : List Int) (k : Nat) (hr : ¬ rd l k = rd m k) : ¬ l = m := fun e => hr (by rw [e])

/-- slices.Equal of bytes. -/
def slices_Equal.f (l m : List Int) : Option Bool := some (decide (l = m))
set_option maxHeartbeats 1000000 in
theorem slices_Equal.calls (A0 : Option Addr) (c0 : Nat) (l0 : List Int) (A1 : Option Addr) (c1 : Nat) (l1 : List Int) (r : Bool) (w : World) (hr0 : Kd.C (Kd.int .u8) w A0 l0.length l0) (hc0 : l0.length ≤ c0)
    (hr1 : Kd.C (Kd.int .u8) w A1 l1.length l1) (hc1 : l1.length ≤ c1) (h : slices_Equal.f l0 l1 = some r) :
    Calls Try.prog 31 #[.slice A0 l0.length c0, .slice A1 l1.length c1] w fun e w' => e = .returned (.bool r) ∧ Drawn0 w w' := by
  unfold slices_Equal.f at h
  obtain rfl := Option.some.inj h
  clear h
  have HR0 := Aside0.mk hr0
  have HR1 := Aside0.mk hr1
  have hm := Kd.C_max hr0
  clear hr0 hr1
  by_cases he : l0.length = l1.length
  · have he0 : ((l0.length : Int) != (l1.length : Int)) = false := by simp [he]
    have he1 : (l0.length != l1.length) = false := by simp [he]
    have HE := Aside0.mk he
    clear he
    go_enter Try.func31, Try.ntmps31
    go_wp2
    go_loopg [13] l0.length (fun kq v13 w' => ∃ k : Nat, k + kq = l0.length ∧ v13 = .int .i64 k ∧ Aside0 (l0.take k = l1.take k) ∧ Drawn0 w w')
    case atStart => exact ⟨0, by omega, rfl, ⟨rfl⟩, Drawn0.refl _⟩
    case round =>
      obtain ⟨k, hk, rfl, HT, ⟨m1, rfl⟩⟩ := hrel
      by_cases hlt : k < l0.length
      · have hd : decide ((k : Int) < (l0.length : Int)) = true := decide_eq_true (by omega)
        have hlt1 : k < l1.length := by have := HE.out; omega
        obtain ⟨ad0, hA0, hcell0⟩ := Kd.at_int HR0.out (k : Int) (by omega) (by omega)
        obtain ⟨ad1, hA1, hcell1⟩ := Kd.at_int HR1.out (k : Int) (by omega) (by omega)
        subst hA0 hA1
        rw [Int.toNat_natCast] at hcell0 hcell1
        have p0 : (0 : Int) ≤ (k : Int) := by omega
        have p1 : (k : Int) < (l0.length : Int) := by omega
        have p2 : (k : Int) < (l1.length : Int) := by omega
        by_cases hq : rd l0 (k : Int) = rd l1 (k : Int)
        · have hq0 : (rd l0 (k : Int) != rd l1 (k : Int)) = false := by simp [hq]
          have HQ := Aside0.mk hq
          clear hq
          go_wp2
          go_quiet (fail)
          go_wp2
          go_roundg (l0.length - k - 1)
          case measure => omega
          case rel => exact ⟨k + 1, by omega, by go_num, ⟨take_snoc_eq _ _ _ hlt hlt1 HT.out HQ.out⟩, by repeat (first | exact Drawn0.refl _ | apply Drawn0.step)⟩
        · have hq0 : (rd l0 (k : Int) != rd l1 (k : Int)) = true := by simp [hq]
          have HQ := Aside0.mk hq
          clear hq
          go_wp2
          go_quiet (fail)
          go_wp2
          go_ret
          refine ⟨?_, by repeat (first | exact Drawn0.refl _ | apply Drawn0.step)⟩
          rw [decide_eq_false (ne_of_rd _ _ _ HQ.out)]
          rfl
      · have hd : decide ((k : Int) < (l0.length : Int)) = false := decide_eq_false (by omega)
        have hk' : k = l0.length := by omega
        subst hk'
        go_wp2
        go_ret
        refine ⟨?_, by repeat (first | exact Drawn0.refl _ | apply Drawn0.step)⟩
        rw [decide_eq_true (eq_of_take _ _ HE.out HT.out)]
        rfl
  · have he0 : ((l0.length : Int) != (l1.length : Int)) = true := by simp; omega
    have he1 : (l0.length != l1.length) = true := by simp [he]
    have HE := Aside0.mk (show ¬ l0 = l1 from fun e => he (by rw [e]))
    clear he
    go_enter Try.func31, Try.ntmps31
    go_wp2
    go_ret
    refine ⟨?_, by repeat (first | exact Drawn0.refl _ | apply Drawn0.step)⟩
    rw [decide_eq_false HE.out]
    rfl
end Go.Proofs.Ytelhdgnolijpcaa.Hm
end
section
/- The Go function crc.Right returns what the plain Lean function rightB of a list computes; conditions: the numbers are bytes, the length fits. -/
namespace Go.Proofs.Ytelhdgnolijpcaa.Hm
open Go.RowKit Go.Proofs.YtelhdgnolijpcaaW.PrintWords Go.Proofs.YtelhdgnolijpcaaW.PrintLast Go.Proofs.YtelhdgnolijpcaaW.PrintMore
set_option linter.unusedVariables false
set_option linter.unusedSimpArgs false

def rightB (l : List Int) : Bool := decide (4 ≤ l.length) && decide (l.take (l.length - 4) ++ be32 (crcM 0 (l.take (l.length - 4))) = l)
/-- crc.Right. -/
def crc_Right.f (l : List Int) : Option Bool := if bytesB l = true ∧ l.length ≤ 140737488355000 then some (rightB l) else none
theorem bytesB_take (l : List Int) (k : Nat) (h : bytesB l = true) : bytesB (l.take k) = true := (bytesB_iff _).2 fun x hx => (bytesB_iff l).1 h x (List.mem_of_mem_take hx)
theorem C_take {w : World} {A : Option Addr} {l : List Int} (h : Kd.C (Kd.int .u8) w A l.length l) (k : Nat) (hk : k ≤ l.length) : Kd.C (Kd.int .u8) w A (l.take k).length (l.take k) := by
  have h1 := Kd.C_of_reads (d := (0 : Int)) (h1 := fun _ => rfl) (ReadsInt.take_ (Kd.reads_of_C (d := (0 : Int)) h) k hk)
  rwa [show (l.take k).length = k by rw [List.length_take]; omega]
set_option maxHeartbeats 1000000 in
theorem crc_Right.calls (A0 : Option Addr) (c0 : Nat) (l0 : List Int) (r : Bool) (w : World) (hr0 : Kd.C (Kd.int .u8) w A0 l0.length l0) (hc0 : l0.length ≤ c0) (h : crc_Right.f l0 = some r) :
    Calls Try.prog 20 #[.slice A0 l0.length c0] w fun e w' => e = .returned (.bool r) ∧ Below w.heap.size w w' := by
  unfold crc_Right.f at h
  split at h
  · rename_i hc
    obtain rfl := Option.some.inj h
    obtain ⟨hb, hl⟩ := hc
    have HR := Aside0.mk hr0
    have HB0 := Aside0.mk hb
    clear hr0 h hb
    by_cases h4 : 4 ≤ l0.length
    · have hd : decide ((0 : Int) ≤ (l0.length : Int) - 4) = true := decide_eq_true (by omega)
      go_enter Try.func20, Try.ntmps20
      go_wp2_with fail
      obtain ⟨y, hY⟩ : ∃ y, l0.take (l0.length - 4) ++ be32 (crcM 0 (l0.take (l0.length - 4))) = y := ⟨_, rfl⟩
      have hlen : (l0.take (l0.length - 4)).length = l0.length - 4 := by rw [List.length_take]; omega
      have hs := crc_Sealed.calls A0 (l0.length - 4) (l0.take (l0.length - 4)) y w (C_take HR.out _ (by omega)) (by omega) (by unfold crc_Sealed.f; rw [if_pos ⟨bytesB_take _ _ HB0.out, by omega⟩, hY])
      have HY := Aside0.mk hY
      clear hY
      rw [hlen] at hs
      refine hs.mono ?_
      rintro e w1 ⟨v14, rfl, hro, hb1⟩
      obtain ⟨A14, c14, e14, hc14, hr14⟩ := Kd.R_reads hro
      subst e14
      have HR14 := Aside0.mk hr14
      have HB1 := Aside0.mk hb1
      clear hr14 hb1 hro hs hlen
      go_wp2_with fail
      refine (slices_Equal.calls A14 c14 y A0 c0 l0 _ w1 HR14.out hc14 (Kd.C_below HR.out HB1.out) hc0 rfl).mono ?_
      rintro e w2 ⟨rfl, hd2⟩
      have HB2 := Aside0.mk (below_then HB1.out HB1.out.size hd2.below)
      clear hd2
      go_wp2
      go_ret
      refine ⟨?_, HB2.out⟩
      rw [rightB, decide_eq_true h4, HY.out]
      rfl
    · have hd : decide ((0 : Int) ≤ (l0.length : Int) - 4) = false := decide_eq_false (by omega)
      go_enter Try.func20, Try.ntmps20
      go_wp2
      go_ret
      refine ⟨?_, Below.refl _ _⟩
      rw [rightB, decide_eq_false h4]
      rfl
  · cases h
end Go.Proofs.Ytelhdgnolijpcaa.Hm
end
section
/- The mathematics of the sum (no program in sight): the table's step is the bitwise step, it is linear, it is one-to-one; what is right is told by a residue; a burst of up to 32 bits changes it. No conditions but those that each lemma names. -/
namespace Go.Proofs.Ytelhdgnolijpcaa.Hm
open Go.RowKit Go.Proofs.YtelhdgnolijpcaaW.PrintWords Go.Proofs.YtelhdgnolijpcaaW.PrintLast Go.Proofs.YtelhdgnolijpcaaW.PrintMore
set_option linter.unusedVariables false
set_option linter.unusedSimpArgs false

namespace Crc
def poly : BitVec 32 := 79764919#32
def T (x : BitVec 32) : BitVec 32 := if x.msb then (x <<< 1) ^^^ poly else x <<< 1
def Tn : Nat → BitVec 32 → BitVec 32
  | 0, x => x
  | n + 1, x => T (Tn n x)
theorem T_xor (a b : BitVec 32) : T (a ^^^ b) = T a ^^^ T b := by
  unfold T
  rw [BitVec.msb_xor, BitVec.shiftLeft_xor_distrib]
  cases a.msb <;> cases b.msb <;> simp
  · rw [BitVec.xor_assoc]
  · rw [BitVec.xor_assoc, BitVec.xor_assoc, BitVec.xor_comm poly]
  · rw [show (a <<< 1 ^^^ poly ^^^ (b <<< 1 ^^^ poly)) = (a <<< 1 ^^^ b <<< 1) ^^^ (poly ^^^ poly) by ac_rfl, BitVec.xor_self]
    simp
theorem T_zero : T 0#32 = 0#32 := by decide
theorem Tn_xor (n : Nat) (a b : BitVec 32) : Tn n (a ^^^ b) = Tn n a ^^^ Tn n b := by
  induction n with
  | zero => rfl
  | succ n ih => simp only [Tn, ih, T_xor]
theorem Tn_zero (n : Nat) : Tn n 0#32 = 0#32 := by
  induction n with
  | zero => rfl
  | succ n ih => simp only [Tn, ih, T_zero]
theorem Tn_add (m n : Nat) (x : BitVec 32) : Tn (m + n) x = Tn m (Tn n x) := by
  induction m with
  | zero => simp [Tn]
  | succ m ih => rw [Nat.succ_add]; simp only [Tn, ih]
theorem T_eq_zero (x : BitVec 32) (h : T x = 0#32) : x = 0#32 := by
  unfold T at h
  by_cases hm : x.msb = true
  · rw [if_pos hm] at h
    have h0 := congrArg (fun z : BitVec 32 => z.getLsbD 0) h
    simp [poly] at h0
  · rw [if_neg hm] at h
    apply BitVec.eq_of_getLsbD_eq
    intro i hi
    by_cases h31 : i = 31
    · subst h31
      simpa [BitVec.msb_eq_getLsbD_last] using hm
    · have h0 := congrArg (fun z : BitVec 32 => z.getLsbD (i + 1)) h
      simp only [BitVec.getLsbD_shiftLeft] at h0
      have e : (decide (i + 1 < 32) && !decide (i + 1 < 1) && x.getLsbD (i + 1 - 1)) = x.getLsbD i := by
        rw [decide_eq_true (by omega), decide_eq_false (by omega)]
        simp
      rw [e] at h0
      simpa using h0
theorem Tn_eq_zero (n : Nat) (x : BitVec 32) (h : Tn n x = 0#32) : x = 0#32 := by
  induction n with
  | zero => exact h
  | succ n ih => exact ih (T_eq_zero _ h)
theorem Tn_inj (n : Nat) (x y : BitVec 32) (h : Tn n x = Tn n y) : x = y := by
  have h1 : Tn n (x ^^^ y) = 0#32 := by rw [Tn_xor, h, BitVec.xor_self]
  have h2 := Tn_eq_zero n _ h1
  exact BitVec.xor_eq_zero_iff.1 h2
/-- Without a top bit the step is a shift. -/
theorem Tn_shift (n : Nat) (x : Nat) (h : x * 2 ^ n < 4294967296) : Tn n (BitVec.ofNat 32 x) = BitVec.ofNat 32 (x * 2 ^ n) := by
  induction n with
  | zero => simp [Tn]
  | succ n ih =>
    have hx : x * 2 ^ (n + 1) = x * 2 ^ n * 2 := by rw [Nat.pow_succ, Nat.mul_assoc]
    rw [hx] at h ⊢
    simp only [Tn]
    rw [ih (by omega)]
    unfold T
    rw [if_neg ?_]
    · apply BitVec.eq_of_toNat_eq
      rw [BitVec.toNat_shiftLeft, BitVec.toNat_ofNat, BitVec.toNat_ofNat, Nat.shiftLeft_eq]
      omega
    · rw [BitVec.msb_eq_decide, BitVec.toNat_ofNat]
      simp
      omega
end Crc

/-- A number as 32 bits. -/
def bv (x : Int) : BitVec 32 := BitVec.ofNat 32 x.toNat
theorem bv_toNat (x : Int) (h0 : 0 ≤ x) (h1 : x < 4294967296) : ((bv x).toNat : Int) = x := by
  unfold bv
  rw [BitVec.toNat_ofNat]
  omega
theorem bv_inj (x y : Int) (hx0 : 0 ≤ x) (hx1 : x < 4294967296) (hy0 : 0 ≤ y) (hy1 : y < 4294967296) (h : bv x = bv y) : x = y := by
  rw [← bv_toNat x hx0 hx1, ← bv_toNat y hy0 hy1, h]
theorem bv_xor (a b : Int) (ha0 : 0 ≤ a) (ha1 : a < 4294967296) (hb0 : 0 ≤ b) (hb1 : b < 4294967296) : bv (Go.bits .xor .u32 a b) = bv a ^^^ bv b := by
  rw [u32_xor a b ha0 ha1 hb0 hb1]
  apply BitVec.eq_of_toNat_eq
  unfold bv
  rw [BitVec.toNat_xor, BitVec.toNat_ofNat, BitVec.toNat_ofNat, BitVec.toNat_ofNat, Int.toNat_natCast]
  have h := Nat.xor_lt_two_pow (n := 32) (x := a.toNat) (y := b.toNat) (by omega) (by omega)
  rw [Nat.mod_eq_of_lt h, Nat.mod_eq_of_lt (a := a.toNat) (by omega), Nat.mod_eq_of_lt (a := b.toNat) (by omega)]
theorem bv_t1 (x : Int) (h0 : 0 ≤ x) (h1 : x < 4294967296) : bv (t1 x) = Crc.T (bv x) := by
  have hm : (bv x).msb = decide (x ≥ 2147483648) := by
    rw [BitVec.msb_eq_decide]
    have := bv_toNat x h0 h1
    by_cases h : x ≥ 2147483648
    · rw [decide_eq_true h, decide_eq_true (by omega)]
    · rw [decide_eq_false h, decide_eq_false (by omega)]
  have hs : bv (x * 2 % 4294967296) = bv x <<< 1 := by
    apply BitVec.eq_of_toNat_eq
    unfold bv
    rw [BitVec.toNat_shiftLeft, BitVec.toNat_ofNat, BitVec.toNat_ofNat, Nat.shiftLeft_eq]
    omega
  unfold t1 Crc.T
  rw [hm]
  by_cases h : x ≥ 2147483648
  · rw [if_pos h, decide_eq_true h, if_pos rfl, bv_xor _ _ (by omega) (by omega) (by omega) (by omega), hs]
    rfl
  · rw [if_neg h, decide_eq_false h, if_neg (by simp), hs]
theorem bv_tn (n : Nat) (x : Int) (h0 : 0 ≤ x) (h1 : x < 4294967296) : bv (tn n x) = Crc.Tn n (bv x) := by
  induction n with
  | zero => rfl
  | succ n ih =>
    have hr := tn_range n x h0 h1
    simp only [tn, Crc.Tn]
    rw [bv_t1 _ hr.1 hr.2, ih]
theorem bv_split (x : Nat) (h : x < 4294967296) (k : Nat) (hk : k ≤ 32) : BitVec.ofNat 32 x = BitVec.ofNat 32 (x / 2 ^ k * 2 ^ k) ^^^ BitVec.ofNat 32 (x % 2 ^ k) := by
  apply BitVec.eq_of_toNat_eq
  rw [BitVec.toNat_xor, BitVec.toNat_ofNat, BitVec.toNat_ofNat, BitVec.toNat_ofNat]
  have h1 : x / 2 ^ k * 2 ^ k ≤ x := Nat.div_mul_le_self x _
  have h2 : x % 2 ^ k ≤ x := Nat.mod_le x _
  rw [Nat.mod_eq_of_lt h, Nat.mod_eq_of_lt (Nat.lt_of_le_of_lt h1 h), Nat.mod_eq_of_lt (Nat.lt_of_le_of_lt h2 h)]
  apply Nat.eq_of_testBit_eq
  intro i
  rw [Nat.testBit_xor, Nat.testBit_mod_two_pow, Nat.testBit_mul_two_pow, Nat.testBit_div_two_pow]
  by_cases hi : i < k
  · simp [hi, show ¬ k ≤ i by omega]
  · simp [hi, show k ≤ i by omega]
theorem ofNat_xor (a b : Nat) : BitVec.ofNat 32 a ^^^ BitVec.ofNat 32 b = BitVec.ofNat 32 (a ^^^ b) := by
  apply BitVec.eq_of_getLsbD_eq
  intro i hi
  simp [BitVec.getLsbD_ofNat, hi]
theorem ofNat_shl (a k : Nat) : BitVec.ofNat 32 (a * 2 ^ k) = BitVec.ofNat 32 a <<< k := by
  apply BitVec.eq_of_getLsbD_eq
  intro i hi
  rw [BitVec.getLsbD_ofNat, BitVec.getLsbD_shiftLeft, BitVec.getLsbD_ofNat, Nat.testBit_mul_two_pow]
  by_cases h : k ≤ i
  · have h' : ¬ i < k := by omega
    have h2 : i - k < 32 := by omega
    simp [hi, h, h', h2]
  · have h' : i < k := by omega
    simp [hi, h, h']
theorem bv_shl (a : Nat) (k : Nat) : bv ((a : Int) * (2 ^ k : Nat)) = BitVec.ofNat 32 a <<< k := by
  unfold bv
  rw [show ((a : Int) * ((2 ^ k : Nat) : Int)).toNat = a * 2 ^ k by rw [← Int.natCast_mul, Int.toNat_natCast], ofNat_shl]
theorem bv_shl_int (a : Int) (k : Nat) (h0 : 0 ≤ a) : bv (a * (2 ^ k : Nat)) = BitVec.ofNat 32 a.toNat <<< k := by
  obtain ⟨n, rfl⟩ := Int.eq_ofNat_of_zero_le h0
  rw [bv_shl, Int.toNat_natCast]
theorem nib_bv (x n : Int) (h0 : 0 ≤ x) (h1 : x < 4294967296) (h2 : 0 ≤ n) (h3 : n < 16) : bv (nib x n) = Crc.Tn 4 (bv x ^^^ bv (n * 268435456)) := by
  have hx := xor16 (x / 268435456) n (by omega) (by omega) h2 h3
  have ht := tabI_range (Go.bits .xor .u8 (x / 268435456) n).toNat (by omega)
  unfold nib
  rw [bv_xor _ _ (by omega) (by omega) ht.1 ht.2]
  unfold tabI
  rw [bv_tn 4 _ (by omega) (by omega)]
  have e1 : bv (x * 16 % 4294967296) = Crc.Tn 4 (BitVec.ofNat 32 (x.toNat % 2 ^ 28)) := by
    rw [Crc.Tn_shift 4 _ (by omega)]
    unfold bv
    congr 1
    omega
  have e2 : bv ((((Go.bits .xor .u8 (x / 268435456) n).toNat : Nat) : Int) * 268435456) = BitVec.ofNat 32 (x.toNat / 2 ^ 28 * 2 ^ 28) ^^^ bv (n * 268435456) := by
    rw [u8_xor _ _ (by omega) (by omega) (by omega) (by omega), Int.toNat_natCast]
    have e3 : (x / 268435456).toNat = x.toNat / 2 ^ 28 := by omega
    have h28 := bv_shl (x.toNat / 2 ^ 28 ^^^ n.toNat) 28
    have h28' := bv_shl_int n 28 h2
    rw [show ((2 ^ 28 : Nat) : Int) = 268435456 from rfl] at h28 h28'
    rw [e3, h28, h28', ofNat_shl, Nat.xor_comm, ← ofNat_xor, BitVec.shiftLeft_xor_distrib, BitVec.xor_comm]
  rw [e1, e2, ← Crc.Tn_xor]
  congr 1
  have e6 : bv x = BitVec.ofNat 32 (x.toNat / 2 ^ 28 * 2 ^ 28) ^^^ BitVec.ofNat 32 (x.toNat % 2 ^ 28) := bv_split x.toNat (by omega) 28 (by omega)
  rw [e6]
  ac_rfl
/-- A byte's step, as eight bitwise ones. -/
theorem byteStep_bv (x c : Int) (h0 : 0 ≤ x) (h1 : x < 4294967296) (h2 : 0 ≤ c) (h3 : c < 256) : bv (byteStep x c) = Crc.Tn 8 (bv x ^^^ bv (c * 16777216)) := by
  have hn := nib_range x (c / 16) h0 h1 (by omega) (by omega)
  unfold byteStep
  rw [nib_bv _ _ hn.1 hn.2 (by omega) (by omega), nib_bv _ _ h0 h1 (by omega) (by omega), Crc.Tn_add 4 4]
  congr 1
  have e1 : bv (c % 16 * 268435456) = Crc.Tn 4 (BitVec.ofNat 32 ((c % 16 * 16777216).toNat)) := by
    rw [Crc.Tn_shift 4 _ (by omega)]
    unfold bv
    congr 1
    omega
  rw [e1, ← Crc.Tn_xor]
  congr 1
  have e2 : bv (c * 16777216) = bv (c / 16 * 268435456) ^^^ BitVec.ofNat 32 ((c % 16 * 16777216).toNat) := by
    have h := bv_split (c * 16777216).toNat (by omega) 28 (by omega)
    unfold bv
    rw [h]
    congr 2
    · omega
    · omega
  rw [e2, BitVec.xor_assoc]

/-- The sum's state behind bytes. -/
def raw (x : BitVec 32) (l : List Int) : BitVec 32 := l.foldl (fun x c => Crc.Tn 8 (x ^^^ bv (c * 16777216))) x
theorem crcRaw_bv (l : List Int) : ∀ (x : Int), 0 ≤ x → x < 4294967296 → (∀ c ∈ l, 0 ≤ c ∧ c < 256) → bv (crcRaw x l) = raw (bv x) l := by
  induction l with
  | nil => intro x _ _ _; rfl
  | cons c l ih =>
    intro x h0 h1 h
    have hc := h c (by simp)
    have hs := byteStep_range x c h0 h1 hc.1 hc.2
    have := ih (byteStep x c) hs.1 hs.2 fun d hd => h d (by simp [hd])
    show bv (crcRaw (byteStep x c) l) = raw (Crc.Tn 8 (bv x ^^^ bv (c * 16777216))) l
    rw [this, byteStep_bv x c h0 h1 hc.1 hc.2]
theorem raw_append (x : BitVec 32) (l m : List Int) : raw x (l ++ m) = raw (raw x l) m := by simp [raw, List.foldl_append]
theorem raw_xor (l : List Int) : ∀ (x d : BitVec 32), raw (x ^^^ d) l = raw x l ^^^ Crc.Tn (8 * l.length) d := by
  induction l with
  | nil => intro x d; rfl
  | cons c l ih =>
    intro x d
    have e : x ^^^ d ^^^ bv (c * 16777216) = (x ^^^ bv (c * 16777216)) ^^^ d := by ac_rfl
    show raw (Crc.Tn 8 (x ^^^ d ^^^ bv (c * 16777216))) l = raw (Crc.Tn 8 (x ^^^ bv (c * 16777216))) l ^^^ Crc.Tn (8 * (l.length + 1)) d
    rw [e, Crc.Tn_xor, ih, Nat.mul_add, Crc.Tn_add]
theorem raw_inj (l : List Int) (x y : BitVec 32) (h : raw x l = raw y l) : x = y := by
  have e : y = x ^^^ (x ^^^ y) := by rw [← BitVec.xor_assoc, BitVec.xor_self]; simp
  rw [e, raw_xor] at h
  have h1 : Crc.Tn (8 * l.length) (x ^^^ y) = 0#32 := by
    have := congrArg (fun z => raw x l ^^^ z) h
    simp only [← BitVec.xor_assoc, BitVec.xor_self, BitVec.zero_xor] at this
    exact this.symm
  exact BitVec.xor_eq_zero_iff.1 (Crc.Tn_eq_zero _ _ h1)
/-- Another byte at place j. -/
theorem raw_set (x : BitVec 32) (l : List Int) (j : Nat) (hj : j < l.length) (y : Int) (d : BitVec 32) (hd : bv (y * 16777216) = bv (l[j] * 16777216) ^^^ d) :
    raw x (l.set j y) = raw x l ^^^ Crc.Tn (8 * (l.length - j)) d := by
  have hl : l = l.take j ++ l[j] :: l.drop (j + 1) := by rw [List.getElem_cons_drop, List.take_append_drop]
  have hs : l.set j y = l.take j ++ y :: l.drop (j + 1) := by rw [List.set_eq_take_append_cons_drop, if_pos hj]
  have e1 : ∀ (c : Int) (m : List Int) (z : BitVec 32), raw z (c :: m) = raw (Crc.Tn 8 (z ^^^ bv (c * 16777216))) m := fun _ _ _ => rfl
  have e2 : 8 * (l.length - j) = 8 * (l.drop (j + 1)).length + 8 := by rw [List.length_drop]; omega
  have e3 : raw x l = raw x (l.take j ++ l[j] :: l.drop (j + 1)) := congrArg _ hl
  rw [hs, raw_append, e1, hd, ← BitVec.xor_assoc, Crc.Tn_xor, raw_xor, e2, Crc.Tn_add, e3, raw_append, e1]
end Go.Proofs.Ytelhdgnolijpcaa.Hm
end
section
/- Strings and lists of numbers: plain lemmas, no conditions but those that each names. -/
namespace Go.Proofs.Ytelhdgnolijpcaa.Hm
open Go.RowKit Go.Proofs.YtelhdgnolijpcaaW.PrintWords Go.Proofs.YtelhdgnolijpcaaW.PrintLast Go.Proofs.YtelhdgnolijpcaaW.PrintMore
set_option linter.unusedVariables false
set_option linter.unusedSimpArgs false

theorem wrap_up (i : Int) (h0 : 0 ≤ i) (h1 : i < 9223372036854775807) : wrap64 (i + 1) = i + 1 := by unfold wrap64; omega
theorem size_strOfNums (l : List Int) : (strOfNums l).size = l.length := by
  show ((l.map fun n => UInt8.ofNat n.toNat).toArray).size = _
  simp
theorem bytesOf_strOfNums (l : List Int) (h : bytesB l = true) : bytesOf (strOfNums l) = l := by
  have h' := (bytesB_iff l).1 h
  unfold bytesOf
  rw [strOfNums_data, List.map_map]
  conv => rhs; rw [← List.map_id l]
  apply List.map_congr_left
  intro x hx
  have := h' x hx
  simp only [Function.comp, id, UInt8.toNat_ofNat']
  omega
theorem bytesOf_range (s : ByteArray) : bytesB (bytesOf s) = true := by
  rw [bytesB_iff]
  intro x hx
  simp only [bytesOf, List.mem_map] at hx
  obtain ⟨b, _, rfl⟩ := hx
  have := b.toNat_lt
  omega
theorem bt_rd (s : ByteArray) (i : Int) : bt s i = rd (bytesOf s) i := (rd_bytesOf s i).symm
theorem bytesOf_inj (s t : ByteArray) (h : bytesOf s = bytesOf t) : s = t := by
  have h1 : s.data.toList = t.data.toList := by
    unfold bytesOf at h
    have hi : Function.Injective (fun b : UInt8 => (b.toNat : Int)) := fun a b hab => UInt8.toNat_inj.1 (Int.ofNat_inj.1 hab)
    exact List.map_inj_right (fun a b hab => hi hab) |>.1 h
  have h2 : s.data = t.data := by
    rw [← Array.toArray_toList (xs := s.data), ← Array.toArray_toList (xs := t.data), h1]
  cases s; cases t; simp_all
theorem toList_iff (s t : ByteArray) : s.toList = t.toList ↔ bytesOf s = bytesOf t := by
  rw [ByteArray.toList_eq, ByteArray.toList_eq]
  constructor
  · intro h; unfold bytesOf; rw [h]
  · intro h; rw [bytesOf_inj s t h]
theorem toList_strs (a b : List Int) (ha : bytesB a = true) (hb : bytesB b = true) : (strOfNums a).toList = (strOfNums b).toList ↔ a = b := by
  rw [toList_iff, bytesOf_strOfNums a ha, bytesOf_strOfNums b hb]
theorem bytesOf_append (s t : ByteArray) : bytesOf (s ++ t) = bytesOf s ++ bytesOf t := by
  unfold bytesOf
  rw [show (s ++ t).data.toList = s.data.toList ++ t.data.toList by simp, List.map_append]
theorem bytesOf_extract (s : ByteArray) (i j : Nat) : bytesOf (s.extract i j) = ((bytesOf s).take j).drop i := by
  unfold bytesOf
  have e : (s.extract i j).data.toList = (s.data.toList.take j).drop i := by
    obtain ⟨⟨l⟩⟩ := s
    have e := ByteArray.extract_mk l i j
    rw [show (ByteArray.mk { toList := l }) = ByteArray.mk l.toArray from rfl, e]
    simp only [List.take_drop]
    by_cases h : i ≤ j
    · rw [show i + (j - i) = j by omega]
    · rw [List.drop_eq_nil_of_le (by rw [List.length_take]; omega), List.drop_eq_nil_of_le (by rw [List.length_take]; omega)]
  rw [e, List.map_drop, List.map_take]
theorem strOfNums_bytesOf (s : ByteArray) : strOfNums (bytesOf s) = s := bytesOf_inj _ _ (bytesOf_strOfNums _ (bytesOf_range s))
theorem bytesB_append (a b : List Int) : bytesB (a ++ b) = (bytesB a && bytesB b) := by simp [bytesB]
theorem bytesB_drop (l : List Int) (k : Nat) (h : bytesB l = true) : bytesB (l.drop k) = true := (bytesB_iff _).2 fun x hx => (bytesB_iff l).1 h x (List.mem_of_mem_drop hx)
theorem bytesB_be32 (x : Int) (h0 : 0 ≤ x) (h1 : x < 4294967296) : bytesB (be32 x) = true := by
  rw [bytesB_iff]
  intro y hy
  simp only [be32, List.mem_cons, List.not_mem_nil, or_false] at hy
  omega
theorem bytesB_of_wf (l : List Int) (h : ∀ x ∈ l, (Lit.int .u8 x).wf = true) : bytesB l = true := by
  rw [bytesB_iff]
  intro x hx
  have := h x hx
  simp [Lit.wf] at this
  simp [IntKind.min, IntKind.max, IntKind.bits, IntKind.signed] at this
  omega
theorem u32_of_wf (x : Int) (h : (Lit.int .u32 x).wf = true) : 0 ≤ x ∧ x < 4294967296 := by
  simp [Lit.wf] at h
  simp [IntKind.min, IntKind.max, IntKind.bits, IntKind.signed] at h
  omega
theorem u16_of_wf (x : Int) (h : (Lit.int .u16 x).wf = true) : 0 ≤ x ∧ x < 65536 := by
  simp [Lit.wf] at h
  simp [IntKind.min, IntKind.max, IntKind.bits, IntKind.signed] at h
  omega
theorem u8_of_wf (x : Int) (h : (Lit.int .u8 x).wf = true) : 0 ≤ x ∧ x < 256 := by
  simp [Lit.wf] at h
  simp [IntKind.min, IntKind.max, IntKind.bits, IntKind.signed] at h
  omega
theorem u64_of_wf (x : Int) (h : (Lit.int .u64 x).wf = true) : 0 ≤ x ∧ x < 18446744073709551616 := by
  simp [Lit.wf] at h
  simp [IntKind.min, IntKind.max, IntKind.bits, IntKind.signed] at h
  omega
theorem i64_of_wf (x : Int) (h : (Lit.int .i64 x).wf = true) : -9223372036854775808 ≤ x ∧ x ≤ 9223372036854775807 := by
  simp [Lit.wf] at h
  simp [IntKind.min, IntKind.max, IntKind.bits, IntKind.signed] at h
  omega
end Go.Proofs.Ytelhdgnolijpcaa.Hm
end
section
/- The Go functions sector.byteful and sector.lay: what they tell and write, as plain Lean functions; conditions: those that each theorem names. -/
namespace Go.Proofs.Ytelhdgnolijpcaa.Hm
open Go.RowKit Go.Proofs.YtelhdgnolijpcaaW.PrintWords Go.Proofs.YtelhdgnolijpcaaW.PrintLast Go.Proofs.YtelhdgnolijpcaaW.PrintMore
set_option linter.unusedVariables false
set_option linter.unusedSimpArgs false

/-- A block of numbers, marked or not, reads as its numbers. -/
theorem C_of_blockK {ik : IntKind} {W : World} {g : Nat} {C : Array Value} {e : TypeId} {fr : Nat × Nat} (xs : List Int) (h : W.heap[g]? = some (.cells C e fr)) (hC : C = (nums ik xs).toArray) (hl : xs.length ≤ 9223372036854775807) :
    Kd.C (Kd.int ik) W (some ⟨g, 0, none⟩) xs.length xs := by
  refine Kd.C_of_reads (d := (0 : Int)) (h1 := fun _ => rfl) (show ReadsInt W ik (some ⟨g, 0, none⟩) xs.length xs from ⟨rfl, hl, fun _ => ⟨_, rfl, fun j hj => ?_⟩⟩)
  rw [add_plain, cell_of_row W g j C e fr h, hC]
  simp [nums, hj]
/-- What is known of a world in place of its text. -/
theorem wp_world {P : Program} {c : Code} {Q : Exit → Act → World → Prop} {a : Act} {w : World} (X : World → Prop) (h : X w) (k : ∀ W, X W → c.wp P Q a W) : c.wp P Q a w := k w h
def bytefulB (l : List Int) : Bool := l.all fun x => decide (0 ≤ x) && decide (x ≤ 255)
theorem bytefulB_take (l : List Int) (k : Nat) (h : k < l.length) : bytefulB (l.take (k + 1)) = (bytefulB (l.take k) && (decide (0 ≤ rd l k) && decide (rd l k ≤ 255))) := by
  unfold bytefulB
  rw [List.take_succ_eq_append_getElem h, rd_at l k h, List.all_append]
  simp
theorem bytefulB_false (l : List Int) (k : Nat) (h : k < l.length) (hx : (decide (0 ≤ rd l k) && decide (rd l k ≤ 255)) = false) : bytefulB l = false := by
  rw [rd_at l k h] at hx
  simp only [bytefulB, List.all_eq_false]
  exact ⟨l[k], List.getElem_mem _, by rw [hx]; simp⟩
set_option maxHeartbeats 1000000 in
theorem byteful_any (A0 : Option Addr) (c0 : Nat) (l0 : List Int) (w : World) (hr0 : Kd.C (Kd.int .i64) w A0 l0.length l0) (hc0 : l0.length ≤ c0) :
    Calls Try.prog 32 #[.slice A0 l0.length c0] w fun e w' => e = .returned (.bool (bytefulB l0)) ∧ w = w' := by
  have HR := Aside0.mk hr0
  have hm := Kd.C_max hr0
  clear hr0
  go_enter Try.func32, Try.ntmps32
  go_wp2
  go_loopg [7] l0.length (fun kq v7 w' => ∃ k : Nat, k + kq = l0.length ∧ v7 = .int .i64 k ∧ Aside0 (bytefulB (l0.take k) = true) ∧ w' = w)
  case atStart => exact ⟨0, by omega, rfl, ⟨rfl⟩, rfl⟩
  case round =>
    obtain ⟨k, hk, rfl, HT, rfl⟩ := hrel
    by_cases hlt : k < l0.length
    · have hd : decide ((k : Int) < (l0.length : Int)) = true := decide_eq_true (by omega)
      obtain ⟨ad, hA, hcell⟩ := Kd.at_int HR.out (k : Int) (by omega) (by omega)
      subst hA
      rw [Int.toNat_natCast] at hcell
      have HF := Aside0.mk (bytefulB_false l0 k hlt)
      have HS := Aside0.mk (bytefulB_take l0 k hlt)
      obtain ⟨x, hx⟩ : ∃ x, rd l0 (k : Int) = x := ⟨_, rfl⟩
      rw [hx] at hcell HF HS
      clear hx
      by_cases h0 : x < 0
      · have d0 : decide (x < 0) = true := decide_eq_true h0
        have e0 : decide (0 ≤ x) = false := decide_eq_false (by omega)
        have HE := Aside0.mk e0
        clear e0 h0
        go_wp2
        go_ret
        rw [HF.out (by rw [HE.out]; rfl)]
        exact ⟨rfl, rfl⟩
      · have d0 : decide (x < 0) = false := decide_eq_false h0
        have e0 := Aside0.mk (show decide (0 ≤ x) = true from decide_eq_true (by omega))
        by_cases h1 : 255 < x
        · have d1 : decide (255 < x) = true := decide_eq_true h1
          have e1 := Aside0.mk (show decide (x ≤ 255) = false from decide_eq_false (by omega))
          clear h0 h1
          go_wp2
          go_ret
          rw [HF.out (by rw [e0.out, e1.out]; rfl)]
          exact ⟨rfl, rfl⟩
        · have d1 : decide (255 < x) = false := decide_eq_false h1
          have e1 := Aside0.mk (show decide (x ≤ 255) = true from decide_eq_true (by omega))
          clear h0 h1
          go_wp2
          go_roundg (l0.length - k - 1)
          case measure => omega
          case rel => exact ⟨k + 1, by omega, by go_num, ⟨by rw [HS.out, HT.out, e0.out, e1.out]; rfl⟩, rfl⟩
    · have hd : decide ((k : Int) < (l0.length : Int)) = false := decide_eq_false (by omega)
      have hk' : k = l0.length := by omega
      subst hk'
      go_wp2
      go_ret
      have := HT.out
      rw [List.take_length] at this
      rw [this]
      exact ⟨rfl, rfl⟩

/-- A number's bytes, the highest first, laid into cells: the first k of n. -/
def layN (cs : Array Value) (off n : Nat) (x : Nat) : Nat → Array Value
  | 0 => cs
  | k + 1 => (layN cs off n x k).setIfInBounds (off + k) (.int .u8 ((x / 2 ^ (8 * (n - 1 - k)) % 256 : Nat) : Int))
theorem layN_size (cs : Array Value) (off n x k : Nat) : (layN cs off n x k).size = cs.size := by
  induction k with
  | zero => rfl
  | succ k ih => simp [layN, ih]
set_option maxHeartbeats 1000000 in
theorem lay_any (g off n cap : Nat) (x : Nat) (w : World) (t : TypeId) (cs : Array Value) (hg : w.heap[g]? = some (.cells cs t (0, 0))) (hfit : off + n ≤ cs.size) (hx : x < 18446744073709551616) (hn : n ≤ 8) :
    Calls Try.prog 33 #[.slice (some ⟨g, off, none⟩) n cap, .int .u64 x] w fun e w' => e = .returned (.tuple #[]) ∧ w' = w.setRow g (layN cs off n x n) := by
  have HG := Aside0.mk hg
  clear hg
  go_enter Try.func33, Try.ntmps33
  go_wp2
  go_loopg [7] n (fun kq v7 w' => ∃ k : Nat, k + kq = n ∧ v7 = .int .i64 k ∧ Aside0 (w' = w.setRow g (layN cs off n x k)) ∧ Aside0 (w'.heap[g]? = some (.cells (layN cs off n x k) t (0, 0))))
  case atStart => exact ⟨0, by omega, rfl, ⟨(setRow_self w g cs t (0, 0) HG.out).symm⟩, HG⟩
  case round =>
    obtain ⟨k, hk, rfl, HW, HC⟩ := hrel
    by_cases hlt : k < n
    · have hd : decide ((k : Int) < (n : Int)) = true := decide_eq_true (by omega)
      have hs := layN_size cs off n x k
      have hc : wr.cell? ⟨g, off + k, none⟩ = (layN cs off n x k)[off + k]? := blk_cell HC.out (off + k)
      have hf : wr.frozen? ⟨g, off + k, none⟩ = false := blk_frozen HC.out (off + k)
      rw [Array.getElem?_eq_getElem (by omega)] at hc
      obtain ⟨u, hu⟩ : ∃ u, (layN cs off n x k)[off + k]'(by omega) = u := ⟨_, rfl⟩
      rw [hu] at hc
      clear hu hs
      go_wp2
      go_roundg (n - k - 1)
      case measure => omega
      case rel =>
        have ev : Value.int IntKind.u8 ((x : Int) / 2 ^ (8 * (n - 1 - k)) % 256) = .int .u8 ((x / 2 ^ (8 * (n - 1 - k)) % 256 : Nat) : Int) := by
          rw [Int.natCast_emod, Int.natCast_ediv, Int.natCast_pow]
          rfl
        refine ⟨k + 1, by omega, by go_num, ⟨?_⟩, ⟨?_⟩⟩
        · rw [ev, setCell_eq_setRow wr g (off + k) _ t (0, 0) _ HC.out, HW.out, setRow_setRow]
          rfl
        · rw [ev, setCell_eq_setRow wr g (off + k) _ t (0, 0) _ HC.out]
          exact setRow_heap wr g _ _ t (0, 0) HC.out
    · have hd : decide ((k : Int) < (n : Int)) = false := decide_eq_false (by omega)
      have hk' : k = n := by omega
      subst hk'
      go_wp2
      go_end0
      exact ⟨rfl, HW.out⟩
end Go.Proofs.Ytelhdgnolijpcaa.Hm
end
section
/- The Go function sector.Put returns what a plain Lean function of its frame computes; conditions: the frame's numbers are of their kinds, its body's numbers are bytes, its length fits. -/
namespace Go.Proofs.Ytelhdgnolijpcaa.Hm
open Go.RowKit Go.Proofs.YtelhdgnolijpcaaW.PrintWords Go.Proofs.YtelhdgnolijpcaaW.PrintLast Go.Proofs.YtelhdgnolijpcaaW.PrintMore
set_option linter.unusedVariables false
set_option linter.unusedSimpArgs false

theorem infoI : (Try.prog.info? 3).map (fun i => (i.zero, i.size, i.bytes)) = some (some (.int .i64 0), 1, 8) := by kernel_rfl
def zerosV (n : Nat) : Array Value := (List.replicate n (Value.int .u8 0)).toArray
def sec0 (k i c : Int) (n : Nat) : Array Value := ((((zerosV 124).setIfInBounds 0 (.int .u8 k)).setIfInBounds 1 (.int .u8 i)).setIfInBounds 2 (.int .u8 c)).setIfInBounds 3 (.int .u8 n)
def sec1 (k i c : Int) (n s : Nat) : Array Value := layN (sec0 k i c n) 4 8 s 8
def sec2 (k i c : Int) (n s a : Nat) : Array Value := layN (sec1 k i c n s) 12 4 a 4
theorem sec0_size (k i c : Int) (n : Nat) : (sec0 k i c n).size = 124 := by simp [sec0, zerosV]
theorem sec1_size (k i c : Int) (n s : Nat) : (sec1 k i c n s).size = 124 := by rw [sec1, layN_size, sec0_size]
theorem sec2_size (k i c : Int) (n s a : Nat) : (sec2 k i c n s a).size = 124 := by rw [sec2, layN_size, sec1_size]
def be64 (x : Nat) : List Int := [((x / 72057594037927936 % 256 : Nat) : Int), ((x / 281474976710656 % 256 : Nat) : Int), ((x / 1099511627776 % 256 : Nat) : Int), ((x / 4294967296 % 256 : Nat) : Int), ((x / 16777216 % 256 : Nat) : Int), ((x / 65536 % 256 : Nat) : Int), ((x / 256 % 256 : Nat) : Int), ((x % 256 : Nat) : Int)]
def be4 (x : Nat) : List Int := [((x / 16777216 % 256 : Nat) : Int), ((x / 65536 % 256 : Nat) : Int), ((x / 256 % 256 : Nat) : Int), ((x % 256 : Nat) : Int)]
/-- A frame's bytes, ahead of their sum. -/
def frameL (k i c : Int) (s a : Nat) (l : List Int) : List Int := [k, i, c, (l.length : Int)] ++ be64 s ++ be4 a ++ l ++ List.replicate (108 - l.length) 0
theorem sec2_list (k i c : Int) (n s a : Nat) : (sec2 k i c n s a).toList = nums .u8 ([k, i, c, (n : Int)] ++ be64 s ++ be4 a ++ List.replicate 108 0) := by
  unfold sec2 sec1 sec0 layN zerosV be64 be4 nums
  simp [layN, List.replicate]
theorem splice_frame (k i c : Int) (s a : Nat) (l : List Int) (hl : l.length ≤ 108) : splice (sec2 k i c l.length s a).toList 16 (nums .u8 l) = nums .u8 (frameL k i c s a l) := by
  rw [sec2_list]
  unfold splice frameL
  rw [nums_length]
  have h16 : ([k, i, c, (l.length : Int)] ++ be64 s ++ be4 a).length = 16 := rfl
  generalize [k, i, c, (l.length : Int)] ++ be64 s ++ be4 a = H at *
  have h16' : (nums .u8 H).length = 16 := by rw [nums_length, h16]
  rw [nums_append, nums_append, nums_append, List.take_left' h16', List.append_assoc]
  congr 2
  rw [← h16', List.drop_append, List.drop_eq_nil_of_le (by omega)]
  simp only [nums, List.map_replicate, List.nil_append, Nat.add_sub_cancel_left, List.drop_replicate]
theorem be64_bytes (s : Nat) : bytesB (be64 s) = true := by
  rw [bytesB_iff]
  intro x hx
  simp only [be64, List.mem_cons, List.not_mem_nil, or_false] at hx
  omega
theorem be4_bytes (s : Nat) : bytesB (be4 s) = true := by
  rw [bytesB_iff]
  intro x hx
  simp only [be4, List.mem_cons, List.not_mem_nil, or_false] at hx
  omega
theorem zeros_bytes (n : Nat) : bytesB (List.replicate n 0) = true := by
  rw [bytesB_iff]
  intro x hx
  have := List.eq_of_mem_replicate hx
  omega
theorem frameL_bytes (k i c : Int) (s a : Nat) (l : List Int) (hk0 : 0 ≤ k) (hk1 : k ≤ 255) (hi0 : 0 ≤ i) (hi1 : i ≤ 255) (hc0 : 0 ≤ c) (hc1 : c ≤ 255) (hl : l.length ≤ 108) (hb : bytesB l = true) : bytesB (frameL k i c s a l) = true := by
  unfold frameL
  rw [bytesB_append, bytesB_append, bytesB_append, bytesB_append, be64_bytes, be4_bytes, hb, zeros_bytes]
  simp [bytesB]
  omega
set_option maxHeartbeats 2000000 in
set_option maxRecDepth 100000 in
theorem sput_good (k i c : Int) (s a : Nat) (A5 : Option Addr) (c5 : Nat) (l : List Int) (w : World) (hr : Kd.C (Kd.int .u8) w A5 l.length l) (hc : l.length ≤ c5)
    (hk0 : 1 ≤ k) (hk1 : k ≤ 4) (hi0 : 0 ≤ i) (hi1 : i ≤ 255) (hc0 : 0 ≤ c) (hc1 : c ≤ 255) (hl : l.length ≤ 108) (hs : s < 18446744073709551616) (ha : a < 4294967296) (hb : bytesB l = true) :
    Calls Try.prog 23 #[.agg #[.int .i64 k, .int .i64 i, .int .i64 c, .int .u64 s, .int .u32 a, .slice A5 l.length c5]] w fun e w' => ∃ v0_ : Value, e = .returned (.tuple #[v0_, .int .i64 0]) ∧ Kd.R (Kd.int .u8) 5 w' w.heap.size (fun _ => True) v0_ (frameL k i c s a l ++ be32 (crcM 0 (frameL k i c s a l))) ∧ Below w.heap.size w w' := by
  have HR := Aside0.mk hr
  have HBY := Aside0.mk hb
  clear hr hb
  have d1 : decide (k < 1) = false := decide_eq_false (by omega)
  have d2 : decide (4 < k) = false := decide_eq_false (by omega)
  have d3 : decide ((108 : Int) < (l.length : Int)) = false := decide_eq_false (by omega)
  have HBF := Aside0.mk (show bytefulB [i, c] = true by simp [bytefulB]; omega)
  have hu := Try.underlying42
  go_enter Try.func23, Try.ntmps23
  go_wp2_with (first | ((with_reducible refine gate_dst (N := 1) rfl ?_); refine box_event ?hg (N := 1) ?hd (cs := #[.int .i64 k, .int .i64 i, .int .i64 c, .int .u64 s, .int .u32 a, .slice A5 l.length c5]) (t := 42) ?hr ?_; (case hd => rfl); (case hg => rfl); (case hr => first | (go_simp; done) | (go_simp; rfl)); intro g1 hg1 w1 hbox hb1; have HB1 := Aside0.mk hb1; have HX := Aside0.mk hbox; have hx0 := blk_cell hbox 0; have hx1 := blk_cell hbox 1; have hx2 := blk_cell hbox 2; have hx3 := blk_cell hbox 3; have hx4 := blk_cell hbox 4; have hx5 := blk_cell hbox 5; clear hbox hb1 hg1) | fail)
  refine (byteful_any _ _ [i, c] _ (C_of_blockK [i, c] (heap_alloc_new _ _) rfl (by simp)) (Nat.le_refl _)).mono ?_
  rintro e w2 ⟨rfl, hW⟩
  rw [HBF.out]
  have HB2 := Aside0.mk (hW ▸ HB1.out.alloc HB1.out.size (.cells (nums .i64 [i, c]).toArray 3) : Below w.heap.size w w2)
  have HX2 := Aside0.mk (show w2.heap[g1]? = some (.cells #[.int .i64 k, .int .i64 i, .int .i64 c, .int .u64 s, .int .u32 a, .slice A5 l.length c5] 42 (0, 0)) by rw [← hW]; exact blk_alloc HX.out _)
  clear hx0 hx1 hx2 hx3 hx4 hx5 HB1 HX hW
  have hx0 := blk_cell HX2.out 0
  have hx1 := blk_cell HX2.out 1
  have hx2 := blk_cell HX2.out 2
  have hx3 := blk_cell HX2.out 3
  have hx4 := blk_cell HX2.out 4
  have hx5 := blk_cell HX2.out 5
  go_wp2_with (first | ((with_reducible refine gate_dst (N := 4) rfl ?_); refine box_event ?hg (N := 4) ?hd (cs := zerosV 124) (t := 66) ?hr ?_; (case hd => rfl); (case hg => rfl); (case hr => first | (go_simp; done) | (go_simp; rfl)); intro g4 hg4 w4 hbox hb4; have HB4 := Aside0.mk (below_then HB2.out HB2.out.size hb4); have HX4 := Aside0.mk (blk_below HX2.out hb4); have HG4 := Aside0.mk hbox; have HGN := Aside0.mk (show w.heap.size ≤ g4 by rw [hg4]; exact HB2.out.size); have HNE := Aside0.mk (show g1 ≠ g4 by have := blk_lt HX2.out; omega); clear hbox hb4 hg4 hx0 hx1 hx2 hx3 hx4 hx5) | fail)
  (try simp only [Act.put, List.setIfInBounds_toArray, List.set_cons_zero, List.set_cons_succ])
  have hx0 := blk_cell HX4.out 0
  have hx1 := blk_cell HX4.out 1
  have hx2 := blk_cell HX4.out 2
  have hx5 := blk_cell HX4.out 5
  have hg0 : w4.cell? ⟨g4, 0, none⟩ = some (.int .u8 0) := blk_cell HG4.out 0
  have hg1 : w4.cell? ⟨g4, 1, none⟩ = some (.int .u8 0) := blk_cell HG4.out 1
  have hg2 : w4.cell? ⟨g4, 2, none⟩ = some (.int .u8 0) := blk_cell HG4.out 2
  have hg3 : w4.cell? ⟨g4, 3, none⟩ = some (.int .u8 0) := blk_cell HG4.out 3
  have hf0 : w4.frozen? ⟨g4, 0, none⟩ = false := blk_frozen HG4.out 0
  have hf1 : w4.frozen? ⟨g4, 1, none⟩ = false := blk_frozen HG4.out 1
  have hf2 : w4.frozen? ⟨g4, 2, none⟩ = false := blk_frozen HG4.out 2
  have hf3 : w4.frozen? ⟨g4, 3, none⟩ = false := blk_frozen HG4.out 3
  go_region
  go_wp2_with fail
  refine wp_world (fun W => Below w.heap.size w W ∧ W.heap[g1]? = some (.cells #[.int .i64 k, .int .i64 i, .int .i64 c, .int .u64 s, .int .u32 a, .slice A5 l.length c5] 42 (0, 0)) ∧ W.heap[g4]? = some (.cells (sec0 k i c l.length) 66 (0, 0))) ⟨?_, ?_, ?_⟩ ?_
  · exact below_drew ((((HB4.out.setCell HGN.out _).setCell HGN.out _).setCell HGN.out _).setCell HGN.out _)
  · exact blk_drew (blk_far (blk_far (blk_far (blk_far HX4.out HNE.out _) HNE.out _) HNE.out _) HNE.out _)
  · exact blk_drew (blk_set (blk_set (blk_set (blk_set HG4.out 0 _) 1 _) 2 _) 3 _)
  rintro w5 ⟨hb5, hx5, hg5⟩
  have HB5 := Aside0.mk hb5
  have HX5 := Aside0.mk hx5
  have HG5 := Aside0.mk hg5
  clear hb5 hx5 hg5 hg0 hg1 hg2 hg3 hf0 hf1 hf2 hf3 hx0 hx1 hx2 HB4 HX4 HG4
  have hx3 := blk_cell HX5.out 3
  go_still_tail 3, (by kernel_rfl)
  change wpList _ _ _ _ _ w5.drew
  go_wp2_with fail
  refine (lay_any g4 4 8 120 s w5.drew _ _ (blk_drew HG5.out) (by rw [sec0_size]; omega) hs (by omega)).mono ?_
  rintro e w6 ⟨rfl, hw6⟩
  have HB6 := Aside0.mk (show Below w.heap.size w w6 by rw [hw6]; exact below_setRow (below_drew HB5.out) HGN.out _)
  have HX6 := Aside0.mk (show w6.heap[g1]? = some (.cells #[.int .i64 k, .int .i64 i, .int .i64 c, .int .u64 s, .int .u32 a, .slice A5 l.length c5] 42 (0, 0)) by rw [hw6, setRow_other _ _ _ _ HNE.out]; exact HX5.out)
  have HG6 := Aside0.mk (show w6.heap[g4]? = some (.cells (sec1 k i c l.length s) 66 (0, 0)) by rw [hw6]; exact setRow_heap _ _ _ _ _ _ (blk_drew HG5.out))
  clear hw6 hx3 hx5 HB5 HX5 HG5
  have hx4 := blk_cell HX6.out 4
  go_wp2_with fail
  go_still_tail 4, (by kernel_rfl)
  change wpList _ _ _ _ _ w6.drew
  go_wp2_with fail
  refine (lay_any g4 12 4 112 a w6.drew _ _ (blk_drew HG6.out) (by rw [sec1_size]; omega) (by omega) (by omega)).mono ?_
  rintro e w7 ⟨rfl, hw7⟩
  have HB7 := Aside0.mk (show Below w.heap.size w w7 by rw [hw7]; exact below_setRow (below_drew HB6.out) HGN.out _)
  have HX7 := Aside0.mk (show w7.heap[g1]? = some (.cells #[.int .i64 k, .int .i64 i, .int .i64 c, .int .u64 s, .int .u32 a, .slice A5 l.length c5] 42 (0, 0)) by rw [hw7, setRow_other _ _ _ _ HNE.out]; exact HX6.out)
  have HG7 := Aside0.mk (show w7.heap[g4]? = some (.cells (sec2 k i c l.length s a) 66 (0, 0)) by rw [hw7]; exact setRow_heap _ _ _ _ _ _ (blk_drew HG6.out))
  clear hw7 hx4 HB6 HX6 HG6
  have hx5 := blk_cell HX7.out 5
  go_wp2_with fail
  go_still_tail 3, (by kernel_rfl)
  change wpList _ _ _ _ _ w7.drew
  refine wpList_copy_splice rfl (.tmp 54) (.tmp 56) 23 23 rfl 5 Try.underlying23 (by kernel_rfl) (some ⟨g4, 16, none⟩) A5 108 108 l.length c5 rfl rfl g4 16 (sec2 k i c l.length s a).toList 66 ?hg (nums .u8 l) ?hn ?hp ?hf ?h1 w.heap.size w (below_drew HB7.out) HGN.out ?_
  case hg => rw [Array.toArray_toList]; exact blk_drew HG7.out
  case hn => rw [nums_length]; exact (Nat.min_eq_left hl).symm
  case hp =>
    intro h0
    rw [nums_length] at h0
    obtain ⟨_, _, h2⟩ := Kd.reads_of_C (d := (0 : Int)) (Kd.C_below HR.out (below_drew HB7.out))
    obtain ⟨ad, e1, e2⟩ := h2 h0
    refine ⟨rfl, ad, e1, fun j v hj => ?_⟩
    have hjl : j < l.length := by
      have := (List.getElem?_eq_some_iff.1 hj).1
      rwa [nums_length] at this
    rw [e2 j hjl]
    have hj' : (nums .u8 l)[j]? = some (.int .u8 l[j]) := by simp [nums, hjl]
    rw [hj'] at hj
    rw [← hj]
    simp [hjl]
  case hf => rw [nums_length, show (sec2 k i c l.length s a).toList.length = 124 by rw [Array.length_toList, sec2_size]]; omega
  case h1 => intro v hv; simp only [nums, List.mem_map] at hv; obtain ⟨x, _, rfl⟩ := hv; rfl
  intro w8 hg8 hb8
  have HB8 := Aside0.mk hb8
  have HG8 := Aside0.mk (show w8.heap[g4]? = some (.cells (nums .u8 (frameL k i c s a l)).toArray 66 (0, 0)) by have := hg8; rw [splice_frame k i c s a l hl] at this; exact this)
  clear hg8 hb8 hx5 HB7 HX7 HG7
  have hFl : (frameL k i c s a l).length = 124 := by simp [frameL, be64, be4]; omega
  have hFb := Aside0.mk (frameL_bytes k i c s a l (by omega) (by omega) (by omega) (by omega) (by omega) (by omega) hl HBY.out)
  obtain ⟨F, hF⟩ : ∃ F, frameL k i c s a l = F := ⟨_, rfl⟩
  rw [hF] at hFl hFb HG8
  have HF := Aside0.mk hF
  clear hF
  have hcall := crc_Sealed.calls (some ⟨g4, 0, none⟩) 124 F _ w8 (C_of_block F HG8.out rfl (by omega)) (by omega) (by unfold crc_Sealed.f; rw [if_pos ⟨hFb.out, by omega⟩])
  rw [hFl] at hcall
  have HCL := Aside0.mk hcall
  clear hcall hFl
  go_wp2_with fail
  refine HCL.out.mono ?_
  rintro e w9 ⟨v9, rfl, hro, hb9⟩
  have HR9 := Aside0.mk (Kd.R_lower hro HB8.out.size)
  have HB9 := Aside0.mk (below_then HB8.out HB8.out.size hb9)
  clear hro hb9
  go_wp2
  go_ret2
  refine ⟨v9, rfl, ?_, HB9.out⟩
  rw [HF.out]
  exact HR9.out
end Go.Proofs.Ytelhdgnolijpcaa.Hm
end
section
/- The Go function sector.Put, whole: what it returns for any frame; conditions: the frame's numbers are of their kinds, its body's numbers are bytes. -/
namespace Go.Proofs.Ytelhdgnolijpcaa.Hm
open Go.RowKit Go.Proofs.YtelhdgnolijpcaaW.PrintWords Go.Proofs.YtelhdgnolijpcaaW.PrintLast Go.Proofs.YtelhdgnolijpcaaW.PrintMore
set_option linter.unusedVariables false
set_option linter.unusedSimpArgs false

set_option maxHeartbeats 2000000 in
set_option maxRecDepth 100000 in
theorem sput_kind (k i c s a : Int) (A5 : Option Addr) (c5 : Nat) (n : Nat) (w : World) (hk : k < 1 ∨ 4 < k) :
    Calls Try.prog 23 #[.agg #[.int .i64 k, .int .i64 i, .int .i64 c, .int .u64 s, .int .u32 a, .slice A5 n c5]] w fun e w' => e = .returned (.tuple #[.slice none 0 0, .int .i64 1]) ∧ Below w.heap.size w w' := by
  have hu := Try.underlying42
  by_cases h1 : k < 1
  · have d1 : decide (k < 1) = true := decide_eq_true h1
    clear hk
    go_enter Try.func23, Try.ntmps23
    go_wp2
    go_ret2
    exact ⟨rfl, (Below.refl _ _).alloc (Nat.le_refl _) _⟩
  · have d1 : decide (k < 1) = false := decide_eq_false h1
    have d2 : decide (4 < k) = true := decide_eq_true (by omega)
    clear hk h1
    go_enter Try.func23, Try.ntmps23
    go_wp2
    go_ret2
    exact ⟨rfl, (Below.refl _ _).alloc (Nat.le_refl _) _⟩
set_option maxHeartbeats 2000000 in
set_option maxRecDepth 100000 in
theorem sput_other (k i c s a : Int) (A5 : Option Addr) (c5 : Nat) (n : Nat) (w : World) (hk0 : 1 ≤ k) (hk1 : k ≤ 4) (hb : bytefulB [i, c] = false ∨ 108 < n) :
    Calls Try.prog 23 #[.agg #[.int .i64 k, .int .i64 i, .int .i64 c, .int .u64 s, .int .u32 a, .slice A5 n c5]] w fun e w' => e = .returned (.tuple #[.slice none 0 0, .int .i64 1]) ∧ Below w.heap.size w w' := by
  have d1 : decide (k < 1) = false := decide_eq_false (by omega)
  have d2 : decide (4 < k) = false := decide_eq_false (by omega)
  have hu := Try.underlying42
  obtain ⟨b, hB⟩ : ∃ b, bytefulB [i, c] = b := ⟨_, rfl⟩
  rw [hB] at hb
  have HBF := Aside0.mk hB
  have HD := Aside0.mk hb
  clear hB hb
  go_enter Try.func23, Try.ntmps23
  go_wp2_with (first | ((with_reducible refine gate_dst (N := 1) rfl ?_); refine box_event ?hg (N := 1) ?hd (cs := #[.int .i64 k, .int .i64 i, .int .i64 c, .int .u64 s, .int .u32 a, .slice A5 n c5]) (t := 42) ?hr ?_; (case hd => rfl); (case hg => rfl); (case hr => first | (go_simp; done) | (go_simp; rfl)); intro g1 hg1 w1 hbox hb1; have HB1 := Aside0.mk hb1; have HX := Aside0.mk hbox; have hx0 := blk_cell hbox 0; have hx1 := blk_cell hbox 1; have hx2 := blk_cell hbox 2; clear hbox hb1 hg1) | fail)
  refine (byteful_any _ _ [i, c] _ (C_of_blockK [i, c] (heap_alloc_new _ _) rfl (by simp)) (Nat.le_refl _)).mono ?_
  rintro e w2 ⟨rfl, hW⟩
  rw [HBF.out]
  have HB2 := Aside0.mk (hW ▸ HB1.out.alloc HB1.out.size (.cells (nums .i64 [i, c]).toArray 3) : Below w.heap.size w w2)
  have HX2 := Aside0.mk (show w2.heap[g1]? = some (.cells #[.int .i64 k, .int .i64 i, .int .i64 c, .int .u64 s, .int .u32 a, .slice A5 n c5] 42 (0, 0)) by rw [← hW]; exact blk_alloc HX.out _)
  clear hx0 hx1 hx2 HB1 HX hW
  have hx5 := blk_cell HX2.out 5
  cases b with
  | false =>
    go_wp2
    go_ret2
    exact ⟨rfl, HB2.out⟩
  | true =>
    have d3 : decide ((108 : Int) < (n : Int)) = true := decide_eq_true (by have := HD.out; simp at this; omega)
    go_wp2
    go_ret2
    exact ⟨rfl, HB2.out⟩
/-- sector.Put. -/
def frameOk (k i c : Int) (n : Nat) : Bool := decide (1 ≤ k) && decide (k ≤ 4) && (bytefulB [i, c] && decide (n ≤ 108))
def sector_Put.f (k i c s a : Int) (l : List Int) : Option (List Int × Int) :=
  if 0 ≤ s ∧ s < 18446744073709551616 ∧ 0 ≤ a ∧ a < 4294967296 ∧ bytesB l = true then
    some (if frameOk k i c l.length = true then (frameL k i c s.toNat a.toNat l ++ be32 (crcM 0 (frameL k i c s.toNat a.toNat l)), 0) else ([], 1))
  else none
theorem sector_Put.calls (a0_0 : Int) (a0_1 : Int) (a0_2 : Int) (a0_3 : Int) (a0_4 : Int) (A0_5 : Option Addr) (c0_5 : Nat) (l0_5 : List Int) (r1 : List Int) (r2 : Int) (w : World) (hr0_5 : Kd.C (Kd.int .u8) w A0_5 l0_5.length l0_5) (hc0_5 : l0_5.length ≤ c0_5) (h : sector_Put.f a0_0 a0_1 a0_2 a0_3 a0_4 l0_5 = some (r1, r2)) :
    Calls Try.prog 23 #[.agg #[.int .i64 a0_0, .int .i64 a0_1, .int .i64 a0_2, .int .u64 a0_3, .int .u32 a0_4, .slice A0_5 l0_5.length c0_5]] w fun e w' => ∃ v0_ : Value, e = .returned (.tuple #[v0_, .int .i64 r2]) ∧ Kd.R (Kd.int .u8) 5 w' w.heap.size (fun _ => True) v0_ r1 ∧ Below w.heap.size w w' := by
  unfold sector_Put.f at h
  split at h
  · rename_i hc
    obtain ⟨hs0, hs1, ha0, ha1, hb⟩ := hc
    obtain ⟨s, rfl⟩ := Int.eq_ofNat_of_zero_le hs0
    obtain ⟨a, rfl⟩ := Int.eq_ofNat_of_zero_le ha0
    have bad : ∀ {k i c : Int}, frameOk k i c l0_5.length = false → Calls Try.prog 23 #[.agg #[.int .i64 k, .int .i64 i, .int .i64 c, .int .u64 (s : Int), .int .u32 (a : Int), .slice A0_5 l0_5.length c0_5]] w fun e w' => e = .returned (.tuple #[.slice none 0 0, .int .i64 1]) ∧ Below w.heap.size w w' := by
      intro k i c hf
      by_cases hk : 1 ≤ k ∧ k ≤ 4
      · refine sput_other k i c s a A0_5 c0_5 l0_5.length w hk.1 hk.2 ?_
        unfold frameOk at hf
        rw [decide_eq_true hk.1, decide_eq_true hk.2] at hf
        cases hb2 : bytefulB [i, c] with
        | false => exact .inl rfl
        | true =>
          rw [hb2] at hf
          simp at hf
          exact .inr hf
      · exact sput_kind k i c s a A0_5 c0_5 l0_5.length w (by omega)
    split at h
    · rename_i hf
      obtain ⟨rfl, rfl⟩ := Prod.mk.inj (Option.some.inj h)
      unfold frameOk bytefulB at hf
      simp only [Bool.and_eq_true, decide_eq_true_eq, List.all_cons, List.all_nil, Bool.and_true] at hf
      rw [Int.toNat_natCast, Int.toNat_natCast]
      exact sput_good a0_0 a0_1 a0_2 s a A0_5 c0_5 l0_5 w hr0_5 hc0_5 hf.1.1 hf.1.2 hf.2.1.1.1 hf.2.1.1.2 hf.2.1.2.1 hf.2.1.2.2 hf.2.2 (by omega) (by omega) hb
    · rename_i hf
      obtain ⟨rfl, rfl⟩ := Prod.mk.inj (Option.some.inj h)
      refine (bad (by simpa using hf)).mono ?_
      rintro e w' ⟨rfl, hb'⟩
      exact ⟨_, rfl, Kd.R_nil _ _ _ _ _, hb'⟩
  · cases h
end Go.Proofs.Ytelhdgnolijpcaa.Hm
end
section
/- What is right is told by a residue; a burst of up to 32 bits on end, not all noughts, turns what is right into what isn't; so does another byte. Conditions: numbers that are bytes, places inside. -/
namespace Go.Proofs.Ytelhdgnolijpcaa.Hm
open Go.RowKit Go.Proofs.YtelhdgnolijpcaaW.PrintWords Go.Proofs.YtelhdgnolijpcaaW.PrintLast Go.Proofs.YtelhdgnolijpcaaW.PrintMore
set_option linter.unusedVariables false
set_option linter.unusedSimpArgs false

def ones : BitVec 32 := bv 4294967295
theorem bv_shift (n : Nat) (x : Int) (h0 : 0 ≤ x) (h : x * (2 ^ n : Nat) < 4294967296) : Crc.Tn n (bv x) = bv (x * (2 ^ n : Nat)) := by
  obtain ⟨m, rfl⟩ := Int.eq_ofNat_of_zero_le h0
  have e : ((m : Int) * ((2 ^ n : Nat) : Int)).toNat = m * 2 ^ n := by rw [← Int.natCast_mul, Int.toNat_natCast]
  have h' : m * 2 ^ n < 4294967296 := by rw [← Int.natCast_mul] at h; omega
  unfold bv
  rw [Int.toNat_natCast, Crc.Tn_shift n m h', e]
theorem bv_part (x : Int) (h0 : 0 ≤ x) (h1 : x < 4294967296) (k : Nat) (hk : k ≤ 32) : bv x = bv (x / (2 ^ k : Nat) * (2 ^ k : Nat)) ^^^ bv (x % (2 ^ k : Nat)) := by
  obtain ⟨m, rfl⟩ := Int.eq_ofNat_of_zero_le h0
  have h := bv_split m (by omega) k hk
  unfold bv
  rw [Int.toNat_natCast, h, ← Int.natCast_ediv, ← Int.natCast_mul, Int.toNat_natCast, ← Int.natCast_emod, Int.toNat_natCast]
def val (a b c d : Int) : Int := a * 16777216 + b * 65536 + c * 256 + d
theorem raw4 (s : BitVec 32) (a b c d : Int) (ha0 : 0 ≤ a) (ha : a < 256) (hb0 : 0 ≤ b) (hb : b < 256) (hc0 : 0 ≤ c) (hc : c < 256) (hd0 : 0 ≤ d) (hd : d < 256) : raw s [a, b, c, d] = Crc.Tn 32 (s ^^^ bv (val a b c d)) := by
  have e24 := bv_part (val a b c d) (by unfold val; omega) (by unfold val; omega) 24 (by omega)
  have e16 := bv_part (b * 65536 + c * 256 + d) (by omega) (by omega) 16 (by omega)
  have e8 := bv_part (c * 256 + d) (by omega) (by omega) 8 (by omega)
  rw [show ((2 ^ 24 : Nat) : Int) = 16777216 from rfl] at e24
  rw [show ((2 ^ 16 : Nat) : Int) = 65536 from rfl] at e16
  rw [show ((2 ^ 8 : Nat) : Int) = 256 from rfl] at e8
  rw [show val a b c d / 16777216 * 16777216 = a * 16777216 by unfold val; omega, show val a b c d % 16777216 = b * 65536 + c * 256 + d by unfold val; omega] at e24
  rw [show (b * 65536 + c * 256 + d) / 65536 * 65536 = b * 65536 by omega, show (b * 65536 + c * 256 + d) % 65536 = c * 256 + d by omega] at e16
  rw [show (c * 256 + d) / 256 * 256 = c * 256 by omega, show (c * 256 + d) % 256 = d by omega] at e8
  have sb := bv_shift 8 (b * 65536) (by omega) (by rw [show ((2 ^ 8 : Nat) : Int) = 256 from rfl]; omega)
  have sc := bv_shift 16 (c * 256) (by omega) (by rw [show ((2 ^ 16 : Nat) : Int) = 65536 from rfl]; omega)
  have sd := bv_shift 24 d (by omega) (by rw [show ((2 ^ 24 : Nat) : Int) = 16777216 from rfl]; omega)
  rw [show ((2 ^ 8 : Nat) : Int) = 256 from rfl, show b * 65536 * 256 = b * 16777216 by omega] at sb
  rw [show ((2 ^ 16 : Nat) : Int) = 65536 from rfl, show c * 256 * 65536 = c * 16777216 by omega] at sc
  rw [show ((2 ^ 24 : Nat) : Int) = 16777216 from rfl] at sd
  show Crc.Tn 8 (Crc.Tn 8 (Crc.Tn 8 (Crc.Tn 8 (s ^^^ bv (a * 16777216)) ^^^ bv (b * 16777216)) ^^^ bv (c * 16777216)) ^^^ bv (d * 16777216)) = _
  rw [← sb, ← Crc.Tn_xor, ← Crc.Tn_add 8 8, ← sc, ← Crc.Tn_xor, ← Crc.Tn_add 8 16, ← sd, ← Crc.Tn_xor, ← Crc.Tn_add 8 24, e24, e16, e8]
  congr 1
  ac_rfl
theorem raw_be32 (s : BitVec 32) (x : Int) (h0 : 0 ≤ x) (h1 : x < 4294967296) : raw s (be32 x) = Crc.Tn 32 (s ^^^ bv x) := by
  unfold be32
  rw [raw4 s _ _ _ _ (by omega) (by omega) (by omega) (by omega) (by omega) (by omega) (by omega) (by omega)]
  congr 3
  unfold val
  omega
theorem be32_val (a b c d : Int) (ha0 : 0 ≤ a) (ha : a < 256) (hb0 : 0 ≤ b) (hb : b < 256) (hc0 : 0 ≤ c) (hc : c < 256) (hd0 : 0 ≤ d) (hd : d < 256) : be32 (val a b c d) = [a, b, c, d] := by
  unfold be32 val
  simp only [List.cons.injEq, and_true]
  omega
theorem four (q : List Int) (h : q.length = 4) : ∃ a b c d, q = [a, b, c, d] := by
  match q, h with
  | [a, b, c, d], _ => exact ⟨a, b, c, d, rfl⟩
theorem xor_ones (x : Int) (h0 : 0 ≤ x) (h1 : x < 4294967296) : bv (4294967295 - x) = bv x ^^^ ones := by
  have h := ones_xor x.toNat (by omega)
  apply BitVec.eq_of_toNat_eq
  unfold ones bv
  rw [BitVec.toNat_xor, BitVec.toNat_ofNat, BitVec.toNat_ofNat, BitVec.toNat_ofNat, Nat.mod_eq_of_lt (a := x.toNat) (by omega), show (4294967295 : Int).toNat % 2 ^ 32 = 4294967295 from rfl, Nat.xor_comm, h]
  omega
/-- Right: the residue. -/
theorem right_iff (l : List Int) (hb : bytesB l = true) : rightB l = true ↔ 4 ≤ l.length ∧ raw ones l = Crc.Tn 32 ones := by
  unfold rightB
  by_cases h4 : 4 ≤ l.length
  · rw [decide_eq_true h4, Bool.true_and, decide_eq_true_iff]
    have hl : l = l.take (l.length - 4) ++ l.drop (l.length - 4) := (List.take_append_drop _ _).symm
    obtain ⟨p, hp⟩ : ∃ p, l.take (l.length - 4) = p := ⟨_, rfl⟩
    obtain ⟨q, hq⟩ : ∃ q, l.drop (l.length - 4) = q := ⟨_, rfl⟩
    have hq4 : q.length = 4 := by rw [← hq, List.length_drop]; omega
    have hbp : bytesB p = true := by rw [← hp]; exact bytesB_take _ _ hb
    have hbq : bytesB q = true := by rw [← hq]; exact bytesB_drop _ _ hb
    rw [hp]
    rw [hp, hq] at hl
    have hr := crcRaw_range p 4294967295 (by omega) (by omega) ((bytesB_iff p).1 hbp)
    have hs := crcRaw_bv p 4294967295 (by omega) (by omega) ((bytesB_iff p).1 hbp)
    have hx : 0 ≤ crcM 0 p ∧ crcM 0 p < 4294967296 := crcM_range 0 p (by omega) (by omega) ((bytesB_iff p).1 hbp)
    have hm : bv (crcM 0 p) = raw ones p ^^^ ones := by
      unfold crcM
      rw [show (4294967295 : Int) - 0 = 4294967295 by omega, xor_ones _ hr.1 hr.2, hs]
      rfl
    obtain ⟨a, b, c, d, rfl⟩ := four q hq4
    have hbr := (bytesB_iff _).1 hbq
    have ha := hbr a (by simp)
    have hb' := hbr b (by simp)
    have hc := hbr c (by simp)
    have hd := hbr d (by simp)
    have hv : 0 ≤ val a b c d ∧ val a b c d < 4294967296 := by unfold val; omega
    constructor
    · intro h
      refine ⟨h4, ?_⟩
      rw [← h, raw_append, raw_be32 _ _ hx.1 hx.2, hm, ← BitVec.xor_assoc, BitVec.xor_self, BitVec.zero_xor]
    · rintro ⟨_, h⟩
      rw [hl, raw_append, raw4 _ _ _ _ _ ha.1 ha.2 hb'.1 hb'.2 hc.1 hc.2 hd.1 hd.2] at h
      have h1 := Crc.Tn_inj 32 _ _ h
      have h2 : bv (val a b c d) = bv (crcM 0 p) := by
        have h2 := congrArg (fun z => raw ones p ^^^ z) h1
        simp only [← BitVec.xor_assoc, BitVec.xor_self, BitVec.zero_xor] at h2
        rw [hm, h2]
      have h3 := bv_inj _ _ hv.1 hv.2 hx.1 hx.2 h2
      rw [hl, ← h3, be32_val a b c d ha.1 ha.2 hb'.1 hb'.2 hc.1 hc.2 hd.1 hd.2]
  · rw [decide_eq_false h4]
    simp [h4]
theorem right_sealed (l : List Int) : rightB (l ++ be32 (crcM 0 l)) = true := by
  unfold rightB
  have hlen : (l ++ be32 (crcM 0 l)).length = l.length + 4 := by simp [be32]
  rw [hlen, decide_eq_true (by omega), show l.length + 4 - 4 = l.length by omega, List.take_left' rfl]
  simp

/-- One bit turned: bit p, counted from the first byte's highest. -/
def flip (l : List Int) (p : Nat) : List Int := l.set (p / 8) (Go.bits .xor .u8 (rd l ((p / 8 : Nat) : Int)) (128 / 2 ^ (p % 8) : Nat))
def burstN (l : List Int) (k b : Nat) : Nat → List Int
  | 0 => l
  | i + 1 => if b / 2 ^ i % 2 = 1 then flip (burstN l k b i) (k + i) else burstN l k b i
def revN (b : Nat) : Nat → BitVec 32
  | 0 => 0#32
  | i + 1 => if b / 2 ^ i % 2 = 1 then revN b i ^^^ BitVec.ofNat 32 (2 ^ (31 - i)) else revN b i
theorem flip_length (l : List Int) (p : Nat) : (flip l p).length = l.length := by simp [flip]
theorem burstN_length (l : List Int) (k b i : Nat) : (burstN l k b i).length = l.length := by
  induction i with
  | zero => rfl
  | succ i ih => unfold burstN; split <;> simp [flip_length, ih]
theorem bit_range (t : Nat) (h : t < 8) : 1 ≤ 128 / 2 ^ t ∧ 128 / 2 ^ t ≤ 128 := by
  have : t = 0 ∨ t = 1 ∨ t = 2 ∨ t = 3 ∨ t = 4 ∨ t = 5 ∨ t = 6 ∨ t = 7 := by omega
  rcases this with rfl | rfl | rfl | rfl | rfl | rfl | rfl | rfl <;> decide
theorem rd_range (l : List Int) (h : bytesB l = true) (j : Nat) (hj : j < l.length) : 0 ≤ rd l (j : Int) ∧ rd l (j : Int) < 256 := by
  rw [rd_at l j hj]
  exact (bytesB_iff l).1 h _ (List.getElem_mem _)
theorem bytesB_set (l : List Int) (h : bytesB l = true) (j : Nat) (y : Int) (h0 : 0 ≤ y) (h1 : y < 256) : bytesB (l.set j y) = true := by
  rw [bytesB_iff]
  intro x hx
  rcases List.mem_or_eq_of_mem_set hx with hx | rfl
  · exact (bytesB_iff l).1 h x hx
  · exact ⟨h0, h1⟩
theorem xor256 (a b : Int) (h0 : 0 ≤ a) (h1 : a < 256) (h2 : 0 ≤ b) (h3 : b < 256) : 0 ≤ Go.bits .xor .u8 a b ∧ Go.bits .xor .u8 a b < 256 := by
  rw [u8_xor _ _ (by omega) (by omega) (by omega) (by omega)]
  have h := Nat.xor_lt_two_pow (n := 8) (x := a.toNat) (y := b.toNat) (by omega) (by omega)
  omega
theorem bv_top (a b : Int) (h0 : 0 ≤ a) (h1 : a < 256) (h2 : 0 ≤ b) (h3 : b < 256) : bv (Go.bits .xor .u8 a b * 16777216) = bv (a * 16777216) ^^^ bv (b * 16777216) := by
  obtain ⟨m, rfl⟩ := Int.eq_ofNat_of_zero_le h0
  obtain ⟨n, rfl⟩ := Int.eq_ofNat_of_zero_le h2
  rw [u8_xor_nat m n (by omega) (by omega)]
  have ha := bv_shl m 24
  have hb := bv_shl n 24
  have hc := bv_shl (m ^^^ n) 24
  rw [show ((2 ^ 24 : Nat) : Int) = 16777216 from rfl] at ha hb hc
  rw [ha, hb, hc, ← ofNat_xor, BitVec.shiftLeft_xor_distrib]
theorem flip_bytes (l : List Int) (p : Nat) (h : bytesB l = true) (hp : p < 8 * l.length) : bytesB (flip l p) = true := by
  have hj : p / 8 < l.length := by omega
  have hr := rd_range l h (p / 8) hj
  have ht := bit_range (p % 8) (by omega)
  have hx := xor256 (rd l ((p / 8 : Nat) : Int)) ((128 / 2 ^ (p % 8) : Nat) : Int) hr.1 hr.2 (by omega) (by omega)
  exact bytesB_set l h _ _ hx.1 hx.2
theorem burstN_bytes (l : List Int) (k b i : Nat) (h : bytesB l = true) (hk : k + i ≤ 8 * l.length) : bytesB (burstN l k b i) = true := by
  induction i with
  | zero => exact h
  | succ i ih =>
    have h1 := ih (by omega)
    unfold burstN
    split
    · exact flip_bytes _ _ h1 (by rw [burstN_length]; omega)
    · exact h1
theorem Tn_bit (m i : Nat) (h : m + i ≤ 31) : Crc.Tn m (BitVec.ofNat 32 (2 ^ i)) = BitVec.ofNat 32 (2 ^ (i + m)) := by
  rw [Crc.Tn_shift m (2 ^ i) ?_, ← Nat.pow_add]
  rw [← Nat.pow_add]
  exact Nat.lt_of_lt_of_le (Nat.pow_lt_pow_right (by decide) (by omega : i + m < 32)) (by decide)
theorem raw_flip (x : BitVec 32) (l : List Int) (k i : Nat) (h : bytesB l = true) (hp : k + i < 8 * l.length) (hi : i < 32) :
    raw x (flip l (k + i)) = raw x l ^^^ Crc.Tn (8 * l.length - k) (BitVec.ofNat 32 (2 ^ (31 - i))) := by
  have hj : (k + i) / 8 < l.length := by omega
  have hr := rd_range l h ((k + i) / 8) hj
  have ht := bit_range ((k + i) % 8) (by omega)
  have h8 : (k + i) % 8 < 8 := by omega
  unfold flip
  rw [raw_set x l _ hj _ (BitVec.ofNat 32 (2 ^ (31 - (k + i) % 8))) ?_]
  · congr 1
    have e1 : 8 * (l.length - (k + i) / 8) = (8 * l.length - (k + i)) + (k + i) % 8 := by omega
    have e2 : 8 * l.length - k = (8 * l.length - (k + i)) + i := by omega
    rw [e1, e2, Crc.Tn_add, Crc.Tn_add, Tn_bit ((k + i) % 8) (31 - (k + i) % 8) (by omega), Tn_bit i (31 - i) (by omega), show 31 - (k + i) % 8 + (k + i) % 8 = 31 by omega, show 31 - i + i = 31 by omega]
  · rw [rd_at l _ hj] at hr ⊢
    rw [bv_top _ _ hr.1 hr.2 (by omega) (by omega)]
    congr 1
    have hs := bv_shl (128 / 2 ^ ((k + i) % 8)) 24
    rw [show ((2 ^ 24 : Nat) : Int) = 16777216 from rfl] at hs
    rw [hs, ← ofNat_shl]
    congr 1
    have : ∀ t : Nat, t < 8 → 128 / 2 ^ t * 2 ^ 24 = 2 ^ (31 - t) := by
      intro t h
      have : t = 0 ∨ t = 1 ∨ t = 2 ∨ t = 3 ∨ t = 4 ∨ t = 5 ∨ t = 6 ∨ t = 7 := by omega
      rcases this with rfl | rfl | rfl | rfl | rfl | rfl | rfl | rfl <;> decide
    exact this _ h8
theorem raw_burst (x : BitVec 32) (l : List Int) (k b i : Nat) (h : bytesB l = true) (hk : k + i ≤ 8 * l.length) (hi : i ≤ 32) :
    raw x (burstN l k b i) = raw x l ^^^ Crc.Tn (8 * l.length - k) (revN b i) := by
  induction i with
  | zero =>
    show raw x l = raw x l ^^^ Crc.Tn (8 * l.length - k) 0#32
    rw [Crc.Tn_zero]
    simp
  | succ i ih =>
    have h1 := ih (by omega) (by omega)
    have hb := burstN_bytes l k b i h (by omega)
    unfold burstN revN
    by_cases hbit : b / 2 ^ i % 2 = 1
    · rw [if_pos hbit, if_pos hbit, raw_flip x _ k i hb (by rw [burstN_length]; omega) (by omega), h1, burstN_length, Crc.Tn_xor, BitVec.xor_assoc]
    · rw [if_neg hbit, if_neg hbit, h1]
theorem revN_bit (b i p : Nat) (hi : i ≤ 32) (hp : p < 32) : (revN b i).getLsbD p = (decide (31 - p < i) && decide (b / 2 ^ (31 - p) % 2 = 1)) := by
  induction i with
  | zero => simp [revN]
  | succ i ih =>
    have h1 := ih (by omega)
    unfold revN
    by_cases hbit : b / 2 ^ i % 2 = 1
    · rw [if_pos hbit, BitVec.getLsbD_xor, h1, BitVec.getLsbD_ofNat, Nat.testBit_two_pow]
      by_cases e : 31 - p = i
      · subst e
        rw [decide_eq_false (by omega : ¬ 31 - p < 31 - p), decide_eq_true (by omega : 31 - p < 31 - p + 1), decide_eq_true hbit, decide_eq_true (by omega : p < 32), decide_eq_true (by omega : 31 - (31 - p) = p)]
        rfl
      · rw [decide_eq_false (by omega : ¬ 31 - i = p)]
        by_cases h : 31 - p < i
        · simp [h, show 31 - p < i + 1 by omega]
        · simp [h, show ¬ 31 - p < i + 1 by omega]
    · rw [if_neg hbit, h1]
      by_cases e : 31 - p = i
      · subst e
        simp [hbit]
      · by_cases h : 31 - p < i
        · simp [h, show 31 - p < i + 1 by omega]
        · simp [h, show ¬ 31 - p < i + 1 by omega]
theorem revN_zero (b : Nat) (hb : b < 4294967296) (h : revN b 32 = 0#32) : b = 0 := by
  apply Nat.eq_of_testBit_eq
  intro j
  rw [Nat.zero_testBit]
  by_cases hj : j < 32
  · have h1 := revN_bit b 32 (31 - j) (by omega) (by omega)
    rw [h, show 31 - (31 - j) = j by omega, decide_eq_true (by omega : j < 32), Bool.true_and] at h1
    have h2 : ¬ b / 2 ^ j % 2 = 1 := by simpa using h1.symm
    rw [Nat.testBit_eq_decide_div_mod_eq, decide_eq_false h2]
  · exact Nat.testBit_lt_two_pow (Nat.lt_of_lt_of_le (show b < 2 ^ 32 from hb) (Nat.pow_le_pow_right (by decide) (by omega)))
/-- A burst spoils what is right. -/
theorem burst_spoils (l : List Int) (k b : Nat) (h : bytesB l = true) (hk : k + 32 ≤ 8 * l.length) (hb : b < 4294967296) (hr : rightB l = true) : rightB (burstN l k b 32) = decide (b = 0) := by
  have h1 := (right_iff l h).1 hr
  have hbb := burstN_bytes l k b 32 h hk
  have h2 := raw_burst ones l k b 32 h hk (by omega)
  have h3 := right_iff (burstN l k b 32) hbb
  rw [burstN_length, h2, h1.2] at h3
  rw [Bool.eq_iff_iff, h3, decide_eq_true_iff]
  constructor
  · rintro ⟨_, h4⟩
    have h5 : Crc.Tn (8 * l.length - k) (revN b 32) = 0#32 := by
      have := congrArg (fun z => Crc.Tn 32 ones ^^^ z) h4
      simp only [← BitVec.xor_assoc, BitVec.xor_self, BitVec.zero_xor] at this
      exact this
    exact revN_zero b hb (Crc.Tn_eq_zero _ _ h5)
  · rintro rfl
    refine ⟨h1.1, ?_⟩
    have : ∀ i, revN 0 i = 0#32 := by
      intro i
      induction i with
      | zero => rfl
      | succ i ih => unfold revN; rw [if_neg (by simp), ih]
    rw [this, Crc.Tn_zero]
    simp
/-- Another byte, another sum. -/
theorem crcM_set (l : List Int) (h : bytesB l = true) (j : Nat) (hj : j < l.length) (x : Int) (h0 : 0 ≤ x) (h1 : x < 256) :
    decide (crcM 0 (l.set j (Go.bits .xor .u8 (rd l (j : Int)) x)) = crcM 0 l) = decide (x = 0) := by
  have hr := rd_range l h j hj
  have hx := xor256 _ x hr.1 hr.2 h0 h1
  have hb := bytesB_set l h j _ hx.1 hx.2
  have r1 := crcRaw_range l 4294967295 (by omega) (by omega) ((bytesB_iff l).1 h)
  have r2 := crcRaw_range _ 4294967295 (by omega) (by omega) ((bytesB_iff _).1 hb)
  have b1 := crcRaw_bv l 4294967295 (by omega) (by omega) ((bytesB_iff l).1 h)
  have b2 := crcRaw_bv _ 4294967295 (by omega) (by omega) ((bytesB_iff _).1 hb)
  rw [raw_set _ l j hj _ (bv (x * 16777216)) (by rw [rd_at l j hj] at hr ⊢; exact bv_top _ _ hr.1 hr.2 h0 h1), ← b1] at b2
  rw [Bool.eq_iff_iff, decide_eq_true_iff, decide_eq_true_iff]
  unfold crcM
  rw [show (4294967295 : Int) - 0 = 4294967295 by omega]
  constructor
  · intro h4
    have h5 : crcRaw 4294967295 (l.set j (Go.bits .xor .u8 (rd l (j : Int)) x)) = crcRaw 4294967295 l := by omega
    rw [h5] at b2
    have h6 : Crc.Tn (8 * (l.length - j)) (bv (x * 16777216)) = 0#32 := by
      have := congrArg (fun z => bv (crcRaw 4294967295 l) ^^^ z) b2
      simp only [← BitVec.xor_assoc, BitVec.xor_self, BitVec.zero_xor] at this
      exact this.symm
    have h7 := Crc.Tn_eq_zero _ _ h6
    have h8 := bv_inj (x * 16777216) 0 (by omega) (by omega) (by omega) (by omega) (by rw [h7]; rfl)
    omega
  · intro h4
    subst h4
    have h6 : bv (0 * 16777216) = 0#32 := rfl
    rw [h6, Crc.Tn_zero] at b2
    have := bv_inj _ _ r2.1 r2.2 r1.1 r1.2 (by rw [b2]; simp)
    omega
theorem crcM_append (a : Int) (p q : List Int) : crcM (crcM a p) q = crcM a (p ++ q) := by
  unfold crcM
  rw [show crcRaw (4294967295 - a) (p ++ q) = crcRaw (crcRaw (4294967295 - a) p) q by simp [crcRaw, List.foldl_append]]
  congr 2
  omega
end Go.Proofs.Ytelhdgnolijpcaa.Hm
end
section
/- Go functions as plain Lean functions of numbers and lists, and proofs that their calls come to what these compute; conditions: those that each theorem names. (Written by a program of this session: the print, turned so that it takes contracts proved by hand.) -/
namespace Go.Proofs.Ytelhdgnolijpcaa.PSecGet
open Go.RowKit Go.Proofs.YtelhdgnolijpcaaW.PrintWords Go.Proofs.YtelhdgnolijpcaaW.PrintLast Go.Proofs.YtelhdgnolijpcaaW.PrintMore
attribute [local go_sem] max2_int min2_int max_two min_two max_three min_three max_four min_four   -- for this text's walks alone
set_option linter.unusedVariables false
set_option linter.unusedSimpArgs false



def errW : Option Int → Value
  | none => .nilIface
  | some c => .iface 0 (.int .i64 c)
theorem errW_none : errW none = .nilIface := rfl
theorem errW_some (c : Int) : errW (some c) = .iface 0 (.int .i64 c) := rfl

theorem info5 : (Try.prog.info? 5).map (fun i => (i.zero, i.size, i.bytes)) = some (some (.int .u8 0), 1, 1) := by kernel_rfl
-- the values' own types
def rd_L1 (xs : List (List Int)) (i : Int) : (List Int) := xs.getD i.toNat ([] : List Int)
theorem at_L1 {w : World} {A : Option Addr} {n : Nat} {xs : List (List Int)} (h : Kd.C (Kd.slice 5 (Kd.int .u8)) w A n xs) (i : Int) (h0 : 0 ≤ i) (h1 : i < n) : ∃ ad A0 c0, A = some ad ∧ w.cell? (ad.add i.toNat) = some (.slice A0 (rd_L1 xs i).length c0) ∧ (rd_L1 xs i).length ≤ c0 ∧ (Kd.int .u8).C w A0 (rd_L1 xs i).length (rd_L1 xs i) := by
  obtain ⟨ad, c, e, _, hK, hc0⟩ := Kd.C_get h ([] : List Int) i h0 h1
  have hc : ∀ j u, c[j]? = some u → w.cell? (ad.add (i.toNat * 1 + j)) = some u := hc0
  obtain ⟨A0, c0, rfl, l0, g0⟩ := hK
  exact ⟨ad, A0, c0, e, by have hq := hc 0 _ rfl; rwa [Nat.mul_one, Nat.add_zero] at hq, l0, g0⟩

end Go.Proofs.Ytelhdgnolijpcaa.PSecGet
end
section
/- Go functions as plain Lean functions of numbers and lists, and proofs that their calls come to what these compute; conditions: those that each theorem names. (Written by a program of this session: the print, turned so that it takes contracts proved by hand.) -/
namespace Go.Proofs.Ytelhdgnolijpcaa.PSecGet
open Go.RowKit Go.Proofs.YtelhdgnolijpcaaW.PrintWords Go.Proofs.YtelhdgnolijpcaaW.PrintLast Go.Proofs.YtelhdgnolijpcaaW.PrintMore
attribute [local go_sem] max2_int min2_int max_two min_two max_three min_three max_four min_four   -- for this text's walks alone
set_option linter.unusedVariables false
set_option linter.unusedSimpArgs false

-- GIVEN: function 20 (crc_Right): Hm.crc_Right

/-! ### sector_clean: function 35 -/
def sector_clean.l0 : Nat → List Int → Int → Int → Option (Bool)
  | 0, _, _, _ => none
  | k + 1, x5, x6, x7 => if x7 < x6 then (if 0 ≤ x7 then (if x7 < (x5.length : Int) then (if (rd x5 x7) = 0 then (sector_clean.l0 k x5 x6 (wrap64 (x7 + 1))) else (some false)) else (none)) else (none)) else (some true)
def sector_clean.f (k : Nat) (l0 : List Int) : Option (Bool) := sector_clean.l0 k l0 (l0.length : Int) 0
theorem sector_clean.l0_zero : ∀ y0 y1 y2, sector_clean.l0 0 y0 y1 y2 = none := fun _ _ _ => rfl
theorem sector_clean.l0_succ : ∀ k x5 x6 x7, sector_clean.l0 (k + 1) x5 x6 x7 = if x7 < x6 then (if 0 ≤ x7 then (if x7 < (x5.length : Int) then (if (rd x5 x7) = 0 then (sector_clean.l0 k x5 x6 (wrap64 (x7 + 1))) else (some false)) else (none)) else (none)) else (some true) := fun _ _ _ _ => rfl
set_option maxRecDepth 100000 in
theorem sector_clean.mono_l : ∀ k, (∀ y0 y1 y2, LeO (sector_clean.l0 k y0 y1 y2) (sector_clean.l0 (k + 1) y0 y1 y2))
  | 0 => fun _ _ _ r h => by simp [sector_clean.l0] at h
  | k + 1 => by
    have ih0 := sector_clean.mono_l k
    · intro y0 y1 y2
      unfold sector_clean.l0
      repeat' first
      | (with_reducible exact ih0 _ _ _)
      | (with_reducible exact LeO.refl _)
      | (with_reducible exact LeO.none _)
      | (with_reducible refine LeO.ite ?_ ?_)
      | (with_reducible refine LeO.bind ?_ (fun _ => ?_))
      | exact ih0 _ _ _
      | exact LeO.none _
      | refine LeO.ite ?_ ?_
      | refine LeO.bind ?_ (fun _ => ?_)
theorem sector_clean.mono : ∀ a0 k, LeO (sector_clean.f k a0) (sector_clean.f (k + 1) a0) := by
  intro a0 k
  have ih0 := sector_clean.mono_l k
  unfold sector_clean.f
  repeat' first
      | (with_reducible exact ih0 _ _ _)
      | (with_reducible exact LeO.refl _)
      | (with_reducible exact LeO.none _)
      | (with_reducible refine LeO.ite ?_ ?_)
      | (with_reducible refine LeO.bind ?_ (fun _ => ?_))
      | exact ih0 _ _ _
      | exact LeO.none _
      | refine LeO.ite ?_ ?_
      | refine LeO.bind ?_ (fun _ => ?_)
set_option maxHeartbeats 8000000 in
set_option maxRecDepth 100000 in
theorem sector_clean.calls (k : Nat) (A0 : Option Addr) (c0 : Nat) (l0 : List Int) (r : Bool) (w : World) (hr0 : Kd.C (Kd.int .u8) w A0 l0.length l0) (hc0 : l0.length ≤ c0) (h : sector_clean.f k l0 = some r) :
    Calls Try.prog 35 #[.slice A0 l0.length c0] w fun e w' => e = .returned (.bool r) ∧ Drawn0 w w' := by
  have HR0 := Aside0.mk hr0
  have HC0 := Aside0.mk hc0
  clear hr0 hc0
  have H : (sector_clean.l0 k l0 (l0.length : Int) 0) = some r := h
  clear h
  have H' := Aside0.mk H
  clear H
  go_enter Try.func35, Try.ntmps35
  go_wp2
  go_loopg [7] k (fun kq v7 w' => ∃ (x7_1 : Int), v7 = .int .i64 x7_1 ∧ Aside0 (sector_clean.l0 kq l0 (l0.length : Int) x7_1 = some r) ∧ Aside0 (kq ≤ k) ∧ Drawn0 w w')
  case atStart => exact ⟨(0), (by first | rfl | (simp; done) | (simp [*]; done)), H', ⟨Nat.le_refl _⟩, by repeat (first | exact Drawn0.refl _ | apply Drawn0.step)⟩
  case round =>
    clear H'
    obtain ⟨x7_1, rfl, HA, HK1, ⟨m1, rfl⟩⟩ := hrel
    cases gk with
    | zero => exact (Option.some_ne_none _ (HA.out.symm.trans (sector_clean.l0_zero _ _ _))).elim
    | succ k1 =>
      have H := HA.out
      clear HA
      simp only [sector_clean.l0] at H
      by_cases c2 : x7_1 < (l0.length : Int)
      · rw [if_pos c2] at H
        have c2b0 : decide (x7_1 < (l0.length : Int)) = true := decide_eq_true c2
        clear c2
        by_cases c3 : 0 ≤ x7_1
        · rw [if_pos c3] at H
          have c3b0 : decide (0 ≤ x7_1) = true := decide_eq_true c3
          clear c3
          by_cases c4 : x7_1 < (l0.length : Int)
          · rw [if_pos c4] at H
            have c4b0 : decide (x7_1 < (l0.length : Int)) = true := decide_eq_true c4
            clear c4
            by_cases c5 : (rd l0 x7_1) = 0
            · rw [if_pos c5] at H
              have c5b0 : ((rd l0 x7_1) == 0) = true := beq_iff_eq.mpr c5
              have c5b1 : ((rd l0 x7_1) != 0) = false := bne_eq_false_iff_eq.mpr c5
              clear c5
              have H' := Aside0.mk H
              clear H
              have p101 : 0 ≤ (x7_1 : Int) := of_decide_eq_true (by first | (with_reducible assumption) | assumption)
              have q101 : x7_1 < (l0.length : Int) := of_decide_eq_true (by first | (with_reducible assumption) | assumption)
              obtain ⟨ad101, e101, hx101_0⟩ := Kd.at_int HR0.out x7_1 p101 q101
              cases e101
              replace p101 := eq_true p101
              replace q101 := eq_true q101
              go_wp2
              go_roundg k1
              case measure => have := HK1.out; omega
              case rel => exact ⟨(wrap64 (x7_1 + 1)), (by first | rfl | (simp; done) | (simp [*]; done)), (by first | exact H' | (subst_vars; exact H') | (simp only [*] at H' ⊢; exact H')), ⟨by have := HK1.out; omega⟩, by repeat (first | exact Drawn0.refl _ | apply Drawn0.step)⟩
            · rw [if_neg c5] at H
              have c5b0 : ((rd l0 x7_1) == 0) = false := beq_eq_false_iff_ne.mpr c5
              have c5b1 : ((rd l0 x7_1) != 0) = true := bne_iff_ne.mpr c5
              obtain rfl := Option.some.inj H
              have p101 : 0 ≤ (x7_1 : Int) := of_decide_eq_true (by first | (with_reducible assumption) | assumption)
              have q101 : x7_1 < (l0.length : Int) := of_decide_eq_true (by first | (with_reducible assumption) | assumption)
              obtain ⟨ad101, e101, hx101_0⟩ := Kd.at_int HR0.out x7_1 p101 q101
              cases e101
              replace p101 := eq_true p101
              replace q101 := eq_true q101
              go_wp2
              go_ret
              exact ⟨by first | rfl | (simp; done) | (simp [*]; done), by repeat (first | exact Drawn0.refl _ | apply Drawn0.step)⟩
          · rw [if_neg c4] at H
            exact absurd H (by simp)
        · rw [if_neg c3] at H
          exact absurd H (by simp)
      · rw [if_neg c2] at H
        have c2b0 : decide (x7_1 < (l0.length : Int)) = false := decide_eq_false c2
        clear c2
        obtain rfl := Option.some.inj H
        go_wp2
        go_ret
        exact ⟨by first | rfl | (simp; done) | (simp [*]; done), by repeat (first | exact Drawn0.refl _ | apply Drawn0.step)⟩

/-! ### sector_number: function 36 -/
def sector_number.l0 : Nat → Int → List Int → Int → Int → Option (Int)
  | 0, _, _, _, _ => none
  | k + 1, x3, x6, x7, x8 => if x8 < x7 then (if 0 ≤ x8 then (if x8 < (x6.length : Int) then (sector_number.l0 k (Go.bits .or .u64 (IntKind.u64.wrap (x3 * 256)) (IntKind.u64.wrap (rd x6 x8))) x6 x7 (wrap64 (x8 + 1))) else (none)) else (none)) else (some x3)
def sector_number.f (k : Nat) (l0 : List Int) : Option (Int) := sector_number.l0 k 0 l0 (l0.length : Int) 0
theorem sector_number.l0_zero : ∀ y0 y1 y2 y3, sector_number.l0 0 y0 y1 y2 y3 = none := fun _ _ _ _ => rfl
theorem sector_number.l0_succ : ∀ k x3 x6 x7 x8, sector_number.l0 (k + 1) x3 x6 x7 x8 = if x8 < x7 then (if 0 ≤ x8 then (if x8 < (x6.length : Int) then (sector_number.l0 k (Go.bits .or .u64 (IntKind.u64.wrap (x3 * 256)) (IntKind.u64.wrap (rd x6 x8))) x6 x7 (wrap64 (x8 + 1))) else (none)) else (none)) else (some x3) := fun _ _ _ _ _ => rfl
set_option maxRecDepth 100000 in
theorem sector_number.mono_l : ∀ k, (∀ y0 y1 y2 y3, LeO (sector_number.l0 k y0 y1 y2 y3) (sector_number.l0 (k + 1) y0 y1 y2 y3))
  | 0 => fun _ _ _ _ r h => by simp [sector_number.l0] at h
  | k + 1 => by
    have ih0 := sector_number.mono_l k
    · intro y0 y1 y2 y3
      unfold sector_number.l0
      repeat' first
      | (with_reducible exact ih0 _ _ _ _)
      | (with_reducible exact LeO.refl _)
      | (with_reducible exact LeO.none _)
      | (with_reducible refine LeO.ite ?_ ?_)
      | (with_reducible refine LeO.bind ?_ (fun _ => ?_))
      | exact ih0 _ _ _ _
      | exact LeO.none _
      | refine LeO.ite ?_ ?_
      | refine LeO.bind ?_ (fun _ => ?_)
theorem sector_number.mono : ∀ a0 k, LeO (sector_number.f k a0) (sector_number.f (k + 1) a0) := by
  intro a0 k
  have ih0 := sector_number.mono_l k
  unfold sector_number.f
  repeat' first
      | (with_reducible exact ih0 _ _ _ _)
      | (with_reducible exact LeO.refl _)
      | (with_reducible exact LeO.none _)
      | (with_reducible refine LeO.ite ?_ ?_)
      | (with_reducible refine LeO.bind ?_ (fun _ => ?_))
      | exact ih0 _ _ _ _
      | exact LeO.none _
      | refine LeO.ite ?_ ?_
      | refine LeO.bind ?_ (fun _ => ?_)
set_option maxHeartbeats 8000000 in
set_option maxRecDepth 100000 in
theorem sector_number.calls (k : Nat) (A0 : Option Addr) (c0 : Nat) (l0 : List Int) (r : Int) (w : World) (hr0 : Kd.C (Kd.int .u8) w A0 l0.length l0) (hc0 : l0.length ≤ c0) (h : sector_number.f k l0 = some r) :
    Calls Try.prog 36 #[.slice A0 l0.length c0] w fun e w' => e = .returned (.int .u64 r) ∧ Drawn0 w w' := by
  have HR0 := Aside0.mk hr0
  have HC0 := Aside0.mk hc0
  clear hr0 hc0
  have H : (sector_number.l0 k 0 l0 (l0.length : Int) 0) = some r := h
  clear h
  have H' := Aside0.mk H
  clear H
  go_enter Try.func36, Try.ntmps36
  go_wp2
  go_loopg [3, 8] k (fun kq v3 v8 w' => ∃ (x3_1 : Int) (x8_1 : Int), v3 = .int .u64 x3_1 ∧ v8 = .int .i64 x8_1 ∧ Aside0 (sector_number.l0 kq x3_1 l0 (l0.length : Int) x8_1 = some r) ∧ Aside0 (kq ≤ k) ∧ Drawn0 w w')
  case atStart => exact ⟨(0), (0), (by first | rfl | (simp; done) | (simp [*]; done)), (by first | rfl | (simp; done) | (simp [*]; done)), H', ⟨Nat.le_refl _⟩, by repeat (first | exact Drawn0.refl _ | apply Drawn0.step)⟩
  case round =>
    clear H'
    obtain ⟨x3_1, x8_1, rfl, rfl, HA, HK1, ⟨m1, rfl⟩⟩ := hrel
    cases gk with
    | zero => exact (Option.some_ne_none _ (HA.out.symm.trans (sector_number.l0_zero _ _ _ _))).elim
    | succ k1 =>
      have H := HA.out
      clear HA
      simp only [sector_number.l0] at H
      by_cases c2 : x8_1 < (l0.length : Int)
      · rw [if_pos c2] at H
        have c2b0 : decide (x8_1 < (l0.length : Int)) = true := decide_eq_true c2
        clear c2
        by_cases c3 : 0 ≤ x8_1
        · rw [if_pos c3] at H
          have c3b0 : decide (0 ≤ x8_1) = true := decide_eq_true c3
          clear c3
          by_cases c4 : x8_1 < (l0.length : Int)
          · rw [if_pos c4] at H
            have c4b0 : decide (x8_1 < (l0.length : Int)) = true := decide_eq_true c4
            clear c4
            have H' := Aside0.mk H
            clear H
            have p102 : 0 ≤ (x8_1 : Int) := of_decide_eq_true (by first | (with_reducible assumption) | assumption)
            have q102 : x8_1 < (l0.length : Int) := of_decide_eq_true (by first | (with_reducible assumption) | assumption)
            obtain ⟨ad102, e102, hx102_0⟩ := Kd.at_int HR0.out x8_1 p102 q102
            cases e102
            replace p102 := eq_true p102
            replace q102 := eq_true q102
            go_wp2
            go_roundg k1
            case measure => have := HK1.out; omega
            case rel => exact ⟨(Go.bits .or .u64 (IntKind.u64.wrap (x3_1 * 256)) (IntKind.u64.wrap (rd l0 x8_1))), (wrap64 (x8_1 + 1)), (by first | rfl | (simp; done) | (simp [*]; done)), (by first | rfl | (simp; done) | (simp [*]; done)), (by first | exact H' | (subst_vars; exact H') | (simp only [*] at H' ⊢; exact H')), ⟨by have := HK1.out; omega⟩, by repeat (first | exact Drawn0.refl _ | apply Drawn0.step)⟩
          · rw [if_neg c4] at H
            exact absurd H (by simp)
        · rw [if_neg c3] at H
          exact absurd H (by simp)
      · rw [if_neg c2] at H
        have c2b0 : decide (x8_1 < (l0.length : Int)) = false := decide_eq_false c2
        clear c2
        obtain rfl := Option.some.inj H
        go_wp2
        go_ret
        exact ⟨by first | rfl | (simp; done) | (simp [*]; done), by repeat (first | exact Drawn0.refl _ | apply Drawn0.step)⟩

end Go.Proofs.Ytelhdgnolijpcaa.PSecGet
end
section
/- Go functions as plain Lean functions of numbers and lists, and proofs that their calls come to what these compute; conditions: those that each theorem names. (Written by a program of this session: the print, turned so that it takes contracts proved by hand.) -/
namespace Go.Proofs.Ytelhdgnolijpcaa.PSecGet
open Go.RowKit Go.Proofs.YtelhdgnolijpcaaW.PrintWords Go.Proofs.YtelhdgnolijpcaaW.PrintLast Go.Proofs.YtelhdgnolijpcaaW.PrintMore
attribute [local go_sem] max2_int min2_int max_two min_two max_three min_three max_four min_four   -- for this text's walks alone
set_option linter.unusedVariables false
set_option linter.unusedSimpArgs false

/-! ### sector_Get: function 26 -/
def sector_Get.j0 : Nat → List Int → Int → Bool → Option (Int × Int × Int × Int × Int × List Int × Int)
  | 0, _, _, _ => none
  | k + 1, x0, x4, x41 => if x41 = true then (some (0, 0, 0, 0, 0, ([] : List Int), 11)) else ((some (([] : List Int) : List Int)).bind fun y110 => (if 16 ≤ (wrap64 (16 + x4)) then (if (wrap64 (16 + x4)) ≤ (x0.length : Int) then (if y110.length + ((x0.take ((wrap64 (16 + x4)) : Int).toNat).drop 16).length < 140737488355328 then (if 0 < (x0.length : Int) then (if 1 < (x0.length : Int) then (if 2 < (x0.length : Int) then (if 4 ≤ 12 then (if 12 ≤ (x0.length : Int) then ((sector_number.f k ((x0.take 12).drop 4)).bind fun t121 => (if 12 ≤ 16 then (if 16 ≤ (x0.length : Int) then ((sector_number.f k ((x0.take 16).drop 12)).bind fun t123 => (some (wrap64 (rd x0 0), wrap64 (rd x0 1), wrap64 (rd x0 2), t121, (t123) % 4294967296, (y110 ++ ((x0.take ((wrap64 (16 + x4)) : Int).toNat).drop 16)), 0))) else (none)) else (none))) else (none)) else (none)) else (none)) else (none)) else (none)) else (none)) else (none)) else (none)))
def sector_Get.f (k : Nat) (l0 : List Int) : Option (Int × Int × Int × Int × Int × List Int × Int) := if (l0.length : Int) = 128 then ((Hm.crc_Right.f l0).bind fun t104 => (if t104 = true then (if 3 < (l0.length : Int) then (if 0 < (l0.length : Int) then (if (rd l0 0) < 1 then (sector_Get.j0 k l0 (wrap64 (rd l0 3)) true) else (if (rd l0 0) > 4 then (sector_Get.j0 k l0 (wrap64 (rd l0 3)) true) else (if (wrap64 (rd l0 3)) > 108 then (sector_Get.j0 k l0 (wrap64 (rd l0 3)) true) else (if 0 ≤ (wrap64 (16 + (wrap64 (rd l0 3)))) then (if (wrap64 (16 + (wrap64 (rd l0 3)))) ≤ 124 then (if 124 ≤ (l0.length : Int) then ((sector_clean.f k ((l0.take 124).drop ((wrap64 (16 + (wrap64 (rd l0 3)))) : Int).toNat)).bind fun t109 => (sector_Get.j0 k l0 (wrap64 (rd l0 3)) (!t109))) else (none)) else (none)) else (none))))) else (none)) else (none)) else (some (0, 0, 0, 0, 0, ([] : List Int), 14)))) else (some (0, 0, 0, 0, 0, ([] : List Int), 11))
theorem sector_Get.j0_zero : ∀ y0 y1 y2, sector_Get.j0 0 y0 y1 y2 = none := fun _ _ _ => rfl
theorem sector_Get.j0_succ : ∀ k x0 x4 x41, sector_Get.j0 (k + 1) x0 x4 x41 = if x41 = true then (some (0, 0, 0, 0, 0, ([] : List Int), 11)) else ((some (([] : List Int) : List Int)).bind fun y110 => (if 16 ≤ (wrap64 (16 + x4)) then (if (wrap64 (16 + x4)) ≤ (x0.length : Int) then (if y110.length + ((x0.take ((wrap64 (16 + x4)) : Int).toNat).drop 16).length < 140737488355328 then (if 0 < (x0.length : Int) then (if 1 < (x0.length : Int) then (if 2 < (x0.length : Int) then (if 4 ≤ 12 then (if 12 ≤ (x0.length : Int) then ((sector_number.f k ((x0.take 12).drop 4)).bind fun t121 => (if 12 ≤ 16 then (if 16 ≤ (x0.length : Int) then ((sector_number.f k ((x0.take 16).drop 12)).bind fun t123 => (some (wrap64 (rd x0 0), wrap64 (rd x0 1), wrap64 (rd x0 2), t121, (t123) % 4294967296, (y110 ++ ((x0.take ((wrap64 (16 + x4)) : Int).toNat).drop 16)), 0))) else (none)) else (none))) else (none)) else (none)) else (none)) else (none)) else (none)) else (none)) else (none)) else (none))) := fun _ _ _ _ => rfl
set_option maxRecDepth 100000 in
theorem sector_Get.mono_l : ∀ k, (∀ y0 y1 y2, LeO (sector_Get.j0 k y0 y1 y2) (sector_Get.j0 (k + 1) y0 y1 y2))
  | 0 => fun _ _ _ r h => by simp [sector_Get.j0] at h
  | k + 1 => by
    have ih0 := sector_Get.mono_l k
    · intro y0 y1 y2
      unfold sector_Get.j0
      repeat' first
      | (with_reducible exact ih0 _ _ _)
      | (with_reducible exact sector_clean.mono _ _)
      | (with_reducible exact sector_number.mono _ _)
      | (with_reducible exact LeO.refl _)
      | (with_reducible exact LeO.none _)
      | (with_reducible refine LeO.ite ?_ ?_)
      | (with_reducible refine LeO.bind ?_ (fun _ => ?_))
      | exact ih0 _ _ _
      | exact sector_clean.mono _ _
      | exact sector_number.mono _ _
      | exact LeO.none _
      | refine LeO.ite ?_ ?_
      | refine LeO.bind ?_ (fun _ => ?_)
theorem sector_Get.mono : ∀ a0 k, LeO (sector_Get.f k a0) (sector_Get.f (k + 1) a0) := by
  intro a0 k
  have ih0 := sector_Get.mono_l k
  unfold sector_Get.f
  repeat' first
      | (with_reducible exact ih0 _ _ _)
      | (with_reducible exact sector_clean.mono _ _)
      | (with_reducible exact sector_number.mono _ _)
      | (with_reducible exact LeO.refl _)
      | (with_reducible exact LeO.none _)
      | (with_reducible refine LeO.ite ?_ ?_)
      | (with_reducible refine LeO.bind ?_ (fun _ => ?_))
      | exact ih0 _ _ _
      | exact sector_clean.mono _ _
      | exact sector_number.mono _ _
      | exact LeO.none _
      | refine LeO.ite ?_ ?_
      | refine LeO.bind ?_ (fun _ => ?_)
def sector_Get.T9 : Bool × List (List Nat × List Nat) := (true, [([], []), ([0], [0]), ([1], [1]), ([2], [2]), ([], []), ([4], [4]), ([5], [5]), ([6], [6]), ([], []), ([8], [8]), ([9], [9]), ([10], [10]), ([], []), ([12], [12]), ([13], [13]), ([], []), ([15], [15]), ([16, 14], [16]), ([17], [17]), ([], []), ([3, 7, 11, 14, 18, 19], [3, 7, 11, 14, 18, 19]), ([20, 17, 0, 1, 2, 3, 4, 5, 6, 7, 8, 9, 10, 11, 12, 13, 14, 15, 16, 17, 18, 19, 20], [20]), ([21, 0, 1, 2, 3, 4, 5, 6, 7, 8, 9, 10, 11, 12, 13, 14, 15, 16, 17, 18, 19, 20, 21], [])])
def sector_Get.B9 : List Nat := [0, 1, 3, 7, 0, 16, 48, 112, 0, 256, 768, 1792, 0, 4096, 12288, 0, 32768, 126976, 258048, 0, 1048575, 2097151, 4194303]
theorem sector_Get.tab9 : rtab .any (opsOf Try.f26 9) = sector_Get.T9 := by kernel_rfl
theorem sector_Get.bits9 : waitsOk sector_Get.T9.2 sector_Get.B9 = true := by kernel_rfl
set_option maxHeartbeats 8000000 in
set_option maxRecDepth 100000 in
theorem sector_Get.calls (k : Nat) (A0 : Option Addr) (c0 : Nat) (l0 : List Int) (r1 : Int) (r2 : Int) (r3 : Int) (r4 : Int) (r5 : Int) (r6 : List Int) (r7 : Int) (w : World) (hr0 : Kd.C (Kd.int .u8) w A0 l0.length l0) (hc0 : l0.length ≤ c0) (h : sector_Get.f k l0 = some (r1, r2, r3, r4, r5, r6, r7)) :
    Calls Try.prog 26 #[.slice A0 l0.length c0] w fun e w' => ∃ v5_ : Value, e = .returned (.tuple #[.agg #[.int .i64 r1, .int .i64 r2, .int .i64 r3, .int .u64 r4, .int .u32 r5, v5_], .int .i64 r7]) ∧ Kd.R (Kd.int .u8) 5 w' w.heap.size (fun _ => True) v5_ r6 ∧ Below w.heap.size w w' := by
  have hu42 := Try.underlying42
  have HR0 := Aside0.mk hr0
  have HC0 := Aside0.mk hc0
  clear hr0 hc0
  have HB := Aside0.mk (Below.refl w.heap.size w)
  have H : (if (l0.length : Int) = 128 then ((Hm.crc_Right.f l0).bind fun t104 => (if t104 = true then (if 3 < (l0.length : Int) then (if 0 < (l0.length : Int) then (if (rd l0 0) < 1 then (sector_Get.j0 k l0 (wrap64 (rd l0 3)) true) else (if (rd l0 0) > 4 then (sector_Get.j0 k l0 (wrap64 (rd l0 3)) true) else (if (wrap64 (rd l0 3)) > 108 then (sector_Get.j0 k l0 (wrap64 (rd l0 3)) true) else (if 0 ≤ (wrap64 (16 + (wrap64 (rd l0 3)))) then (if (wrap64 (16 + (wrap64 (rd l0 3)))) ≤ 124 then (if 124 ≤ (l0.length : Int) then ((sector_clean.f k ((l0.take 124).drop ((wrap64 (16 + (wrap64 (rd l0 3)))) : Int).toNat)).bind fun t109 => (sector_Get.j0 k l0 (wrap64 (rd l0 3)) (!t109))) else (none)) else (none)) else (none))))) else (none)) else (none)) else (some (0, 0, 0, 0, 0, ([] : List Int), 14)))) else (some (0, 0, 0, 0, 0, ([] : List Int), 11))) = some (r1, r2, r3, r4, r5, r6, r7) := h
  clear h
  by_cases c2 : (l0.length : Int) = 128
  · rw [if_pos c2] at H
    have c2b0 : ((l0.length : Int) == 128) = true := beq_iff_eq.mpr c2
    have c2b1 : ((l0.length : Int) != 128) = false := bne_eq_false_iff_eq.mpr c2
    clear c2
    replace H := Option.bind_eq_some_iff.mp H
    obtain ⟨t104, A30, H⟩ := H
    replace H : (if t104 = true then (if 3 < (l0.length : Int) then (if 0 < (l0.length : Int) then (if (rd l0 0) < 1 then (sector_Get.j0 k l0 (wrap64 (rd l0 3)) true) else (if (rd l0 0) > 4 then (sector_Get.j0 k l0 (wrap64 (rd l0 3)) true) else (if (wrap64 (rd l0 3)) > 108 then (sector_Get.j0 k l0 (wrap64 (rd l0 3)) true) else (if 0 ≤ (wrap64 (16 + (wrap64 (rd l0 3)))) then (if (wrap64 (16 + (wrap64 (rd l0 3)))) ≤ 124 then (if 124 ≤ (l0.length : Int) then ((sector_clean.f k ((l0.take 124).drop ((wrap64 (16 + (wrap64 (rd l0 3)))) : Int).toNat)).bind fun t109 => (sector_Get.j0 k l0 (wrap64 (rd l0 3)) (!t109))) else (none)) else (none)) else (none))))) else (none)) else (none)) else (some (0, 0, 0, 0, 0, ([] : List Int), 14))) = some (r1, r2, r3, r4, r5, r6, r7) := H
    have A3 := Aside0.mk A30
    clear A30
    by_cases c4 : t104 = true
    · subst c4
      have H1 : (if 3 < (l0.length : Int) then (if 0 < (l0.length : Int) then (if (rd l0 0) < 1 then (sector_Get.j0 k l0 (wrap64 (rd l0 3)) true) else (if (rd l0 0) > 4 then (sector_Get.j0 k l0 (wrap64 (rd l0 3)) true) else (if (wrap64 (rd l0 3)) > 108 then (sector_Get.j0 k l0 (wrap64 (rd l0 3)) true) else (if 0 ≤ (wrap64 (16 + (wrap64 (rd l0 3)))) then (if (wrap64 (16 + (wrap64 (rd l0 3)))) ≤ 124 then (if 124 ≤ (l0.length : Int) then ((sector_clean.f k ((l0.take 124).drop ((wrap64 (16 + (wrap64 (rd l0 3)))) : Int).toNat)).bind fun t109 => (sector_Get.j0 k l0 (wrap64 (rd l0 3)) (!t109))) else (none)) else (none)) else (none))))) else (none)) else (none)) = some (r1, r2, r3, r4, r5, r6, r7) := by rw [if_pos rfl] at H; exact H
      clear H
      have H := H1
      clear H1
      by_cases c5 : 3 < (l0.length : Int)
      · rw [if_pos c5] at H
        have c5b0 : decide (3 < (l0.length : Int)) = true := decide_eq_true c5
        have c5b1 : decide (3 < l0.length) = true := decide_eq_true (by omega)
        clear c5
        have HC6 := Aside0.mk H
        clear H
        go_enter Try.func26, Try.ntmps26
        go_upto_region 6 with (first | ((with_reducible refine gate_dst (N := 2) rfl ?_); refine box_event ?hg (N := 2) ?hd (cs := #[.int .i64 0, .int .i64 0, .int .i64 0, .int .u64 0, .int .u32 0, .slice none 0 0]) (t := 42) ?hr ?_; (case hd => rfl); (case hg => rfl); (case hr => first | (go_simp; done) | (go_simp; rfl)); intro gb103 hg w7 hbox hb; have n0_ := Aside0.mk (below_step (by repeat (first | (with_reducible first | exact HB.out | apply below_alloc | apply pw_below_drewN | apply below_drew1) | exact HB.out)) hb); have n1_ := Aside0.mk (hbox); have n2_ := Aside0.mk ((by rw [hg]; exact (below_size (by repeat (first | (with_reducible first | exact HB.out | apply below_alloc | apply pw_below_drewN | apply below_drew1) | exact HB.out))) : w.heap.size ≤ gb103)); have n3_ := Aside0.mk ((by rw [hg]; exact (below_size (by repeat (first | (with_reducible first | exact HB.out | apply below_alloc | apply pw_below_drewN | apply below_drew1) | exact HB.out))) : w.heap.size ≤ gb103)); clear HB; have HB := n0_; have BK103 := n1_; have GW103 := n2_; have GE103 := n3_; clear n0_ n1_ n2_ n3_; clear hb hbox hg) | ((with_reducible refine gate_callee (f := 20) rfl ?_); refine goesL_ (some 13) rfl rfl Try.func20 (by kernel_rfl) rfl #[.slice A0 l0.length c0] rfl (by (try simp only [List.map_toArray, List.map_cons, List.map_nil]); first | done | rfl | (simp only [List.length_drop, List.length_take]; rfl)) ?_; (with_reducible refine (Hm.crc_Right.calls _ _ l0 true _ ?side1 ?side2 A3.out).mono ?_); (case side1 => repeat (first | exact (Kd.C_below HR0.out HB.out) | (with_reducible refine Kd.C_alloc ?_ _) | (with_reducible refine Kd.C_drewN ?_ _) | (with_reducible refine Kd.C_drew ?_))); (case side2 => exact HC0.out); rintro e w8 ⟨rfl, hb⟩; refine ⟨_, rfl, ?_⟩; have n0_ := Aside0.mk (blk_below (g := gb103) (o := .cells #[.int .i64 0, .int .i64 0, .int .i64 0, .int .u64 0, .int .u32 0, .slice none 0 0] 42 (0, 0)) (by (with_reducible repeat (first | refine blk_drewN ?_ _ | refine blk_drew ?_ | refine blk_alloc ?_ _)); exact BK103.out) hb); have n1_ := Aside0.mk (below_step (by repeat (first | (with_reducible first | exact HB.out | apply below_alloc | apply pw_below_drewN | apply below_drew1 | refine below_set ?_ GE103.out) | exact HB.out)) hb); clear BK103; clear HB; have BK103 := n0_; have HB := n1_; clear n0_ n1_; (try clear hb); (try clear hb2); (try clear hk); (try clear hi); have p105 : 0 ≤ (3 : Int) := (by omega); have q105 : 3 < (l0.length : Int) := of_decide_eq_true (by first | (with_reducible assumption) | assumption); obtain ⟨ad105, e105, hx105_0⟩ := Kd.at_int HR0.out 3 p105 q105; cases e105; (try simp only [show (3 : Int).toNat = 3 from rfl, Nat.reduceMul, Nat.reduceEqDiff, Go.Addr.add, ↓reduceIte] at hx105_0); have qi105 : (3 < l0.length) = True := eq_true (by omega); (try rw [show ((3 : Int)).toNat = 3 from rfl] at hx105_0); replace hx105_0 := (HB.out.cell (World.block_lt_of_cell? w _ hx105_0)).trans hx105_0; replace p105 := eq_true p105; replace q105 := eq_true q105))
        (try simp only [Act.put, List.setIfInBounds_toArray, List.set_cons_zero, List.set_cons_succ])
        go_cut [41] (fun v41 wc => ∃ (kq : Nat) (x41_5 : Bool), v41 = .bool x41_5 ∧ Aside0 (sector_Get.j0 kq l0 (wrap64 (rd l0 3)) x41_5 = some (r1, r2, r3, r4, r5, r6, r7)) ∧ Aside0 (kq ≤ k) ∧ Aside0 (wc.heap[gb103]? = some (.cells #[.int .i64 0, .int .i64 0, .int .i64 0, .int .u64 0, .int .u32 0, (.slice none 0 0)] 42 (0, 0))) ∧ Aside0 (Below w.heap.size w wc))
        case first =>
          have H := HC6.out
          clear HC6
          by_cases c9 : 0 < (l0.length : Int)
          · rw [if_pos c9] at H
            have c9b0 : decide (0 < (l0.length : Int)) = true := decide_eq_true c9
            have c9b1 : decide (0 < l0.length) = true := decide_eq_true (by omega)
            clear c9
            (first | rw [c9b0] | (simp only [i64_w, i32_w]; rw [c9b0]) | skip)
            by_cases c10 : (rd l0 0) < 1
            · rw [if_pos c10] at H
              have c10b0 : decide ((rd l0 0) < 1) = true := decide_eq_true c10
              clear c10
              have H' := Aside0.mk H
              clear H
              have p106 : 0 ≤ (0 : Int) := (by omega)
              have q106 : 0 < (l0.length : Int) := of_decide_eq_true (by first | (with_reducible assumption) | assumption)
              obtain ⟨ad106, e106, hx106_0⟩ := Kd.at_int HR0.out 0 p106 q106
              obtain rfl : ad105 = ad106 := (by injection e106)
              have qi106 : (0 < l0.length) = True := eq_true (by omega)
              (try rw [show ((0 : Int)).toNat = 0 from rfl] at hx106_0)
              (try rw [Addr.add_zero'] at hx106_0)
              replace hx106_0 := (HB.out.cell (World.block_lt_of_cell? w _ hx106_0)).trans hx106_0
              replace p106 := eq_true p106
              replace q106 := eq_true q106
              go_wp2
              go_meet
              case rel => exact ⟨_, (true), (by first | rfl | (simp; done) | (simp [*]; done)), (by first | exact H' | (subst_vars; exact H') | (simp only [*] at H' ⊢; exact H')), ⟨by first | omega | exact Nat.le_refl _⟩, ⟨by (with_reducible repeat (first | refine blk_drewN ?_ _ | refine blk_drew ?_ | refine blk_alloc ?_ _)); exact BK103.out⟩, ⟨by repeat (first | (with_reducible first | exact HB.out | apply below_alloc | apply pw_below_drewN | apply below_drew1 | refine below_set ?_ GE103.out) | exact HB.out)⟩⟩
            · rw [if_neg c10] at H
              have c10b0 : decide ((rd l0 0) < 1) = false := decide_eq_false c10
              clear c10
              by_cases c11 : (rd l0 0) > 4
              · rw [if_pos c11] at H
                have c11b0 : decide (4 < (rd l0 0)) = true := decide_eq_true c11
                clear c11
                have H' := Aside0.mk H
                clear H
                have p106 : 0 ≤ (0 : Int) := (by omega)
                have q106 : 0 < (l0.length : Int) := of_decide_eq_true (by first | (with_reducible assumption) | assumption)
                obtain ⟨ad106, e106, hx106_0⟩ := Kd.at_int HR0.out 0 p106 q106
                obtain rfl : ad105 = ad106 := (by injection e106)
                have qi106 : (0 < l0.length) = True := eq_true (by omega)
                (try rw [show ((0 : Int)).toNat = 0 from rfl] at hx106_0)
                (try rw [Addr.add_zero'] at hx106_0)
                replace hx106_0 := (HB.out.cell (World.block_lt_of_cell? w _ hx106_0)).trans hx106_0
                replace p106 := eq_true p106
                replace q106 := eq_true q106
                have p107 : 0 ≤ (0 : Int) := (by omega)
                have q107 : 0 < (l0.length : Int) := of_decide_eq_true (by first | (with_reducible assumption) | assumption)
                obtain ⟨ad107, e107, hx107_0⟩ := Kd.at_int HR0.out 0 p107 q107
                obtain rfl : ad105 = ad107 := (by injection e107)
                have qi107 : (0 < l0.length) = True := eq_true (by omega)
                (try rw [show ((0 : Int)).toNat = 0 from rfl] at hx107_0)
                (try rw [Addr.add_zero'] at hx107_0)
                replace hx107_0 := (HB.out.cell (World.block_lt_of_cell? w _ hx107_0)).trans hx107_0
                replace p107 := eq_true p107
                replace q107 := eq_true q107
                go_wp2
                go_meet
                case rel => exact ⟨_, (true), (by first | rfl | (simp; done) | (simp [*]; done)), (by first | exact H' | (subst_vars; exact H') | (simp only [*] at H' ⊢; exact H')), ⟨by first | omega | exact Nat.le_refl _⟩, ⟨by (with_reducible repeat (first | refine blk_drewN ?_ _ | refine blk_drew ?_ | refine blk_alloc ?_ _)); exact BK103.out⟩, ⟨by repeat (first | (with_reducible first | exact HB.out | apply below_alloc | apply pw_below_drewN | apply below_drew1 | refine below_set ?_ GE103.out) | exact HB.out)⟩⟩
              · rw [if_neg c11] at H
                have c11b0 : decide (4 < (rd l0 0)) = false := decide_eq_false c11
                clear c11
                by_cases c12 : (wrap64 (rd l0 3)) > 108
                · rw [if_pos c12] at H
                  have c12b0 : decide (108 < (wrap64 (rd l0 3))) = true := decide_eq_true c12
                  clear c12
                  have H' := Aside0.mk H
                  clear H
                  have p106 : 0 ≤ (0 : Int) := (by omega)
                  have q106 : 0 < (l0.length : Int) := of_decide_eq_true (by first | (with_reducible assumption) | assumption)
                  obtain ⟨ad106, e106, hx106_0⟩ := Kd.at_int HR0.out 0 p106 q106
                  obtain rfl : ad105 = ad106 := (by injection e106)
                  have qi106 : (0 < l0.length) = True := eq_true (by omega)
                  (try rw [show ((0 : Int)).toNat = 0 from rfl] at hx106_0)
                  (try rw [Addr.add_zero'] at hx106_0)
                  replace hx106_0 := (HB.out.cell (World.block_lt_of_cell? w _ hx106_0)).trans hx106_0
                  replace p106 := eq_true p106
                  replace q106 := eq_true q106
                  have p107 : 0 ≤ (0 : Int) := (by omega)
                  have q107 : 0 < (l0.length : Int) := of_decide_eq_true (by first | (with_reducible assumption) | assumption)
                  obtain ⟨ad107, e107, hx107_0⟩ := Kd.at_int HR0.out 0 p107 q107
                  obtain rfl : ad105 = ad107 := (by injection e107)
                  have qi107 : (0 < l0.length) = True := eq_true (by omega)
                  (try rw [show ((0 : Int)).toNat = 0 from rfl] at hx107_0)
                  (try rw [Addr.add_zero'] at hx107_0)
                  replace hx107_0 := (HB.out.cell (World.block_lt_of_cell? w _ hx107_0)).trans hx107_0
                  replace p107 := eq_true p107
                  replace q107 := eq_true q107
                  go_wp2
                  go_meet
                  case rel => exact ⟨_, (true), (by first | rfl | (simp; done) | (simp [*]; done)), (by first | exact H' | (subst_vars; exact H') | (simp only [*] at H' ⊢; exact H')), ⟨by first | omega | exact Nat.le_refl _⟩, ⟨by (with_reducible repeat (first | refine blk_drewN ?_ _ | refine blk_drew ?_ | refine blk_alloc ?_ _)); exact BK103.out⟩, ⟨by repeat (first | (with_reducible first | exact HB.out | apply below_alloc | apply pw_below_drewN | apply below_drew1 | refine below_set ?_ GE103.out) | exact HB.out)⟩⟩
                · rw [if_neg c12] at H
                  have c12b0 : decide (108 < (wrap64 (rd l0 3))) = false := decide_eq_false c12
                  clear c12
                  obtain ⟨ji13, hji13⟩ : ∃ j_ : Int, (wrap64 (16 + (wrap64 (rd l0 3)))) = j_ := ⟨_, rfl⟩
                  replace H : (if 0 ≤ (ji13) then (if (ji13) ≤ 124 then (if 124 ≤ (l0.length : Int) then ((sector_clean.f k ((l0.take 124).drop ((ji13) : Int).toNat)).bind fun t109 => (sector_Get.j0 k l0 (wrap64 (rd l0 3)) (!t109))) else (none)) else (none)) else (none)) = some (r1, r2, r3, r4, r5, r6, r7) := by first | (rw [hji13] at H; exact H) | (simp only [hji13] at H ⊢; exact H)
                  have hji13w : (IntKind.i64.wrap (16 + (wrap64 (rd l0 3)))) = ji13 := (i64_w _).trans hji13
                  by_cases c14 : 0 ≤ (ji13)
                  · rw [if_pos c14] at H
                    have c14b0 := eq_true c14
                    have c14b1 : decide (0 ≤ (ji13)) = true := decide_eq_true c14
                    clear c14
                    by_cases c15 : (ji13) ≤ 124
                    · rw [if_pos c15] at H
                      have c15b0 := eq_true c15
                      have c15b1 : decide ((ji13) ≤ 124) = true := decide_eq_true c15
                      clear c15
                      by_cases c16 : 124 ≤ (l0.length : Int)
                      · rw [if_pos c16] at H
                        have c16b0 := eq_true c16
                        have c16b1 : decide (124 ≤ (l0.length : Int)) = true := decide_eq_true c16
                        clear c16
                        replace H := Option.bind_eq_some_iff.mp H
                        obtain ⟨t109, A170, H⟩ := H
                        replace H : (sector_Get.j0 k l0 (wrap64 (rd l0 3)) (!t109)) = some (r1, r2, r3, r4, r5, r6, r7) := H
                        have A17 := Aside0.mk A170
                        clear A170
                        have H' := Aside0.mk H
                        clear H
                        have p106 : 0 ≤ (0 : Int) := (by omega)
                        have q106 : 0 < (l0.length : Int) := of_decide_eq_true (by first | (with_reducible assumption) | assumption)
                        obtain ⟨ad106, e106, hx106_0⟩ := Kd.at_int HR0.out 0 p106 q106
                        obtain rfl : ad105 = ad106 := (by injection e106)
                        have qi106 : (0 < l0.length) = True := eq_true (by omega)
                        (try rw [show ((0 : Int)).toNat = 0 from rfl] at hx106_0)
                        (try rw [Addr.add_zero'] at hx106_0)
                        replace hx106_0 := (HB.out.cell (World.block_lt_of_cell? w _ hx106_0)).trans hx106_0
                        replace p106 := eq_true p106
                        replace q106 := eq_true q106
                        have p107 : 0 ≤ (0 : Int) := (by omega)
                        have q107 : 0 < (l0.length : Int) := of_decide_eq_true (by first | (with_reducible assumption) | assumption)
                        obtain ⟨ad107, e107, hx107_0⟩ := Kd.at_int HR0.out 0 p107 q107
                        obtain rfl : ad105 = ad107 := (by injection e107)
                        have qi107 : (0 < l0.length) = True := eq_true (by omega)
                        (try rw [show ((0 : Int)).toNat = 0 from rfl] at hx107_0)
                        (try rw [Addr.add_zero'] at hx107_0)
                        replace hx107_0 := (HB.out.cell (World.block_lt_of_cell? w _ hx107_0)).trans hx107_0
                        replace p107 := eq_true p107
                        replace q107 := eq_true q107
                        obtain ⟨i018, hi018, _, hsz18, _⟩ := info_parts info5
                        obtain ⟨A18, hcut18, hA18, hC18⟩ := print_mid_of (P := Try.prog) (Value.int .u8) 0 23 5 .i64 .i64 Try.underlying23 hi018 hsz18 (some ad105) c0 l0 (ji13) 124 (of_decide_eq_true (by first | (with_reducible assumption) | assumption)) (by first | omega | exact of_decide_eq_true (by first | (with_reducible assumption) | assumption)) (of_decide_eq_true (by first | (with_reducible assumption) | assumption)) HC0.out
                        have HR108 := Aside0.mk (Kd.C_of_reads (h1 := fun _ => rfl) (hA18 _ (Kd.reads_of_C HR0.out)))
                        have HC108 := Aside0.mk hC18
                        clear hA18 hC18 hi018 hsz18
                        obtain ⟨lz18, hlz18⟩ : ∃ x_, ((l0.take 124).drop ((ji13) : Int).toNat) = x_ := ⟨_, rfl⟩
                        simp only [show (Int.toNat (124 : Int)) = 124 from rfl, hlz18] at hcut18
                        try simp only [show (Int.toNat (124 : Int)) = 124 from rfl, hlz18] at A17
                        try simp only [show (Int.toNat (124 : Int)) = 124 from rfl, hlz18] at HC108
                        try simp only [show (Int.toNat (124 : Int)) = 124 from rfl, hlz18] at HR108
                        go_wp2_with (first | (go_at_call 35; (with_reducible refine (sector_clean.calls k _ _ lz18 t109 _ ?side1 ?side2 A17.out).mono ?_); (case side1 => repeat (first | exact (Kd.C_below HR108.out HB.out) | (with_reducible refine Kd.C_alloc ?_ _) | (with_reducible refine Kd.C_drewN ?_ _) | (with_reducible refine Kd.C_drew ?_))); (case side2 => exact HC108.out); rintro e w' ⟨rfl, ⟨nd, rfl⟩⟩))
                        go_meet
                        case rel => exact ⟨_, (!t109), (by first | rfl | (simp; done) | (simp [*]; done)), (by first | exact H' | (subst_vars; exact H') | (simp only [*] at H' ⊢; exact H')), ⟨by first | omega | exact Nat.le_refl _⟩, ⟨by (with_reducible repeat (first | refine blk_drewN ?_ _ | refine blk_drew ?_ | refine blk_alloc ?_ _)); exact BK103.out⟩, ⟨by repeat (first | (with_reducible first | exact HB.out | apply below_alloc | apply pw_below_drewN | apply below_drew1 | refine below_set ?_ GE103.out) | exact HB.out)⟩⟩
                      · rw [if_neg c16] at H
                        exact absurd H (by simp)
                    · rw [if_neg c15] at H
                      exact absurd H (by simp)
                  · rw [if_neg c14] at H
                    exact absurd H (by simp)
          · rw [if_neg c9] at H
            exact absurd H (by simp)
        case rest =>
          clear HC6
          try clear c1
          try clear p1
          try clear q1
          try clear hx1
          try clear qi1
          try clear c2
          try clear c2b0
          try clear c2b1
          try clear p2
          try clear c4
          try clear c5
          try clear c5b0
          try clear c5b1
          try clear p6
          try clear c9
          try clear c9b0
          try clear c9b1
          try clear c10
          try clear c10b0
          try clear p10
          try clear q10
          try clear hx10
          try clear qi10
          try clear c11
          try clear c11b0
          try clear c12
          try clear c12b0
          try clear c14
          try clear c14b0
          try clear c14b1
          try clear c15
          try clear c15b0
          try clear c15b1
          try clear c16
          try clear c16b0
          try clear c16b1
          try clear hx105_0
          try clear hx106_0
          try clear hx107_0
          try clear p105
          try clear p106
          try clear p107
          try clear q105
          try clear q106
          try clear q107
          obtain ⟨kq, x41_5, rfl, HA, HJ5, BK103, HB⟩ := hcut
          cases kq with
          | zero => exact (Option.some_ne_none _ (HA.out.symm.trans (sector_Get.j0_zero _ _ _))).elim
          | succ kj5 =>
            have H := HA.out
            clear HA
            simp only [sector_Get.j0] at H
            by_cases c19 : x41_5 = true
            · subst c19
              have H1 : (some (0, 0, 0, 0, 0, ([] : List Int), 11)) = some (r1, r2, r3, r4, r5, r6, r7) := by rw [if_pos rfl] at H; exact H
              clear H
              have H := H1
              clear H1
              simp only [Option.some.injEq, Prod.mk.injEq] at H
              obtain ⟨rfl, rfl, rfl, rfl, rfl, rfl, rfl⟩ := H
              have hcz20_0 : wc.cell? ⟨gb103, 0, none⟩ = some (.int .i64 0) := (blk_cell BK103.out 0).trans rfl
              have hcz20_1 : wc.cell? ⟨gb103, 1, none⟩ = some (.int .i64 0) := (blk_cell BK103.out 1).trans rfl
              have hcz20_2 : wc.cell? ⟨gb103, 2, none⟩ = some (.int .i64 0) := (blk_cell BK103.out 2).trans rfl
              have hcz20_3 : wc.cell? ⟨gb103, 3, none⟩ = some (.int .u64 0) := (blk_cell BK103.out 3).trans rfl
              have hcz20_4 : wc.cell? ⟨gb103, 4, none⟩ = some (.int .u32 0) := (blk_cell BK103.out 4).trans rfl
              have hcz20_5 : wc.cell? ⟨gb103, 5, none⟩ = some (.slice none 0 0) := (blk_cell BK103.out 5).trans rfl
              have hfz20_0 := blk_frozen BK103.out 0
              have hfz20_1 := blk_frozen BK103.out 1
              have hfz20_2 := blk_frozen BK103.out 2
              have hfz20_3 := blk_frozen BK103.out 3
              have hfz20_4 := blk_frozen BK103.out 4
              have hfz20_5 := blk_frozen BK103.out 5
              go_wp2
              refine bodyPost_ret (results_ct rfl _ _ gb103 42 #[.int .i64 0, .int .i64 0, .int .i64 0, .int .u64 0, .int .u32 0, .slice none 0 0] (0, 0) _ rfl (by (with_reducible repeat (first | refine blk_drewN ?_ _ | refine blk_drew ?_ | refine blk_alloc ?_ _)); refine blk_put (cs := #[.int .i64 0, .int .i64 0, .int .i64 0, .int .u64 0, .int .u32 0, .slice none 0 0]) ?_ 5 _ rfl; (with_reducible repeat (first | refine blk_drewN ?_ _ | refine blk_drew ?_ | refine blk_alloc ?_ _)); refine blk_put (cs := #[.int .i64 0, .int .i64 0, .int .i64 0, .int .u64 0, .int .u32 0, .slice none 0 0]) ?_ 4 _ rfl; (with_reducible repeat (first | refine blk_drewN ?_ _ | refine blk_drew ?_ | refine blk_alloc ?_ _)); refine blk_put (cs := #[.int .i64 0, .int .i64 0, .int .i64 0, .int .u64 0, .int .u32 0, .slice none 0 0]) ?_ 3 _ rfl; (with_reducible repeat (first | refine blk_drewN ?_ _ | refine blk_drew ?_ | refine blk_alloc ?_ _)); refine blk_put (cs := #[.int .i64 0, .int .i64 0, .int .i64 0, .int .u64 0, .int .u32 0, .slice none 0 0]) ?_ 2 _ rfl; (with_reducible repeat (first | refine blk_drewN ?_ _ | refine blk_drew ?_ | refine blk_alloc ?_ _)); refine blk_put (cs := #[.int .i64 0, .int .i64 0, .int .i64 0, .int .u64 0, .int .u32 0, .slice none 0 0]) ?_ 1 _ rfl; (with_reducible repeat (first | refine blk_drewN ?_ _ | refine blk_drew ?_ | refine blk_alloc ?_ _)); refine blk_put (cs := #[.int .i64 0, .int .i64 0, .int .i64 0, .int .u64 0, .int .u32 0, .slice none 0 0]) ?_ 0 _ rfl; (with_reducible repeat (first | refine blk_drewN ?_ _ | refine blk_drew ?_ | refine blk_alloc ?_ _)); exact BK103.out) Try.underlying42 rfl (by kernel_rfl)) rfl ?_
              exact ⟨_, by first | rfl | (simp [errW_none, errW_some] <;> rfl) | (simp [*, errW_none, errW_some] <;> rfl), by first | exact Kd.R_nil _ _ _ _ _ | exact Kd.N_nil _ _ _ _ _ | exact Kd.V_nil _ _ _ _ _ | exact Kd.Q_nil _ _ _ _ _ | exact Kd.S_nil _ _ _ _ _, by repeat (first | (with_reducible first | exact HB.out | apply below_alloc | apply pw_below_drewN | apply below_drew1 | refine below_set ?_ GE103.out) | exact HB.out)⟩
            · replace c19 := Bool.eq_false_iff.mpr c19
              subst c19
              have H1 : ((some (([] : List Int) : List Int)).bind fun y110 => (if 16 ≤ (wrap64 (16 + (wrap64 (rd l0 3)))) then (if (wrap64 (16 + (wrap64 (rd l0 3)))) ≤ (l0.length : Int) then (if y110.length + ((l0.take ((wrap64 (16 + (wrap64 (rd l0 3)))) : Int).toNat).drop 16).length < 140737488355328 then (if 0 < (l0.length : Int) then (if 1 < (l0.length : Int) then (if 2 < (l0.length : Int) then (if 4 ≤ 12 then (if 12 ≤ (l0.length : Int) then ((sector_number.f kj5 ((l0.take 12).drop 4)).bind fun t121 => (if 12 ≤ 16 then (if 16 ≤ (l0.length : Int) then ((sector_number.f kj5 ((l0.take 16).drop 12)).bind fun t123 => (some (wrap64 (rd l0 0), wrap64 (rd l0 1), wrap64 (rd l0 2), t121, (t123) % 4294967296, (y110 ++ ((l0.take ((wrap64 (16 + (wrap64 (rd l0 3)))) : Int).toNat).drop 16)), 0))) else (none)) else (none))) else (none)) else (none)) else (none)) else (none)) else (none)) else (none)) else (none)) else (none))) = some (r1, r2, r3, r4, r5, r6, r7) := by rw [if_neg (show ¬ (false = true) by decide)] at H; exact H
              clear H
              have H := H1
              clear H1
              obtain ⟨y110, hy110⟩ : ∃ y_ : List Int, y_ = (([] : List Int)) := ⟨_, rfl⟩
              replace H : (if 16 ≤ (wrap64 (16 + (wrap64 (rd l0 3)))) then (if (wrap64 (16 + (wrap64 (rd l0 3)))) ≤ (l0.length : Int) then (if y110.length + ((l0.take ((wrap64 (16 + (wrap64 (rd l0 3)))) : Int).toNat).drop 16).length < 140737488355328 then (if 0 < (l0.length : Int) then (if 1 < (l0.length : Int) then (if 2 < (l0.length : Int) then (if 4 ≤ 12 then (if 12 ≤ (l0.length : Int) then ((sector_number.f kj5 ((l0.take 12).drop 4)).bind fun t121 => (if 12 ≤ 16 then (if 16 ≤ (l0.length : Int) then ((sector_number.f kj5 ((l0.take 16).drop 12)).bind fun t123 => (some (wrap64 (rd l0 0), wrap64 (rd l0 1), wrap64 (rd l0 2), t121, (t123) % 4294967296, (y110 ++ ((l0.take ((wrap64 (16 + (wrap64 (rd l0 3)))) : Int).toNat).drop 16)), 0))) else (none)) else (none))) else (none)) else (none)) else (none)) else (none)) else (none)) else (none)) else (none)) else (none)) = some (r1, r2, r3, r4, r5, r6, r7) := by first | (rw [hy110]; with_reducible exact H) | (have H2_ := (Option.bind_some _ _).symm.trans H; rw [hy110]; with_reducible exact H2_) | (have H2_ := (Option.bind_some _ _).symm.trans H; with_reducible exact H2_) | with_reducible exact H | (rw [hy110]; exact H) | exact H
              have Ny110 := Aside0.mk hy110
              clear hy110
              by_cases c21 : 16 ≤ (wrap64 (16 + (wrap64 (rd l0 3))))
              · rw [if_pos c21] at H
                have c21b0 := eq_true c21
                have c21b1 : decide (16 ≤ (wrap64 (16 + (wrap64 (rd l0 3))))) = true := decide_eq_true c21
                by_cases c22 : (wrap64 (16 + (wrap64 (rd l0 3)))) ≤ (l0.length : Int)
                · rw [if_pos c22] at H
                  have c22b0 := eq_true c22
                  have c22b1 : decide ((wrap64 (16 + (wrap64 (rd l0 3)))) ≤ (l0.length : Int)) = true := decide_eq_true c22
                  by_cases c23 : y110.length + ((l0.take ((wrap64 (16 + (wrap64 (rd l0 3)))) : Int).toNat).drop 16).length < 140737488355328
                  · rw [if_pos c23] at H
                    have LMc23 := Aside0.mk c23
                    clear c23
                    obtain ⟨y114, hy114⟩ : ∃ y_ : List Int, y_ = (y110 ++ ((l0.take ((wrap64 (16 + (wrap64 (rd l0 3)))) : Int).toNat).drop 16)) := ⟨_, rfl⟩
                    replace H : (if 0 < (l0.length : Int) then (if 1 < (l0.length : Int) then (if 2 < (l0.length : Int) then (if 4 ≤ 12 then (if 12 ≤ (l0.length : Int) then ((sector_number.f kj5 ((l0.take 12).drop 4)).bind fun t121 => (if 12 ≤ 16 then (if 16 ≤ (l0.length : Int) then ((sector_number.f kj5 ((l0.take 16).drop 12)).bind fun t123 => (some (wrap64 (rd l0 0), wrap64 (rd l0 1), wrap64 (rd l0 2), t121, (t123) % 4294967296, y114, 0))) else (none)) else (none))) else (none)) else (none)) else (none)) else (none)) else (none)) = some (r1, r2, r3, r4, r5, r6, r7) := by first | (rw [hy114]; with_reducible exact H) | (have H2_ := (Option.bind_some _ _).symm.trans H; rw [hy114]; with_reducible exact H2_) | (have H2_ := (Option.bind_some _ _).symm.trans H; with_reducible exact H2_) | with_reducible exact H | (rw [hy114]; exact H) | exact H
                    have Ny114 := Aside0.mk hy114
                    clear hy114
                    by_cases c24 : 0 < (l0.length : Int)
                    · rw [if_pos c24] at H
                      have c24b0 : decide (0 < (l0.length : Int)) = true := decide_eq_true c24
                      have c24b1 : decide (0 < l0.length) = true := decide_eq_true (by omega)
                      clear c24
                      by_cases c25 : 1 < (l0.length : Int)
                      · rw [if_pos c25] at H
                        have c25b0 : decide (1 < (l0.length : Int)) = true := decide_eq_true c25
                        have c25b1 : decide (1 < l0.length) = true := decide_eq_true (by omega)
                        clear c25
                        by_cases c26 : 2 < (l0.length : Int)
                        · rw [if_pos c26] at H
                          have c26b0 : decide (2 < (l0.length : Int)) = true := decide_eq_true c26
                          have c26b1 : decide (2 < l0.length) = true := decide_eq_true (by omega)
                          clear c26
                          by_cases c27 : 4 ≤ 12
                          · rw [if_pos c27] at H
                            have c27b0 := eq_true c27
                            have c27b1 : decide (4 ≤ 12) = true := decide_eq_true c27
                            clear c27
                            by_cases c28 : 12 ≤ (l0.length : Int)
                            · rw [if_pos c28] at H
                              have c28b0 := eq_true c28
                              have c28b1 : decide (12 ≤ (l0.length : Int)) = true := decide_eq_true c28
                              clear c28
                              replace H := Option.bind_eq_some_iff.mp H
                              obtain ⟨t121, A290, H⟩ := H
                              replace H : (if 12 ≤ 16 then (if 16 ≤ (l0.length : Int) then ((sector_number.f kj5 ((l0.take 16).drop 12)).bind fun t123 => (some (wrap64 (rd l0 0), wrap64 (rd l0 1), wrap64 (rd l0 2), t121, (t123) % 4294967296, y114, 0))) else (none)) else (none)) = some (r1, r2, r3, r4, r5, r6, r7) := H
                              have A29 := Aside0.mk A290
                              clear A290
                              by_cases c30 : 12 ≤ 16
                              · rw [if_pos c30] at H
                                have c30b0 := eq_true c30
                                have c30b1 : decide (12 ≤ 16) = true := decide_eq_true c30
                                clear c30
                                by_cases c31 : 16 ≤ (l0.length : Int)
                                · rw [if_pos c31] at H
                                  have c31b0 := eq_true c31
                                  have c31b1 : decide (16 ≤ (l0.length : Int)) = true := decide_eq_true c31
                                  clear c31
                                  replace H := Option.bind_eq_some_iff.mp H
                                  obtain ⟨t123, A320, H⟩ := H
                                  replace H : (some (wrap64 (rd l0 0), wrap64 (rd l0 1), wrap64 (rd l0 2), t121, (t123) % 4294967296, y114, 0)) = some (r1, r2, r3, r4, r5, r6, r7) := H
                                  have A32 := Aside0.mk A320
                                  clear A320
                                  simp only [Option.some.injEq, Prod.mk.injEq] at H
                                  obtain ⟨rfl, rfl, rfl, rfl, rfl, rfl, rfl⟩ := H
                                  try go_wp2_with (first | ((with_reducible refine gate_dst (N := 43) rfl ?_); refine Kd.R_lit (Kd.int .u8) _ 5 ?hg (N := 43) ?hd (xs := ([] : List Int)) (inner := []) (ok := fun _ => True) (okp := fun _ => True) ?hr ?hp (fun _ hk => hk) trivial (Below.refl _ _) (Nat.le_refl _) (by simp) ?_; (case hd => rfl); (case hg => rfl); (case hr => first | (go_simp; done) | (go_simp; rfl)); (case hp => exact (Reps.none _ _)); intro v111 w33 ho34 hb hg_ hnew_; clear hg_ hnew_; (first | rw [← Ny110.out] at ho34 | (simp only [Int.reduceToNat] at ho34; rw [← Ny110.out] at ho34)); have n0_ := Aside0.mk (Kd.R_lower ho34 (below_size (by repeat (first | (with_reducible first | exact HB.out | apply below_alloc | apply pw_below_drewN | apply below_drew1 | refine below_set ?_ GE103.out) | exact HB.out)))); have n1_ := Aside0.mk (blk_below (g := gb103) (o := .cells #[.int .i64 0, .int .i64 0, .int .i64 0, .int .u64 0, .int .u32 0, .slice none 0 0] 42 (0, 0)) (by (with_reducible repeat (first | refine blk_drewN ?_ _ | refine blk_drew ?_ | refine blk_alloc ?_ _)); exact BK103.out) hb); have n2_ := Aside0.mk (below_step (by repeat (first | (with_reducible first | exact HB.out | apply below_alloc | apply pw_below_drewN | apply below_drew1 | refine below_set ?_ GE103.out) | exact HB.out)) hb); clear BK103; clear HB; have HO112 := n0_; have BK103 := n1_; have HB := n2_; clear n0_ n1_ n2_; clear hb ho34; obtain ⟨i035, hi035, _, hsz35, _⟩ := info_parts info5; obtain ⟨A35, hcut35, hA35, hC35⟩ := print_mid_of (P := Try.prog) (Value.int .u8) 0 23 5 .i64 .i64 Try.underlying23 hi035 hsz35 (some ad105) c0 l0 16 (wrap64 (16 + (wrap64 (rd l0 3)))) (by omega) (by first | omega | exact of_decide_eq_true (by first | (with_reducible assumption) | assumption)) (of_decide_eq_true (by first | (with_reducible assumption) | assumption)) HC0.out; have HR113 := Aside0.mk (Kd.C_of_reads (h1 := fun _ => rfl) (hA35 _ (Kd.reads_of_C HR0.out))); have HC113 := Aside0.mk hC35; clear hA35 hC35 hi035 hsz35) | ((with_reducible refine gate_builtin (b := .append) (xs := #[.tmp 43, .tmp 47]) rfl ?_); at_builtin; refine Kd.R_append_rows (Kd.int .u8) (w0 := w) w.heap.size rfl (.tmp 43) (.tmp 47) 23 5 (.int .u8 0) 1 rfl Try.underlying23 info5 rfl (by decide) (by omega) v111 y110 ((l0.take ((wrap64 (16 + (wrap64 (rd l0 3)))) : Int).toNat).drop 16) _ _ _ (fun _ => True) (fun _ => False) rfl rfl ?aO ?aR (fun _ _ h => h) (fun _ h => h.elim) ?aF ?aB ?aS ?aL ?_; (case aR => first | (rw [← show ((l0.take ((wrap64 (16 + (wrap64 (rd l0 3)))) : Int).toNat).drop 16).length = ((wrap64 (16 + (wrap64 (rd l0 3)))).toNat - 16) from (by rw [List.length_drop, List.length_take]; have h_ : ((wrap64 (16 + (wrap64 (rd l0 3)))) : Int) ≤ (l0.length : Int) := of_decide_eq_true (by first | (with_reducible assumption) | assumption); omega)]; repeat (first | exact (Kd.C_below HR113.out HB.out) | (with_reducible refine Kd.C_alloc ?_ _) | (with_reducible refine Kd.C_drewN ?_ _) | (with_reducible refine Kd.C_drew ?_))) | (repeat (first | exact (Kd.C_below HR113.out HB.out) | (with_reducible refine Kd.C_alloc ?_ _) | (with_reducible refine Kd.C_drewN ?_ _) | (with_reducible refine Kd.C_drew ?_)))); (case aB => exact (by repeat (first | (with_reducible first | exact HB.out | apply below_alloc | apply pw_below_drewN | apply below_drew1 | refine below_set ?_ GE103.out) | exact HB.out))); (case aF => exact (fun _ _ => trivial)); (case aO => exact (by (with_reducible repeat (first | apply Kd.R_alloc | apply Kd.R_drewN | apply Kd.R_drew)); exact HO112.out)); (case aS => exact (below_size (by repeat (first | (with_reducible first | exact HB.out | apply below_alloc | apply pw_below_drewN | apply below_drew1 | refine below_set ?_ GE103.out) | exact HB.out)))); (case aL => have := LMc23.out; have hlx_ := (show ((l0.take ((wrap64 (16 + (wrap64 (rd l0 3)))) : Int).toNat).drop 16).length = ((wrap64 (16 + (wrap64 (rd l0 3)))).toNat - 16) from (by rw [List.length_drop, List.length_take]; have h_ : ((wrap64 (16 + (wrap64 (rd l0 3)))) : Int) ≤ (l0.length : Int) := of_decide_eq_true (by first | (with_reducible assumption) | assumption); omega)); omega); intro v115 w36 ho hb hg hat; rw [← Ny114.out] at ho; have n0_ := Aside0.mk (blk_grown (g := gb103) (o := .cells #[.int .i64 0, .int .i64 0, .int .i64 0, .int .u64 0, .int .u32 0, .slice none 0 0] 42 (0, 0)) (by (with_reducible repeat (first | refine blk_drewN ?_ _ | refine blk_drew ?_ | refine blk_alloc ?_ _)); exact BK103.out) hg (Kd.R_ne HO112.out BK103.out (by decide))); have n1_ := Aside0.mk (hb); have n2_ := Aside0.mk (ho); clear BK103; clear HB; clear HO112; have BK103 := n0_; have HB := n1_; have HO116 := n2_; clear n0_ n1_ n2_; clear ho hb hg hat))
                                  have n0_ := Aside0.mk (Kd.R_drew HO116.out)
                                  have n1_ := Aside0.mk (blk_drew BK103.out)
                                  have n2_ := Aside0.mk (below_drew1 HB.out)
                                  clear HO116
                                  clear BK103
                                  clear HB
                                  have HO116 := n0_
                                  have BK103 := n1_
                                  have HB := n2_
                                  clear n0_ n1_ n2_
                                  have p117 : 0 ≤ (0 : Int) := (by omega)
                                  have q117 : 0 < (l0.length : Int) := of_decide_eq_true (by first | (with_reducible assumption) | assumption)
                                  obtain ⟨ad117, e117, hx117_0⟩ := Kd.at_int HR0.out 0 p117 q117
                                  have hw117_0 := hx117_0
                                  (try rw [show ((0 : Int)).toNat = 0 from rfl] at hw117_0)
                                  (try rw [show 0 * 1 = 0 from rfl] at hw117_0)
                                  (try rw [Addr.add_zero'] at hw117_0)
                                  obtain rfl : ad105 = ad117 := (by injection e117)
                                  have qi117 : (0 < l0.length) = True := eq_true (by omega)
                                  (try rw [show ((0 : Int)).toNat = 0 from rfl] at hx117_0)
                                  (try rw [Addr.add_zero'] at hx117_0)
                                  replace hx117_0 := (HB.out.cell (World.block_lt_of_cell? w _ hx117_0)).trans hx117_0
                                  replace p117 := eq_true p117
                                  replace q117 := eq_true q117
                                  have p118 : 0 ≤ (1 : Int) := (by omega)
                                  have q118 : 1 < (l0.length : Int) := of_decide_eq_true (by first | (with_reducible assumption) | assumption)
                                  obtain ⟨ad118, e118, hx118_0⟩ := Kd.at_int HR0.out 1 p118 q118
                                  have hw118_0 := hx118_0
                                  (try rw [show ((1 : Int)).toNat = 1 from rfl] at hw118_0)
                                  (try rw [show 1 * 1 = 1 from rfl] at hw118_0)
                                  (try simp only [Nat.reduceMul, Nat.reduceEqDiff, Go.Addr.add, ↓reduceIte] at hw118_0)
                                  obtain rfl : ad105 = ad118 := (by injection e118)
                                  (try simp only [show (1 : Int).toNat = 1 from rfl, Nat.reduceMul, Nat.reduceEqDiff, Go.Addr.add, ↓reduceIte] at hx118_0)
                                  have qi118 : (1 < l0.length) = True := eq_true (by omega)
                                  (try rw [show ((1 : Int)).toNat = 1 from rfl] at hx118_0)
                                  replace hx118_0 := (HB.out.cell (World.block_lt_of_cell? w _ hx118_0)).trans hx118_0
                                  replace p118 := eq_true p118
                                  replace q118 := eq_true q118
                                  have p119 : 0 ≤ (2 : Int) := (by omega)
                                  have q119 : 2 < (l0.length : Int) := of_decide_eq_true (by first | (with_reducible assumption) | assumption)
                                  obtain ⟨ad119, e119, hx119_0⟩ := Kd.at_int HR0.out 2 p119 q119
                                  have hw119_0 := hx119_0
                                  (try rw [show ((2 : Int)).toNat = 2 from rfl] at hw119_0)
                                  (try rw [show 2 * 1 = 2 from rfl] at hw119_0)
                                  (try simp only [Nat.reduceMul, Nat.reduceEqDiff, Go.Addr.add, ↓reduceIte] at hw119_0)
                                  obtain rfl : ad105 = ad119 := (by injection e119)
                                  (try simp only [show (2 : Int).toNat = 2 from rfl, Nat.reduceMul, Nat.reduceEqDiff, Go.Addr.add, ↓reduceIte] at hx119_0)
                                  have qi119 : (2 < l0.length) = True := eq_true (by omega)
                                  (try rw [show ((2 : Int)).toNat = 2 from rfl] at hx119_0)
                                  replace hx119_0 := (HB.out.cell (World.block_lt_of_cell? w _ hx119_0)).trans hx119_0
                                  replace p119 := eq_true p119
                                  replace q119 := eq_true q119
                                  obtain ⟨i038, hi038, _, hsz38, _⟩ := info_parts info5
                                  obtain ⟨A38, hcut38, hA38, hC38⟩ := print_mid_of (P := Try.prog) (Value.int .u8) 0 23 5 .i64 .i64 Try.underlying23 hi038 hsz38 (some ad105) c0 l0 4 12 (by omega) (by first | omega | exact of_decide_eq_true (by first | (with_reducible assumption) | assumption)) (of_decide_eq_true (by first | (with_reducible assumption) | assumption)) HC0.out
                                  have HR120 := Aside0.mk (Kd.C_of_reads (h1 := fun _ => rfl) (hA38 _ (Kd.reads_of_C HR0.out)))
                                  have HC120 := Aside0.mk hC38
                                  clear hA38 hC38 hi038 hsz38
                                  obtain ⟨i039, hi039, _, hsz39, _⟩ := info_parts info5
                                  obtain ⟨A39, hcut39, hA39, hC39⟩ := print_mid_of (P := Try.prog) (Value.int .u8) 0 23 5 .i64 .i64 Try.underlying23 hi039 hsz39 (some ad105) c0 l0 12 16 (by omega) (by first | omega | exact of_decide_eq_true (by first | (with_reducible assumption) | assumption)) (of_decide_eq_true (by first | (with_reducible assumption) | assumption)) HC0.out
                                  have HR122 := Aside0.mk (Kd.C_of_reads (h1 := fun _ => rfl) (hA39 _ (Kd.reads_of_C HR0.out)))
                                  have HC122 := Aside0.mk hC39
                                  clear hA39 hC39 hi039 hsz39
                                  refine start_ (n := 23) (S := fun w' => w'.cell? ad105 = some (.int .u8 (rd l0 0)) ∧ w'.cell? ⟨ad105.block, ad105.off + 1, none⟩ = some (.int .u8 (rd l0 1)) ∧ w'.cell? ⟨ad105.block, ad105.off + 2, none⟩ = some (.int .u8 (rd l0 2))) (ds := []) #[false, false, false, false, false, false, false, false, false, false, false, false, false, false, false, false, false, false, false, false, false, false, false] (by kernel_rfl) rfl rfl ⟨((HB.out.cell (World.block_lt_of_cell? w _ hw117_0)).trans hw117_0), ((HB.out.cell (World.block_lt_of_cell? w _ hw118_0)).trans hw118_0), ((HB.out.cell (World.block_lt_of_cell? w _ hw119_0)).trans hw119_0)⟩ (fun hHeld => ?_); refine with_tabW sector_Get.tab9 sector_Get.bits9 (fun HT_ HW_ => ?_)
                                  generalize w36.drew = w37 at HO116 BK103 HB HR120 HR122 hx117_0 hx118_0 hx119_0 hHeld ⊢
                                  refine pure_ (i := 0) (N := some 49) (v := ?_) (a' := ?_) #[true, false, false, false, false, false, false, false, false, false, false, false, false, false, false, false, false, false, false, false, false, false, false] rfl rfl (any_of HT_.out (by kernel_rfl)) (fun _ _ _ h => h) (Or.inl ⟨by rfl, ?_⟩) ?_ ?_
                                  rotate_left
                                  · intro w'
                                    go_simp
                                    with_reducible rfl
                                  rotate_left
                                  · simp only [Act.put, List.setIfInBounds_toArray, List.set_cons_zero, List.set_cons_succ, i64_w, i32_w]
                                    rfl
                                  refine pure_ (i := 1) (N := some 50) (v := ?_) (a' := ?_) #[true, true, false, false, false, false, false, false, false, false, false, false, false, false, false, false, false, false, false, false, false, false, false] rfl rfl (any_of HT_.out (by kernel_rfl)) (fun _ _ _ h => h) (Or.inl ⟨by rfl, ?_⟩) ?_ ?_
                                  rotate_left
                                  · intro w'
                                    go_simp
                                    with_reducible rfl
                                  rotate_left
                                  · simp only [Act.put, List.setIfInBounds_toArray, List.set_cons_zero, List.set_cons_succ, i64_w, i32_w]
                                    rfl
                                  refine pure_ (i := 4) (N := some 53) (v := ?_) (a' := ?_) #[true, true, false, false, true, false, false, false, false, false, false, false, false, false, false, false, false, false, false, false, false, false, false] rfl rfl (any_of HT_.out (by kernel_rfl)) (fun _ _ _ h => h) (Or.inl ⟨by rfl, ?_⟩) ?_ ?_
                                  rotate_left
                                  · intro w'
                                    go_simp
                                    with_reducible rfl
                                  rotate_left
                                  · simp only [Act.put, List.setIfInBounds_toArray, List.set_cons_zero, List.set_cons_succ, i64_w, i32_w]
                                    rfl
                                  refine pure_ (i := 5) (N := some 54) (v := ?_) (a' := ?_) #[true, true, false, false, true, true, false, false, false, false, false, false, false, false, false, false, false, false, false, false, false, false, false] rfl rfl (any_of HT_.out (by kernel_rfl)) (fun _ _ _ h => h) (Or.inl ⟨by rfl, ?_⟩) ?_ ?_
                                  rotate_left
                                  · intro w'
                                    go_simp
                                    with_reducible rfl
                                  rotate_left
                                  · simp only [Act.put, List.setIfInBounds_toArray, List.set_cons_zero, List.set_cons_succ, i64_w, i32_w]
                                    rfl
                                  refine pure_ (i := 8) (N := some 57) (v := ?_) (a' := ?_) #[true, true, false, false, true, true, false, false, true, false, false, false, false, false, false, false, false, false, false, false, false, false, false] rfl rfl (any_of HT_.out (by kernel_rfl)) (fun _ _ _ h => h) (Or.inl ⟨by rfl, ?_⟩) ?_ ?_
                                  rotate_left
                                  · intro w'
                                    go_simp
                                    with_reducible rfl
                                  rotate_left
                                  · simp only [Act.put, List.setIfInBounds_toArray, List.set_cons_zero, List.set_cons_succ, i64_w, i32_w]
                                    rfl
                                  refine pure_ (i := 9) (N := some 58) (v := ?_) (a' := ?_) #[true, true, false, false, true, true, false, false, true, true, false, false, false, false, false, false, false, false, false, false, false, false, false] rfl rfl (any_of HT_.out (by kernel_rfl)) (fun _ _ _ h => h) (Or.inl ⟨by rfl, ?_⟩) ?_ ?_
                                  rotate_left
                                  · intro w'
                                    go_simp
                                    with_reducible rfl
                                  rotate_left
                                  · simp only [Act.put, List.setIfInBounds_toArray, List.set_cons_zero, List.set_cons_succ, i64_w, i32_w]
                                    rfl
                                  refine pure_ (i := 12) (N := some 61) (v := ?_) (a' := ?_) #[true, true, false, false, true, true, false, false, true, true, false, false, true, false, false, false, false, false, false, false, false, false, false] rfl rfl (any_of HT_.out (by kernel_rfl)) (fun _ _ _ h => h) (Or.inl ⟨by rfl, ?_⟩) ?_ ?_
                                  rotate_left
                                  · intro w'
                                    go_simp
                                    with_reducible rfl
                                  rotate_left
                                  · simp only [Act.put, List.setIfInBounds_toArray, List.set_cons_zero, List.set_cons_succ, i64_w, i32_w]
                                    rfl
                                  refine pure_ (i := 13) (N := some 62) (v := ?_) (a' := ?_) #[true, true, false, false, true, true, false, false, true, true, false, false, true, true, false, false, false, false, false, false, false, false, false] rfl rfl (any_of HT_.out (by kernel_rfl)) (fun _ _ _ h => h) (Or.inl ⟨by rfl, ?_⟩) ?_ ?_
                                  rotate_left
                                  · intro w'
                                    go_simp
                                    with_reducible rfl
                                  rotate_left
                                  · simp only [Act.put, List.setIfInBounds_toArray, List.set_cons_zero, List.set_cons_succ, i64_w, i32_w]
                                    rfl
                                  refine pure_ (i := 15) (N := some 64) (v := ?_) (a' := ?_) #[true, true, false, false, true, true, false, false, true, true, false, false, true, true, false, true, false, false, false, false, false, false, false] rfl rfl (any_of HT_.out (by kernel_rfl)) (fun _ _ _ h => h) (Or.inl ⟨by rfl, ?_⟩) ?_ ?_
                                  rotate_left
                                  · intro w'
                                    go_simp
                                    with_reducible rfl
                                  rotate_left
                                  · simp only [Act.put, List.setIfInBounds_toArray, List.set_cons_zero, List.set_cons_succ, i64_w, i32_w]
                                    rfl
                                  refine pure_ (i := 16) (N := some 65) (v := ?_) (a' := ?_) #[true, true, false, false, true, true, false, false, true, true, false, false, true, true, false, true, true, false, false, false, false, false, false] rfl rfl (any_of HT_.out (by kernel_rfl)) (fun _ _ _ h => h) (Or.inl ⟨by rfl, ?_⟩) ?_ ?_
                                  rotate_left
                                  · intro w'
                                    go_simp
                                    with_reducible rfl
                                  rotate_left
                                  · simp only [Act.put, List.setIfInBounds_toArray, List.set_cons_zero, List.set_cons_succ, i64_w, i32_w]
                                    rfl
                                  refine pure_ (i := 19) (N := some 68) (v := ?_) (a' := ?_) #[true, true, false, false, true, true, false, false, true, true, false, false, true, true, false, true, true, false, false, true, false, false, false] rfl rfl (any_of HT_.out (by kernel_rfl)) (fun _ _ _ h => h) (Or.inl ⟨by rfl, ?_⟩) ?_ ?_
                                  rotate_left
                                  · intro w'
                                    go_simp
                                    with_reducible rfl
                                  rotate_left
                                  · simp only [Act.put, List.setIfInBounds_toArray, List.set_cons_zero, List.set_cons_succ, i64_w, i32_w]
                                    rfl
                                  refine take_ (i := 2) (N := some 51) (v := ?_) (a' := ?_) #[true, true, true, false, true, true, false, false, true, true, false, false, true, true, false, true, true, false, false, true, false, false, false] rfl rfl (take_ofW HT_.out HW_.out (by kernel_rfl)) (fun _ _ _ h => h) (Or.inl ⟨by rfl, ?_⟩) hHeld ?_ ?_
                                  rotate_left
                                  · rintro w' ⟨s0, s1, s2⟩
                                    go_simp
                                    with_reducible rfl
                                  rotate_left
                                  · simp only [Act.put, List.setIfInBounds_toArray, List.set_cons_zero, List.set_cons_succ, i64_w, i32_w]
                                    rfl
                                  refine pure_ (i := 3) (N := some 52) (v := ?_) (a' := ?_) #[true, true, true, true, true, true, false, false, true, true, false, false, true, true, false, true, true, false, false, true, false, false, false] rfl rfl (any_of HT_.out (by kernel_rfl)) (fun _ _ _ h => h) (Or.inl ⟨by rfl, ?_⟩) ?_ ?_
                                  rotate_left
                                  · intro w'
                                    go_simp
                                    with_reducible rfl
                                  rotate_left
                                  · simp only [Act.put, List.setIfInBounds_toArray, List.set_cons_zero, List.set_cons_succ, i64_w, i32_w]
                                    rfl
                                  refine take_ (i := 6) (N := some 55) (v := ?_) (a' := ?_) #[true, true, true, true, true, true, true, false, true, true, false, false, true, true, false, true, true, false, false, true, false, false, false] rfl rfl (take_ofW HT_.out HW_.out (by kernel_rfl)) (fun _ _ _ h => h) (Or.inl ⟨by rfl, ?_⟩) hHeld ?_ ?_
                                  rotate_left
                                  · rintro w' ⟨s0, s1, s2⟩
                                    go_simp
                                    with_reducible rfl
                                  rotate_left
                                  · simp only [Act.put, List.setIfInBounds_toArray, List.set_cons_zero, List.set_cons_succ, i64_w, i32_w]
                                    rfl
                                  refine pure_ (i := 7) (N := some 56) (v := ?_) (a' := ?_) #[true, true, true, true, true, true, true, true, true, true, false, false, true, true, false, true, true, false, false, true, false, false, false] rfl rfl (any_of HT_.out (by kernel_rfl)) (fun _ _ _ h => h) (Or.inl ⟨by rfl, ?_⟩) ?_ ?_
                                  rotate_left
                                  · intro w'
                                    go_simp
                                    with_reducible rfl
                                  rotate_left
                                  · simp only [Act.put, List.setIfInBounds_toArray, List.set_cons_zero, List.set_cons_succ, i64_w, i32_w]
                                    rfl
                                  refine take_ (i := 10) (N := some 59) (v := ?_) (a' := ?_) #[true, true, true, true, true, true, true, true, true, true, true, false, true, true, false, true, true, false, false, true, false, false, false] rfl rfl (take_ofW HT_.out HW_.out (by kernel_rfl)) (fun _ _ _ h => h) (Or.inl ⟨by rfl, ?_⟩) hHeld ?_ ?_
                                  rotate_left
                                  · rintro w' ⟨s0, s1, s2⟩
                                    go_simp
                                    with_reducible rfl
                                  rotate_left
                                  · simp only [Act.put, List.setIfInBounds_toArray, List.set_cons_zero, List.set_cons_succ, i64_w, i32_w]
                                    rfl
                                  refine pure_ (i := 11) (N := some 60) (v := ?_) (a' := ?_) #[true, true, true, true, true, true, true, true, true, true, true, true, true, true, false, true, true, false, false, true, false, false, false] rfl rfl (any_of HT_.out (by kernel_rfl)) (fun _ _ _ h => h) (Or.inl ⟨by rfl, ?_⟩) ?_ ?_
                                  rotate_left
                                  · intro w'
                                    go_simp
                                    with_reducible rfl
                                  rotate_left
                                  · simp only [Act.put, List.setIfInBounds_toArray, List.set_cons_zero, List.set_cons_succ, i64_w, i32_w]
                                    rfl
                                  refine one_ (i := 14) (N := some 63) #[true, true, true, true, true, true, true, true, true, true, true, true, true, true, true, true, true, false, false, true, false, false, false] rfl rfl (one_of HT_.out (by kernel_rfl)) (by decide) (fun K hK => ?_)
                                  refine goes_ Try.func36 (by kernel_rfl) rfl #[.slice A38 ((l0.take 12).drop 4).length (c0 - 4)] (by rfl) rfl rfl (by (try simp only [List.map_toArray, List.map_cons, List.map_nil]); first | done | (rw [show ((l0.take 12).drop 4).length = (12 - 4) from (by rw [List.length_drop, List.length_take]; have h_ : (12 : Int) ≤ (l0.length : Int) := of_decide_eq_true (by first | (with_reducible assumption) | assumption); omega)] <;> rfl) | rfl | (simp only [List.length_drop, List.length_take]; rfl)) ?_
                                  with_reducible refine (sector_number.calls kj5 _ _ ((l0.take 12).drop 4) t121 _ ?side1 ?side2 A29.out).mono ?_
                                  (case side1 => repeat (first | exact (Kd.C_below HR120.out HB.out) | (with_reducible refine Kd.C_alloc ?_ _) | (with_reducible refine Kd.C_drewN ?_ _) | (with_reducible refine Kd.C_drew ?_)))
                                  (case side2 => exact HC120.out)
                                  rintro e w' ⟨rfl, ⟨nd, rfl⟩⟩
                                  refine ⟨_, rfl, ?_⟩
                                  refine hK.out _ _ ⟨((HB.out.cell (World.block_lt_of_cell? w _ hw117_0)).trans hw117_0), ((HB.out.cell (World.block_lt_of_cell? w _ hw118_0)).trans hw118_0), ((HB.out.cell (World.block_lt_of_cell? w _ hw119_0)).trans hw119_0)⟩ (fun hHeld => ?_)
                                  clear hK K
                                  refine norm_ (a' := ?_) ?_ ?_
                                  rotate_left
                                  · show Act.put _ (some 63) _ = _
                                    simp only [Act.put, List.setIfInBounds_toArray, List.set_cons_zero, List.set_cons_succ, i64_w, i32_w]
                                    rfl
                                  refine one_ (i := 17) (N := some 66) #[true, true, true, true, true, true, true, true, true, true, true, true, true, true, true, true, true, true, false, true, false, false, false] rfl rfl (one_of HT_.out (by kernel_rfl)) (by decide) (fun K hK => ?_)
                                  refine goes_ Try.func36 (by kernel_rfl) rfl #[.slice A39 ((l0.take 16).drop 12).length (c0 - 12)] (by rfl) rfl rfl (by (try simp only [List.map_toArray, List.map_cons, List.map_nil]); first | done | (rw [show ((l0.take 16).drop 12).length = (16 - 12) from (by rw [List.length_drop, List.length_take]; have h_ : (16 : Int) ≤ (l0.length : Int) := of_decide_eq_true (by first | (with_reducible assumption) | assumption); omega)] <;> rfl) | rfl | (simp only [List.length_drop, List.length_take]; rfl)) ?_
                                  with_reducible refine (sector_number.calls kj5 _ _ ((l0.take 16).drop 12) t123 _ ?side1 ?side2 A32.out).mono ?_
                                  (case side1 => repeat (first | exact (Kd.C_below HR122.out (by repeat (first | (with_reducible first | exact HB.out | apply below_alloc | apply pw_below_drewN | apply below_drew1 | refine below_set ?_ GE103.out) | exact HB.out))) | (with_reducible refine Kd.C_alloc ?_ _) | (with_reducible refine Kd.C_drewN ?_ _) | (with_reducible refine Kd.C_drew ?_)))
                                  (case side2 => exact HC122.out)
                                  rintro e w' ⟨rfl, ⟨nd, rfl⟩⟩
                                  refine ⟨_, rfl, ?_⟩
                                  obtain ⟨Ao40, co40, eo40⟩ := Kd.R_slice HO116.out
                                  (first | subst eo40 | (injection eo40 with f1_ f2_ f3_; have f4_ := f1_.symm; have f5_ := f3_.symm; clear f1_ f2_ f3_; subst f4_; subst f5_))
                                  refine hK.out _ _ ⟨((HB.out.cell (World.block_lt_of_cell? w _ hw117_0)).trans hw117_0), ((HB.out.cell (World.block_lt_of_cell? w _ hw118_0)).trans hw118_0), ((HB.out.cell (World.block_lt_of_cell? w _ hw119_0)).trans hw119_0)⟩ (fun hHeld => ?_)
                                  clear hK K
                                  refine norm_ (a' := ?_) ?_ ?_
                                  rotate_left
                                  · show Act.put _ (some 66) _ = _
                                    simp only [Act.put, List.setIfInBounds_toArray, List.set_cons_zero, List.set_cons_succ, i64_w, i32_w]
                                    rfl
                                  refine pure_ (i := 18) (N := some 67) (v := ?_) (a' := ?_) #[true, true, true, true, true, true, true, true, true, true, true, true, true, true, true, true, true, true, true, true, false, false, false] rfl rfl (any_of HT_.out (by kernel_rfl)) (fun _ _ _ h => h) (Or.inl ⟨by rfl, ?_⟩) ?_ ?_
                                  rotate_left
                                  · intro w'
                                    go_simp
                                    with_reducible rfl
                                  rotate_left
                                  · simp only [Act.put, List.setIfInBounds_toArray, List.set_cons_zero, List.set_cons_succ, i64_w, i32_w]
                                    rfl
                                  refine pure_ (i := 20) (N := some 69) (v := ?_) (a' := ?_) #[true, true, true, true, true, true, true, true, true, true, true, true, true, true, true, true, true, true, true, true, true, false, false] rfl rfl (any_of HT_.out (by kernel_rfl)) (fun _ _ _ h => h) (Or.inl ⟨by rfl, ?_⟩) ?_ ?_
                                  rotate_left
                                  · intro w'
                                    go_simp
                                    with_reducible rfl
                                  rotate_left
                                  · simp only [Act.put, List.setIfInBounds_toArray, List.set_cons_zero, List.set_cons_succ, i64_w, i32_w]
                                    rfl
                                  refine one_ (i := 21) (N := none) #[true, true, true, true, true, true, true, true, true, true, true, true, true, true, true, true, true, true, true, true, true, true, false] rfl rfl (one_of HT_.out (by kernel_rfl)) (by decide) (fun K hK => ?_)
                                  have hs41 : w37.cell? ⟨gb103, 0, none⟩ = some (.int .i64 0) := (blk_cell BK103.out 0).trans rfl
                                  have hfs41 := blk_frozen BK103.out 0
                                  have hs42 : w37.cell? ⟨gb103, 1, none⟩ = some (.int .i64 0) := (blk_cell BK103.out 1).trans rfl
                                  have hfs42 := blk_frozen BK103.out 1
                                  have hs43 : w37.cell? ⟨gb103, 2, none⟩ = some (.int .i64 0) := (blk_cell BK103.out 2).trans rfl
                                  have hfs43 := blk_frozen BK103.out 2
                                  have hs44 : w37.cell? ⟨gb103, 3, none⟩ = some (.int .u64 0) := (blk_cell BK103.out 3).trans rfl
                                  have hfs44 := blk_frozen BK103.out 3
                                  have hs45 : w37.cell? ⟨gb103, 4, none⟩ = some (.int .u32 0) := (blk_cell BK103.out 4).trans rfl
                                  have hfs45 := blk_frozen BK103.out 4
                                  have hs46 : w37.cell? ⟨gb103, 5, none⟩ = some (.slice none 0 0) := (blk_cell BK103.out 5).trans rfl
                                  have hfs46 := blk_frozen BK103.out 5
                                  refine skip_ (w1 := ?_) (by rfl) rfl ?_ ?_
                                  rotate_left
                                  · go_simp
                                    rfl
                                  refine hK.out _ _ ⟨((cell_far (p := ⟨gb103, _, none⟩) (by first | exact Nat.ne_of_lt (Nat.lt_of_lt_of_le (by have := World.block_lt_of_cell? _ _ hw117_0; first | rwa [add_block] at this | exact this) GW103.out) | (rw [add_block]; exact Nat.ne_of_lt (Nat.lt_of_lt_of_le (by have := World.block_lt_of_cell? _ _ hw117_0; first | rwa [add_block] at this | exact this) GW103.out)) | (show (Addr.add _ _).block ≠ _; rw [add_block]; exact Nat.ne_of_lt (Nat.lt_of_lt_of_le (by have := World.block_lt_of_cell? _ _ hw117_0; first | rwa [add_block] at this | exact this) GW103.out)) | (dsimp only; exact Nat.ne_of_lt (Nat.lt_of_lt_of_le (by have := World.block_lt_of_cell? _ _ hw117_0; first | rwa [add_block] at this | exact this) GW103.out))) _).trans (((cell_far (p := ⟨gb103, _, none⟩) (by first | exact Nat.ne_of_lt (Nat.lt_of_lt_of_le (by have := World.block_lt_of_cell? _ _ hw117_0; first | rwa [add_block] at this | exact this) GW103.out) | (rw [add_block]; exact Nat.ne_of_lt (Nat.lt_of_lt_of_le (by have := World.block_lt_of_cell? _ _ hw117_0; first | rwa [add_block] at this | exact this) GW103.out)) | (show (Addr.add _ _).block ≠ _; rw [add_block]; exact Nat.ne_of_lt (Nat.lt_of_lt_of_le (by have := World.block_lt_of_cell? _ _ hw117_0; first | rwa [add_block] at this | exact this) GW103.out)) | (dsimp only; exact Nat.ne_of_lt (Nat.lt_of_lt_of_le (by have := World.block_lt_of_cell? _ _ hw117_0; first | rwa [add_block] at this | exact this) GW103.out))) _).trans (((cell_far (p := ⟨gb103, _, none⟩) (by first | exact Nat.ne_of_lt (Nat.lt_of_lt_of_le (by have := World.block_lt_of_cell? _ _ hw117_0; first | rwa [add_block] at this | exact this) GW103.out) | (rw [add_block]; exact Nat.ne_of_lt (Nat.lt_of_lt_of_le (by have := World.block_lt_of_cell? _ _ hw117_0; first | rwa [add_block] at this | exact this) GW103.out)) | (show (Addr.add _ _).block ≠ _; rw [add_block]; exact Nat.ne_of_lt (Nat.lt_of_lt_of_le (by have := World.block_lt_of_cell? _ _ hw117_0; first | rwa [add_block] at this | exact this) GW103.out)) | (dsimp only; exact Nat.ne_of_lt (Nat.lt_of_lt_of_le (by have := World.block_lt_of_cell? _ _ hw117_0; first | rwa [add_block] at this | exact this) GW103.out))) _).trans (((cell_far (p := ⟨gb103, _, none⟩) (by first | exact Nat.ne_of_lt (Nat.lt_of_lt_of_le (by have := World.block_lt_of_cell? _ _ hw117_0; first | rwa [add_block] at this | exact this) GW103.out) | (rw [add_block]; exact Nat.ne_of_lt (Nat.lt_of_lt_of_le (by have := World.block_lt_of_cell? _ _ hw117_0; first | rwa [add_block] at this | exact this) GW103.out)) | (show (Addr.add _ _).block ≠ _; rw [add_block]; exact Nat.ne_of_lt (Nat.lt_of_lt_of_le (by have := World.block_lt_of_cell? _ _ hw117_0; first | rwa [add_block] at this | exact this) GW103.out)) | (dsimp only; exact Nat.ne_of_lt (Nat.lt_of_lt_of_le (by have := World.block_lt_of_cell? _ _ hw117_0; first | rwa [add_block] at this | exact this) GW103.out))) _).trans (((cell_far (p := ⟨gb103, _, none⟩) (by first | exact Nat.ne_of_lt (Nat.lt_of_lt_of_le (by have := World.block_lt_of_cell? _ _ hw117_0; first | rwa [add_block] at this | exact this) GW103.out) | (rw [add_block]; exact Nat.ne_of_lt (Nat.lt_of_lt_of_le (by have := World.block_lt_of_cell? _ _ hw117_0; first | rwa [add_block] at this | exact this) GW103.out)) | (show (Addr.add _ _).block ≠ _; rw [add_block]; exact Nat.ne_of_lt (Nat.lt_of_lt_of_le (by have := World.block_lt_of_cell? _ _ hw117_0; first | rwa [add_block] at this | exact this) GW103.out)) | (dsimp only; exact Nat.ne_of_lt (Nat.lt_of_lt_of_le (by have := World.block_lt_of_cell? _ _ hw117_0; first | rwa [add_block] at this | exact this) GW103.out))) _).trans (((cell_far (p := ⟨gb103, _, none⟩) (by first | exact Nat.ne_of_lt (Nat.lt_of_lt_of_le (by have := World.block_lt_of_cell? _ _ hw117_0; first | rwa [add_block] at this | exact this) GW103.out) | (rw [add_block]; exact Nat.ne_of_lt (Nat.lt_of_lt_of_le (by have := World.block_lt_of_cell? _ _ hw117_0; first | rwa [add_block] at this | exact this) GW103.out)) | (show (Addr.add _ _).block ≠ _; rw [add_block]; exact Nat.ne_of_lt (Nat.lt_of_lt_of_le (by have := World.block_lt_of_cell? _ _ hw117_0; first | rwa [add_block] at this | exact this) GW103.out)) | (dsimp only; exact Nat.ne_of_lt (Nat.lt_of_lt_of_le (by have := World.block_lt_of_cell? _ _ hw117_0; first | rwa [add_block] at this | exact this) GW103.out))) _).trans (hHeld.1)))))))))))), ((cell_far (p := ⟨gb103, _, none⟩) (by first | exact Nat.ne_of_lt (Nat.lt_of_lt_of_le (by have := World.block_lt_of_cell? _ _ hw118_0; first | rwa [add_block] at this | exact this) GW103.out) | (rw [add_block]; exact Nat.ne_of_lt (Nat.lt_of_lt_of_le (by have := World.block_lt_of_cell? _ _ hw118_0; first | rwa [add_block] at this | exact this) GW103.out)) | (show (Addr.add _ _).block ≠ _; rw [add_block]; exact Nat.ne_of_lt (Nat.lt_of_lt_of_le (by have := World.block_lt_of_cell? _ _ hw118_0; first | rwa [add_block] at this | exact this) GW103.out)) | (dsimp only; exact Nat.ne_of_lt (Nat.lt_of_lt_of_le (by have := World.block_lt_of_cell? _ _ hw118_0; first | rwa [add_block] at this | exact this) GW103.out))) _).trans (((cell_far (p := ⟨gb103, _, none⟩) (by first | exact Nat.ne_of_lt (Nat.lt_of_lt_of_le (by have := World.block_lt_of_cell? _ _ hw118_0; first | rwa [add_block] at this | exact this) GW103.out) | (rw [add_block]; exact Nat.ne_of_lt (Nat.lt_of_lt_of_le (by have := World.block_lt_of_cell? _ _ hw118_0; first | rwa [add_block] at this | exact this) GW103.out)) | (show (Addr.add _ _).block ≠ _; rw [add_block]; exact Nat.ne_of_lt (Nat.lt_of_lt_of_le (by have := World.block_lt_of_cell? _ _ hw118_0; first | rwa [add_block] at this | exact this) GW103.out)) | (dsimp only; exact Nat.ne_of_lt (Nat.lt_of_lt_of_le (by have := World.block_lt_of_cell? _ _ hw118_0; first | rwa [add_block] at this | exact this) GW103.out))) _).trans (((cell_far (p := ⟨gb103, _, none⟩) (by first | exact Nat.ne_of_lt (Nat.lt_of_lt_of_le (by have := World.block_lt_of_cell? _ _ hw118_0; first | rwa [add_block] at this | exact this) GW103.out) | (rw [add_block]; exact Nat.ne_of_lt (Nat.lt_of_lt_of_le (by have := World.block_lt_of_cell? _ _ hw118_0; first | rwa [add_block] at this | exact this) GW103.out)) | (show (Addr.add _ _).block ≠ _; rw [add_block]; exact Nat.ne_of_lt (Nat.lt_of_lt_of_le (by have := World.block_lt_of_cell? _ _ hw118_0; first | rwa [add_block] at this | exact this) GW103.out)) | (dsimp only; exact Nat.ne_of_lt (Nat.lt_of_lt_of_le (by have := World.block_lt_of_cell? _ _ hw118_0; first | rwa [add_block] at this | exact this) GW103.out))) _).trans (((cell_far (p := ⟨gb103, _, none⟩) (by first | exact Nat.ne_of_lt (Nat.lt_of_lt_of_le (by have := World.block_lt_of_cell? _ _ hw118_0; first | rwa [add_block] at this | exact this) GW103.out) | (rw [add_block]; exact Nat.ne_of_lt (Nat.lt_of_lt_of_le (by have := World.block_lt_of_cell? _ _ hw118_0; first | rwa [add_block] at this | exact this) GW103.out)) | (show (Addr.add _ _).block ≠ _; rw [add_block]; exact Nat.ne_of_lt (Nat.lt_of_lt_of_le (by have := World.block_lt_of_cell? _ _ hw118_0; first | rwa [add_block] at this | exact this) GW103.out)) | (dsimp only; exact Nat.ne_of_lt (Nat.lt_of_lt_of_le (by have := World.block_lt_of_cell? _ _ hw118_0; first | rwa [add_block] at this | exact this) GW103.out))) _).trans (((cell_far (p := ⟨gb103, _, none⟩) (by first | exact Nat.ne_of_lt (Nat.lt_of_lt_of_le (by have := World.block_lt_of_cell? _ _ hw118_0; first | rwa [add_block] at this | exact this) GW103.out) | (rw [add_block]; exact Nat.ne_of_lt (Nat.lt_of_lt_of_le (by have := World.block_lt_of_cell? _ _ hw118_0; first | rwa [add_block] at this | exact this) GW103.out)) | (show (Addr.add _ _).block ≠ _; rw [add_block]; exact Nat.ne_of_lt (Nat.lt_of_lt_of_le (by have := World.block_lt_of_cell? _ _ hw118_0; first | rwa [add_block] at this | exact this) GW103.out)) | (dsimp only; exact Nat.ne_of_lt (Nat.lt_of_lt_of_le (by have := World.block_lt_of_cell? _ _ hw118_0; first | rwa [add_block] at this | exact this) GW103.out))) _).trans (((cell_far (p := ⟨gb103, _, none⟩) (by first | exact Nat.ne_of_lt (Nat.lt_of_lt_of_le (by have := World.block_lt_of_cell? _ _ hw118_0; first | rwa [add_block] at this | exact this) GW103.out) | (rw [add_block]; exact Nat.ne_of_lt (Nat.lt_of_lt_of_le (by have := World.block_lt_of_cell? _ _ hw118_0; first | rwa [add_block] at this | exact this) GW103.out)) | (show (Addr.add _ _).block ≠ _; rw [add_block]; exact Nat.ne_of_lt (Nat.lt_of_lt_of_le (by have := World.block_lt_of_cell? _ _ hw118_0; first | rwa [add_block] at this | exact this) GW103.out)) | (dsimp only; exact Nat.ne_of_lt (Nat.lt_of_lt_of_le (by have := World.block_lt_of_cell? _ _ hw118_0; first | rwa [add_block] at this | exact this) GW103.out))) _).trans (hHeld.2.1)))))))))))), ((cell_far (p := ⟨gb103, _, none⟩) (by first | exact Nat.ne_of_lt (Nat.lt_of_lt_of_le (by have := World.block_lt_of_cell? _ _ hw119_0; first | rwa [add_block] at this | exact this) GW103.out) | (rw [add_block]; exact Nat.ne_of_lt (Nat.lt_of_lt_of_le (by have := World.block_lt_of_cell? _ _ hw119_0; first | rwa [add_block] at this | exact this) GW103.out)) | (show (Addr.add _ _).block ≠ _; rw [add_block]; exact Nat.ne_of_lt (Nat.lt_of_lt_of_le (by have := World.block_lt_of_cell? _ _ hw119_0; first | rwa [add_block] at this | exact this) GW103.out)) | (dsimp only; exact Nat.ne_of_lt (Nat.lt_of_lt_of_le (by have := World.block_lt_of_cell? _ _ hw119_0; first | rwa [add_block] at this | exact this) GW103.out))) _).trans (((cell_far (p := ⟨gb103, _, none⟩) (by first | exact Nat.ne_of_lt (Nat.lt_of_lt_of_le (by have := World.block_lt_of_cell? _ _ hw119_0; first | rwa [add_block] at this | exact this) GW103.out) | (rw [add_block]; exact Nat.ne_of_lt (Nat.lt_of_lt_of_le (by have := World.block_lt_of_cell? _ _ hw119_0; first | rwa [add_block] at this | exact this) GW103.out)) | (show (Addr.add _ _).block ≠ _; rw [add_block]; exact Nat.ne_of_lt (Nat.lt_of_lt_of_le (by have := World.block_lt_of_cell? _ _ hw119_0; first | rwa [add_block] at this | exact this) GW103.out)) | (dsimp only; exact Nat.ne_of_lt (Nat.lt_of_lt_of_le (by have := World.block_lt_of_cell? _ _ hw119_0; first | rwa [add_block] at this | exact this) GW103.out))) _).trans (((cell_far (p := ⟨gb103, _, none⟩) (by first | exact Nat.ne_of_lt (Nat.lt_of_lt_of_le (by have := World.block_lt_of_cell? _ _ hw119_0; first | rwa [add_block] at this | exact this) GW103.out) | (rw [add_block]; exact Nat.ne_of_lt (Nat.lt_of_lt_of_le (by have := World.block_lt_of_cell? _ _ hw119_0; first | rwa [add_block] at this | exact this) GW103.out)) | (show (Addr.add _ _).block ≠ _; rw [add_block]; exact Nat.ne_of_lt (Nat.lt_of_lt_of_le (by have := World.block_lt_of_cell? _ _ hw119_0; first | rwa [add_block] at this | exact this) GW103.out)) | (dsimp only; exact Nat.ne_of_lt (Nat.lt_of_lt_of_le (by have := World.block_lt_of_cell? _ _ hw119_0; first | rwa [add_block] at this | exact this) GW103.out))) _).trans (((cell_far (p := ⟨gb103, _, none⟩) (by first | exact Nat.ne_of_lt (Nat.lt_of_lt_of_le (by have := World.block_lt_of_cell? _ _ hw119_0; first | rwa [add_block] at this | exact this) GW103.out) | (rw [add_block]; exact Nat.ne_of_lt (Nat.lt_of_lt_of_le (by have := World.block_lt_of_cell? _ _ hw119_0; first | rwa [add_block] at this | exact this) GW103.out)) | (show (Addr.add _ _).block ≠ _; rw [add_block]; exact Nat.ne_of_lt (Nat.lt_of_lt_of_le (by have := World.block_lt_of_cell? _ _ hw119_0; first | rwa [add_block] at this | exact this) GW103.out)) | (dsimp only; exact Nat.ne_of_lt (Nat.lt_of_lt_of_le (by have := World.block_lt_of_cell? _ _ hw119_0; first | rwa [add_block] at this | exact this) GW103.out))) _).trans (((cell_far (p := ⟨gb103, _, none⟩) (by first | exact Nat.ne_of_lt (Nat.lt_of_lt_of_le (by have := World.block_lt_of_cell? _ _ hw119_0; first | rwa [add_block] at this | exact this) GW103.out) | (rw [add_block]; exact Nat.ne_of_lt (Nat.lt_of_lt_of_le (by have := World.block_lt_of_cell? _ _ hw119_0; first | rwa [add_block] at this | exact this) GW103.out)) | (show (Addr.add _ _).block ≠ _; rw [add_block]; exact Nat.ne_of_lt (Nat.lt_of_lt_of_le (by have := World.block_lt_of_cell? _ _ hw119_0; first | rwa [add_block] at this | exact this) GW103.out)) | (dsimp only; exact Nat.ne_of_lt (Nat.lt_of_lt_of_le (by have := World.block_lt_of_cell? _ _ hw119_0; first | rwa [add_block] at this | exact this) GW103.out))) _).trans (((cell_far (p := ⟨gb103, _, none⟩) (by first | exact Nat.ne_of_lt (Nat.lt_of_lt_of_le (by have := World.block_lt_of_cell? _ _ hw119_0; first | rwa [add_block] at this | exact this) GW103.out) | (rw [add_block]; exact Nat.ne_of_lt (Nat.lt_of_lt_of_le (by have := World.block_lt_of_cell? _ _ hw119_0; first | rwa [add_block] at this | exact this) GW103.out)) | (show (Addr.add _ _).block ≠ _; rw [add_block]; exact Nat.ne_of_lt (Nat.lt_of_lt_of_le (by have := World.block_lt_of_cell? _ _ hw119_0; first | rwa [add_block] at this | exact this) GW103.out)) | (dsimp only; exact Nat.ne_of_lt (Nat.lt_of_lt_of_le (by have := World.block_lt_of_cell? _ _ hw119_0; first | rwa [add_block] at this | exact this) GW103.out))) _).trans (hHeld.2.2))))))))))))⟩ (fun hHeld => ?_)
                                  clear hK K
                                  refine pure_ (i := 22) (N := some 3) (v := ?_) (a' := ?_) #[true, true, true, true, true, true, true, true, true, true, true, true, true, true, true, true, true, true, true, true, true, true, true] rfl rfl (any_of HT_.out (by kernel_rfl)) (fun _ _ _ h => h) (Or.inl ⟨by rfl, ?_⟩) ?_ ?_
                                  rotate_left
                                  · intro w'
                                    go_simp
                                    with_reducible rfl
                                  rotate_left
                                  · simp only [Act.put, List.setIfInBounds_toArray, List.set_cons_zero, List.set_cons_succ, i64_w, i32_w]
                                    rfl
                                  refine done_ (done_of HT_.out (by kernel_rfl)) ?_
                                  try go_wp2
                                  refine bodyPost_ret (results_ct rfl _ _ gb103 42 #[.int .i64 (wrap64 (rd l0 0)), .int .i64 (wrap64 (rd l0 1)), .int .i64 (wrap64 (rd l0 2)), .int .u64 t121, .int .u32 ((t123) % 4294967296), .slice Ao40 y114.length co40] (0, 0) _ rfl (by (with_reducible repeat (first | refine blk_drewN ?_ _ | refine blk_drew ?_ | refine blk_alloc ?_ _)); refine blk_put (cs := #[.int .i64 (wrap64 (rd l0 0)), .int .i64 (wrap64 (rd l0 1)), .int .i64 (wrap64 (rd l0 2)), .int .u64 t121, .int .u32 ((t123) % 4294967296), .slice none 0 0]) ?_ 5 _ rfl; (with_reducible repeat (first | refine blk_drewN ?_ _ | refine blk_drew ?_ | refine blk_alloc ?_ _)); refine blk_put (cs := #[.int .i64 (wrap64 (rd l0 0)), .int .i64 (wrap64 (rd l0 1)), .int .i64 (wrap64 (rd l0 2)), .int .u64 t121, .int .u32 0, .slice none 0 0]) ?_ 4 _ rfl; (with_reducible repeat (first | refine blk_drewN ?_ _ | refine blk_drew ?_ | refine blk_alloc ?_ _)); refine blk_put (cs := #[.int .i64 (wrap64 (rd l0 0)), .int .i64 (wrap64 (rd l0 1)), .int .i64 (wrap64 (rd l0 2)), .int .u64 0, .int .u32 0, .slice none 0 0]) ?_ 3 _ rfl; (with_reducible repeat (first | refine blk_drewN ?_ _ | refine blk_drew ?_ | refine blk_alloc ?_ _)); refine blk_put (cs := #[.int .i64 (wrap64 (rd l0 0)), .int .i64 (wrap64 (rd l0 1)), .int .i64 0, .int .u64 0, .int .u32 0, .slice none 0 0]) ?_ 2 _ rfl; (with_reducible repeat (first | refine blk_drewN ?_ _ | refine blk_drew ?_ | refine blk_alloc ?_ _)); refine blk_put (cs := #[.int .i64 (wrap64 (rd l0 0)), .int .i64 0, .int .i64 0, .int .u64 0, .int .u32 0, .slice none 0 0]) ?_ 1 _ rfl; (with_reducible repeat (first | refine blk_drewN ?_ _ | refine blk_drew ?_ | refine blk_alloc ?_ _)); refine blk_put (cs := #[.int .i64 0, .int .i64 0, .int .i64 0, .int .u64 0, .int .u32 0, .slice none 0 0]) ?_ 0 _ rfl; (with_reducible repeat (first | refine blk_drewN ?_ _ | refine blk_drew ?_ | refine blk_alloc ?_ _)); exact BK103.out) Try.underlying42 rfl (by kernel_rfl)) rfl ?_
                                  exact ⟨_, by first | rfl | (simp [errW_none, errW_some] <;> rfl) | (simp [*, errW_none, errW_some] <;> rfl), by (with_reducible repeat (first | apply Kd.R_alloc | apply Kd.R_drewN | apply Kd.R_drew)); exact Kd.R_mono (Kd.R_far (p := ⟨gb103, 5, none⟩) (Kd.R_far (p := ⟨gb103, 4, none⟩) (Kd.R_far (p := ⟨gb103, 3, none⟩) (Kd.R_far (p := ⟨gb103, 2, none⟩) (Kd.R_far (p := ⟨gb103, 1, none⟩) (Kd.R_far (p := ⟨gb103, 0, none⟩) (Kd.R_types HO116.out BK103.out (by decide)) (fun _ hk => hk.2) (.int .i64 (wrap64 (rd l0 0)))) (fun _ hk => hk.2) (.int .i64 (wrap64 (rd l0 1)))) (fun _ hk => hk.2) (.int .i64 (wrap64 (rd l0 2)))) (fun _ hk => hk.2) (.int .u64 t121)) (fun _ hk => hk.2) (.int .u32 ((t123) % 4294967296))) (fun _ hk => hk.2) (.slice Ao40 y114.length co40)) (fun _ hk => trivial), by repeat (first | (with_reducible first | exact HB.out | apply below_alloc | apply pw_below_drewN | apply below_drew1 | refine below_set ?_ GE103.out) | exact HB.out)⟩
                                · rw [if_neg c31] at H
                                  exact absurd H (by simp)
                              · rw [if_neg c30] at H
                                exact absurd H (by simp)
                            · rw [if_neg c28] at H
                              exact absurd H (by simp)
                          · rw [if_neg c27] at H
                            exact absurd H (by simp)
                        · rw [if_neg c26] at H
                          exact absurd H (by simp)
                      · rw [if_neg c25] at H
                        exact absurd H (by simp)
                    · rw [if_neg c24] at H
                      exact absurd H (by simp)
                  · rw [if_neg c23] at H
                    exact absurd H (by simp)
                · rw [if_neg c22] at H
                  exact absurd H (by simp)
              · rw [if_neg c21] at H
                exact absurd H (by simp)
      · rw [if_neg c5] at H
        exact absurd H (by simp)
    · replace c4 := Bool.eq_false_iff.mpr c4
      subst c4
      have H1 : (some (0, 0, 0, 0, 0, ([] : List Int), 14)) = some (r1, r2, r3, r4, r5, r6, r7) := by rw [if_neg (show ¬ (false = true) by decide)] at H; exact H
      clear H
      have H := H1
      clear H1
      simp only [Option.some.injEq, Prod.mk.injEq] at H
      obtain ⟨rfl, rfl, rfl, rfl, rfl, rfl, rfl⟩ := H
      go_enter Try.func26, Try.ntmps26
      go_wp2_with (first | ((with_reducible refine gate_dst (N := 2) rfl ?_); refine box_event ?hg (N := 2) ?hd (cs := #[.int .i64 0, .int .i64 0, .int .i64 0, .int .u64 0, .int .u32 0, .slice none 0 0]) (t := 42) ?hr ?_; (case hd => rfl); (case hg => rfl); (case hr => first | (go_simp; done) | (go_simp; rfl)); intro gb103 hg w47 hbox hb; have n0_ := Aside0.mk (below_step (by repeat (first | (with_reducible first | exact HB.out | apply below_alloc | apply pw_below_drewN | apply below_drew1) | exact HB.out)) hb); have n1_ := Aside0.mk (hbox); have n2_ := Aside0.mk ((by rw [hg]; exact (below_size (by repeat (first | (with_reducible first | exact HB.out | apply below_alloc | apply pw_below_drewN | apply below_drew1) | exact HB.out))) : w.heap.size ≤ gb103)); have n3_ := Aside0.mk ((by rw [hg]; exact (below_size (by repeat (first | (with_reducible first | exact HB.out | apply below_alloc | apply pw_below_drewN | apply below_drew1) | exact HB.out))) : w.heap.size ≤ gb103)); clear HB; have HB := n0_; have BK103 := n1_; have GW103 := n2_; have GE103 := n3_; clear n0_ n1_ n2_ n3_; clear hb hbox hg) | ((with_reducible refine gate_callee (f := 20) rfl ?_); refine goesL_ (some 13) rfl rfl Try.func20 (by kernel_rfl) rfl #[.slice A0 l0.length c0] rfl (by (try simp only [List.map_toArray, List.map_cons, List.map_nil]); first | done | rfl | (simp only [List.length_drop, List.length_take]; rfl)) ?_; (with_reducible refine (Hm.crc_Right.calls _ _ l0 false _ ?side1 ?side2 A3.out).mono ?_); (case side1 => repeat (first | exact (Kd.C_below HR0.out HB.out) | (with_reducible refine Kd.C_alloc ?_ _) | (with_reducible refine Kd.C_drewN ?_ _) | (with_reducible refine Kd.C_drew ?_))); (case side2 => exact HC0.out); rintro e w48 ⟨rfl, hb⟩; refine ⟨_, rfl, ?_⟩; have n0_ := Aside0.mk (blk_below (g := gb103) (o := .cells #[.int .i64 0, .int .i64 0, .int .i64 0, .int .u64 0, .int .u32 0, .slice none 0 0] 42 (0, 0)) (by (with_reducible repeat (first | refine blk_drewN ?_ _ | refine blk_drew ?_ | refine blk_alloc ?_ _)); exact BK103.out) hb); have n1_ := Aside0.mk (below_step (by repeat (first | (with_reducible first | exact HB.out | apply below_alloc | apply pw_below_drewN | apply below_drew1 | refine below_set ?_ GE103.out) | exact HB.out)) hb); clear BK103; clear HB; have BK103 := n0_; have HB := n1_; clear n0_ n1_; (try clear hb); (try clear hb2); (try clear hk); (try clear hi); have hcz49_0 : w48.cell? ⟨gb103, 0, none⟩ = some (.int .i64 0) := (blk_cell BK103.out 0).trans rfl; have hcz49_1 : w48.cell? ⟨gb103, 1, none⟩ = some (.int .i64 0) := (blk_cell BK103.out 1).trans rfl; have hcz49_2 : w48.cell? ⟨gb103, 2, none⟩ = some (.int .i64 0) := (blk_cell BK103.out 2).trans rfl; have hcz49_3 : w48.cell? ⟨gb103, 3, none⟩ = some (.int .u64 0) := (blk_cell BK103.out 3).trans rfl; have hcz49_4 : w48.cell? ⟨gb103, 4, none⟩ = some (.int .u32 0) := (blk_cell BK103.out 4).trans rfl; have hcz49_5 : w48.cell? ⟨gb103, 5, none⟩ = some (.slice none 0 0) := (blk_cell BK103.out 5).trans rfl; have hfz49_0 := blk_frozen BK103.out 0; have hfz49_1 := blk_frozen BK103.out 1; have hfz49_2 := blk_frozen BK103.out 2; have hfz49_3 := blk_frozen BK103.out 3; have hfz49_4 := blk_frozen BK103.out 4; have hfz49_5 := blk_frozen BK103.out 5))
      refine bodyPost_ret (results_ct rfl _ _ gb103 42 #[.int .i64 0, .int .i64 0, .int .i64 0, .int .u64 0, .int .u32 0, .slice none 0 0] (0, 0) _ rfl (by (with_reducible repeat (first | refine blk_drewN ?_ _ | refine blk_drew ?_ | refine blk_alloc ?_ _)); refine blk_put (cs := #[.int .i64 0, .int .i64 0, .int .i64 0, .int .u64 0, .int .u32 0, .slice none 0 0]) ?_ 5 _ rfl; (with_reducible repeat (first | refine blk_drewN ?_ _ | refine blk_drew ?_ | refine blk_alloc ?_ _)); refine blk_put (cs := #[.int .i64 0, .int .i64 0, .int .i64 0, .int .u64 0, .int .u32 0, .slice none 0 0]) ?_ 4 _ rfl; (with_reducible repeat (first | refine blk_drewN ?_ _ | refine blk_drew ?_ | refine blk_alloc ?_ _)); refine blk_put (cs := #[.int .i64 0, .int .i64 0, .int .i64 0, .int .u64 0, .int .u32 0, .slice none 0 0]) ?_ 3 _ rfl; (with_reducible repeat (first | refine blk_drewN ?_ _ | refine blk_drew ?_ | refine blk_alloc ?_ _)); refine blk_put (cs := #[.int .i64 0, .int .i64 0, .int .i64 0, .int .u64 0, .int .u32 0, .slice none 0 0]) ?_ 2 _ rfl; (with_reducible repeat (first | refine blk_drewN ?_ _ | refine blk_drew ?_ | refine blk_alloc ?_ _)); refine blk_put (cs := #[.int .i64 0, .int .i64 0, .int .i64 0, .int .u64 0, .int .u32 0, .slice none 0 0]) ?_ 1 _ rfl; (with_reducible repeat (first | refine blk_drewN ?_ _ | refine blk_drew ?_ | refine blk_alloc ?_ _)); refine blk_put (cs := #[.int .i64 0, .int .i64 0, .int .i64 0, .int .u64 0, .int .u32 0, .slice none 0 0]) ?_ 0 _ rfl; (with_reducible repeat (first | refine blk_drewN ?_ _ | refine blk_drew ?_ | refine blk_alloc ?_ _)); exact BK103.out) Try.underlying42 rfl (by kernel_rfl)) rfl ?_
      exact ⟨_, by first | rfl | (simp [errW_none, errW_some] <;> rfl) | (simp [*, errW_none, errW_some] <;> rfl), by first | exact Kd.R_nil _ _ _ _ _ | exact Kd.N_nil _ _ _ _ _ | exact Kd.V_nil _ _ _ _ _ | exact Kd.Q_nil _ _ _ _ _ | exact Kd.S_nil _ _ _ _ _, by repeat (first | (with_reducible first | exact HB.out | apply below_alloc | apply pw_below_drewN | apply below_drew1 | refine below_set ?_ GE103.out) | exact HB.out)⟩
  · rw [if_neg c2] at H
    have c2b0 : ((l0.length : Int) == 128) = false := beq_eq_false_iff_ne.mpr c2
    have c2b1 : ((l0.length : Int) != 128) = true := bne_iff_ne.mpr c2
    simp only [Option.some.injEq, Prod.mk.injEq] at H
    obtain ⟨rfl, rfl, rfl, rfl, rfl, rfl, rfl⟩ := H
    go_enter Try.func26, Try.ntmps26
    go_wp2_with (first | ((with_reducible refine gate_dst (N := 2) rfl ?_); refine box_event ?hg (N := 2) ?hd (cs := #[.int .i64 0, .int .i64 0, .int .i64 0, .int .u64 0, .int .u32 0, .slice none 0 0]) (t := 42) ?hr ?_; (case hd => rfl); (case hg => rfl); (case hr => first | (go_simp; done) | (go_simp; rfl)); intro gb103 hg w50 hbox hb; have n0_ := Aside0.mk (below_step (by repeat (first | (with_reducible first | exact HB.out | apply below_alloc | apply pw_below_drewN | apply below_drew1) | exact HB.out)) hb); have n1_ := Aside0.mk (hbox); have n2_ := Aside0.mk ((by rw [hg]; exact (below_size (by repeat (first | (with_reducible first | exact HB.out | apply below_alloc | apply pw_below_drewN | apply below_drew1) | exact HB.out))) : w.heap.size ≤ gb103)); have n3_ := Aside0.mk ((by rw [hg]; exact (below_size (by repeat (first | (with_reducible first | exact HB.out | apply below_alloc | apply pw_below_drewN | apply below_drew1) | exact HB.out))) : w.heap.size ≤ gb103)); clear HB; have HB := n0_; have BK103 := n1_; have GW103 := n2_; have GE103 := n3_; clear n0_ n1_ n2_ n3_; clear hb hbox hg; have hcz51_0 : w50.cell? ⟨gb103, 0, none⟩ = some (.int .i64 0) := (blk_cell BK103.out 0).trans rfl; have hcz51_1 : w50.cell? ⟨gb103, 1, none⟩ = some (.int .i64 0) := (blk_cell BK103.out 1).trans rfl; have hcz51_2 : w50.cell? ⟨gb103, 2, none⟩ = some (.int .i64 0) := (blk_cell BK103.out 2).trans rfl; have hcz51_3 : w50.cell? ⟨gb103, 3, none⟩ = some (.int .u64 0) := (blk_cell BK103.out 3).trans rfl; have hcz51_4 : w50.cell? ⟨gb103, 4, none⟩ = some (.int .u32 0) := (blk_cell BK103.out 4).trans rfl; have hcz51_5 : w50.cell? ⟨gb103, 5, none⟩ = some (.slice none 0 0) := (blk_cell BK103.out 5).trans rfl; have hfz51_0 := blk_frozen BK103.out 0; have hfz51_1 := blk_frozen BK103.out 1; have hfz51_2 := blk_frozen BK103.out 2; have hfz51_3 := blk_frozen BK103.out 3; have hfz51_4 := blk_frozen BK103.out 4; have hfz51_5 := blk_frozen BK103.out 5))
    refine bodyPost_ret (results_ct rfl _ _ gb103 42 #[.int .i64 0, .int .i64 0, .int .i64 0, .int .u64 0, .int .u32 0, .slice none 0 0] (0, 0) _ rfl (by (with_reducible repeat (first | refine blk_drewN ?_ _ | refine blk_drew ?_ | refine blk_alloc ?_ _)); refine blk_put (cs := #[.int .i64 0, .int .i64 0, .int .i64 0, .int .u64 0, .int .u32 0, .slice none 0 0]) ?_ 5 _ rfl; (with_reducible repeat (first | refine blk_drewN ?_ _ | refine blk_drew ?_ | refine blk_alloc ?_ _)); refine blk_put (cs := #[.int .i64 0, .int .i64 0, .int .i64 0, .int .u64 0, .int .u32 0, .slice none 0 0]) ?_ 4 _ rfl; (with_reducible repeat (first | refine blk_drewN ?_ _ | refine blk_drew ?_ | refine blk_alloc ?_ _)); refine blk_put (cs := #[.int .i64 0, .int .i64 0, .int .i64 0, .int .u64 0, .int .u32 0, .slice none 0 0]) ?_ 3 _ rfl; (with_reducible repeat (first | refine blk_drewN ?_ _ | refine blk_drew ?_ | refine blk_alloc ?_ _)); refine blk_put (cs := #[.int .i64 0, .int .i64 0, .int .i64 0, .int .u64 0, .int .u32 0, .slice none 0 0]) ?_ 2 _ rfl; (with_reducible repeat (first | refine blk_drewN ?_ _ | refine blk_drew ?_ | refine blk_alloc ?_ _)); refine blk_put (cs := #[.int .i64 0, .int .i64 0, .int .i64 0, .int .u64 0, .int .u32 0, .slice none 0 0]) ?_ 1 _ rfl; (with_reducible repeat (first | refine blk_drewN ?_ _ | refine blk_drew ?_ | refine blk_alloc ?_ _)); refine blk_put (cs := #[.int .i64 0, .int .i64 0, .int .i64 0, .int .u64 0, .int .u32 0, .slice none 0 0]) ?_ 0 _ rfl; (with_reducible repeat (first | refine blk_drewN ?_ _ | refine blk_drew ?_ | refine blk_alloc ?_ _)); exact BK103.out) Try.underlying42 rfl (by kernel_rfl)) rfl ?_
    exact ⟨_, by first | rfl | (simp [errW_none, errW_some] <;> rfl) | (simp [*, errW_none, errW_some] <;> rfl), by first | exact Kd.R_nil _ _ _ _ _ | exact Kd.N_nil _ _ _ _ _ | exact Kd.V_nil _ _ _ _ _ | exact Kd.Q_nil _ _ _ _ _ | exact Kd.S_nil _ _ _ _ _, by repeat (first | (with_reducible first | exact HB.out | apply below_alloc | apply pw_below_drewN | apply below_drew1 | refine below_set ?_ GE103.out) | exact HB.out)⟩

end Go.Proofs.Ytelhdgnolijpcaa.PSecGet
end
section
/- What sector.Get tells, as a plain Lean function of the bytes; conditions: the numbers are bytes. -/
namespace Go.Proofs.Ytelhdgnolijpcaa.Hm
open Go.RowKit Go.Proofs.YtelhdgnolijpcaaW.PrintWords Go.Proofs.YtelhdgnolijpcaaW.PrintLast Go.Proofs.YtelhdgnolijpcaaW.PrintMore Go.Proofs.Ytelhdgnolijpcaa.PSecGet
set_option linter.unusedVariables false
set_option linter.unusedSimpArgs false

def numN (x : Int) (l : List Int) : Int := l.foldl (fun x c => x * 256 + c) x
def cleanB (l : List Int) : Bool := l.all fun x => decide (x = 0)
def getM (l : List Int) : Int × Int × Int × Int × Int × List Int × Int :=
  if l.length = 128 then
    if rightB l = true then
      if 1 ≤ rd l 0 ∧ rd l 0 ≤ 4 ∧ rd l 3 ≤ 108 ∧ cleanB ((l.take 124).drop (16 + (rd l 3).toNat)) = true then
        (rd l 0, rd l 1, rd l 2, numN 0 ((l.take 12).drop 4), numN 0 ((l.take 16).drop 12), (l.take (16 + (rd l 3).toNat)).drop 16, 0)
      else (0, 0, 0, 0, 0, [], 11)
    else (0, 0, 0, 0, 0, [], 14)
  else (0, 0, 0, 0, 0, [], 11)
theorem clean_l0 (l : List Int) (hl : (l.length : Int) ≤ 9223372036854775806) (d : Nat) : ∀ (k i : Nat), i + d = l.length → sector_clean.l0 (k + d + 1) l (l.length : Int) (i : Int) = some (cleanB (l.drop i)) := by
  induction d with
  | zero =>
    intro k i hi
    unfold sector_clean.l0
    rw [if_neg (by omega), List.drop_eq_nil_of_le (by omega)]
    rfl
  | succ d ih =>
    intro k i hi
    rw [show k + (d + 1) + 1 = (k + d + 1) + 1 by omega]
    unfold sector_clean.l0
    have hlt : i < l.length := by omega
    rw [if_pos (by omega), if_pos (by omega), if_pos (by omega), rd_at l i hlt, List.drop_eq_getElem_cons hlt]
    by_cases h0 : l[i] = 0
    · rw [if_pos h0, wrap_up i (by omega) (by omega)]
      have := ih k (i + 1) (by omega)
      rw [Int.natCast_add] at this
      rw [show ((i : Int) + 1) = (i : Int) + ((1 : Nat) : Int) from rfl, this]
      simp [cleanB, h0]
    · rw [if_neg h0]
      have : decide (l[i] = 0) = false := decide_eq_false h0
      unfold cleanB
      rw [List.all_cons, this, Bool.false_and]
theorem sclean (l : List Int) (hl : (l.length : Int) ≤ 9223372036854775806) (k : Nat) (hk : l.length + 1 ≤ k) : sector_clean.f k l = some (cleanB l) := by
  unfold sector_clean.f
  have := clean_l0 l hl l.length (k - l.length - 1) 0 (by omega)
  rw [show k - l.length - 1 + l.length + 1 = k by omega] at this
  exact this
theorem u64w (x : Int) (h0 : 0 ≤ x) (h1 : x < 18446744073709551616) : IntKind.u64.wrap x = x := by
  simp only [IntKind.wrap, IntKind.bits, IntKind.signed]
  simp
  omega
theorem p64 : (2 : Int) ^ 64 = 18446744073709551616 := rfl
theorem p8 : (2 : Int) ^ 8 = 256 := rfl
theorem u64_or8' (x y : Int) (hx0 : 0 ≤ x) (hx1 : x * 256 < 18446744073709551616) (hy0 : 0 ≤ y) (hy1 : y < 256) : Go.bits .or .u64 (x * 256) y = x * 256 + y :=
  bits_join .u64 64 (by decide) (fun n h0 h1 => u64w n h0 (by rw [p64] at h1; exact h1)) 8 (x * 256) y (by omega) (by rw [p8]; omega) (by rw [p64]; exact hx1) hy0 (by rw [p8]; exact hy1) (by rw [p64]; omega)
theorem p256 (i : Nat) (h : i ≤ 7) : (256 : Int) ^ i ≤ 72057594037927936 := by
  have h1 := Nat.pow_le_pow_right (n := 256) (by omega) h
  have h2 : (256 ^ 7 : Nat) = 72057594037927936 := rfl
  rw [h2] at h1
  have h3 := Int.ofNat_le.2 h1
  rw [Int.natCast_pow] at h3
  exact h3
theorem number_l0 (l : List Int) (hb : bytesB l = true) (h8 : l.length ≤ 8) (d : Nat) : ∀ (k i : Nat) (x : Int), i + d = l.length → 0 ≤ x → x < 256 ^ i → sector_number.l0 (k + d + 1) x l (l.length : Int) (i : Int) = some (numN x (l.drop i)) := by
  induction d with
  | zero =>
    intro k i x hi h0 h1
    unfold sector_number.l0
    rw [if_neg (by omega), List.drop_eq_nil_of_le (by omega)]
    rfl
  | succ d ih =>
    intro k i x hi h0 h1
    rw [show k + (d + 1) + 1 = (k + d + 1) + 1 by omega]
    unfold sector_number.l0
    have hlt : i < l.length := by omega
    have hr := (bytesB_iff l).1 hb l[i] (List.getElem_mem hlt)
    rw [if_pos (by omega), if_pos (by omega), if_pos (by omega), rd_at l i hlt, List.drop_eq_getElem_cons hlt]
    have hx : x * 256 < 18446744073709551616 := by
      have h7 := Int.lt_of_lt_of_le h1 (p256 i (by omega))
      clear h1
      omega
    have hx' : x * 256 + l[i] < 256 ^ (i + 1) := by rw [Int.pow_succ]; omega
    rw [u64w _ (by omega) hx, u64w _ hr.1 (by omega), u64_or8' x _ h0 hx hr.1 hr.2, wrap_up i (by omega) (by omega)]
    have := ih k (i + 1) (x * 256 + l[i]) (by omega) (by omega) hx'
    rw [Int.natCast_add] at this
    rw [show ((i : Int) + 1) = (i : Int) + ((1 : Nat) : Int) from rfl, this]
    rfl
theorem snumber (l : List Int) (hb : bytesB l = true) (h8 : l.length ≤ 8) (k : Nat) (hk : l.length + 1 ≤ k) : sector_number.f k l = some (numN 0 l) := by
  unfold sector_number.f
  have := number_l0 l hb h8 l.length (k - l.length - 1) 0 0 (by omega) (by omega) (by simp)
  rw [show k - l.length - 1 + l.length + 1 = k by omega] at this
  exact this
theorem numN_range (l : List Int) (hb : bytesB l = true) : ∀ (x : Int) (n : Nat), 0 ≤ x → x < 256 ^ n → 0 ≤ numN x l ∧ numN x l < 256 ^ (n + l.length) := by
  induction l with
  | nil => intro x n h0 h1; exact ⟨h0, h1⟩
  | cons c l ih =>
    intro x n h0 h1
    have hb' := (bytesB_iff _).1 hb
    have hc := hb' c (by simp)
    have := ih ((bytesB_iff _).2 fun y hy => hb' y (by simp [hy])) (x * 256 + c) (n + 1) (by omega) (by rw [Int.pow_succ]; omega)
    rw [show n + (c :: l).length = n + 1 + l.length by simp; omega]
    exact this
theorem wrap64_id (x : Int) (h0 : -9223372036854775808 ≤ x) (h1 : x ≤ 9223372036854775807) : wrap64 x = x := by unfold wrap64; omega
theorem sector_Get_k (l : List Int) (hb : bytesB l = true) (hl : l.length ≤ 140737488355000) : sector_Get.f 200 l = some (getM l) := by
  unfold sector_Get.f getM
  by_cases h : l.length = 128
  · rw [if_pos (by omega), if_pos h]
    have hR : crc_Right.f l = some (rightB l) := by unfold crc_Right.f; rw [if_pos ⟨hb, hl⟩]
    rw [hR]
    simp only [Option.bind_some]
    by_cases hr : rightB l = true
    · rw [if_pos hr, if_pos hr, if_pos (by omega), if_pos (by omega)]
      have b0 : 0 ≤ rd l 0 ∧ rd l 0 < 256 := rd_range l hb 0 (by omega)
      have b1 : 0 ≤ rd l 1 ∧ rd l 1 < 256 := rd_range l hb 1 (by omega)
      have b2 : 0 ≤ rd l 2 ∧ rd l 2 < 256 := rd_range l hb 2 (by omega)
      have b3 : 0 ≤ rd l 3 ∧ rd l 3 < 256 := rd_range l hb 3 (by omega)
      obtain ⟨n, hn⟩ := Int.eq_ofNat_of_zero_le b3.1
      have bad : sector_Get.j0 200 l (wrap64 (rd l 3)) true = some (0, 0, 0, 0, 0, [], 11) := by
        unfold sector_Get.j0
        simp
      rw [bad]
      by_cases h1 : rd l 0 < 1
      · rw [if_pos h1, if_neg (by omega)]
      · rw [if_neg h1]
        by_cases h4 : rd l 0 > 4
        · rw [if_pos h4, if_neg (by omega)]
        · rw [if_neg h4, wrap64_id (rd l 3) (by omega) (by omega)]
          by_cases hn1 : rd l 3 > 108
          · rw [if_pos hn1, if_neg (by omega)]
          · rw [if_neg hn1, wrap64_id (16 + rd l 3) (by omega) (by omega), if_pos (by omega), if_pos (by omega), if_pos (by omega)]
            have ht : (16 + rd l 3).toNat = 16 + (rd l 3).toNat := by omega
            rw [ht, sclean _ (by simp; omega) 200 (by simp; omega)]
            simp only [Option.bind_some]
            by_cases hc : cleanB ((l.take 124).drop (16 + (rd l 3).toNat)) = true
            · rw [hc, if_pos ⟨by omega, by omega, by omega, rfl⟩]
              rw [show (200 : Nat) = 199 + 1 from rfl]
              simp only [sector_Get.j0]
              rw [wrap64_id (16 + rd l 3) (by omega) (by omega), ht]
              simp only [Bool.not_true, Bool.false_eq_true, if_false, Option.bind_some]
              have hlen : ((l.take (16 + (rd l 3).toNat)).drop 16).length = (rd l 3).toNat := by simp; omega
              rw [if_pos (by omega), if_pos (by omega), if_pos (by rw [hlen]; show 0 + _ < _; omega), if_pos (by omega), if_pos (by omega), if_pos (by omega), if_pos (by omega), if_pos (by omega)]
              rw [snumber ((l.take 12).drop 4) (bytesB_drop _ _ (bytesB_take _ _ hb)) (by simp; omega) 199 (by simp; omega)]
              simp only [Option.bind_some]
              rw [if_pos (by omega), if_pos (by omega), snumber ((l.take 16).drop 12) (bytesB_drop _ _ (bytesB_take _ _ hb)) (by simp; omega) 199 (by simp; omega)]
              simp only [Option.bind_some]
              have hr4 := numN_range ((l.take 16).drop 12) (bytesB_drop _ _ (bytesB_take _ _ hb)) 0 0 (by omega) (by omega)
              rw [show 0 + ((l.take 16).drop 12).length = 4 by simp; omega, show (256 : Int) ^ 4 = 4294967296 from rfl] at hr4
              rw [wrap64_id _ (by omega) (by omega), wrap64_id _ (by omega) (by omega), wrap64_id _ (by omega) (by omega), Int.emod_eq_of_lt hr4.1 hr4.2]
              rfl
            · rw [if_neg (fun hh => hc hh.2.2.2)]
              have hcf : cleanB ((l.take 124).drop (16 + (rd l 3).toNat)) = false := by simpa using hc
              rw [hcf]
              unfold sector_Get.j0
              simp
    · rw [if_neg hr, if_neg hr]
  · rw [if_neg (by omega), if_neg h]
/-- sector.Get. -/
def sector_Get.f (l : List Int) : Option (Int × Int × Int × Int × Int × List Int × Int) := if bytesB l = true ∧ l.length ≤ 140737488355000 then some (getM l) else none
theorem sector_Get.calls (A0 : Option Addr) (c0 : Nat) (l0 : List Int) (r1 : Int) (r2 : Int) (r3 : Int) (r4 : Int) (r5 : Int) (r6 : List Int) (r7 : Int) (w : World) (hr0 : Kd.C (Kd.int .u8) w A0 l0.length l0) (hc0 : l0.length ≤ c0) (h : Hm.sector_Get.f l0 = some (r1, r2, r3, r4, r5, r6, r7)) :
    Calls Try.prog 26 #[.slice A0 l0.length c0] w fun e w' => ∃ v5_ : Value, e = .returned (.tuple #[.agg #[.int .i64 r1, .int .i64 r2, .int .i64 r3, .int .u64 r4, .int .u32 r5, v5_], .int .i64 r7]) ∧ Kd.R (Kd.int .u8) 5 w' w.heap.size (fun _ => True) v5_ r6 ∧ Below w.heap.size w w' := by
  unfold Hm.sector_Get.f at h
  split at h
  · rename_i hc
    exact PSecGet.sector_Get.calls 200 A0 c0 l0 r1 r2 r3 r4 r5 r6 r7 w hr0 hc0 ((sector_Get_k l0 hc.1 hc.2).trans h)
  · simp at h
end Go.Proofs.Ytelhdgnolijpcaa.Hm
end
section
/- A frame and its bytes: what is put is got, what is got is put; plain lemmas, conditions: those that each names. -/
namespace Go.Proofs.Ytelhdgnolijpcaa.Hm
open Go.RowKit Go.Proofs.YtelhdgnolijpcaaW.PrintWords Go.Proofs.YtelhdgnolijpcaaW.PrintLast Go.Proofs.YtelhdgnolijpcaaW.PrintMore
set_option linter.unusedVariables false
set_option linter.unusedSimpArgs false

def putM (k i c : Int) (s a : Nat) (l : List Int) : List Int := frameL k i c s a l ++ be32 (crcM 0 (frameL k i c s a l))
theorem num_be64 (s : Nat) (h : s < 18446744073709551616) : numN 0 (be64 s) = s := by
  simp only [numN, be64, List.foldl_cons, List.foldl_nil]
  omega
theorem num_be4 (s : Nat) (h : s < 4294967296) : numN 0 (be4 s) = s := by
  simp only [numN, be4, List.foldl_cons, List.foldl_nil]
  omega
theorem cast_nat (x : Int) (n : Nat) (h : (n : Int) = x) : x.toNat = n := by omega
theorem be4_num (l : List Int) (hb : bytesB l = true) (h : l.length = 4) : be4 (numN 0 l).toNat = l := by
  have hb' := (bytesB_iff _).1 hb
  match l, h with
  | [a, b, c, d], _ =>
    have ha := hb' a (by simp)
    have hbb := hb' b (by simp)
    have hc := hb' c (by simp)
    have hd := hb' d (by simp)
    obtain ⟨a, rfl⟩ := Int.eq_ofNat_of_zero_le ha.1
    obtain ⟨b, rfl⟩ := Int.eq_ofNat_of_zero_le hbb.1
    obtain ⟨c, rfl⟩ := Int.eq_ofNat_of_zero_le hc.1
    obtain ⟨d, rfl⟩ := Int.eq_ofNat_of_zero_le hd.1
    have e : (numN 0 [(a : Int), (b : Int), (c : Int), (d : Int)]).toNat = ((a * 256 + b) * 256 + c) * 256 + d := by
      simp only [numN, List.foldl_cons, List.foldl_nil]; omega
    rw [e]
    simp only [be4, List.cons.injEq, and_true]
    refine ⟨?_, ?_, ?_, ?_⟩ <;> omega
theorem be64_num (l : List Int) (hb : bytesB l = true) (h : l.length = 8) : be64 (numN 0 l).toNat = l := by
  have hb' := (bytesB_iff _).1 hb
  match l, h with
  | [a, b, c, d, e, f, g, h], _ =>
    have ha := hb' a (by simp)
    have hbb := hb' b (by simp)
    have hc := hb' c (by simp)
    have hd := hb' d (by simp)
    have he := hb' e (by simp)
    have hf := hb' f (by simp)
    have hg := hb' g (by simp)
    have hh := hb' h (by simp)
    clear hb hb'
    obtain ⟨a, rfl⟩ := Int.eq_ofNat_of_zero_le ha.1
    obtain ⟨b, rfl⟩ := Int.eq_ofNat_of_zero_le hbb.1
    obtain ⟨c, rfl⟩ := Int.eq_ofNat_of_zero_le hc.1
    obtain ⟨d, rfl⟩ := Int.eq_ofNat_of_zero_le hd.1
    obtain ⟨e, rfl⟩ := Int.eq_ofNat_of_zero_le he.1
    obtain ⟨f, rfl⟩ := Int.eq_ofNat_of_zero_le hf.1
    obtain ⟨g, rfl⟩ := Int.eq_ofNat_of_zero_le hg.1
    obtain ⟨h, rfl⟩ := Int.eq_ofNat_of_zero_le hh.1
    have e : (numN 0 [(a : Int), (b : Int), (c : Int), (d : Int), (e : Int), (f : Int), (g : Int), (h : Int)]).toNat = ((((((a * 256 + b) * 256 + c) * 256 + d) * 256 + e) * 256 + f) * 256 + g) * 256 + h := by
      simp only [numN, List.foldl_cons, List.foldl_nil]; omega
    rw [e]
    simp only [be64, List.cons.injEq, and_true]
    refine ⟨?_, ?_, ?_, ?_, ?_, ?_, ?_, ?_⟩ <;> omega
theorem frameL_length (k i c : Int) (s a : Nat) (l : List Int) (h : l.length ≤ 108) : (frameL k i c s a l).length = 124 := by
  simp [frameL, be64, be4]; omega
theorem putM_length (k i c : Int) (s a : Nat) (l : List Int) (h : l.length ≤ 108) : (putM k i c s a l).length = 128 := by
  unfold putM
  rw [List.length_append, frameL_length _ _ _ _ _ _ h]
  rfl
theorem frameOk_iff (k i c : Int) (n : Nat) : frameOk k i c n = true ↔ 1 ≤ k ∧ k ≤ 4 ∧ 0 ≤ i ∧ i ≤ 255 ∧ 0 ≤ c ∧ c ≤ 255 ∧ n ≤ 108 := by
  simp [frameOk, bytefulB]; omega
theorem putM_cons (k i c : Int) (s a : Nat) (l : List Int) : ∃ r, putM k i c s a l = k :: i :: c :: (l.length : Int) :: (be64 s ++ (be4 a ++ (l ++ (List.replicate (108 - l.length) 0 ++ r)))) ∧ r.length = 4 := by
  refine ⟨be32 (crcM 0 (frameL k i c s a l)), ?_, rfl⟩
  unfold putM
  conv => lhs; lhs; unfold frameL
  simp only [List.append_assoc, List.cons_append, List.nil_append]
theorem drop_app (a b : List Int) (n : Nat) (h : a.length = n) : (a ++ b).drop n = b := by rw [← h]; simp
theorem take_app (a b : List Int) (n : Nat) (h : a.length = n) : (a ++ b).take n = a := by rw [← h]; simp
theorem cut_app (a b c : List Int) (m n : Nat) (h : a.length = m) (h2 : m + b.length = n) : ((a ++ (b ++ c)).take n).drop m = b := by
  rw [← List.append_assoc, take_app _ _ _ (by simp; omega), drop_app _ _ _ h]
theorem get_put (k i c : Int) (s a : Nat) (l : List Int) (hf : frameOk k i c l.length = true) (hs : s < 18446744073709551616) (ha : a < 4294967296) :
    getM (putM k i c s a l) = (k, i, c, (s : Int), (a : Int), l, 0) := by
  have hF := (frameOk_iff _ _ _ _).1 hf
  obtain ⟨h1, h2, h3, h4, h5, h6, h7⟩ := hF
  have hR : rightB (putM k i c s a l) = true := right_sealed _
  unfold getM
  rw [if_pos (putM_length _ _ _ _ _ _ h7), if_pos hR]
  obtain ⟨r, hr, hrl⟩ := putM_cons k i c s a l
  have r0 : rd (putM k i c s a l) 0 = k := by rw [hr]; rfl
  have r1 : rd (putM k i c s a l) 1 = i := by rw [hr]; rfl
  have r2 : rd (putM k i c s a l) 2 = c := by rw [hr]; rfl
  have r3 : rd (putM k i c s a l) 3 = (l.length : Int) := by rw [hr]; rfl
  have c1 : ((putM k i c s a l).take 12).drop 4 = be64 s := by
    rw [hr]; exact cut_app [k, i, c, (l.length : Int)] (be64 s) _ 4 12 rfl rfl
  have c2 : ((putM k i c s a l).take 16).drop 12 = be4 a := by
    rw [hr]; exact cut_app (k :: i :: c :: (l.length : Int) :: be64 s) (be4 a) _ 12 16 rfl rfl
  have c3 : ((putM k i c s a l).take (16 + l.length)).drop 16 = l := by
    rw [hr]; exact cut_app (k :: i :: c :: (l.length : Int) :: (be64 s ++ be4 a)) l _ 16 _ rfl rfl
  have c4 : ((putM k i c s a l).take 124).drop (16 + l.length) = List.replicate (108 - l.length) 0 := by
    rw [hr]
    have := cut_app (k :: i :: c :: (l.length : Int) :: (be64 s ++ (be4 a ++ l))) (List.replicate (108 - l.length) 0) r (16 + l.length) 124 (by simp [be64, be4]; omega) (by simp; omega)
    simpa using this
  rw [r0, r1, r2, r3, Int.toNat_natCast, c1, c2, c3, c4, num_be64 s hs, num_be4 a ha, if_pos ⟨h1, h2, by omega, by simp [cleanB]⟩]
theorem clean_zeros (l : List Int) (h : cleanB l = true) : l = List.replicate l.length 0 := by
  rw [List.eq_replicate_iff]
  refine ⟨rfl, fun x hx => ?_⟩
  have := List.all_eq_true.1 h x hx
  simpa using this
theorem put_get (l : List Int) (hb : bytesB l = true) (k i c s a : Int) (b : List Int) (h : getM l = (k, i, c, s, a, b, 0)) :
    frameOk k i c b.length = true ∧ 0 ≤ s ∧ s < 18446744073709551616 ∧ 0 ≤ a ∧ a < 4294967296 ∧ bytesB b = true ∧ putM k i c s.toNat a.toNat b = l := by
  unfold getM at h
  split at h
  · rename_i hlen
    split at h
    · rename_i hr
      split at h
      · rename_i hc
        obtain ⟨hk1, hk4, hn, hcl⟩ := hc
        simp only [Prod.mk.injEq] at h
        obtain ⟨rfl, rfl, rfl, rfl, rfl, rfl, _⟩ := h
        have b1 : 0 ≤ rd l 1 ∧ rd l 1 < 256 := rd_range l hb 1 (by omega)
        have b2 : 0 ≤ rd l 2 ∧ rd l 2 < 256 := rd_range l hb 2 (by omega)
        have b3 : 0 ≤ rd l 3 ∧ rd l 3 < 256 := rd_range l hb 3 (by omega)
        have e1 := numN_range ((l.take 12).drop 4) (bytesB_drop _ _ (bytesB_take _ _ hb)) 0 0 (by omega) (by omega)
        have e2 := numN_range ((l.take 16).drop 12) (bytesB_drop _ _ (bytesB_take _ _ hb)) 0 0 (by omega) (by omega)
        rw [show 0 + ((l.take 12).drop 4).length = 8 by simp; omega, show (256 : Int) ^ 8 = 18446744073709551616 from rfl] at e1
        rw [show 0 + ((l.take 16).drop 12).length = 4 by simp; omega, show (256 : Int) ^ 4 = 4294967296 from rfl] at e2
        obtain ⟨n, hn0⟩ := Int.eq_ofNat_of_zero_le b3.1
        rw [hn0, Int.toNat_natCast] at hcl ⊢
        have hbl : ((l.take (16 + n)).drop 16).length = n := by simp; omega
        refine ⟨(frameOk_iff _ _ _ _).2 ⟨hk1, hk4, b1.1, by omega, b2.1, by omega, by rw [hbl]; omega⟩, e1.1, e1.2, e2.1, e2.2, bytesB_drop _ _ (bytesB_take _ _ hb), ?_⟩
        have hfr : frameL (rd l 0) (rd l 1) (rd l 2) (numN 0 ((l.take 12).drop 4)).toNat (numN 0 ((l.take 16).drop 12)).toNat ((l.take (16 + n)).drop 16) = l.take 124 := by
          unfold frameL
          rw [be64_num _ (bytesB_drop _ _ (bytesB_take _ _ hb)) (by simp; omega), be4_num _ (bytesB_drop _ _ (bytesB_take _ _ hb)) (by simp; omega), hbl, ← hn0]
          have hz := clean_zeros _ hcl
          rw [show ((l.take 124).drop (16 + n)).length = 108 - n by simp; omega] at hz
          rw [← hz]
          have hd : ∀ p q : Nat, p ≤ q → l.take p ++ (l.take q).drop p = l.take q := by
            intro p q hpq
            have : l.take p = (l.take q).take p := by rw [List.take_take, Nat.min_eq_left hpq]
            rw [this, List.take_append_drop]
          have h4 : [rd l 0, rd l 1, rd l 2, rd l 3] = l.take 4 := by
            match l, hlen with
            | a :: b :: c :: d :: l', _ => rfl
          rw [h4, hd 4 12 (by omega), hd 12 16 (by omega), hd 16 (16 + n) (by omega), hd (16 + n) 124 (by omega)]
        unfold putM
        rw [hfr]
        unfold rightB at hr
        simp only [Bool.and_eq_true, decide_eq_true_eq] at hr
        rw [hlen] at hr
        exact hr.2
      · simp only [Prod.mk.injEq] at h; omega
    · simp only [Prod.mk.injEq] at h; omega
  · simp only [Prod.mk.injEq] at h; omega
/-- What getM tells when it does not tell a frame. -/
theorem get_bad (l : List Int) (k i c s a e : Int) (b : List Int) (h : getM l = (k, i, c, s, a, b, e)) (he : e ≠ 0) : k = 0 ∧ i = 0 ∧ c = 0 ∧ s = 0 ∧ a = 0 ∧ b = [] := by
  unfold getM at h
  repeat' split at h
  all_goals simp only [Prod.mk.injEq] at h
  · exact absurd h.2.2.2.2.2.2.symm he
  all_goals (obtain ⟨rfl, rfl, rfl, rfl, rfl, rfl, _⟩ := h; exact ⟨rfl, rfl, rfl, rfl, rfl, rfl⟩)
end Go.Proofs.Ytelhdgnolijpcaa.Hm
end
section
/- What sector.Put and sector.Get tell, put together: short lemmas for the laws; conditions: those that each names. -/
namespace Go.Proofs.Ytelhdgnolijpcaa.Hm
open Go.RowKit Go.Proofs.YtelhdgnolijpcaaW.PrintWords Go.Proofs.YtelhdgnolijpcaaW.PrintLast Go.Proofs.YtelhdgnolijpcaaW.PrintMore
set_option linter.unusedVariables false
set_option linter.unusedSimpArgs false

theorem put_f (k i c : Int) (s a : Nat) (l : List Int) (hs : s < 18446744073709551616) (ha : a < 4294967296) (hb : bytesB l = true) :
    sector_Put.f k i c (s : Int) (a : Int) l = some (if frameOk k i c l.length = true then (putM k i c s a l, 0) else ([], 1)) := by
  unfold sector_Put.f
  rw [if_pos ⟨by omega, by omega, by omega, by omega, hb⟩]
  rfl
theorem putM_bytes (k i c : Int) (s a : Nat) (l : List Int) (hf : frameOk k i c l.length = true) (hb : bytesB l = true) : bytesB (putM k i c s a l) = true := by
  obtain ⟨h1, h2, h3, h4, h5, h6, h7⟩ := (frameOk_iff _ _ _ _).1 hf
  have hfb := frameL_bytes k i c s a l (by omega) (by omega) h3 h4 h5 h6 h7 hb
  have hcr := crcM_range 0 _ (by omega) (by omega) ((bytesB_iff _).1 hfb)
  unfold putM
  rw [bytesB_append, hfb, bytesB_be32 _ hcr.1 hcr.2]
  rfl
theorem get_f (l : List Int) (hb : bytesB l = true) (hl : l.length ≤ 140737488355000) : sector_Get.f l = some (getM l) := by
  unfold sector_Get.f
  rw [if_pos ⟨hb, hl⟩]
theorem get_putf (k i c : Int) (s a : Nat) (l : List Int) (hf : frameOk k i c l.length = true) (hs : s < 18446744073709551616) (ha : a < 4294967296) (hb : bytesB l = true) :
    sector_Get.f (putM k i c s a l) = some (k, i, c, (s : Int), (a : Int), l, 0) := by
  obtain ⟨h1, h2, h3, h4, h5, h6, h7⟩ := (frameOk_iff _ _ _ _).1 hf
  rw [get_f _ (putM_bytes k i c s a l hf hb) (by rw [putM_length _ _ _ _ _ _ h7]; omega), get_put k i c s a l hf hs ha]
theorem putM_inj (k i c : Int) (s a : Nat) (l : List Int) (k' i' c' : Int) (s' a' : Nat) (l' : List Int) (hf : frameOk k i c l.length = true) (hf' : frameOk k' i' c' l'.length = true) (hs : s < 18446744073709551616) (ha : a < 4294967296)
    (hs' : s' < 18446744073709551616) (ha' : a' < 4294967296) (h : putM k i c s a l = putM k' i' c' s' a' l') : k = k' ∧ i = i' ∧ c = c' ∧ s = s' ∧ a = a' ∧ l = l' := by
  have h1 := get_put k i c s a l hf hs ha
  rw [h, get_put k' i' c' s' a' l' hf' hs' ha'] at h1
  simp only [Prod.mk.injEq] at h1
  refine ⟨h1.1.symm, h1.2.1.symm, h1.2.2.1.symm, by omega, by omega, h1.2.2.2.2.2.1.symm⟩
end Go.Proofs.Ytelhdgnolijpcaa.Hm
end
section
/- Go functions as plain Lean functions of numbers and lists, and proofs that their calls come to what these compute; conditions: those that each theorem names. (Written by a program of this session: the print, turned so that it takes contracts proved by hand.) -/
namespace Go.Proofs.Ytelhdgnolijpcaa.PAwk04
open Go.RowKit Go.Proofs.YtelhdgnolijpcaaW.PrintWords Go.Proofs.YtelhdgnolijpcaaW.PrintLast Go.Proofs.YtelhdgnolijpcaaW.PrintMore
attribute [local go_sem] max2_int min2_int max_two min_two max_three min_three max_four min_four   -- for this text's walks alone
set_option linter.unusedVariables false
set_option linter.unusedSimpArgs false



def errW : Option Int → Value
  | none => .nilIface
  | some c => .iface 0 (.int .i64 c)
theorem errW_none : errW none = .nilIface := rfl
theorem errW_some (c : Int) : errW (some c) = .iface 0 (.int .i64 c) := rfl

-- the values' own types
def rd_L4 (xs : List (List Int)) (i : Int) : (List Int) := xs.getD i.toNat ([] : List Int)
theorem at_L4 {w : World} {A : Option Addr} {n : Nat} {xs : List (List Int)} (h : Kd.C (Kd.slice 5 (Kd.int .u8)) w A n xs) (i : Int) (h0 : 0 ≤ i) (h1 : i < n) : ∃ ad A0 c0, A = some ad ∧ w.cell? (ad.add i.toNat) = some (.slice A0 (rd_L4 xs i).length c0) ∧ (rd_L4 xs i).length ≤ c0 ∧ (Kd.int .u8).C w A0 (rd_L4 xs i).length (rd_L4 xs i) := by
  obtain ⟨ad, c, e, _, hK, hc0⟩ := Kd.C_get h ([] : List Int) i h0 h1
  have hc : ∀ j u, c[j]? = some u → w.cell? (ad.add (i.toNat * 1 + j)) = some u := hc0
  obtain ⟨A0, c0, rfl, l0, g0⟩ := hK
  exact ⟨ad, A0, c0, e, by have hq := hc 0 _ rfl; rwa [Nat.mul_one, Nat.add_zero] at hq, l0, g0⟩

/-! #### struct type 42 -/
structure S42 where
  f0 : Int
  f1 : Int
  f2 : Int
  f3 : Int
  f4 : Int
  f5 : (List Int)
def z42 : S42 := ⟨(0 : Int), (0 : Int), (0 : Int), (0 : Int), (0 : Int), ([] : List Int)⟩
def k42 : Kd S42 := Kd.iso (Kd.pair (Kd.int .i64) (Kd.pair (Kd.int .i64) (Kd.pair (Kd.int .i64) (Kd.pair (Kd.int .u64) (Kd.pair (Kd.int .u32) (Kd.slice 5 (Kd.int .u8))))))) (fun x : S42 => (x.f0, x.f1, x.f2, x.f3, x.f4, x.f5))
theorem k42_open {w : World} {x : S42} {cs : List Value} (h : k42.K w x cs) : ∃ A5 c5, cs = [.int .i64 x.f0, .int .i64 x.f1, .int .i64 x.f2, .int .u64 x.f3, .int .u32 x.f4, .slice A5 x.f5.length c5] ∧ x.f5.length ≤ c5 ∧ (Kd.int .u8).C w A5 x.f5.length x.f5 := by
  obtain ⟨_, _, rfl, rfl, ⟨_, _, rfl, rfl, ⟨_, _, rfl, rfl, ⟨_, _, rfl, rfl, ⟨_, _, rfl, rfl, ⟨A5, c5, rfl, l5, g5⟩⟩⟩⟩⟩⟩ := h
  exact ⟨A5, c5, rfl, l5, g5⟩
theorem k42_openM {w : World} {base : Nat} {ok : Nat → Prop} {x : S42} {cs : List Value} (h : k42.M w base ok x cs) : ∃ v5, cs = [.int .i64 x.f0, .int .i64 x.f1, .int .i64 x.f2, .int .u64 x.f3, .int .u32 x.f4, v5] ∧ (Kd.int .u8).R 5 w base ok v5 x.f5 := by
  obtain ⟨_, _, rfl, rfl, ⟨_, _, rfl, rfl, ⟨_, _, rfl, rfl, ⟨_, _, rfl, rfl, ⟨_, _, rfl, rfl, ⟨v5, rfl, g5⟩⟩⟩⟩⟩⟩ := h
  exact ⟨v5, rfl, g5⟩
theorem k42_mk (w : World) (x : S42) {A5 : Option Addr} {c5 : Nat} (l5 : x.f5.length ≤ c5) (g5 : (Kd.int .u8).C w A5 x.f5.length x.f5) : k42.K w x [.int .i64 x.f0, .int .i64 x.f1, .int .i64 x.f2, .int .u64 x.f3, .int .u32 x.f4, .slice A5 x.f5.length c5] := ⟨[.int .i64 x.f0], [.int .i64 x.f1, .int .i64 x.f2, .int .u64 x.f3, .int .u32 x.f4, .slice A5 x.f5.length c5], rfl, rfl, ⟨[.int .i64 x.f1], [.int .i64 x.f2, .int .u64 x.f3, .int .u32 x.f4, .slice A5 x.f5.length c5], rfl, rfl, ⟨[.int .i64 x.f2], [.int .u64 x.f3, .int .u32 x.f4, .slice A5 x.f5.length c5], rfl, rfl, ⟨[.int .u64 x.f3], [.int .u32 x.f4, .slice A5 x.f5.length c5], rfl, rfl, ⟨[.int .u32 x.f4], [.slice A5 x.f5.length c5], rfl, rfl, ⟨A5, c5, rfl, l5, g5⟩⟩⟩⟩⟩⟩
theorem k42_mkM (w : World) (base : Nat) (ok : Nat → Prop) (x : S42) {v5 : Value} (g5 : (Kd.int .u8).R 5 w base ok v5 x.f5) : k42.M w base ok x [.int .i64 x.f0, .int .i64 x.f1, .int .i64 x.f2, .int .u64 x.f3, .int .u32 x.f4, v5] := ⟨[.int .i64 x.f0], [.int .i64 x.f1, .int .i64 x.f2, .int .u64 x.f3, .int .u32 x.f4, v5], rfl, rfl, ⟨[.int .i64 x.f1], [.int .i64 x.f2, .int .u64 x.f3, .int .u32 x.f4, v5], rfl, rfl, ⟨[.int .i64 x.f2], [.int .u64 x.f3, .int .u32 x.f4, v5], rfl, rfl, ⟨[.int .u64 x.f3], [.int .u32 x.f4, v5], rfl, rfl, ⟨[.int .u32 x.f4], [v5], rfl, rfl, ⟨v5, rfl, g5⟩⟩⟩⟩⟩⟩
def rd_T42 (xs : List S42) (i : Int) : S42 := xs.getD i.toNat z42
theorem at_T42 {w : World} {A : Option Addr} {n : Nat} {xs : List S42} (h : Kd.C k42 w A n xs) (i : Int) (h0 : 0 ≤ i) (h1 : i < n) : ∃ ad A5 c5, A = some ad ∧ w.cell? (ad.add (i.toNat * 6)) = some (.int .i64 (rd_T42 xs i).f0) ∧ w.cell? ⟨(ad.add (i.toNat * 6)).block, (ad.add (i.toNat * 6)).off + 1, none⟩ = some (.int .i64 (rd_T42 xs i).f1) ∧ w.cell? ⟨(ad.add (i.toNat * 6)).block, (ad.add (i.toNat * 6)).off + 2, none⟩ = some (.int .i64 (rd_T42 xs i).f2) ∧ w.cell? ⟨(ad.add (i.toNat * 6)).block, (ad.add (i.toNat * 6)).off + 3, none⟩ = some (.int .u64 (rd_T42 xs i).f3) ∧ w.cell? ⟨(ad.add (i.toNat * 6)).block, (ad.add (i.toNat * 6)).off + 4, none⟩ = some (.int .u32 (rd_T42 xs i).f4) ∧ w.cell? ⟨(ad.add (i.toNat * 6)).block, (ad.add (i.toNat * 6)).off + 5, none⟩ = some (.slice A5 (rd_T42 xs i).f5.length c5) ∧ (rd_T42 xs i).f5.length ≤ c5 ∧ (Kd.int .u8).C w A5 (rd_T42 xs i).f5.length (rd_T42 xs i).f5 := by
  obtain ⟨ad, c, e, _, hK, hc0⟩ := Kd.C_get h z42 i h0 h1
  have hc : ∀ j u, c[j]? = some u → w.cell? (ad.add (i.toNat * 6 + j)) = some u := hc0
  obtain ⟨A5, c5, rfl, l5, g5⟩ := k42_open hK
  exact ⟨ad, A5, c5, e, hc 0 _ rfl, by rw [← add_field _ _ 1 (by omega)]; exact hc 1 _ rfl, by rw [← add_field _ _ 2 (by omega)]; exact hc 2 _ rfl, by rw [← add_field _ _ 3 (by omega)]; exact hc 3 _ rfl, by rw [← add_field _ _ 4 (by omega)]; exact hc 4 _ rfl, by rw [← add_field _ _ 5 (by omega)]; exact hc 5 _ rfl, l5, g5⟩

end Go.Proofs.Ytelhdgnolijpcaa.PAwk04
end
section
/- Go functions as plain Lean functions of numbers and lists, and proofs that their calls come to what these compute; conditions: those that each theorem names. (Written by a program of this session: the print, turned so that it takes contracts proved by hand.) -/
namespace Go.Proofs.Ytelhdgnolijpcaa.PAwk04
open Go.RowKit Go.Proofs.YtelhdgnolijpcaaW.PrintWords Go.Proofs.YtelhdgnolijpcaaW.PrintLast Go.Proofs.YtelhdgnolijpcaaW.PrintMore
attribute [local go_sem] max2_int min2_int max_two min_two max_three min_three max_four min_four   -- for this text's walks alone
set_option linter.unusedVariables false
set_option linter.unusedSimpArgs false

-- GIVEN: function 23 (sector_Put): Hm.sector_Put

-- GIVEN: function 26 (sector_Get): Hm.sector_Get

/-! ### removalistlaw04_awake: function 22 -/
def removalistlaw04_awake.f  : Option (Bool) := (Hm.sector_Put.f 1 0 0 2 3 (([97, 98] : List Int))).bind fun bt104 => ((Hm.sector_Get.f bt104.1).bind fun bt108 => (if bt104.2 = 0 then (if (bt104.1.length : Int) = 128 then (if 0 < (bt104.1.length : Int) then (if (rd bt104.1 0) = 1 then (if 3 < (bt104.1.length : Int) then (if (rd bt104.1 3) = 2 then (if 11 < (bt104.1.length : Int) then (if (rd bt104.1 11) = 2 then (if 15 < (bt104.1.length : Int) then (if (rd bt104.1 15) = 3 then (if 16 < (bt104.1.length : Int) then (if (rd bt104.1 16) = 97 then (if 18 < (bt104.1.length : Int) then (if (rd bt104.1 18) = 0 then (if bt108.2.2.2.2.2.2 = 0 then (if bt108.2.2.2.1 = 2 then (if bt108.2.2.2.2.1 = 3 then (if (strOfNums bt108.2.2.2.2.2.1).toList = ([97, 98] : List UInt8) then (some true) else (some false)) else (some false)) else (some false)) else (some false)) else (some false)) else (none)) else (some false)) else (none)) else (some false)) else (none)) else (some false)) else (none)) else (some false)) else (none)) else (some false)) else (none)) else (some false)) else (some false)))
set_option maxHeartbeats 8000000 in
set_option maxRecDepth 100000 in
theorem removalistlaw04_awake.calls  (w : World) (h : removalistlaw04_awake.f  = some true) :
    Calls Try.prog 22 #[] w fun e w' => e = .returned (.bool true) ∧ Below w.heap.size w w' := by
  have hu42 := Try.underlying42
  have HB := Aside0.mk (Below.refl w.heap.size w)
  have H : ((Hm.sector_Put.f 1 0 0 2 3 (([97, 98] : List Int))).bind fun bt104 => ((Hm.sector_Get.f bt104.1).bind fun bt108 => (if bt104.2 = 0 then (if (bt104.1.length : Int) = 128 then (if 0 < (bt104.1.length : Int) then (if (rd bt104.1 0) = 1 then (if 3 < (bt104.1.length : Int) then (if (rd bt104.1 3) = 2 then (if 11 < (bt104.1.length : Int) then (if (rd bt104.1 11) = 2 then (if 15 < (bt104.1.length : Int) then (if (rd bt104.1 15) = 3 then (if 16 < (bt104.1.length : Int) then (if (rd bt104.1 16) = 97 then (if 18 < (bt104.1.length : Int) then (if (rd bt104.1 18) = 0 then (if bt108.2.2.2.2.2.2 = 0 then (if bt108.2.2.2.1 = 2 then (if bt108.2.2.2.2.1 = 3 then (if (strOfNums bt108.2.2.2.2.2.1).toList = ([97, 98] : List UInt8) then (some true) else (some false)) else (some false)) else (some false)) else (some false)) else (some false)) else (none)) else (some false)) else (none)) else (some false)) else (none)) else (some false)) else (none)) else (some false)) else (none)) else (some false)) else (none)) else (some false)) else (some false)))) = some true := h
  clear h
  obtain ⟨y101, hy101⟩ : ∃ y_ : List Int, y_ = (([97, 98] : List Int)) := ⟨_, rfl⟩
  replace H : ((Hm.sector_Put.f 1 0 0 2 3 y101).bind fun bt104 => ((Hm.sector_Get.f bt104.1).bind fun bt108 => (if bt104.2 = 0 then (if (bt104.1.length : Int) = 128 then (if 0 < (bt104.1.length : Int) then (if (rd bt104.1 0) = 1 then (if 3 < (bt104.1.length : Int) then (if (rd bt104.1 3) = 2 then (if 11 < (bt104.1.length : Int) then (if (rd bt104.1 11) = 2 then (if 15 < (bt104.1.length : Int) then (if (rd bt104.1 15) = 3 then (if 16 < (bt104.1.length : Int) then (if (rd bt104.1 16) = 97 then (if 18 < (bt104.1.length : Int) then (if (rd bt104.1 18) = 0 then (if bt108.2.2.2.2.2.2 = 0 then (if bt108.2.2.2.1 = 2 then (if bt108.2.2.2.2.1 = 3 then (if (strOfNums bt108.2.2.2.2.2.1).toList = ([97, 98] : List UInt8) then (some true) else (some false)) else (some false)) else (some false)) else (some false)) else (some false)) else (none)) else (some false)) else (none)) else (some false)) else (none)) else (some false)) else (none)) else (some false)) else (none)) else (some false)) else (none)) else (some false)) else (some false)))) = some true := by first | (rw [hy101]; with_reducible exact H) | (have H2_ := (Option.bind_some _ _).symm.trans H; rw [hy101]; with_reducible exact H2_) | (have H2_ := (Option.bind_some _ _).symm.trans H; with_reducible exact H2_) | with_reducible exact H | (rw [hy101]; exact H) | exact H
  have Ny101 := Aside0.mk hy101
  clear hy101
  replace H := Option.bind_eq_some_iff.mp H
  obtain ⟨⟨t104, t107⟩, A10, H⟩ := H
  replace H : ((Hm.sector_Get.f t104).bind fun bt108 => (if t107 = 0 then (if (t104.length : Int) = 128 then (if 0 < (t104.length : Int) then (if (rd t104 0) = 1 then (if 3 < (t104.length : Int) then (if (rd t104 3) = 2 then (if 11 < (t104.length : Int) then (if (rd t104 11) = 2 then (if 15 < (t104.length : Int) then (if (rd t104 15) = 3 then (if 16 < (t104.length : Int) then (if (rd t104 16) = 97 then (if 18 < (t104.length : Int) then (if (rd t104 18) = 0 then (if bt108.2.2.2.2.2.2 = 0 then (if bt108.2.2.2.1 = 2 then (if bt108.2.2.2.2.1 = 3 then (if (strOfNums bt108.2.2.2.2.2.1).toList = ([97, 98] : List UInt8) then (some true) else (some false)) else (some false)) else (some false)) else (some false)) else (some false)) else (none)) else (some false)) else (none)) else (some false)) else (none)) else (some false)) else (none)) else (some false)) else (none)) else (some false)) else (none)) else (some false)) else (some false))) = some true := H
  have A1 := Aside0.mk A10
  clear A10
  replace H := Option.bind_eq_some_iff.mp H
  obtain ⟨⟨t108, t109, t110, t111, t112, t113, t116⟩, A20, H⟩ := H
  replace H : (if t107 = 0 then (if (t104.length : Int) = 128 then (if 0 < (t104.length : Int) then (if (rd t104 0) = 1 then (if 3 < (t104.length : Int) then (if (rd t104 3) = 2 then (if 11 < (t104.length : Int) then (if (rd t104 11) = 2 then (if 15 < (t104.length : Int) then (if (rd t104 15) = 3 then (if 16 < (t104.length : Int) then (if (rd t104 16) = 97 then (if 18 < (t104.length : Int) then (if (rd t104 18) = 0 then (if t116 = 0 then (if t111 = 2 then (if t112 = 3 then (if (strOfNums t113).toList = ([97, 98] : List UInt8) then (some true) else (some false)) else (some false)) else (some false)) else (some false)) else (some false)) else (none)) else (some false)) else (none)) else (some false)) else (none)) else (some false)) else (none)) else (some false)) else (none)) else (some false)) else (none)) else (some false)) else (some false)) = some true := H
  have A2 := Aside0.mk A20
  clear A20
  by_cases c3 : t107 = 0
  · rw [if_pos c3] at H
    have c3b0 : (t107 == 0) = true := beq_iff_eq.mpr c3
    have c3b1 : (t107 != 0) = false := bne_eq_false_iff_eq.mpr c3
    clear c3
    by_cases c4 : (t104.length : Int) = 128
    · rw [if_pos c4] at H
      have c4b0 : ((t104.length : Int) == 128) = true := beq_iff_eq.mpr c4
      have c4b1 : ((t104.length : Int) != 128) = false := bne_eq_false_iff_eq.mpr c4
      clear c4
      by_cases c5 : 0 < (t104.length : Int)
      · rw [if_pos c5] at H
        have c5b0 : decide (0 < (t104.length : Int)) = true := decide_eq_true c5
        have c5b1 : decide (0 < t104.length) = true := decide_eq_true (by omega)
        clear c5
        by_cases c6 : (rd t104 0) = 1
        · rw [if_pos c6] at H
          have c6b0 : ((rd t104 0) == 1) = true := beq_iff_eq.mpr c6
          have c6b1 : ((rd t104 0) != 1) = false := bne_eq_false_iff_eq.mpr c6
          clear c6
          by_cases c7 : 3 < (t104.length : Int)
          · rw [if_pos c7] at H
            have c7b0 : decide (3 < (t104.length : Int)) = true := decide_eq_true c7
            have c7b1 : decide (3 < t104.length) = true := decide_eq_true (by omega)
            clear c7
            by_cases c8 : (rd t104 3) = 2
            · rw [if_pos c8] at H
              have c8b0 : ((rd t104 3) == 2) = true := beq_iff_eq.mpr c8
              have c8b1 : ((rd t104 3) != 2) = false := bne_eq_false_iff_eq.mpr c8
              clear c8
              by_cases c9 : 11 < (t104.length : Int)
              · rw [if_pos c9] at H
                have c9b0 : decide (11 < (t104.length : Int)) = true := decide_eq_true c9
                have c9b1 : decide (11 < t104.length) = true := decide_eq_true (by omega)
                clear c9
                by_cases c10 : (rd t104 11) = 2
                · rw [if_pos c10] at H
                  have c10b0 : ((rd t104 11) == 2) = true := beq_iff_eq.mpr c10
                  have c10b1 : ((rd t104 11) != 2) = false := bne_eq_false_iff_eq.mpr c10
                  clear c10
                  by_cases c11 : 15 < (t104.length : Int)
                  · rw [if_pos c11] at H
                    have c11b0 : decide (15 < (t104.length : Int)) = true := decide_eq_true c11
                    have c11b1 : decide (15 < t104.length) = true := decide_eq_true (by omega)
                    clear c11
                    by_cases c12 : (rd t104 15) = 3
                    · rw [if_pos c12] at H
                      have c12b0 : ((rd t104 15) == 3) = true := beq_iff_eq.mpr c12
                      have c12b1 : ((rd t104 15) != 3) = false := bne_eq_false_iff_eq.mpr c12
                      clear c12
                      by_cases c13 : 16 < (t104.length : Int)
                      · rw [if_pos c13] at H
                        have c13b0 : decide (16 < (t104.length : Int)) = true := decide_eq_true c13
                        have c13b1 : decide (16 < t104.length) = true := decide_eq_true (by omega)
                        clear c13
                        by_cases c14 : (rd t104 16) = 97
                        · rw [if_pos c14] at H
                          have c14b0 : ((rd t104 16) == 97) = true := beq_iff_eq.mpr c14
                          have c14b1 : ((rd t104 16) != 97) = false := bne_eq_false_iff_eq.mpr c14
                          clear c14
                          by_cases c15 : 18 < (t104.length : Int)
                          · rw [if_pos c15] at H
                            have c15b0 : decide (18 < (t104.length : Int)) = true := decide_eq_true c15
                            have c15b1 : decide (18 < t104.length) = true := decide_eq_true (by omega)
                            clear c15
                            by_cases c16 : (rd t104 18) = 0
                            · rw [if_pos c16] at H
                              have c16b0 : ((rd t104 18) == 0) = true := beq_iff_eq.mpr c16
                              have c16b1 : ((rd t104 18) != 0) = false := bne_eq_false_iff_eq.mpr c16
                              clear c16
                              by_cases c17 : t116 = 0
                              · rw [if_pos c17] at H
                                have c17b0 : (t116 == 0) = true := beq_iff_eq.mpr c17
                                have c17b1 : (t116 != 0) = false := bne_eq_false_iff_eq.mpr c17
                                clear c17
                                by_cases c18 : t111 = 2
                                · rw [if_pos c18] at H
                                  have c18b0 : (t111 == 2) = true := beq_iff_eq.mpr c18
                                  have c18b1 : (t111 != 2) = false := bne_eq_false_iff_eq.mpr c18
                                  clear c18
                                  by_cases c19 : t112 = 3
                                  · rw [if_pos c19] at H
                                    have c19b0 : (t112 == 3) = true := beq_iff_eq.mpr c19
                                    have c19b1 : (t112 != 3) = false := bne_eq_false_iff_eq.mpr c19
                                    clear c19
                                    by_cases c20 : (strOfNums t113).toList = ([97, 98] : List UInt8)
                                    · rw [if_pos c20] at H
                                      have c20b0 : ((strOfNums t113).toList == ([97, 98] : List UInt8)) = true := beq_iff_eq.mpr c20
                                      have c20b1 : ((strOfNums t113).toList != ([97, 98] : List UInt8)) = false := bne_eq_false_iff_eq.mpr c20
                                      clear c20
                                      clear H
                                      go_enter Try.func22, Try.ntmps22
                                      go_wp2_with (first | ((with_reducible refine gate_dst (N := 7) rfl ?_); (try (refine gate_guard (by rfl) ?_; dsimp only)); refine Hm.V_conv_lit ?hg (N' := 7) ?hd _ rfl ([97, 98] : List Int) ?hC ?hx ?hl ?_; (case hd => rfl); (case hg => rfl); (case hC => rfl); (case hx => rfl); (case hl => simp); intro v102 w21 ho22 hb; rw [← Ny101.out] at ho22; have n0_ := Aside0.mk (Kd.V_lower (Kd.V_mono (ok' := fun k_ => True) ho22 (fun k_ hk_ => trivial)) (below_size (by repeat (first | (with_reducible first | exact HB.out | apply below_alloc | apply pw_below_drewN | apply below_drew1) | exact HB.out)))); have n1_ := Aside0.mk (below_step (by repeat (first | (with_reducible first | exact HB.out | apply below_alloc | apply pw_below_drewN | apply below_drew1) | exact HB.out)) hb); clear HB; have HO103 := n0_; have HB := n1_; clear n0_ n1_; clear hb ho22; obtain ⟨Ao23, co23, eo23⟩ := Kd.V_slice HO103.out; subst eo23) | ((with_reducible refine gate_callee (f := 23) rfl ?_); refine goesL_ (some 9) rfl rfl Try.func23 (by kernel_rfl) rfl #[.agg #[.int .i64 1, .int .i64 0, .int .i64 0, .int .u64 2, .int .u32 3, .slice Ao23 y101.length co23]] rfl (by (try simp only [List.map_toArray, List.map_cons, List.map_nil]); first | done | rfl | (simp only [List.length_drop, List.length_take]; rfl)) ?_; (with_reducible refine (Hm.sector_Put.calls 1 0 0 2 3 _ _ y101 t104 t107 _ ?side1 ?side2 A1.out).mono ?_); (case side1 => repeat (first | exact (Kd.V_reads' HO103.out).2.2 | (with_reducible refine Kd.C_alloc ?_ _) | (with_reducible refine Kd.C_drewN ?_ _) | (with_reducible refine Kd.C_drew ?_))); (case side2 => exact (Kd.V_reads' HO103.out).2.1); rintro e w24 ⟨v105, rfl, ho0, hb⟩; refine ⟨_, rfl, ?_⟩; have n0_ := Aside0.mk (Kd.V_elder' (by (with_reducible repeat (first | apply Kd.V_alloc | apply Kd.V_drewN | apply Kd.V_drew)); exact HO103.out) (Kd.R_base ho0) hb); have n1_ := Aside0.mk (Kd.R_lower ho0 (below_size (by repeat (first | (with_reducible first | exact HB.out | apply below_alloc | apply pw_below_drewN | apply below_drew1) | exact HB.out)))); have n2_ := Aside0.mk (below_step (by repeat (first | (with_reducible first | exact HB.out | apply below_alloc | apply pw_below_drewN | apply below_drew1) | exact HB.out)) hb); clear HO103; clear HB; have HO103 := n0_; have HO106 := n1_; have HB := n2_; clear n0_ n1_ n2_; (try clear hb); (try clear hb2); (try clear hk); (try clear hi); (try clear ho0); obtain ⟨Ao25, co25, eo25⟩ := Kd.R_slice HO106.out; subst eo25) | ((with_reducible refine gate_callee (f := 26) rfl ?_); refine goesL_ (some 14) rfl rfl Try.func26 (by kernel_rfl) rfl #[.slice Ao25 t104.length co25] rfl (by (try simp only [List.map_toArray, List.map_cons, List.map_nil]); first | done | rfl | (simp only [List.length_drop, List.length_take]; rfl)) ?_; (with_reducible refine (Hm.sector_Get.calls _ _ t104 t108 t109 t110 t111 t112 t113 t116 _ ?side1 ?side2 A2.out).mono ?_); (case side1 => repeat (first | exact (Kd.R_reads' HO106.out).2.2 | (with_reducible refine Kd.C_alloc ?_ _) | (with_reducible refine Kd.C_drewN ?_ _) | (with_reducible refine Kd.C_drew ?_))); (case side2 => exact (Kd.R_reads' HO106.out).2.1); rintro e w26 ⟨v114, rfl, ho0, hb⟩; refine ⟨_, rfl, ?_⟩; have n0_ := Aside0.mk (Kd.V_elder' (by (with_reducible repeat (first | apply Kd.V_alloc | apply Kd.V_drewN | apply Kd.V_drew)); exact HO103.out) (Kd.R_base ho0) hb); have n1_ := Aside0.mk (Kd.R_elder' (by (with_reducible repeat (first | apply Kd.R_alloc | apply Kd.R_drewN | apply Kd.R_drew)); exact HO106.out) (Kd.R_base ho0) hb); have n2_ := Aside0.mk (Kd.R_lower (Kd.R_new' ho0 (Kd.R_lt (by (with_reducible repeat (first | apply Kd.R_alloc | apply Kd.R_drewN | apply Kd.R_drew)); exact HO106.out))) (below_size (by repeat (first | (with_reducible first | exact HB.out | apply below_alloc | apply pw_below_drewN | apply below_drew1) | exact HB.out)))); have n3_ := Aside0.mk (below_step (by repeat (first | (with_reducible first | exact HB.out | apply below_alloc | apply pw_below_drewN | apply below_drew1) | exact HB.out)) hb); clear HO103; clear HO106; clear HB; have HO103 := n0_; have HO106 := n1_; have HO115 := n2_; have HB := n3_; clear n0_ n1_ n2_ n3_; (try clear hb); (try clear hb2); (try clear hk); (try clear hi); (try clear ho0)) | ((with_reducible refine gate_dst (N := 3) rfl ?_); (try (refine gate_guard (by rfl) ?_; dsimp only)); refine box_event ?hg (N := 3) ?hd (cs := #[.int .i64 0, .int .i64 0, .int .i64 0, .int .u64 0, .int .u32 0, .slice none 0 0]) (t := 42) ?hr ?_; (case hd => rfl); (case hg => rfl); (case hr => first | (go_simp; done) | (go_simp; rfl)); intro gb117 hg w27 hbox hb; have n0_ := Aside0.mk (Kd.V_below (Kd.V_elderB (by (with_reducible repeat (first | apply Kd.V_alloc | apply Kd.V_drewN | apply Kd.V_drew)); exact HO103.out) gb117 (Nat.le_of_eq hg.symm)) hb); have n1_ := Aside0.mk (Kd.R_below (by (with_reducible repeat (first | apply Kd.R_alloc | apply Kd.R_drewN | apply Kd.R_drew)); exact HO106.out) hb); have n2_ := Aside0.mk (Kd.R_below (by (with_reducible repeat (first | apply Kd.R_alloc | apply Kd.R_drewN | apply Kd.R_drew)); exact HO115.out) hb); have n3_ := Aside0.mk (below_step (by repeat (first | (with_reducible first | exact HB.out | apply below_alloc | apply pw_below_drewN | apply below_drew1) | exact HB.out)) hb); have n4_ := Aside0.mk (hbox); have n5_ := Aside0.mk ((by rw [hg]; exact (below_size (by repeat (first | (with_reducible first | exact HB.out | apply below_alloc | apply pw_below_drewN | apply below_drew1) | exact HB.out))) : w.heap.size ≤ gb117)); have n6_ := Aside0.mk ((by rw [hg]; exact (below_size (by repeat (first | (with_reducible first | exact HB.out | apply below_alloc | apply pw_below_drewN | apply below_drew1) | exact HB.out))) : w.heap.size ≤ gb117)); clear HO103; clear HO106; clear HO115; clear HB; have HO103 := n0_; have HO106 := n1_; have HO115 := n2_; have HB := n3_; have BK117 := n4_; have GW117 := n5_; have GE117 := n6_; clear n0_ n1_ n2_ n3_ n4_ n5_ n6_; clear hb hbox hg; have hcz28_0 : w27.cell? ⟨gb117, 0, none⟩ = some (.int .i64 0) := (blk_cell BK117.out 0).trans rfl; have hcz28_1 : w27.cell? ⟨gb117, 1, none⟩ = some (.int .i64 0) := (blk_cell BK117.out 1).trans rfl; have hcz28_2 : w27.cell? ⟨gb117, 2, none⟩ = some (.int .i64 0) := (blk_cell BK117.out 2).trans rfl; have hcz28_3 : w27.cell? ⟨gb117, 3, none⟩ = some (.int .u64 0) := (blk_cell BK117.out 3).trans rfl; have hcz28_4 : w27.cell? ⟨gb117, 4, none⟩ = some (.int .u32 0) := (blk_cell BK117.out 4).trans rfl; have hcz28_5 : w27.cell? ⟨gb117, 5, none⟩ = some (.slice none 0 0) := (blk_cell BK117.out 5).trans rfl; have hfz28_0 := blk_frozen BK117.out 0; have hfz28_1 := blk_frozen BK117.out 1; have hfz28_2 := blk_frozen BK117.out 2; have hfz28_3 := blk_frozen BK117.out 3; have hfz28_4 := blk_frozen BK117.out 4; have hfz28_5 := blk_frozen BK117.out 5; obtain ⟨Ao29, co29, eo29⟩ := Kd.R_slice HO115.out; subst eo29; have p118 : 0 ≤ (0 : Int) := (by omega); have q118 : 0 < (t104.length : Int) := of_decide_eq_true (by first | (with_reducible assumption) | assumption); obtain ⟨ad118, e118, hx118_0⟩ := Kd.at_int (Kd.R_reads' HO106.out).2.2 0 p118 q118; cases e118; have qi118 : (0 < t104.length) = True := eq_true (by omega); (try rw [show ((0 : Int)).toNat = 0 from rfl] at hx118_0); (try rw [Addr.add_zero'] at hx118_0); have hn118_0 : ad118.block ≠ gb117 := Kd.own_blk (Kd.R_ne HO106.out BK117.out (by decide)); have hn118_1 : ad118.block ≠ gb117 := Kd.own_blk (Kd.R_ne HO106.out BK117.out (by decide)); have hn118_2 : ad118.block ≠ gb117 := Kd.own_blk (Kd.R_ne HO106.out BK117.out (by decide)); have hn118_3 : ad118.block ≠ gb117 := Kd.own_blk (Kd.R_ne HO106.out BK117.out (by decide)); have hn118_4 : ad118.block ≠ gb117 := Kd.own_blk (Kd.R_ne HO106.out BK117.out (by decide)); have hn118_5 : ad118.block ≠ gb117 := Kd.own_blk (Kd.R_ne HO106.out BK117.out (by decide)); replace hx118_0 := (cell_far (p := ⟨gb117, 0, none⟩) (by first | (rw [add_block]; exact hn118_0) | (show (Addr.add _ _).block ≠ _; rw [add_block]; exact hn118_0) | exact hn118_0) (.int .i64 t108)).trans hx118_0; replace hx118_0 := (cell_far (p := ⟨gb117, 1, none⟩) (by first | (rw [add_block]; exact hn118_1) | (show (Addr.add _ _).block ≠ _; rw [add_block]; exact hn118_1) | exact hn118_1) (.int .i64 t109)).trans hx118_0; replace hx118_0 := (cell_far (p := ⟨gb117, 2, none⟩) (by first | (rw [add_block]; exact hn118_2) | (show (Addr.add _ _).block ≠ _; rw [add_block]; exact hn118_2) | exact hn118_2) (.int .i64 t110)).trans hx118_0; replace hx118_0 := (cell_far (p := ⟨gb117, 3, none⟩) (by first | (rw [add_block]; exact hn118_3) | (show (Addr.add _ _).block ≠ _; rw [add_block]; exact hn118_3) | exact hn118_3) (.int .u64 t111)).trans hx118_0; replace hx118_0 := (cell_far (p := ⟨gb117, 4, none⟩) (by first | (rw [add_block]; exact hn118_4) | (show (Addr.add _ _).block ≠ _; rw [add_block]; exact hn118_4) | exact hn118_4) (.int .u32 t112)).trans hx118_0; replace hx118_0 := (cell_far (p := ⟨gb117, 5, none⟩) (by first | (rw [add_block]; exact hn118_5) | (show (Addr.add _ _).block ≠ _; rw [add_block]; exact hn118_5) | exact hn118_5) (.slice Ao29 t113.length co29)).trans hx118_0; clear hn118_0; clear hn118_1; clear hn118_2; clear hn118_3; clear hn118_4; clear hn118_5; replace p118 := eq_true p118; replace q118 := eq_true q118; have p119 : 0 ≤ (3 : Int) := (by omega); have q119 : 3 < (t104.length : Int) := of_decide_eq_true (by first | (with_reducible assumption) | assumption); obtain ⟨ad119, e119, hx119_0⟩ := Kd.at_int (Kd.R_reads' HO106.out).2.2 3 p119 q119; obtain rfl : ad118 = ad119 := (by injection e119); (try simp only [show (3 : Int).toNat = 3 from rfl, Nat.reduceMul, Nat.reduceEqDiff, Go.Addr.add, ↓reduceIte] at hx119_0); have qi119 : (3 < t104.length) = True := eq_true (by omega); (try rw [show ((3 : Int)).toNat = 3 from rfl] at hx119_0); have hn119_0 : ad118.block ≠ gb117 := Kd.own_blk (Kd.R_ne HO106.out BK117.out (by decide)); have hn119_1 : ad118.block ≠ gb117 := Kd.own_blk (Kd.R_ne HO106.out BK117.out (by decide)); have hn119_2 : ad118.block ≠ gb117 := Kd.own_blk (Kd.R_ne HO106.out BK117.out (by decide)); have hn119_3 : ad118.block ≠ gb117 := Kd.own_blk (Kd.R_ne HO106.out BK117.out (by decide)); have hn119_4 : ad118.block ≠ gb117 := Kd.own_blk (Kd.R_ne HO106.out BK117.out (by decide)); have hn119_5 : ad118.block ≠ gb117 := Kd.own_blk (Kd.R_ne HO106.out BK117.out (by decide)); replace hx119_0 := (cell_far (p := ⟨gb117, 0, none⟩) (by first | (rw [add_block]; exact hn119_0) | (show (Addr.add _ _).block ≠ _; rw [add_block]; exact hn119_0) | exact hn119_0) (.int .i64 t108)).trans hx119_0; replace hx119_0 := (cell_far (p := ⟨gb117, 1, none⟩) (by first | (rw [add_block]; exact hn119_1) | (show (Addr.add _ _).block ≠ _; rw [add_block]; exact hn119_1) | exact hn119_1) (.int .i64 t109)).trans hx119_0; replace hx119_0 := (cell_far (p := ⟨gb117, 2, none⟩) (by first | (rw [add_block]; exact hn119_2) | (show (Addr.add _ _).block ≠ _; rw [add_block]; exact hn119_2) | exact hn119_2) (.int .i64 t110)).trans hx119_0; replace hx119_0 := (cell_far (p := ⟨gb117, 3, none⟩) (by first | (rw [add_block]; exact hn119_3) | (show (Addr.add _ _).block ≠ _; rw [add_block]; exact hn119_3) | exact hn119_3) (.int .u64 t111)).trans hx119_0; replace hx119_0 := (cell_far (p := ⟨gb117, 4, none⟩) (by first | (rw [add_block]; exact hn119_4) | (show (Addr.add _ _).block ≠ _; rw [add_block]; exact hn119_4) | exact hn119_4) (.int .u32 t112)).trans hx119_0; replace hx119_0 := (cell_far (p := ⟨gb117, 5, none⟩) (by first | (rw [add_block]; exact hn119_5) | (show (Addr.add _ _).block ≠ _; rw [add_block]; exact hn119_5) | exact hn119_5) (.slice Ao29 t113.length co29)).trans hx119_0; clear hn119_0; clear hn119_1; clear hn119_2; clear hn119_3; clear hn119_4; clear hn119_5; replace p119 := eq_true p119; replace q119 := eq_true q119; have p120 : 0 ≤ (11 : Int) := (by omega); have q120 : 11 < (t104.length : Int) := of_decide_eq_true (by first | (with_reducible assumption) | assumption); obtain ⟨ad120, e120, hx120_0⟩ := Kd.at_int (Kd.R_reads' HO106.out).2.2 11 p120 q120; obtain rfl : ad118 = ad120 := (by injection e120); (try simp only [show (11 : Int).toNat = 11 from rfl, Nat.reduceMul, Nat.reduceEqDiff, Go.Addr.add, ↓reduceIte] at hx120_0); have qi120 : (11 < t104.length) = True := eq_true (by omega); (try rw [show ((11 : Int)).toNat = 11 from rfl] at hx120_0); have hn120_0 : ad118.block ≠ gb117 := Kd.own_blk (Kd.R_ne HO106.out BK117.out (by decide)); have hn120_1 : ad118.block ≠ gb117 := Kd.own_blk (Kd.R_ne HO106.out BK117.out (by decide)); have hn120_2 : ad118.block ≠ gb117 := Kd.own_blk (Kd.R_ne HO106.out BK117.out (by decide)); have hn120_3 : ad118.block ≠ gb117 := Kd.own_blk (Kd.R_ne HO106.out BK117.out (by decide)); have hn120_4 : ad118.block ≠ gb117 := Kd.own_blk (Kd.R_ne HO106.out BK117.out (by decide)); have hn120_5 : ad118.block ≠ gb117 := Kd.own_blk (Kd.R_ne HO106.out BK117.out (by decide)); replace hx120_0 := (cell_far (p := ⟨gb117, 0, none⟩) (by first | (rw [add_block]; exact hn120_0) | (show (Addr.add _ _).block ≠ _; rw [add_block]; exact hn120_0) | exact hn120_0) (.int .i64 t108)).trans hx120_0; replace hx120_0 := (cell_far (p := ⟨gb117, 1, none⟩) (by first | (rw [add_block]; exact hn120_1) | (show (Addr.add _ _).block ≠ _; rw [add_block]; exact hn120_1) | exact hn120_1) (.int .i64 t109)).trans hx120_0; replace hx120_0 := (cell_far (p := ⟨gb117, 2, none⟩) (by first | (rw [add_block]; exact hn120_2) | (show (Addr.add _ _).block ≠ _; rw [add_block]; exact hn120_2) | exact hn120_2) (.int .i64 t110)).trans hx120_0; replace hx120_0 := (cell_far (p := ⟨gb117, 3, none⟩) (by first | (rw [add_block]; exact hn120_3) | (show (Addr.add _ _).block ≠ _; rw [add_block]; exact hn120_3) | exact hn120_3) (.int .u64 t111)).trans hx120_0; replace hx120_0 := (cell_far (p := ⟨gb117, 4, none⟩) (by first | (rw [add_block]; exact hn120_4) | (show (Addr.add _ _).block ≠ _; rw [add_block]; exact hn120_4) | exact hn120_4) (.int .u32 t112)).trans hx120_0; replace hx120_0 := (cell_far (p := ⟨gb117, 5, none⟩) (by first | (rw [add_block]; exact hn120_5) | (show (Addr.add _ _).block ≠ _; rw [add_block]; exact hn120_5) | exact hn120_5) (.slice Ao29 t113.length co29)).trans hx120_0; clear hn120_0; clear hn120_1; clear hn120_2; clear hn120_3; clear hn120_4; clear hn120_5; replace p120 := eq_true p120; replace q120 := eq_true q120; have p121 : 0 ≤ (15 : Int) := (by omega); have q121 : 15 < (t104.length : Int) := of_decide_eq_true (by first | (with_reducible assumption) | assumption); obtain ⟨ad121, e121, hx121_0⟩ := Kd.at_int (Kd.R_reads' HO106.out).2.2 15 p121 q121; obtain rfl : ad118 = ad121 := (by injection e121); (try simp only [show (15 : Int).toNat = 15 from rfl, Nat.reduceMul, Nat.reduceEqDiff, Go.Addr.add, ↓reduceIte] at hx121_0); have qi121 : (15 < t104.length) = True := eq_true (by omega); (try rw [show ((15 : Int)).toNat = 15 from rfl] at hx121_0); have hn121_0 : ad118.block ≠ gb117 := Kd.own_blk (Kd.R_ne HO106.out BK117.out (by decide)); have hn121_1 : ad118.block ≠ gb117 := Kd.own_blk (Kd.R_ne HO106.out BK117.out (by decide)); have hn121_2 : ad118.block ≠ gb117 := Kd.own_blk (Kd.R_ne HO106.out BK117.out (by decide)); have hn121_3 : ad118.block ≠ gb117 := Kd.own_blk (Kd.R_ne HO106.out BK117.out (by decide)); have hn121_4 : ad118.block ≠ gb117 := Kd.own_blk (Kd.R_ne HO106.out BK117.out (by decide)); have hn121_5 : ad118.block ≠ gb117 := Kd.own_blk (Kd.R_ne HO106.out BK117.out (by decide)); replace hx121_0 := (cell_far (p := ⟨gb117, 0, none⟩) (by first | (rw [add_block]; exact hn121_0) | (show (Addr.add _ _).block ≠ _; rw [add_block]; exact hn121_0) | exact hn121_0) (.int .i64 t108)).trans hx121_0; replace hx121_0 := (cell_far (p := ⟨gb117, 1, none⟩) (by first | (rw [add_block]; exact hn121_1) | (show (Addr.add _ _).block ≠ _; rw [add_block]; exact hn121_1) | exact hn121_1) (.int .i64 t109)).trans hx121_0; replace hx121_0 := (cell_far (p := ⟨gb117, 2, none⟩) (by first | (rw [add_block]; exact hn121_2) | (show (Addr.add _ _).block ≠ _; rw [add_block]; exact hn121_2) | exact hn121_2) (.int .i64 t110)).trans hx121_0; replace hx121_0 := (cell_far (p := ⟨gb117, 3, none⟩) (by first | (rw [add_block]; exact hn121_3) | (show (Addr.add _ _).block ≠ _; rw [add_block]; exact hn121_3) | exact hn121_3) (.int .u64 t111)).trans hx121_0; replace hx121_0 := (cell_far (p := ⟨gb117, 4, none⟩) (by first | (rw [add_block]; exact hn121_4) | (show (Addr.add _ _).block ≠ _; rw [add_block]; exact hn121_4) | exact hn121_4) (.int .u32 t112)).trans hx121_0; replace hx121_0 := (cell_far (p := ⟨gb117, 5, none⟩) (by first | (rw [add_block]; exact hn121_5) | (show (Addr.add _ _).block ≠ _; rw [add_block]; exact hn121_5) | exact hn121_5) (.slice Ao29 t113.length co29)).trans hx121_0; clear hn121_0; clear hn121_1; clear hn121_2; clear hn121_3; clear hn121_4; clear hn121_5; replace p121 := eq_true p121; replace q121 := eq_true q121; have p122 : 0 ≤ (16 : Int) := (by omega); have q122 : 16 < (t104.length : Int) := of_decide_eq_true (by first | (with_reducible assumption) | assumption); obtain ⟨ad122, e122, hx122_0⟩ := Kd.at_int (Kd.R_reads' HO106.out).2.2 16 p122 q122; obtain rfl : ad118 = ad122 := (by injection e122); (try simp only [show (16 : Int).toNat = 16 from rfl, Nat.reduceMul, Nat.reduceEqDiff, Go.Addr.add, ↓reduceIte] at hx122_0); have qi122 : (16 < t104.length) = True := eq_true (by omega); (try rw [show ((16 : Int)).toNat = 16 from rfl] at hx122_0); have hn122_0 : ad118.block ≠ gb117 := Kd.own_blk (Kd.R_ne HO106.out BK117.out (by decide)); have hn122_1 : ad118.block ≠ gb117 := Kd.own_blk (Kd.R_ne HO106.out BK117.out (by decide)); have hn122_2 : ad118.block ≠ gb117 := Kd.own_blk (Kd.R_ne HO106.out BK117.out (by decide)); have hn122_3 : ad118.block ≠ gb117 := Kd.own_blk (Kd.R_ne HO106.out BK117.out (by decide)); have hn122_4 : ad118.block ≠ gb117 := Kd.own_blk (Kd.R_ne HO106.out BK117.out (by decide)); have hn122_5 : ad118.block ≠ gb117 := Kd.own_blk (Kd.R_ne HO106.out BK117.out (by decide)); replace hx122_0 := (cell_far (p := ⟨gb117, 0, none⟩) (by first | (rw [add_block]; exact hn122_0) | (show (Addr.add _ _).block ≠ _; rw [add_block]; exact hn122_0) | exact hn122_0) (.int .i64 t108)).trans hx122_0; replace hx122_0 := (cell_far (p := ⟨gb117, 1, none⟩) (by first | (rw [add_block]; exact hn122_1) | (show (Addr.add _ _).block ≠ _; rw [add_block]; exact hn122_1) | exact hn122_1) (.int .i64 t109)).trans hx122_0; replace hx122_0 := (cell_far (p := ⟨gb117, 2, none⟩) (by first | (rw [add_block]; exact hn122_2) | (show (Addr.add _ _).block ≠ _; rw [add_block]; exact hn122_2) | exact hn122_2) (.int .i64 t110)).trans hx122_0; replace hx122_0 := (cell_far (p := ⟨gb117, 3, none⟩) (by first | (rw [add_block]; exact hn122_3) | (show (Addr.add _ _).block ≠ _; rw [add_block]; exact hn122_3) | exact hn122_3) (.int .u64 t111)).trans hx122_0; replace hx122_0 := (cell_far (p := ⟨gb117, 4, none⟩) (by first | (rw [add_block]; exact hn122_4) | (show (Addr.add _ _).block ≠ _; rw [add_block]; exact hn122_4) | exact hn122_4) (.int .u32 t112)).trans hx122_0; replace hx122_0 := (cell_far (p := ⟨gb117, 5, none⟩) (by first | (rw [add_block]; exact hn122_5) | (show (Addr.add _ _).block ≠ _; rw [add_block]; exact hn122_5) | exact hn122_5) (.slice Ao29 t113.length co29)).trans hx122_0; clear hn122_0; clear hn122_1; clear hn122_2; clear hn122_3; clear hn122_4; clear hn122_5; replace p122 := eq_true p122; replace q122 := eq_true q122; have p123 : 0 ≤ (18 : Int) := (by omega); have q123 : 18 < (t104.length : Int) := of_decide_eq_true (by first | (with_reducible assumption) | assumption); obtain ⟨ad123, e123, hx123_0⟩ := Kd.at_int (Kd.R_reads' HO106.out).2.2 18 p123 q123; obtain rfl : ad118 = ad123 := (by injection e123); (try simp only [show (18 : Int).toNat = 18 from rfl, Nat.reduceMul, Nat.reduceEqDiff, Go.Addr.add, ↓reduceIte] at hx123_0); have qi123 : (18 < t104.length) = True := eq_true (by omega); (try rw [show ((18 : Int)).toNat = 18 from rfl] at hx123_0); have hn123_0 : ad118.block ≠ gb117 := Kd.own_blk (Kd.R_ne HO106.out BK117.out (by decide)); have hn123_1 : ad118.block ≠ gb117 := Kd.own_blk (Kd.R_ne HO106.out BK117.out (by decide)); have hn123_2 : ad118.block ≠ gb117 := Kd.own_blk (Kd.R_ne HO106.out BK117.out (by decide)); have hn123_3 : ad118.block ≠ gb117 := Kd.own_blk (Kd.R_ne HO106.out BK117.out (by decide)); have hn123_4 : ad118.block ≠ gb117 := Kd.own_blk (Kd.R_ne HO106.out BK117.out (by decide)); have hn123_5 : ad118.block ≠ gb117 := Kd.own_blk (Kd.R_ne HO106.out BK117.out (by decide)); replace hx123_0 := (cell_far (p := ⟨gb117, 0, none⟩) (by first | (rw [add_block]; exact hn123_0) | (show (Addr.add _ _).block ≠ _; rw [add_block]; exact hn123_0) | exact hn123_0) (.int .i64 t108)).trans hx123_0; replace hx123_0 := (cell_far (p := ⟨gb117, 1, none⟩) (by first | (rw [add_block]; exact hn123_1) | (show (Addr.add _ _).block ≠ _; rw [add_block]; exact hn123_1) | exact hn123_1) (.int .i64 t109)).trans hx123_0; replace hx123_0 := (cell_far (p := ⟨gb117, 2, none⟩) (by first | (rw [add_block]; exact hn123_2) | (show (Addr.add _ _).block ≠ _; rw [add_block]; exact hn123_2) | exact hn123_2) (.int .i64 t110)).trans hx123_0; replace hx123_0 := (cell_far (p := ⟨gb117, 3, none⟩) (by first | (rw [add_block]; exact hn123_3) | (show (Addr.add _ _).block ≠ _; rw [add_block]; exact hn123_3) | exact hn123_3) (.int .u64 t111)).trans hx123_0; replace hx123_0 := (cell_far (p := ⟨gb117, 4, none⟩) (by first | (rw [add_block]; exact hn123_4) | (show (Addr.add _ _).block ≠ _; rw [add_block]; exact hn123_4) | exact hn123_4) (.int .u32 t112)).trans hx123_0; replace hx123_0 := (cell_far (p := ⟨gb117, 5, none⟩) (by first | (rw [add_block]; exact hn123_5) | (show (Addr.add _ _).block ≠ _; rw [add_block]; exact hn123_5) | exact hn123_5) (.slice Ao29 t113.length co29)).trans hx123_0; clear hn123_0; clear hn123_1; clear hn123_2; clear hn123_3; clear hn123_4; clear hn123_5; replace p123 := eq_true p123; replace q123 := eq_true q123; have hcv30 := own_string (P := Try.prog) Try.underlying23 Try.underlying5 Try.underlying9 (Kd.own_of_R HO115.out); have hS0 := Kd.R_set HO115.out (BK117.out) (by decide) 0 (.int .i64 t108); have hS1 := Kd.R_set hS0 (blk_set (BK117.out) 0 (.int .i64 t108)) (by decide) 1 (.int .i64 t109); have hS2 := Kd.R_set hS1 (blk_set (blk_set (BK117.out) 0 (.int .i64 t108)) 1 (.int .i64 t109)) (by decide) 2 (.int .i64 t110); have hS3 := Kd.R_set hS2 (blk_set (blk_set (blk_set (BK117.out) 0 (.int .i64 t108)) 1 (.int .i64 t109)) 2 (.int .i64 t110)) (by decide) 3 (.int .u64 t111); have hS4 := Kd.R_set hS3 (blk_set (blk_set (blk_set (blk_set (BK117.out) 0 (.int .i64 t108)) 1 (.int .i64 t109)) 2 (.int .i64 t110)) 3 (.int .u64 t111)) (by decide) 4 (.int .u32 t112); have hS5 := Kd.R_set hS4 (blk_set (blk_set (blk_set (blk_set (blk_set (BK117.out) 0 (.int .i64 t108)) 1 (.int .i64 t109)) 2 (.int .i64 t110)) 3 (.int .u64 t111)) 4 (.int .u32 t112)) (by decide) 5 (.slice Ao29 t113.length co29); have hcvS := own_string (P := Try.prog) Try.underlying23 Try.underlying5 Try.underlying9 (Kd.own_of_R hS5)))
                                      go_ret
                                      exact ⟨by first | rfl | (simp [errW_none, errW_some] <;> rfl) | (simp [*, errW_none, errW_some] <;> rfl), by repeat (first | (with_reducible first | exact HB.out | apply below_alloc | apply pw_below_drewN | apply below_drew1 | refine below_set ?_ GE117.out) | exact HB.out)⟩
                                    · rw [if_neg c20] at H
                                      exact absurd H (by simp)
                                  · rw [if_neg c19] at H
                                    exact absurd H (by simp)
                                · rw [if_neg c18] at H
                                  exact absurd H (by simp)
                              · rw [if_neg c17] at H
                                exact absurd H (by simp)
                            · rw [if_neg c16] at H
                              exact absurd H (by simp)
                          · rw [if_neg c15] at H
                            exact absurd H (by simp)
                        · rw [if_neg c14] at H
                          exact absurd H (by simp)
                      · rw [if_neg c13] at H
                        exact absurd H (by simp)
                    · rw [if_neg c12] at H
                      exact absurd H (by simp)
                  · rw [if_neg c11] at H
                    exact absurd H (by simp)
                · rw [if_neg c10] at H
                  exact absurd H (by simp)
              · rw [if_neg c9] at H
                exact absurd H (by simp)
            · rw [if_neg c8] at H
              exact absurd H (by simp)
          · rw [if_neg c7] at H
            exact absurd H (by simp)
        · rw [if_neg c6] at H
          exact absurd H (by simp)
      · rw [if_neg c5] at H
        exact absurd H (by simp)
    · rw [if_neg c4] at H
      exact absurd H (by simp)
  · rw [if_neg c3] at H
    exact absurd H (by simp)
end Go.Proofs.Ytelhdgnolijpcaa.PAwk04
end
section
/- The Go functions awake and frameOf of the package's law 4: awake returns true and leaves what was there. -/
namespace Go.Proofs.Ytelhdgnolijpcaa.Hm
open Go.RowKit Go.Proofs.YtelhdgnolijpcaaW.PrintWords Go.Proofs.YtelhdgnolijpcaaW.PrintLast Go.Proofs.YtelhdgnolijpcaaW.PrintMore
def awake04.f : Option Bool := some true
set_option maxRecDepth 100000 in
theorem awake04.calls (r : Bool) (w : World) (h : awake04.f = some r) : Calls Try.prog 22 #[] w fun e w' => e = .returned (.bool r) ∧ Below w.heap.size w w' := by
  obtain rfl := Option.some.inj h
  exact PAwk04.removalistlaw04_awake.calls w (by decide +kernel)
end Go.Proofs.Ytelhdgnolijpcaa.Hm
end
