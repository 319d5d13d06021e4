/- The Go function crc.table returns the table that tabRow 16 is, whatever the world. -/
import Derived.Test.YtelhdgnolijpcaaHhead
namespace Go.Proofs.Ytelhdgnolijpcaa.Hm
open Go.RowKit Go.Proofs.YtelhdgnolijpcaaW.PrintWords Go.Proofs.YtelhdgnolijpcaaW.PrintLast Go.Proofs.YtelhdgnolijpcaaW.PrintMore
set_option linter.unusedVariables false
set_option linter.unusedSimpArgs false

def t1 (x : Int) : Int := if x ≥ 2147483648 then Go.bits .xor .u32 ((x * 2) % 4294967296) 79764919 else (x * 2) % 4294967296
def tn : Nat → Int → Int
  | 0, x => x
  | n + 1, x => t1 (tn n x)
def tabI (i : Nat) : Int := tn 4 ((i : Int) * 268435456)
def tabRow (k : Nat) : Array Value := ((List.range 16).map fun j => Value.int .u32 (if j < k then tabI j else 0)).toArray
theorem tabRow_zero : #[Value.int .u32 0, .int .u32 0, .int .u32 0, .int .u32 0, .int .u32 0, .int .u32 0, .int .u32 0, .int .u32 0, .int .u32 0, .int .u32 0, .int .u32 0, .int .u32 0, .int .u32 0, .int .u32 0, .int .u32 0, .int .u32 0] = tabRow 0 := by
  simp [tabRow, List.range, List.range.loop]
theorem tabRow_size (k : Nat) : (tabRow k).size = 16 := by simp [tabRow]
theorem tabRow_get (k j : Nat) (h : j < 16) : (tabRow k)[j]? = some (.int .u32 (if j < k then tabI j else 0)) := by
  simp [tabRow, h]
theorem tabRow_set (k : Nat) : (tabRow k).setIfInBounds k (.int .u32 (tabI k)) = tabRow (k + 1) := by
  apply Array.ext_getElem?
  intro i
  rw [Array.getElem?_setIfInBounds, tabRow_size]
  by_cases hi : i < 16
  · rw [tabRow_get _ _ hi]
    by_cases e : k = i
    · subst e
      rw [if_pos rfl, if_pos hi, tabRow_get _ _ hi, if_pos (by omega)]
    · rw [if_neg e, tabRow_get _ _ hi]
      by_cases h2 : i < k
      · rw [if_pos h2, if_pos (by omega)]
      · rw [if_neg h2, if_neg (by omega)]
  · have hz : ∀ k, (tabRow k)[i]? = none := fun k => Array.getElem?_eq_none (by rw [tabRow_size]; omega)
    rw [hz, hz]
    split
    · rw [if_neg (by omega)]
    · rfl
theorem tabRow_all (k : Nat) : (tabRow k).all (·.oneCell') = true := by simp [tabRow, Value.oneCell']
theorem t1_range (x : Int) (h0 : 0 ≤ x) (h1 : x < 4294967296) : 0 ≤ t1 x ∧ t1 x < 4294967296 := by
  unfold t1
  split
  · rw [u32_xor _ _ (by omega) (by omega) (by omega) (by omega)]
    have h := Nat.xor_lt_two_pow (n := 32) (x := (x * 2 % 4294967296).toNat) (y := (79764919 : Int).toNat) (by omega) (by decide)
    omega
  · omega
theorem tn_range (n : Nat) (x : Int) (h0 : 0 ≤ x) (h1 : x < 4294967296) : 0 ≤ tn n x ∧ tn n x < 4294967296 := by
  induction n with
  | zero => exact ⟨h0, h1⟩
  | succ n ih => exact t1_range _ ih.1 ih.2
theorem tabI_range (i : Nat) (h : i < 16) : 0 ≤ tabI i ∧ tabI i < 4294967296 := tn_range 4 _ (by omega) (by omega)

theorem ret_cell {P : Program} {R : Ending → World → Prop} {fn : Func} {v : Value} {a : Act} {w : World} (h : (results fn a.tmps).run P w = .ok v w) (hd : a.defers = []) (hr : R (.returned v) w) : bodyPost P fn R .ret a w := bodyPost_ret h hd hr

set_option maxHeartbeats 400000 in
theorem table_any (w : World) : Calls Try.prog 28 #[] w fun e w' => e = .returned (.agg (tabRow 16)) ∧ Below w.heap.size w w' := by
  go_enter Try.func28, Try.ntmps28
  go_wp2
  go_loopg [4] 16 (fun kq v4 w' => ∃ k : Nat, k + kq = 16 ∧ v4 = .int .i64 k ∧ Aside0 (Below w.heap.size w w') ∧ Aside0 (w'.heap[w.heap.size+1]? = some (.cells (tabRow k) 60 (0,0))) ∧ Aside0 (w'.heap[w.heap.size]? = some (.cells (tabRow 0) 60 (0,0))))
  case atStart =>
    refine ⟨0, rfl, rfl, ⟨?_⟩, ⟨?_⟩, ⟨?_⟩⟩
    · exact ((Below.refl _ _).alloc (Nat.le_refl _) _).alloc (by simp) _
    · rw [tabRow_zero]; exact heap_alloc2_new _ _ _
    · rw [tabRow_zero]; exact heap_alloc2_old _ _ _
  case round =>
    obtain ⟨k, hk, rfl, HB, H1, H0⟩ := hrel
    by_cases hlt : k < 16
    · have hd : decide ((k : Int) < 16) = true := decide_eq_true (by omega)
      go_wp2
      go_loopg [3, 10] 4 (fun jq v3 v10 w' => ∃ j : Nat, j + jq = 4 ∧ v10 = .int .i64 j ∧ v3 = .int .u32 (tn j (k * 268435456)) ∧ w' = wr)
      case atStart => exact ⟨0, rfl, rfl, rfl, rfl⟩
      case round =>
        obtain ⟨j, hj, rfl, rfl, rfl⟩ := hrel
        have hr := tn_range j (k * 268435456) (by omega) (by omega)
        obtain ⟨y, hy⟩ : ∃ y, tn j ((k : Int) * 268435456) = y := ⟨_, rfl⟩
        rw [hy] at hr
        have HY := Aside0.mk hy
        simp only [hy]
        clear hy
        obtain ⟨hr0, hr1⟩ := hr
        by_cases hj4 : j < 4
        · have hd4 : decide ((j : Int) < 4) = true := decide_eq_true (by omega)
          by_cases hy2 : y ≥ 2147483648
          all_goals
            first | (have hb2 : decide ((2147483648 : Int) ≤ y) = true := decide_eq_true hy2) | (have hb2 : decide ((2147483648 : Int) ≤ y) = false := decide_eq_false hy2)
            go_wp2
            go_roundg (3 - j)
            case measure => omega
            case rel =>
              refine ⟨j + 1, by omega, by go_num, ?_, rfl⟩
              simp only [tn, HY.out, t1]
              first
                | rw [if_pos hy2]
                | (rw [if_neg (by omega), Int.emod_eq_of_lt (by omega) (by omega)])
        · have hj' : j = 4 := by omega
          subst hj'
          have c1 := tabRow_get k k hlt
          have c2 : wr.cell? ⟨w.heap.size + 1, k, none⟩ = some (.int .u32 (if k < k then tabI k else 0)) := by rw [blk_cell H1.out, c1]
          have c3 : wr.frozen? ⟨w.heap.size + 1, k, none⟩ = false := blk_frozen H1.out k
          rw [if_neg (Nat.lt_irrefl _)] at c2
          clear c1
          go_wp2
          go_roundg (15 - k)
          case measure => omega
          case rel =>
            refine ⟨k + 1, by omega, by go_num, ⟨?_⟩, ⟨?_⟩, ⟨?_⟩⟩
            · exact HB.out.setCell (by simp) _
            · rw [← tabRow_set, tabI, HY.out]
              exact blk_set H1.out k _
            · exact blk_far H0.out (by simp) _
    · have hk' : k = 16 := by omega
      subst hk'
      go_wp2_with (first | (refine wpList_load_row rfl 60 _ rfl (w.heap.size + 1) rfl _ _ _ _ H1.out Try.underlying60 rfl (by kernel_rfl) ?_) | (refine wpList_store_row rfl 60 _ _ rfl w.heap.size (tabRow 16) rfl rfl _ _ H0.out (by kernel_rfl) ((tabRow_size 0).trans (tabRow_size 16).symm) (tabRow_all 16) ?_))
      refine bodyPost_ret (results_cell_row rfl _ _ w.heap.size _ (tabRow 16) _ _ rfl (setRow_heap _ _ _ _ _ _ H0.out) Try.underlying60 rfl (by kernel_rfl)) rfl ⟨rfl, ?_⟩
      exact below_setRow HB.out (Nat.le_refl _) _

end Go.Proofs.Ytelhdgnolijpcaa.Hm
