/- The Go functions sector.byteful and sector.lay: what they tell and write, as plain Lean functions; conditions: those that each theorem names. -/
import Derived.Test.YtelhdgnolijpcaaHstr
namespace Go.Proofs.Ytelhdgnolijpcaa.Hm
open Go.RowKit Go.Proofs.YtelhdgnolijpcaaW.PrintWords Go.Proofs.YtelhdgnolijpcaaW.PrintLast Go.Proofs.YtelhdgnolijpcaaW.PrintMore
set_option linter.unusedVariables false
set_option linter.unusedSimpArgs false

/-- A block of numbers, marked or not, reads as its numbers. -/
theorem C_of_blockK {ik : IntKind} {W : World} {g : Nat} {C : Array Value} {e : TypeId} {fr : Nat × Nat} (xs : List Int) (h : W.heap[g]? = some (.cells C e fr)) (hC : C = (nums ik xs).toArray) (hl : xs.length ≤ 9223372036854775807) :
    Kd.C (Kd.int ik) W (some ⟨g, 0, none⟩) xs.length xs := by
  refine Kd.C_of_reads (d := (0 : Int)) (h1 := fun _ => rfl) (show ReadsInt W ik (some ⟨g, 0, none⟩) xs.length xs from ⟨rfl, hl, fun _ => ⟨_, rfl, fun j hj => ?_⟩⟩)
  rw [add_plain, cell_of_row W g j C e fr h, hC]
  simp [nums, hj]
/-- What is known of a world in place of its text. -/
theorem wp_world {P : Program} {c : Code} {Q : Exit → Act → World → Prop} {a : Act} {w : World} (X : World → Prop) (h : X w) (k : ∀ W, X W → c.wp P Q a W) : c.wp P Q a w := k w h
def bytefulB (l : List Int) : Bool := l.all fun x => decide (0 ≤ x) && decide (x ≤ 255)
theorem bytefulB_take (l : List Int) (k : Nat) (h : k < l.length) : bytefulB (l.take (k + 1)) = (bytefulB (l.take k) && (decide (0 ≤ rd l k) && decide (rd l k ≤ 255))) := by
  unfold bytefulB
  rw [List.take_succ_eq_append_getElem h, rd_at l k h, List.all_append]
  simp
theorem bytefulB_false (l : List Int) (k : Nat) (h : k < l.length) (hx : (decide (0 ≤ rd l k) && decide (rd l k ≤ 255)) = false) : bytefulB l = false := by
  rw [rd_at l k h] at hx
  simp only [bytefulB, List.all_eq_false]
  exact ⟨l[k], List.getElem_mem _, by rw [hx]; simp⟩
set_option maxHeartbeats 1000000 in
theorem byteful_any (A0 : Option Addr) (c0 : Nat) (l0 : List Int) (w : World) (hr0 : Kd.C (Kd.int .i64) w A0 l0.length l0) (hc0 : l0.length ≤ c0) :
    Calls Try.prog 32 #[.slice A0 l0.length c0] w fun e w' => e = .returned (.bool (bytefulB l0)) ∧ w = w' := by
  have HR := Aside0.mk hr0
  have hm := Kd.C_max hr0
  clear hr0
  go_enter Try.func32, Try.ntmps32
  go_wp2
  go_loopg [7] l0.length (fun kq v7 w' => ∃ k : Nat, k + kq = l0.length ∧ v7 = .int .i64 k ∧ Aside0 (bytefulB (l0.take k) = true) ∧ w' = w)
  case atStart => exact ⟨0, by omega, rfl, ⟨rfl⟩, rfl⟩
  case round =>
    obtain ⟨k, hk, rfl, HT, rfl⟩ := hrel
    by_cases hlt : k < l0.length
    · have hd : decide ((k : Int) < (l0.length : Int)) = true := decide_eq_true (by omega)
      obtain ⟨ad, hA, hcell⟩ := Kd.at_int HR.out (k : Int) (by omega) (by omega)
      subst hA
      rw [Int.toNat_natCast] at hcell
      have HF := Aside0.mk (bytefulB_false l0 k hlt)
      have HS := Aside0.mk (bytefulB_take l0 k hlt)
      obtain ⟨x, hx⟩ : ∃ x, rd l0 (k : Int) = x := ⟨_, rfl⟩
      rw [hx] at hcell HF HS
      clear hx
      by_cases h0 : x < 0
      · have d0 : decide (x < 0) = true := decide_eq_true h0
        have e0 : decide (0 ≤ x) = false := decide_eq_false (by omega)
        have HE := Aside0.mk e0
        clear e0 h0
        go_wp2
        go_ret
        rw [HF.out (by rw [HE.out]; rfl)]
        exact ⟨rfl, rfl⟩
      · have d0 : decide (x < 0) = false := decide_eq_false h0
        have e0 := Aside0.mk (show decide (0 ≤ x) = true from decide_eq_true (by omega))
        by_cases h1 : 255 < x
        · have d1 : decide (255 < x) = true := decide_eq_true h1
          have e1 := Aside0.mk (show decide (x ≤ 255) = false from decide_eq_false (by omega))
          clear h0 h1
          go_wp2
          go_ret
          rw [HF.out (by rw [e0.out, e1.out]; rfl)]
          exact ⟨rfl, rfl⟩
        · have d1 : decide (255 < x) = false := decide_eq_false h1
          have e1 := Aside0.mk (show decide (x ≤ 255) = true from decide_eq_true (by omega))
          clear h0 h1
          go_wp2
          go_roundg (l0.length - k - 1)
          case measure => omega
          case rel => exact ⟨k + 1, by omega, by go_num, ⟨by rw [HS.out, HT.out, e0.out, e1.out]; rfl⟩, rfl⟩
    · have hd : decide ((k : Int) < (l0.length : Int)) = false := decide_eq_false (by omega)
      have hk' : k = l0.length := by omega
      subst hk'
      go_wp2
      go_ret
      have := HT.out
      rw [List.take_length] at this
      rw [this]
      exact ⟨rfl, rfl⟩

/-- A number's bytes, the highest first, laid into cells: the first k of n. -/
def layN (cs : Array Value) (off n : Nat) (x : Nat) : Nat → Array Value
  | 0 => cs
  | k + 1 => (layN cs off n x k).setIfInBounds (off + k) (.int .u8 ((x / 2 ^ (8 * (n - 1 - k)) % 256 : Nat) : Int))
theorem layN_size (cs : Array Value) (off n x k : Nat) : (layN cs off n x k).size = cs.size := by
  induction k with
  | zero => rfl
  | succ k ih => simp [layN, ih]
set_option maxHeartbeats 1000000 in
theorem lay_any (g off n cap : Nat) (x : Nat) (w : World) (t : TypeId) (cs : Array Value) (hg : w.heap[g]? = some (.cells cs t (0, 0))) (hfit : off + n ≤ cs.size) (hx : x < 18446744073709551616) (hn : n ≤ 8) :
    Calls Try.prog 33 #[.slice (some ⟨g, off, none⟩) n cap, .int .u64 x] w fun e w' => e = .returned (.tuple #[]) ∧ w' = w.setRow g (layN cs off n x n) := by
  have HG := Aside0.mk hg
  clear hg
  go_enter Try.func33, Try.ntmps33
  go_wp2
  go_loopg [7] n (fun kq v7 w' => ∃ k : Nat, k + kq = n ∧ v7 = .int .i64 k ∧ Aside0 (w' = w.setRow g (layN cs off n x k)) ∧ Aside0 (w'.heap[g]? = some (.cells (layN cs off n x k) t (0, 0))))
  case atStart => exact ⟨0, by omega, rfl, ⟨(setRow_self w g cs t (0, 0) HG.out).symm⟩, HG⟩
  case round =>
    obtain ⟨k, hk, rfl, HW, HC⟩ := hrel
    by_cases hlt : k < n
    · have hd : decide ((k : Int) < (n : Int)) = true := decide_eq_true (by omega)
      have hs := layN_size cs off n x k
      have hc : wr.cell? ⟨g, off + k, none⟩ = (layN cs off n x k)[off + k]? := blk_cell HC.out (off + k)
      have hf : wr.frozen? ⟨g, off + k, none⟩ = false := blk_frozen HC.out (off + k)
      rw [Array.getElem?_eq_getElem (by omega)] at hc
      obtain ⟨u, hu⟩ : ∃ u, (layN cs off n x k)[off + k]'(by omega) = u := ⟨_, rfl⟩
      rw [hu] at hc
      clear hu hs
      go_wp2
      go_roundg (n - k - 1)
      case measure => omega
      case rel =>
        have ev : Value.int IntKind.u8 ((x : Int) / 2 ^ (8 * (n - 1 - k)) % 256) = .int .u8 ((x / 2 ^ (8 * (n - 1 - k)) % 256 : Nat) : Int) := by
          rw [Int.natCast_emod, Int.natCast_ediv, Int.natCast_pow]
          rfl
        refine ⟨k + 1, by omega, by go_num, ⟨?_⟩, ⟨?_⟩⟩
        · rw [ev, setCell_eq_setRow wr g (off + k) _ t (0, 0) _ HC.out, HW.out, setRow_setRow]
          rfl
        · rw [ev, setCell_eq_setRow wr g (off + k) _ t (0, 0) _ HC.out]
          exact setRow_heap wr g _ _ t (0, 0) HC.out
    · have hd : decide ((k : Int) < (n : Int)) = false := decide_eq_false (by omega)
      have hk' : k = n := by omega
      subst hk'
      go_wp2
      go_end0
      exact ⟨rfl, HW.out⟩
end Go.Proofs.Ytelhdgnolijpcaa.Hm
