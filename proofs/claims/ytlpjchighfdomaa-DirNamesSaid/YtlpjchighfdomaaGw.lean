/- The Go type xdr.Writer: its functions append bytes to what was put; conditions: those that each theorem names. -/
import Derived.Test.YtlpjchighfdomaaGa
namespace Go.Proofs.Ytlpjchighfdomaa.Hm
open Go.RowKit Go.Proofs.YtlpjchighfdomaaW.PrintWords Go.Proofs.YtlpjchighfdomaaW.PrintLast Go.Proofs.YtlpjchighfdomaaW.PrintMore
set_option linter.unusedVariables false
set_option linter.unusedSimpArgs false

/-- Block p is a writer that has put the bytes xs; all that it writes lies from block B on, and, but for p, in blocks of S. -/
structure Wr (w : World) (B p : Nat) (S : Nat → Prop) (xs : List Int) : Prop where
  le : B ≤ p
  ex : ∃ v, w.heap[p]? = some (.cells #[v] 139 (0, 0)) ∧ Kd.R (Kd.int .u8) 5 w B S v xs
  by_ : bytesB xs = true
theorem Wr.lt {w : World} {B p : Nat} {S : Nat → Prop} {xs : List Int} (h : Wr w B p S xs) : p < w.heap.size := by
  obtain ⟨v, hb, _⟩ := h.ex
  exact blk_lt hb
theorem Wr.below {w w' : World} {B p : Nat} {S : Nat → Prop} {xs : List Int} (h : Wr w B p S xs) (hb : Below w.heap.size w w') : Wr w' B p S xs := by
  obtain ⟨v, h1, h2⟩ := h.ex
  exact ⟨h.le, ⟨v, blk_below h1 hb, Kd.R_below h2 hb⟩, h.by_⟩
theorem Wr.mono {w : World} {B p : Nat} {S S' : Nat → Prop} {xs : List Int} (h : Wr w B p S xs) (hs : ∀ k, S k → S' k) : Wr w B p S' xs := by
  obtain ⟨v, h1, h2⟩ := h.ex
  exact ⟨h.le, ⟨v, h1, Kd.R_mono h2 hs⟩, h.by_⟩
/-- What was made since is none of its rows. -/
theorem Wr.apart {w w' : World} {B p : Nat} {S : Nat → Prop} {xs : List Int} (h : Wr w B p S xs) (hb : Below w.heap.size w w') : Wr w' B p (fun k => k < w.heap.size ∨ w'.heap.size ≤ k) xs := by
  obtain ⟨v, h1, h2⟩ := h.ex
  exact ⟨h.le, ⟨v, blk_below h1 hb, Kd.R_below (Kd.R_mono (Kd.R_bound h2) (fun k hk => .inl hk.2.2.1)) hb⟩, h.by_⟩
theorem Wr.len {w : World} {B p : Nat} {S : Nat → Prop} {xs ys : List Int} (h : Wr w B p S xs) (e : xs = ys) : Wr w B p S ys := e ▸ h
theorem Wr.stored {w : World} {B p n c : Nat} {S : Nat → Prop} {xs : List Int} {A : Option Addr} {v : Value} (hbk : w.heap[p]? = some (.cells #[v] 139 (0, 0))) (hr : Kd.R (Kd.int .u8) 5 w B S (.slice A xs.length c) xs) (hle : B ≤ p) (hb : bytesB xs = true) (hn : n = xs.length) :
    Wr (w.setCell ⟨p, 0, none⟩ (.slice A n c)) B p S xs := by
  subst hn
  exact ⟨hle, ⟨_, blk_set hbk 0 _, Kd.R_set hr hbk (by simp [Kd.int, Kd.scalar]) 0 _⟩, hb⟩
theorem below_out {B p : Nat} {w W : World} (h : Below B w W) (hp : B ≤ p) (j : Nat) (v : Value) : Below B w (W.setCell ⟨p, j, none⟩ v) := h.setCell hp v
theorem Kept.refl' (w : World) (S : Nat → Prop) : Kept w w S := ⟨Nat.le_refl _, fun _ _ _ => rfl⟩
theorem Kept.trans' {w w1 w2 : World} {S : Nat → Prop} (h : Kept w w1 S) (k : Kept w1 w2 S) : Kept w w2 S :=
  ⟨Nat.le_trans h.1 k.1, fun i hi hs => (k.2 i (Nat.lt_of_lt_of_le hi h.1) hs).trans (h.2 i hi hs)⟩
theorem Kept.grown' {w w1 w2 : World} {S : Nat → Prop} {v : Value} (h : Kept w w1 S) (hg : w1.grownBy w2 v.ownBlock) (hv : ∀ k, v.ownBlock = some k → S k) : Kept w w2 S :=
  ⟨Nat.le_trans h.1 hg.size, fun i hi hs => (hg.block i (Nat.lt_of_lt_of_le hi h.1) (fun e => hs (hv i e.symm))).trans (h.2 i hi hs)⟩
theorem Kept.put' {w w1 : World} {S : Nat → Prop} {p : Nat} (h : Kept w w1 S) (hp : S p) (j : Nat) (u : Value) : Kept w (w1.setCell ⟨p, j, none⟩ u) S :=
  ⟨by simpa [World.setCell] using h.1, fun i hi hs => (Below.heap_setCell w1 ⟨p, j, none⟩ u i (fun e => hs (e ▸ hp))).trans (h.2 i hi hs)⟩
theorem Kept.below' {w w1 w2 : World} {S : Nat → Prop} (h : Kept w w1 S) (hb : Below w1.heap.size w1 w2) : Kept w w2 S :=
  ⟨Nat.le_trans h.1 hb.size, fun i hi hs => (hb.block i (Nat.lt_of_lt_of_le hi h.1)).trans (h.2 i hi hs)⟩
set_option maxHeartbeats 1000000 in
theorem NewWriter_any (w : World) : Calls Try.prog 55 #[] w fun e w' => e = .returned (.pointer (some ⟨w.heap.size, 0, none⟩)) ∧ Wr w' w.heap.size w.heap.size (fun _ => True) [] ∧ Below w.heap.size w w' := by
  go_enter Try.func55, Try.ntmps55
  go_wp2
  go_ret
  exact ⟨rfl, ⟨Nat.le_refl _, ⟨_, blk_new _ _, Kd.R_nil _ _ _ _ _⟩, rfl⟩, below_alloc (Below.refl _ _) _⟩
set_option maxHeartbeats 2000000 in
set_option maxRecDepth 100000 in
theorem put32_any (B p : Nat) (S : Nat → Prop) (xs : List Int) (x : Int) (w : World) (hw : Wr w B p S xs) (hS : ∀ k, w.heap.size ≤ k → S k) (h0 : 0 ≤ x) (h1 : x < 4294967296) (hl : xs.length ≤ 140737488355000) :
    Calls Try.prog 92 #[.pointer (some ⟨p, 0, none⟩), .int .u32 x, .int .i64 4] w fun e w' => e = .returned (.tuple #[]) ∧ Wr w' B p S (xs ++ be32 x) ∧ Kept w w' (fun k => S k ∨ k = p) ∧ Below B w w' := by
  have HW := Aside0.mk hw
  have HS := Aside0.mk hS
  clear hw hS
  go_enter Try.func92, Try.ntmps92
  go_wp2
  go_loopg [2] 4 (fun kq v2 w' => ∃ ys : List Int, v2 = .int .i64 kq ∧ kq ≤ 4 ∧ Aside0 (Wr w' B p S (xs ++ ys)) ∧ Aside0 (ys ++ beR x kq = beR x 4) ∧ Aside0 (Kept w w' (fun k => S k ∨ k = p)) ∧ Aside0 (Below B w w'))
  case atStart => exact ⟨[], rfl, by omega, ⟨by rw [List.append_nil]; exact HW.out⟩, ⟨rfl⟩, ⟨Kept.refl' _ _⟩, ⟨Below.refl _ _⟩⟩
  case round =>
    obtain ⟨ys, rfl, hk4, HWi, HYi, HKi, HBi⟩ := hrel
    by_cases hk : gk = 0
    · subst hk
      have hy : ys = be32 x := by have h := HYi.out; rw [beR, List.append_nil, beR_4] at h; exact h
      have HY := Aside0.mk hy
      clear hy
      go_wp2
      go_end0
      exact ⟨rfl, by rw [← HY.out]; exact HWi.out, HKi.out, HBi.out⟩
    · obtain ⟨k, rfl⟩ : ∃ k, gk = k + 1 := ⟨gk - 1, by omega⟩
      have hd : decide ((0 : Int) < ((k + 1 : Nat) : Int)) = true := decide_eq_true (by omega)
      clear hk
      obtain ⟨v, hbk, hro⟩ := HWi.out.ex
      have HRO := Aside0.mk hro
      have HBK := Aside0.mk hbk
      have HNE := Aside0.mk (Kd.R_ne hro hbk (by decide))
      have hcl := blk_cell hbk 0
      have hfz := blk_frozen hbk 0
      have hal := blk_cell (blk_alloc hbk (.cells #[.int .u8 (x / 2 ^ (8 * k) % 256)] 5)) 0
      have hyl : ys.length ≤ 4 := by have h := congrArg List.length HYi.out; rw [List.length_append] at h; simp [beR] at h; omega
      clear hbk hro
      have hm8 : IntKind.i64.wrap (8 * (k : Int)) = 8 * (k : Int) := IntWalk.i64_in _ (by omega)
      have hp8 : 0 ≤ 8 * (k : Int) := by omega
      have hu8 : 8 * (k : Int) ≤ 32 := by omega
      have ht8 : (8 * (k : Int)).toNat = 8 * k := by omega
      have hq0 : 0 ≤ x / 2 ^ (8 * k) := Int.ediv_nonneg h0 (Int.le_of_lt (Int.pow_pos (by decide)))
      have hq1 : x / 2 ^ (8 * k) < 4294967296 := Int.lt_of_le_of_lt (Int.ediv_le_self _ h0) h1
      have hw8 : IntKind.u8.wrap (x / 2 ^ (8 * k)) = x / 2 ^ (8 * k) % 256 := by simp only [IntKind.wrap, IntKind.signed, IntKind.bits]; simp
      go_wp2
      go_region_law ((refine Kd.R_append_step (Kd.int .u8) (w0 := w) B (by rfl) _ _ 22 5 (.int .u8 0) 1 (by rfl) Try.underlying22 infoB rfl (by decide) (by decide) v (xs ++ ys) (x / 2 ^ (8 * k) % 256) [.int .u8 (x / 2 ^ (8 * k) % 256)] S (fun _ => False) (by rfl) (by rfl) rfl (fun _ hk => hk.elim) (fun k hk => HS.out k (Nat.le_trans HKi.out.1 (by simpa using hk))) (Kd.R_below HRO.out (below_drew1 (Below.refl _ _))) (below_drew1 HBi.out) (by have := HWi.out.le; have := HWi.out.lt; simp; omega) (by simp; omega) ?_; intro v1 w1 hr1 hb1 hg1 hat1; obtain ⟨A1, c1, e1⟩ := Kd.R_slice hr1; subst e1; have HR1 := Aside0.mk hr1; have HB1 := Aside0.mk hb1; have HK1 := Aside0.mk (Kept.grown' (v := v) (Kept.below' HKi.out (below_drew1 (Below.refl _ _))) hg1 (fun k hk => Or.inl (HRO.out.1 k hk))); have HBK1 := Aside0.mk (blk_grown (blk_drew HBK.out) hg1 HNE.out); have hcl1 := blk_cell HBK1.out 0; have hfz1 := blk_frozen HBK1.out 0; clear hr1 hb1 hg1 hat1))
      all_goals
        go_wp2
        go_roundg k
        case measure => omega
        case rel =>
          refine ⟨ys ++ [x / 2 ^ (8 * k) % 256], rfl, by omega, ⟨?_⟩, ⟨?_⟩, ⟨Kept.put' HK1.out (Or.inr rfl) _ _⟩, ⟨below_out HB1.out HWi.out.le _ _⟩⟩
          · rw [← List.append_assoc]
            exact Wr.stored HBK1.out HR1.out HWi.out.le (by rw [bytesB_append, HWi.out.by_]; simp [bytesB]; omega) (by simp)
          · rw [List.append_assoc]; exact HYi.out
set_option maxHeartbeats 2000000 in
set_option maxRecDepth 100000 in
theorem put64_any (B p : Nat) (S : Nat → Prop) (xs : List Int) (x : Int) (w : World) (hw : Wr w B p S xs) (hS : ∀ k, w.heap.size ≤ k → S k) (h0 : 0 ≤ x) (h1 : x < 18446744073709551616) (hl : xs.length ≤ 140737488355000) :
    Calls Try.prog 91 #[.pointer (some ⟨p, 0, none⟩), .int .u64 x, .int .i64 8] w fun e w' => e = .returned (.tuple #[]) ∧ Wr w' B p S (xs ++ be64 x) ∧ Kept w w' (fun k => S k ∨ k = p) ∧ Below B w w' := by
  have HW := Aside0.mk hw
  have HS := Aside0.mk hS
  clear hw hS
  go_enter Try.func91, Try.ntmps91
  go_wp2
  go_loopg [2] 8 (fun kq v2 w' => ∃ ys : List Int, v2 = .int .i64 kq ∧ kq ≤ 8 ∧ Aside0 (Wr w' B p S (xs ++ ys)) ∧ Aside0 (ys ++ beR x kq = beR x 8) ∧ Aside0 (Kept w w' (fun k => S k ∨ k = p)) ∧ Aside0 (Below B w w'))
  case atStart => exact ⟨[], rfl, by omega, ⟨by rw [List.append_nil]; exact HW.out⟩, ⟨rfl⟩, ⟨Kept.refl' _ _⟩, ⟨Below.refl _ _⟩⟩
  case round =>
    obtain ⟨ys, rfl, hk4, HWi, HYi, HKi, HBi⟩ := hrel
    by_cases hk : gk = 0
    · subst hk
      have hy : ys = be64 x := by have h := HYi.out; rw [beR, List.append_nil, beR_8 x h0 h1] at h; exact h
      have HY := Aside0.mk hy
      clear hy
      go_wp2
      go_end0
      exact ⟨rfl, by rw [← HY.out]; exact HWi.out, HKi.out, HBi.out⟩
    · obtain ⟨k, rfl⟩ : ∃ k, gk = k + 1 := ⟨gk - 1, by omega⟩
      have hd : decide ((0 : Int) < ((k + 1 : Nat) : Int)) = true := decide_eq_true (by omega)
      clear hk
      obtain ⟨v, hbk, hro⟩ := HWi.out.ex
      have HRO := Aside0.mk hro
      have HBK := Aside0.mk hbk
      have HNE := Aside0.mk (Kd.R_ne hro hbk (by decide))
      have hcl := blk_cell hbk 0
      have hfz := blk_frozen hbk 0
      have hal := blk_cell (blk_alloc hbk (.cells #[.int .u8 (x / 2 ^ (8 * k) % 256)] 5)) 0
      have hyl : ys.length ≤ 8 := by have h := congrArg List.length HYi.out; rw [List.length_append] at h; simp [beR] at h; omega
      clear hbk hro
      have hm8 : IntKind.i64.wrap (8 * (k : Int)) = 8 * (k : Int) := IntWalk.i64_in _ (by omega)
      have hp8 : 0 ≤ 8 * (k : Int) := by omega
      have hu8 : 8 * (k : Int) ≤ 64 := by omega
      have ht8 : (8 * (k : Int)).toNat = 8 * k := by omega
      have hq0 : 0 ≤ x / 2 ^ (8 * k) := Int.ediv_nonneg h0 (Int.le_of_lt (Int.pow_pos (by decide)))
      have hq1 : x / 2 ^ (8 * k) < 18446744073709551616 := Int.lt_of_le_of_lt (Int.ediv_le_self _ h0) h1
      have hw8 : IntKind.u8.wrap (x / 2 ^ (8 * k)) = x / 2 ^ (8 * k) % 256 := by simp only [IntKind.wrap, IntKind.signed, IntKind.bits]; simp
      go_wp2
      go_region_law ((refine Kd.R_append_step (Kd.int .u8) (w0 := w) B (by rfl) _ _ 22 5 (.int .u8 0) 1 (by rfl) Try.underlying22 infoB rfl (by decide) (by decide) v (xs ++ ys) (x / 2 ^ (8 * k) % 256) [.int .u8 (x / 2 ^ (8 * k) % 256)] S (fun _ => False) (by rfl) (by rfl) rfl (fun _ hk => hk.elim) (fun k hk => HS.out k (Nat.le_trans HKi.out.1 (by simpa using hk))) (Kd.R_below HRO.out (below_drew1 (Below.refl _ _))) (below_drew1 HBi.out) (by have := HWi.out.le; have := HWi.out.lt; simp; omega) (by simp; omega) ?_; intro v1 w1 hr1 hb1 hg1 hat1; obtain ⟨A1, c1, e1⟩ := Kd.R_slice hr1; subst e1; have HR1 := Aside0.mk hr1; have HB1 := Aside0.mk hb1; have HK1 := Aside0.mk (Kept.grown' (v := v) (Kept.below' HKi.out (below_drew1 (Below.refl _ _))) hg1 (fun k hk => Or.inl (HRO.out.1 k hk))); have HBK1 := Aside0.mk (blk_grown (blk_drew HBK.out) hg1 HNE.out); have hcl1 := blk_cell HBK1.out 0; have hfz1 := blk_frozen HBK1.out 0; clear hr1 hb1 hg1 hat1))
      all_goals
        go_wp2
        go_roundg k
        case measure => omega
        case rel =>
          refine ⟨ys ++ [x / 2 ^ (8 * k) % 256], rfl, by omega, ⟨?_⟩, ⟨?_⟩, ⟨Kept.put' HK1.out (Or.inr rfl) _ _⟩, ⟨below_out HB1.out HWi.out.le _ _⟩⟩
          · rw [← List.append_assoc]
            exact Wr.stored HBK1.out HR1.out HWi.out.le (by rw [bytesB_append, HWi.out.by_]; simp [bytesB]; omega) (by simp)
          · rw [List.append_assoc]; exact HYi.out

theorem fill_any (n : Nat) (w : World) (h : n ≤ 140737488355328) : Calls Try.prog 85 #[.int .i64 (n : Int)] w fun e w' => e = .returned (.int .i64 (((4 - n % 4) % 4 : Nat) : Int)) ∧ w' = w := by
  have h1 : (n : Int) % 4 < 4 := Int.emod_lt_of_pos _ (by decide)
  have h2 : 0 ≤ (n : Int) % 4 := Int.emod_nonneg _ (by decide)
  go_enter Try.func85, Try.ntmps85
  go_wp2
  go_ret
  refine ⟨?_, rfl⟩
  refine congrArg (fun z => Ending.returned (.int .i64 z)) ?_
  omega
theorem U32_any (B p : Nat) (S : Nat → Prop) (xs : List Int) (x : Int) (w : World) (hw : Wr w B p S xs) (hS : ∀ k, w.heap.size ≤ k → S k) (h0 : 0 ≤ x) (h1 : x < 4294967296) (hl : xs.length ≤ 140737488355000) :
    Calls Try.prog 57 #[.pointer (some ⟨p, 0, none⟩), .int .u32 x] w fun e w' => e = .returned (.tuple #[]) ∧ Wr w' B p S (xs ++ be32 x) ∧ Kept w w' (fun k => S k ∨ k = p) ∧ Below B w w' := by
  go_enter Try.func57, Try.ntmps57
  go_wp2_with fail
  (with_reducible refine (put32_any B p S xs x w hw hS h0 h1 hl).mono ?_)
  rintro e w1 ⟨rfl, hw1, hk1, hb1⟩
  go_wp2
  go_end0
  exact ⟨rfl, hw1, hk1, hb1⟩
theorem U64_any (B p : Nat) (S : Nat → Prop) (xs : List Int) (x : Int) (w : World) (hw : Wr w B p S xs) (hS : ∀ k, w.heap.size ≤ k → S k) (h0 : 0 ≤ x) (h1 : x < 18446744073709551616) (hl : xs.length ≤ 140737488355000) :
    Calls Try.prog 56 #[.pointer (some ⟨p, 0, none⟩), .int .u64 x] w fun e w' => e = .returned (.tuple #[]) ∧ Wr w' B p S (xs ++ be64 x) ∧ Kept w w' (fun k => S k ∨ k = p) ∧ Below B w w' := by
  go_enter Try.func56, Try.ntmps56
  go_wp2_with fail
  (with_reducible refine (put64_any B p S xs x w hw hS h0 h1 hl).mono ?_)
  rintro e w1 ⟨rfl, hw1, hk1, hb1⟩
  go_wp2
  go_end0
  exact ⟨rfl, hw1, hk1, hb1⟩
theorem Out_any (B p : Nat) (S : Nat → Prop) (xs : List Int) (w : World) (hw : Wr w B p S xs) (hl : xs.length ≤ 140737488355000) :
    Calls Try.prog 59 #[.pointer (some ⟨p, 0, none⟩)] w fun e w' => ∃ v0_ : Value, e = .returned v0_ ∧ Kd.R (Kd.int .u8) 5 w' w.heap.size (fun _ => True) v0_ xs ∧ Below w.heap.size w w' := by
  obtain ⟨v, hbk, hro⟩ := hw.ex
  obtain ⟨A, c, e1, hc, hr⟩ := Kd.R_reads hro
  subst e1
  have HC := Aside0.mk hr
  have hcl := blk_cell hbk 0
  clear hro hr hw hbk
  go_enter Try.func59, Try.ntmps59
  go_wp2_with fail
  (with_reducible refine (slices_Clone.calls A c xs xs w HC.out hc (by unfold slices_Clone.f; rw [if_pos (by omega)])).mono ?_)
  rintro e w1 ⟨v0, rfl, h1, h2⟩
  go_wp2
  go_ret
  exact ⟨_, rfl, h1, h2⟩
set_option maxHeartbeats 2000000 in
set_option maxRecDepth 100000 in
theorem Opaque_any (B p : Nat) (S T : Nat → Prop) (xs : List Int) (A : Option Addr) (c : Nat) (l : List Int) (w : World) (hw : Wr w B p S xs) (hS : ∀ k, w.heap.size ≤ k → S k)
    (hF : Kd.F (Kd.int .u8) w T A l.length l) (hc : l.length ≤ c) (hT : ∀ k, T k → k < w.heap.size → ¬ (S k ∨ k = p)) (hb : bytesB l = true) (hl : xs.length ≤ 140737488000000) (hll : l.length ≤ 300000) :
    Calls Try.prog 58 #[.pointer (some ⟨p, 0, none⟩), .slice A l.length c] w fun e w' => e = .returned (.tuple #[]) ∧ Wr w' B p S (xs ++ opq l) ∧ Kept w w' (fun k => S k ∨ k = p) ∧ Below B w w' := by
  have HW := Aside0.mk hw
  have HS := Aside0.mk hS
  have HF := Aside0.mk hF
  have HT := Aside0.mk hT
  have HB := Aside0.mk hb
  clear hw hS hF hT hb
  go_enter Try.func58, Try.ntmps58
  go_wp2_with fail
  (with_reducible refine (U32_any B p S xs (l.length : Int) w HW.out HS.out (by omega) (by omega) (by omega)).mono ?_)
  rintro e w1 ⟨rfl, hw1, hk1, hb1⟩
  obtain ⟨v, hbk, hro⟩ := hw1.ex
  have HNE := Aside0.mk (Kd.R_ne hro hbk (by decide))
  have HRO := Aside0.mk hro
  have HBK := Aside0.mk hbk
  have HBY := Aside0.mk hw1.by_
  have HK1 := Aside0.mk hk1
  have HB1 := Aside0.mk hb1
  have HC := Aside0.mk (Kd.F_now (Kd.F_kept (Kd.F_bound HF.out) hk1 (fun k hk => HT.out k hk.1 hk.2)))
  have hcl := blk_cell hbk 0
  have hle := HW.out.le
  have hlt := HW.out.lt
  have hz1 := hk1.1
  have hbl : (be32 (l.length : Int)).length = 4 := rfl
  have HL := Aside0.mk hbl
  clear hw1 hk1 hb1 hbk hro hbl
  obtain ⟨zs, hzs⟩ : ∃ zs, xs ++ be32 (l.length : Int) = zs := ⟨_, rfl⟩
  have hzl : zs.length ≤ xs.length + 4 := by rw [← hzs, List.length_append, HL.out]; exact Nat.le_refl _
  rw [hzs] at HRO HBY
  have HZ := Aside0.mk hzs
  clear hzs
  go_wp2_with (first | (go_at_call 85; (with_reducible refine (fill_any l.length _ (by omega)).mono ?_); rintro e w' ⟨rfl, rfl⟩) | (at_builtin; refine Kd.R_append_row (Value.int .u8) 0 (w0 := w) B rfl (.tmp 15) (.tmp 16) 22 5 (.int .u8 0) 1 rfl Try.underlying22 infoB rfl (by decide) v zs l A l.length c S rfl rfl (fun k hk => HS.out k (by omega)) HRO.out HC.out HB1.out (by omega) (by omega) ?_; intro v17 w2 hro2 hb2 hg2 hat2; have HRO2 := Aside0.mk hro2; have HB2 := Aside0.mk hb2; have HBK2 := Aside0.mk (blk_grown HBK.out hg2 HNE.out); have HNE2 := Aside0.mk (Kd.R_ne hro2 HBK2.out (by decide)); have HK2 := Aside0.mk (Kept.grown' (v := v) HK1.out hg2 (fun k hk => Or.inl (HRO.out.1 k hk))); have hz2 := hg2.size; clear hro2 hb2 hg2 hat2 hcl) | (at_builtin; refine Kd.R_append_zeros (Kd.int .u8) (w0 := w) B rfl (.tmp 17) (.tmp 20) 22 3 5 (.int .u8 0) 1 rfl Try.underlying22 Try.underlying3 infoB rfl (by decide) (by decide) v17 (zs ++ l) 0 (((4 - l.length % 4) % 4 : Nat) : Int) S rfl rfl rfl (fun k hk => HS.out k (by omega)) HRO2.out (by omega) HB2.out (by omega) (by simp; omega) ?_; intro v21 w3 hro3 hb3 hg3 hat3; have HRO3 := Aside0.mk hro3; have HB3 := Aside0.mk hb3; have HBK3 := Aside0.mk (blk_grown HBK2.out hg3 HNE2.out); have HK3 := Aside0.mk (Kept.grown' (v := v17) HK2.out hg3 (fun k hk => Or.inl (HRO2.out.1 k hk))); obtain ⟨A3, c3, e3⟩ := Kd.R_slice hro3; subst e3; have hcl3 := blk_cell HBK3.out 0; have hfz3 := blk_frozen HBK3.out 0; clear hro3 hb3 hg3 hat3))
  go_end0
  refine ⟨rfl, Wr.len (Wr.stored HBK3.out HRO3.out hle (by rw [bytesB_append, bytesB_append, HBY.out, HB.out, bytesB_zeros]; rfl) (by simp; omega)) ?_, Kept.put' HK3.out (Or.inr rfl) _ _, below_out HB3.out hle _ _⟩
  rw [← HZ.out, opq, Int.toNat_natCast]
  simp only [List.append_assoc]
end Go.Proofs.Ytlpjchighfdomaa.Hm
