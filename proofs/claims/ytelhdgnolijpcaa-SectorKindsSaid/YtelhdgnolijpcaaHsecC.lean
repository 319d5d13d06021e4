/- The Go function sector.Put, whole: what it returns for any frame; conditions: the frame's numbers are of their kinds, its body's numbers are bytes. -/
import Derived.Test.YtelhdgnolijpcaaHsecB
namespace Go.Proofs.Ytelhdgnolijpcaa.Hm
open Go.RowKit Go.Proofs.YtelhdgnolijpcaaW.PrintWords Go.Proofs.YtelhdgnolijpcaaW.PrintLast Go.Proofs.YtelhdgnolijpcaaW.PrintMore
set_option linter.unusedVariables false
set_option linter.unusedSimpArgs false

set_option maxHeartbeats 2000000 in
set_option maxRecDepth 100000 in
theorem sput_kind (k i c s a : Int) (A5 : Option Addr) (c5 : Nat) (n : Nat) (w : World) (hk : k < 1 ∨ 4 < k) :
    Calls Try.prog 23 #[.agg #[.int .i64 k, .int .i64 i, .int .i64 c, .int .u64 s, .int .u32 a, .slice A5 n c5]] w fun e w' => e = .returned (.tuple #[.slice none 0 0, .int .i64 1]) ∧ Below w.heap.size w w' := by
  have hu := Try.underlying42
  by_cases h1 : k < 1
  · have d1 : decide (k < 1) = true := decide_eq_true h1
    clear hk
    go_enter Try.func23, Try.ntmps23
    go_wp2
    go_ret2
    exact ⟨rfl, (Below.refl _ _).alloc (Nat.le_refl _) _⟩
  · have d1 : decide (k < 1) = false := decide_eq_false h1
    have d2 : decide (4 < k) = true := decide_eq_true (by omega)
    clear hk h1
    go_enter Try.func23, Try.ntmps23
    go_wp2
    go_ret2
    exact ⟨rfl, (Below.refl _ _).alloc (Nat.le_refl _) _⟩
set_option maxHeartbeats 2000000 in
set_option maxRecDepth 100000 in
theorem sput_other (k i c s a : Int) (A5 : Option Addr) (c5 : Nat) (n : Nat) (w : World) (hk0 : 1 ≤ k) (hk1 : k ≤ 4) (hb : bytefulB [i, c] = false ∨ 108 < n) :
    Calls Try.prog 23 #[.agg #[.int .i64 k, .int .i64 i, .int .i64 c, .int .u64 s, .int .u32 a, .slice A5 n c5]] w fun e w' => e = .returned (.tuple #[.slice none 0 0, .int .i64 1]) ∧ Below w.heap.size w w' := by
  have d1 : decide (k < 1) = false := decide_eq_false (by omega)
  have d2 : decide (4 < k) = false := decide_eq_false (by omega)
  have hu := Try.underlying42
  obtain ⟨b, hB⟩ : ∃ b, bytefulB [i, c] = b := ⟨_, rfl⟩
  rw [hB] at hb
  have HBF := Aside0.mk hB
  have HD := Aside0.mk hb
  clear hB hb
  go_enter Try.func23, Try.ntmps23
  go_wp2_with (first | ((with_reducible refine gate_dst (N := 1) rfl ?_); refine box_event ?hg (N := 1) ?hd (cs := #[.int .i64 k, .int .i64 i, .int .i64 c, .int .u64 s, .int .u32 a, .slice A5 n c5]) (t := 42) ?hr ?_; (case hd => rfl); (case hg => rfl); (case hr => first | (go_simp; done) | (go_simp; rfl)); intro g1 hg1 w1 hbox hb1; have HB1 := Aside0.mk hb1; have HX := Aside0.mk hbox; have hx0 := blk_cell hbox 0; have hx1 := blk_cell hbox 1; have hx2 := blk_cell hbox 2; clear hbox hb1 hg1) | fail)
  refine (byteful_any _ _ [i, c] _ (C_of_blockK [i, c] (heap_alloc_new _ _) rfl (by simp)) (Nat.le_refl _)).mono ?_
  rintro e w2 ⟨rfl, hW⟩
  rw [HBF.out]
  have HB2 := Aside0.mk (hW ▸ HB1.out.alloc HB1.out.size (.cells (nums .i64 [i, c]).toArray 3) : Below w.heap.size w w2)
  have HX2 := Aside0.mk (show w2.heap[g1]? = some (.cells #[.int .i64 k, .int .i64 i, .int .i64 c, .int .u64 s, .int .u32 a, .slice A5 n c5] 42 (0, 0)) by rw [← hW]; exact blk_alloc HX.out _)
  clear hx0 hx1 hx2 HB1 HX hW
  have hx5 := blk_cell HX2.out 5
  cases b with
  | false =>
    go_wp2
    go_ret2
    exact ⟨rfl, HB2.out⟩
  | true =>
    have d3 : decide ((108 : Int) < (n : Int)) = true := decide_eq_true (by have := HD.out; simp at this; omega)
    go_wp2
    go_ret2
    exact ⟨rfl, HB2.out⟩
/-- sector.Put. -/
def frameOk (k i c : Int) (n : Nat) : Bool := decide (1 ≤ k) && decide (k ≤ 4) && (bytefulB [i, c] && decide (n ≤ 108))
def sector_Put.f (k i c s a : Int) (l : List Int) : Option (List Int × Int) :=
  if 0 ≤ s ∧ s < 18446744073709551616 ∧ 0 ≤ a ∧ a < 4294967296 ∧ bytesB l = true then
    some (if frameOk k i c l.length = true then (frameL k i c s.toNat a.toNat l ++ be32 (crcM 0 (frameL k i c s.toNat a.toNat l)), 0) else ([], 1))
  else none
theorem sector_Put.calls (a0_0 : Int) (a0_1 : Int) (a0_2 : Int) (a0_3 : Int) (a0_4 : Int) (A0_5 : Option Addr) (c0_5 : Nat) (l0_5 : List Int) (r1 : List Int) (r2 : Int) (w : World) (hr0_5 : Kd.C (Kd.int .u8) w A0_5 l0_5.length l0_5) (hc0_5 : l0_5.length ≤ c0_5) (h : sector_Put.f a0_0 a0_1 a0_2 a0_3 a0_4 l0_5 = some (r1, r2)) :
    Calls Try.prog 23 #[.agg #[.int .i64 a0_0, .int .i64 a0_1, .int .i64 a0_2, .int .u64 a0_3, .int .u32 a0_4, .slice A0_5 l0_5.length c0_5]] w fun e w' => ∃ v0_ : Value, e = .returned (.tuple #[v0_, .int .i64 r2]) ∧ Kd.R (Kd.int .u8) 5 w' w.heap.size (fun _ => True) v0_ r1 ∧ Below w.heap.size w w' := by
  unfold sector_Put.f at h
  split at h
  · rename_i hc
    obtain ⟨hs0, hs1, ha0, ha1, hb⟩ := hc
    obtain ⟨s, rfl⟩ := Int.eq_ofNat_of_zero_le hs0
    obtain ⟨a, rfl⟩ := Int.eq_ofNat_of_zero_le ha0
    have bad : ∀ {k i c : Int}, frameOk k i c l0_5.length = false → Calls Try.prog 23 #[.agg #[.int .i64 k, .int .i64 i, .int .i64 c, .int .u64 (s : Int), .int .u32 (a : Int), .slice A0_5 l0_5.length c0_5]] w fun e w' => e = .returned (.tuple #[.slice none 0 0, .int .i64 1]) ∧ Below w.heap.size w w' := by
      intro k i c hf
      by_cases hk : 1 ≤ k ∧ k ≤ 4
      · refine sput_other k i c s a A0_5 c0_5 l0_5.length w hk.1 hk.2 ?_
        unfold frameOk at hf
        rw [decide_eq_true hk.1, decide_eq_true hk.2] at hf
        cases hb2 : bytefulB [i, c] with
        | false => exact .inl rfl
        | true =>
          rw [hb2] at hf
          simp at hf
          exact .inr hf
      · exact sput_kind k i c s a A0_5 c0_5 l0_5.length w (by omega)
    split at h
    · rename_i hf
      obtain ⟨rfl, rfl⟩ := Prod.mk.inj (Option.some.inj h)
      unfold frameOk bytefulB at hf
      simp only [Bool.and_eq_true, decide_eq_true_eq, List.all_cons, List.all_nil, Bool.and_true] at hf
      rw [Int.toNat_natCast, Int.toNat_natCast]
      exact sput_good a0_0 a0_1 a0_2 s a A0_5 c0_5 l0_5 w hr0_5 hc0_5 hf.1.1 hf.1.2 hf.2.1.1.1 hf.2.1.1.2 hf.2.1.2.1 hf.2.1.2.2 hf.2.2 (by omega) (by omega) hb
    · rename_i hf
      obtain ⟨rfl, rfl⟩ := Prod.mk.inj (Option.some.inj h)
      refine (bad (by simpa using hf)).mono ?_
      rintro e w' ⟨rfl, hb'⟩
      exact ⟨_, rfl, Kd.R_nil _ _ _ _ _, hb'⟩
  · cases h
end Go.Proofs.Ytelhdgnolijpcaa.Hm
