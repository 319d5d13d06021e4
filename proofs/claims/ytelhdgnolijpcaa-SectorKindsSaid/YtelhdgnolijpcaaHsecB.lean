/- The Go function sector.Put returns what a plain Lean function of its frame computes; conditions: the frame's numbers are of their kinds, its body's numbers are bytes, its length fits. -/
import Derived.Test.YtelhdgnolijpcaaHsecA
import Derived.BigRegion
import Derived.StillTailTactics
import Derived.RegionTactic
import Derived.ChangeAlike
namespace Go.Proofs.Ytelhdgnolijpcaa.Hm
open Go.RowKit Go.Proofs.YtelhdgnolijpcaaW.PrintWords Go.Proofs.YtelhdgnolijpcaaW.PrintLast Go.Proofs.YtelhdgnolijpcaaW.PrintMore
set_option linter.unusedVariables false
set_option linter.unusedSimpArgs false

theorem infoI : (Try.prog.info? 3).map (fun i => (i.zero, i.size, i.bytes)) = some (some (.int .i64 0), 1, 8) := by kernel_rfl
def zerosV (n : Nat) : Array Value := (List.replicate n (Value.int .u8 0)).toArray
def sec0 (k i c : Int) (n : Nat) : Array Value := ((((zerosV 124).setIfInBounds 0 (.int .u8 k)).setIfInBounds 1 (.int .u8 i)).setIfInBounds 2 (.int .u8 c)).setIfInBounds 3 (.int .u8 n)
def sec1 (k i c : Int) (n s : Nat) : Array Value := layN (sec0 k i c n) 4 8 s 8
def sec2 (k i c : Int) (n s a : Nat) : Array Value := layN (sec1 k i c n s) 12 4 a 4
theorem sec0_size (k i c : Int) (n : Nat) : (sec0 k i c n).size = 124 := by simp [sec0, zerosV]
theorem sec1_size (k i c : Int) (n s : Nat) : (sec1 k i c n s).size = 124 := by rw [sec1, layN_size, sec0_size]
theorem sec2_size (k i c : Int) (n s a : Nat) : (sec2 k i c n s a).size = 124 := by rw [sec2, layN_size, sec1_size]
def be64 (x : Nat) : List Int := [((x / 72057594037927936 % 256 : Nat) : Int), ((x / 281474976710656 % 256 : Nat) : Int), ((x / 1099511627776 % 256 : Nat) : Int), ((x / 4294967296 % 256 : Nat) : Int), ((x / 16777216 % 256 : Nat) : Int), ((x / 65536 % 256 : Nat) : Int), ((x / 256 % 256 : Nat) : Int), ((x % 256 : Nat) : Int)]
def be4 (x : Nat) : List Int := [((x / 16777216 % 256 : Nat) : Int), ((x / 65536 % 256 : Nat) : Int), ((x / 256 % 256 : Nat) : Int), ((x % 256 : Nat) : Int)]
/-- A frame's bytes, ahead of their sum. -/
def frameL (k i c : Int) (s a : Nat) (l : List Int) : List Int := [k, i, c, (l.length : Int)] ++ be64 s ++ be4 a ++ l ++ List.replicate (108 - l.length) 0
theorem sec2_list (k i c : Int) (n s a : Nat) : (sec2 k i c n s a).toList = nums .u8 ([k, i, c, (n : Int)] ++ be64 s ++ be4 a ++ List.replicate 108 0) := by
  unfold sec2 sec1 sec0 layN zerosV be64 be4 nums
  simp [layN, List.replicate]
theorem splice_frame (k i c : Int) (s a : Nat) (l : List Int) (hl : l.length ≤ 108) : splice (sec2 k i c l.length s a).toList 16 (nums .u8 l) = nums .u8 (frameL k i c s a l) := by
  rw [sec2_list]
  unfold splice frameL
  rw [nums_length]
  have h16 : ([k, i, c, (l.length : Int)] ++ be64 s ++ be4 a).length = 16 := rfl
  generalize [k, i, c, (l.length : Int)] ++ be64 s ++ be4 a = H at *
  have h16' : (nums .u8 H).length = 16 := by rw [nums_length, h16]
  rw [nums_append, nums_append, nums_append, List.take_left' h16', List.append_assoc]
  congr 2
  rw [← h16', List.drop_append, List.drop_eq_nil_of_le (by omega)]
  simp only [nums, List.map_replicate, List.nil_append, Nat.add_sub_cancel_left, List.drop_replicate]
theorem be64_bytes (s : Nat) : bytesB (be64 s) = true := by
  rw [bytesB_iff]
  intro x hx
  simp only [be64, List.mem_cons, List.not_mem_nil, or_false] at hx
  omega
theorem be4_bytes (s : Nat) : bytesB (be4 s) = true := by
  rw [bytesB_iff]
  intro x hx
  simp only [be4, List.mem_cons, List.not_mem_nil, or_false] at hx
  omega
theorem zeros_bytes (n : Nat) : bytesB (List.replicate n 0) = true := by
  rw [bytesB_iff]
  intro x hx
  have := List.eq_of_mem_replicate hx
  omega
theorem frameL_bytes (k i c : Int) (s a : Nat) (l : List Int) (hk0 : 0 ≤ k) (hk1 : k ≤ 255) (hi0 : 0 ≤ i) (hi1 : i ≤ 255) (hc0 : 0 ≤ c) (hc1 : c ≤ 255) (hl : l.length ≤ 108) (hb : bytesB l = true) : bytesB (frameL k i c s a l) = true := by
  unfold frameL
  rw [bytesB_append, bytesB_append, bytesB_append, bytesB_append, be64_bytes, be4_bytes, hb, zeros_bytes]
  simp [bytesB]
  omega
set_option maxHeartbeats 2000000 in
set_option maxRecDepth 100000 in
theorem sput_good (k i c : Int) (s a : Nat) (A5 : Option Addr) (c5 : Nat) (l : List Int) (w : World) (hr : Kd.C (Kd.int .u8) w A5 l.length l) (hc : l.length ≤ c5)
    (hk0 : 1 ≤ k) (hk1 : k ≤ 4) (hi0 : 0 ≤ i) (hi1 : i ≤ 255) (hc0 : 0 ≤ c) (hc1 : c ≤ 255) (hl : l.length ≤ 108) (hs : s < 18446744073709551616) (ha : a < 4294967296) (hb : bytesB l = true) :
    Calls Try.prog 23 #[.agg #[.int .i64 k, .int .i64 i, .int .i64 c, .int .u64 s, .int .u32 a, .slice A5 l.length c5]] w fun e w' => ∃ v0_ : Value, e = .returned (.tuple #[v0_, .int .i64 0]) ∧ Kd.R (Kd.int .u8) 5 w' w.heap.size (fun _ => True) v0_ (frameL k i c s a l ++ be32 (crcM 0 (frameL k i c s a l))) ∧ Below w.heap.size w w' := by
  have HR := Aside0.mk hr
  have HBY := Aside0.mk hb
  clear hr hb
  have d1 : decide (k < 1) = false := decide_eq_false (by omega)
  have d2 : decide (4 < k) = false := decide_eq_false (by omega)
  have d3 : decide ((108 : Int) < (l.length : Int)) = false := decide_eq_false (by omega)
  have HBF := Aside0.mk (show bytefulB [i, c] = true by simp [bytefulB]; omega)
  have hu := Try.underlying42
  go_enter Try.func23, Try.ntmps23
  go_wp2_with (first | ((with_reducible refine gate_dst (N := 1) rfl ?_); refine box_event ?hg (N := 1) ?hd (cs := #[.int .i64 k, .int .i64 i, .int .i64 c, .int .u64 s, .int .u32 a, .slice A5 l.length c5]) (t := 42) ?hr ?_; (case hd => rfl); (case hg => rfl); (case hr => first | (go_simp; done) | (go_simp; rfl)); intro g1 hg1 w1 hbox hb1; have HB1 := Aside0.mk hb1; have HX := Aside0.mk hbox; have hx0 := blk_cell hbox 0; have hx1 := blk_cell hbox 1; have hx2 := blk_cell hbox 2; have hx3 := blk_cell hbox 3; have hx4 := blk_cell hbox 4; have hx5 := blk_cell hbox 5; clear hbox hb1 hg1) | fail)
  refine (byteful_any _ _ [i, c] _ (C_of_blockK [i, c] (heap_alloc_new _ _) rfl (by simp)) (Nat.le_refl _)).mono ?_
  rintro e w2 ⟨rfl, hW⟩
  rw [HBF.out]
  have HB2 := Aside0.mk (hW ▸ HB1.out.alloc HB1.out.size (.cells (nums .i64 [i, c]).toArray 3) : Below w.heap.size w w2)
  have HX2 := Aside0.mk (show w2.heap[g1]? = some (.cells #[.int .i64 k, .int .i64 i, .int .i64 c, .int .u64 s, .int .u32 a, .slice A5 l.length c5] 42 (0, 0)) by rw [← hW]; exact blk_alloc HX.out _)
  clear hx0 hx1 hx2 hx3 hx4 hx5 HB1 HX hW
  have hx0 := blk_cell HX2.out 0
  have hx1 := blk_cell HX2.out 1
  have hx2 := blk_cell HX2.out 2
  have hx3 := blk_cell HX2.out 3
  have hx4 := blk_cell HX2.out 4
  have hx5 := blk_cell HX2.out 5
  go_wp2_with (first | ((with_reducible refine gate_dst (N := 4) rfl ?_); refine box_event ?hg (N := 4) ?hd (cs := zerosV 124) (t := 66) ?hr ?_; (case hd => rfl); (case hg => rfl); (case hr => first | (go_simp; done) | (go_simp; rfl)); intro g4 hg4 w4 hbox hb4; have HB4 := Aside0.mk (below_then HB2.out HB2.out.size hb4); have HX4 := Aside0.mk (blk_below HX2.out hb4); have HG4 := Aside0.mk hbox; have HGN := Aside0.mk (show w.heap.size ≤ g4 by rw [hg4]; exact HB2.out.size); have HNE := Aside0.mk (show g1 ≠ g4 by have := blk_lt HX2.out; omega); clear hbox hb4 hg4 hx0 hx1 hx2 hx3 hx4 hx5) | fail)
  (try simp only [Act.put, List.setIfInBounds_toArray, List.set_cons_zero, List.set_cons_succ])
  have hx0 := blk_cell HX4.out 0
  have hx1 := blk_cell HX4.out 1
  have hx2 := blk_cell HX4.out 2
  have hx5 := blk_cell HX4.out 5
  have hg0 : w4.cell? ⟨g4, 0, none⟩ = some (.int .u8 0) := blk_cell HG4.out 0
  have hg1 : w4.cell? ⟨g4, 1, none⟩ = some (.int .u8 0) := blk_cell HG4.out 1
  have hg2 : w4.cell? ⟨g4, 2, none⟩ = some (.int .u8 0) := blk_cell HG4.out 2
  have hg3 : w4.cell? ⟨g4, 3, none⟩ = some (.int .u8 0) := blk_cell HG4.out 3
  have hf0 : w4.frozen? ⟨g4, 0, none⟩ = false := blk_frozen HG4.out 0
  have hf1 : w4.frozen? ⟨g4, 1, none⟩ = false := blk_frozen HG4.out 1
  have hf2 : w4.frozen? ⟨g4, 2, none⟩ = false := blk_frozen HG4.out 2
  have hf3 : w4.frozen? ⟨g4, 3, none⟩ = false := blk_frozen HG4.out 3
  go_region
  go_wp2_with fail
  refine wp_world (fun W => Below w.heap.size w W ∧ W.heap[g1]? = some (.cells #[.int .i64 k, .int .i64 i, .int .i64 c, .int .u64 s, .int .u32 a, .slice A5 l.length c5] 42 (0, 0)) ∧ W.heap[g4]? = some (.cells (sec0 k i c l.length) 66 (0, 0))) ⟨?_, ?_, ?_⟩ ?_
  · exact below_drew ((((HB4.out.setCell HGN.out _).setCell HGN.out _).setCell HGN.out _).setCell HGN.out _)
  · exact blk_drew (blk_far (blk_far (blk_far (blk_far HX4.out HNE.out _) HNE.out _) HNE.out _) HNE.out _)
  · exact blk_drew (blk_set (blk_set (blk_set (blk_set HG4.out 0 _) 1 _) 2 _) 3 _)
  rintro w5 ⟨hb5, hx5, hg5⟩
  have HB5 := Aside0.mk hb5
  have HX5 := Aside0.mk hx5
  have HG5 := Aside0.mk hg5
  clear hb5 hx5 hg5 hg0 hg1 hg2 hg3 hf0 hf1 hf2 hf3 hx0 hx1 hx2 HB4 HX4 HG4
  have hx3 := blk_cell HX5.out 3
  go_still_tail 3, (by kernel_rfl)
  change wpList _ _ _ _ _ w5.drew
  go_wp2_with fail
  refine (lay_any g4 4 8 120 s w5.drew _ _ (blk_drew HG5.out) (by rw [sec0_size]; omega) hs (by omega)).mono ?_
  rintro e w6 ⟨rfl, hw6⟩
  have HB6 := Aside0.mk (show Below w.heap.size w w6 by rw [hw6]; exact below_setRow (below_drew HB5.out) HGN.out _)
  have HX6 := Aside0.mk (show w6.heap[g1]? = some (.cells #[.int .i64 k, .int .i64 i, .int .i64 c, .int .u64 s, .int .u32 a, .slice A5 l.length c5] 42 (0, 0)) by rw [hw6, setRow_other _ _ _ _ HNE.out]; exact HX5.out)
  have HG6 := Aside0.mk (show w6.heap[g4]? = some (.cells (sec1 k i c l.length s) 66 (0, 0)) by rw [hw6]; exact setRow_heap _ _ _ _ _ _ (blk_drew HG5.out))
  clear hw6 hx3 hx5 HB5 HX5 HG5
  have hx4 := blk_cell HX6.out 4
  go_wp2_with fail
  go_still_tail 4, (by kernel_rfl)
  change wpList _ _ _ _ _ w6.drew
  go_wp2_with fail
  refine (lay_any g4 12 4 112 a w6.drew _ _ (blk_drew HG6.out) (by rw [sec1_size]; omega) (by omega) (by omega)).mono ?_
  rintro e w7 ⟨rfl, hw7⟩
  have HB7 := Aside0.mk (show Below w.heap.size w w7 by rw [hw7]; exact below_setRow (below_drew HB6.out) HGN.out _)
  have HX7 := Aside0.mk (show w7.heap[g1]? = some (.cells #[.int .i64 k, .int .i64 i, .int .i64 c, .int .u64 s, .int .u32 a, .slice A5 l.length c5] 42 (0, 0)) by rw [hw7, setRow_other _ _ _ _ HNE.out]; exact HX6.out)
  have HG7 := Aside0.mk (show w7.heap[g4]? = some (.cells (sec2 k i c l.length s a) 66 (0, 0)) by rw [hw7]; exact setRow_heap _ _ _ _ _ _ (blk_drew HG6.out))
  clear hw7 hx4 HB6 HX6 HG6
  have hx5 := blk_cell HX7.out 5
  go_wp2_with fail
  go_still_tail 3, (by kernel_rfl)
  change wpList _ _ _ _ _ w7.drew
  refine wpList_copy_splice rfl (.tmp 54) (.tmp 56) 23 23 rfl 5 Try.underlying23 (by kernel_rfl) (some ⟨g4, 16, none⟩) A5 108 108 l.length c5 rfl rfl g4 16 (sec2 k i c l.length s a).toList 66 ?hg (nums .u8 l) ?hn ?hp ?hf ?h1 w.heap.size w (below_drew HB7.out) HGN.out ?_
  case hg => rw [Array.toArray_toList]; exact blk_drew HG7.out
  case hn => rw [nums_length]; exact (Nat.min_eq_left hl).symm
  case hp =>
    intro h0
    rw [nums_length] at h0
    obtain ⟨_, _, h2⟩ := Kd.reads_of_C (d := (0 : Int)) (Kd.C_below HR.out (below_drew HB7.out))
    obtain ⟨ad, e1, e2⟩ := h2 h0
    refine ⟨rfl, ad, e1, fun j v hj => ?_⟩
    have hjl : j < l.length := by
      have := (List.getElem?_eq_some_iff.1 hj).1
      rwa [nums_length] at this
    rw [e2 j hjl]
    have hj' : (nums .u8 l)[j]? = some (.int .u8 l[j]) := by simp [nums, hjl]
    rw [hj'] at hj
    rw [← hj]
    simp [hjl]
  case hf => rw [nums_length, show (sec2 k i c l.length s a).toList.length = 124 by rw [Array.length_toList, sec2_size]]; omega
  case h1 => intro v hv; simp only [nums, List.mem_map] at hv; obtain ⟨x, _, rfl⟩ := hv; rfl
  intro w8 hg8 hb8
  have HB8 := Aside0.mk hb8
  have HG8 := Aside0.mk (show w8.heap[g4]? = some (.cells (nums .u8 (frameL k i c s a l)).toArray 66 (0, 0)) by have := hg8; rw [splice_frame k i c s a l hl] at this; exact this)
  clear hg8 hb8 hx5 HB7 HX7 HG7
  have hFl : (frameL k i c s a l).length = 124 := by simp [frameL, be64, be4]; omega
  have hFb := Aside0.mk (frameL_bytes k i c s a l (by omega) (by omega) (by omega) (by omega) (by omega) (by omega) hl HBY.out)
  obtain ⟨F, hF⟩ : ∃ F, frameL k i c s a l = F := ⟨_, rfl⟩
  rw [hF] at hFl hFb HG8
  have HF := Aside0.mk hF
  clear hF
  have hcall := crc_Sealed.calls (some ⟨g4, 0, none⟩) 124 F _ w8 (C_of_block F HG8.out rfl (by omega)) (by omega) (by unfold crc_Sealed.f; rw [if_pos ⟨hFb.out, by omega⟩])
  rw [hFl] at hcall
  have HCL := Aside0.mk hcall
  clear hcall hFl
  go_wp2_with fail
  refine HCL.out.mono ?_
  rintro e w9 ⟨v9, rfl, hro, hb9⟩
  have HR9 := Aside0.mk (Kd.R_lower hro HB8.out.size)
  have HB9 := Aside0.mk (below_then HB8.out HB8.out.size hb9)
  clear hro hb9
  go_wp2
  go_ret2
  refine ⟨v9, rfl, ?_, HB9.out⟩
  rw [HF.out]
  exact HR9.out
end Go.Proofs.Ytelhdgnolijpcaa.Hm
