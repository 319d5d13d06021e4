/- Part 2 of the proof of the statement SectorUnlike: lemmas and walks of the Go functions that it reaches; the last theorem is the statement itself; conditions: those that each theorem names. -/
import Derived.Test.YtelhdgnolijpcaaJSectorUnlike0
import Derived.Test.YtelhdgnolijpcaaWMore
import Derived.Test.YtelhdgnolijpcaaProg
import Derived.Deep.Slices
import Derived.Deep.Fields
import Derived.ChangeArms
import Derived.WideShapes
import Derived.Test.YtelhdgnolijpcaaRows
import Derived.WalkKit
import Derived.ProofKit
import Derived.OpenShut
import Derived.ShutString
import Derived.ChangeOld
import Derived.Below
import Derived.Carry
import Derived.SizedLaws
section
/- The Go function SectorUnlike of the package's law 4 returns true and leaves what was there: whatever frames come in. -/
namespace Go.Proofs.Ytelhdgnolijpcaa.Hm
open Go.RowKit Go.Proofs.YtelhdgnolijpcaaW.PrintWords Go.Proofs.YtelhdgnolijpcaaW.PrintLast Go.Proofs.YtelhdgnolijpcaaW.PrintMore
set_option linter.unusedVariables false
set_option linter.unusedSimpArgs false

def frA (k i c s a : Int) (A : Option Addr) (n c5 : Nat) : Value := .agg #[.int .i64 k, .int .i64 i, .int .i64 c, .int .u64 s, .int .u32 a, .slice A n c5]
def frM (k i c s a : Int) (l : List Int) : Value := .agg #[.int .i64 k, .int .i64 i, .int .i64 c, .int .u64 s, .int .u32 a, .string (strOfNums l)]
set_option maxHeartbeats 1000000 in
set_option maxRecDepth 100000 in
theorem frameOf_any (k i c s a : Int) (A : Option Addr) (c5 : Nat) (l : List Int) (w : World) (hr : Kd.C (Kd.int .u8) w A l.length l) (hc : l.length ≤ c5) :
    Calls Try.prog 25 #[.agg #[.int .i64 k, .int .i64 i, .int .i64 c, .int .u64 s, .int .u32 a, .slice A l.length c5]] w fun e w' => e = .returned (.agg #[.int .i64 k, .int .i64 i, .int .i64 c, .int .u64 s, .int .u32 a, .string (strOfNums l)]) ∧ Below w.heap.size w w' := by
  have HR := Aside0.mk hr
  clear hr
  have hcv : ∀ W : World, Below w.heap.size w W → (convert 23 9 (.slice A l.length c5)).run Try.prog W = .ok (.string (strOfNums l)) W := fun W hb => Kd.C_string Try.underlying23 Try.underlying5 Try.underlying9 (Kd.C_below HR.out hb)
  have HCV := Aside0.mk hcv
  clear hcv
  go_enter Try.func25, Try.ntmps25
  go_wp2
  rw [HCV.out _ (below_alloc (below_alloc (Below.refl _ _) _) _)]
  go_wp2
  exact bodyPost_ret (v := frM k i c s a l) (by simp [results, frM, Try.results25, go_sem]) rfl ⟨rfl, below_alloc (below_alloc (Below.refl _ _) _) _⟩
theorem eqF (d : Nat) (w : World) (x0 y0 : Int) (x1 y1 : Int) (x2 y2 : Int) (x3 y3 : Int) (x4 y4 : Int) (x5 y5 : ByteArray) :
    (Op.equalIn (d + 2) 49 (.agg #[.int .i64 x0, .int .i64 x1, .int .i64 x2, .int .u64 x3, .int .u32 x4, .string x5]) (.agg #[.int .i64 y0, .int .i64 y1, .int .i64 y2, .int .u64 y3, .int .u32 y4, .string y5])).run Try.prog w = .ok (x0 == y0 && (x1 == y1 && (x2 == y2 && (x3 == y3 && (x4 == y4 && (x5.toList == y5.toList)))))) w := by
  refine eqA_of Try.underlying49 (by kernel_rfl) ?_
  refine eqf_cons (by rfl) (by go_simp; rfl) (by go_simp; rfl) (by go_simp) ?_
  refine eqf_cons (by rfl) (by go_simp; rfl) (by go_simp; rfl) (by go_simp) ?_
  refine eqf_cons (by rfl) (by go_simp; rfl) (by go_simp; rfl) (by go_simp) ?_
  refine eqf_cons (by rfl) (by go_simp; rfl) (by go_simp; rfl) (by go_simp) ?_
  refine eqf_cons (by rfl) (by go_simp; rfl) (by go_simp; rfl) (by go_simp) ?_
  exact eqf_last (by rfl) (by go_simp; rfl) (by go_simp; rfl) (by go_simp)
attribute [local go_sem high] eqF
theorem eq_law (k i c : Int) (s a : Nat) (l : List Int) (k' i' c' : Int) (s' a' : Nat) (l' : List Int) (hf : frameOk k i c l.length = true) (hf' : frameOk k' i' c' l'.length = true) (hs : s < 18446744073709551616) (ha : a < 4294967296)
    (hs' : s' < 18446744073709551616) (ha' : a' < 4294967296) (hb : bytesB l = true) (hb' : bytesB l' = true) :
    (((strOfNums (putM k i c s a l)).toList == (strOfNums (putM k' i' c' s' a' l')).toList) == (k == k' && (i == i' && (c == c' && ((s : Int) == (s' : Int) && ((a : Int) == (a' : Int) && (strOfNums l).toList == (strOfNums l').toList)))))) = true := by
  rw [beq_iff_eq, Bool.eq_iff_iff]
  simp only [beq_iff_eq, Bool.and_eq_true, toList_strs _ _ (putM_bytes k i c s a l hf hb) (putM_bytes k' i' c' s' a' l' hf' hb'), toList_strs l l' hb hb']
  constructor
  · intro h
    obtain ⟨h1, h2, h3, h4, h5, h6⟩ := putM_inj k i c s a l k' i' c' s' a' l' hf hf' hs ha hs' ha' h
    exact ⟨h1, h2, h3, by omega, by omega, h6⟩
  · rintro ⟨h1, h2, h3, h4, h5, h6⟩
    have e1 : s = s' := by omega
    have e2 : a = a' := by omega
    rw [h1, h2, h3, e1, e2, h6]
set_option maxHeartbeats 4000000 in
set_option maxRecDepth 100000 in
/-- Both frames may be: walked. -/
theorem SectorUnlike_both (k i c : Int) (s a : Nat) (A : Option Addr) (c5 : Nat) (l : List Int) (k' i' c' : Int) (s' a' : Nat) (A' : Option Addr) (c5' : Nat) (l' : List Int) (w : World)
    (hr : Kd.C (Kd.int .u8) w A l.length l) (hc : l.length ≤ c5) (hs : s < 18446744073709551616) (ha : a < 4294967296) (hb : bytesB l = true) (hf : frameOk k i c l.length = true)
    (hr' : Kd.C (Kd.int .u8) w A' l'.length l') (hc' : l'.length ≤ c5') (hs' : s' < 18446744073709551616) (ha' : a' < 4294967296) (hb' : bytesB l' = true) (hf' : frameOk k' i' c' l'.length = true) :
    Calls Try.prog 12 #[.agg #[.int .i64 k, .int .i64 i, .int .i64 c, .int .u64 s, .int .u32 a, .slice A l.length c5], .agg #[.int .i64 k', .int .i64 i', .int .i64 c', .int .u64 s', .int .u32 a', .slice A' l'.length c5'], .bool false] w fun e w' => e = .returned (.bool true) ∧ Below w.heap.size w w' := by
  obtain ⟨-, -, -, -, -, -, q7⟩ := (frameOk_iff _ _ _ _).1 hf
  obtain ⟨-, -, -, -, -, -, q7'⟩ := (frameOk_iff _ _ _ _).1 hf'
  have HEQ := eq_law k i c s a l k' i' c' s' a' l' hf hf' hs ha hs' ha' hb hb'
  obtain ⟨y, hY⟩ : ∃ y, putM k i c s a l = y := ⟨_, rfl⟩
  obtain ⟨y', hY'⟩ : ∃ y, putM k' i' c' s' a' l' = y := ⟨_, rfl⟩
  rw [hY, hY'] at HEQ
  have HEQ := Aside0.mk HEQ
  have HP := Aside0.mk (put_f k i c s a l hs ha hb)
  rw [hf, if_pos rfl, hY] at HP
  have HP' := Aside0.mk (put_f k' i' c' s' a' l' hs' ha' hb')
  rw [hf', if_pos rfl, hY'] at HP'
  have HR := Aside0.mk hr
  have HR' := Aside0.mk hr'
  have hd1 : decide ((200 : Int) < (l.length : Int)) = false := decide_eq_false (by omega)
  have hd2 : decide ((200 : Int) < (l'.length : Int)) = false := decide_eq_false (by omega)
  clear hr hr' hb hb' hf hf' hY hY' q7 q7'
  go_enter Try.func12, Try.ntmps12
  go_wp2_with fail
  (with_reducible refine (awake04.calls true _ rfl).mono ?_)
  rintro e w2 ⟨rfl, hb2⟩
  have HX := Aside0.mk (blk_below (blk_alloc (blk_new w (.cells #[.int .i64 k, .int .i64 i, .int .i64 c, .int .u64 s, .int .u32 a, .slice A l.length c5] 42)) (.cells #[.int .i64 k', .int .i64 i', .int .i64 c', .int .u64 s', .int .u32 a', .slice A' l'.length c5'] 42)) hb2)
  have HX' := Aside0.mk (blk_below (blk_new (w.alloc (.cells #[.int .i64 k, .int .i64 i, .int .i64 c, .int .u64 s, .int .u32 a, .slice A l.length c5] 42)) (.cells #[.int .i64 k', .int .i64 i', .int .i64 c', .int .u64 s', .int .u32 a', .slice A' l'.length c5'] 42)) hb2)
  have HB2 := Aside0.mk (below_step (below_alloc (below_alloc (Below.refl _ _) _) _) hb2)
  rw [show (w.alloc (.cells #[.int .i64 k, .int .i64 i, .int .i64 c, .int .u64 s, .int .u32 a, .slice A l.length c5] 42)).heap.size = w.heap.size + 1 from by simp] at HX'
  clear hb2
  have hx0 := blk_cell HX.out 0; have hx1 := blk_cell HX.out 1; have hx2 := blk_cell HX.out 2; have hx3 := blk_cell HX.out 3; have hx4 := blk_cell HX.out 4; have hx5 := blk_cell HX.out 5
  have hz0 := blk_cell HX'.out 0; have hz1 := blk_cell HX'.out 1; have hz2 := blk_cell HX'.out 2; have hz3 := blk_cell HX'.out 3; have hz4 := blk_cell HX'.out 4; have hz5 := blk_cell HX'.out 5
  go_wp2_with fail
  (with_reducible refine (sector_Put.calls k i c s a A c5 l y 0 w2 (Kd.C_below HR.out HB2.out) hc HP.out).mono ?_)
  rintro e w3 ⟨v0, rfl, hro, hb3⟩
  obtain ⟨A19, c19, e19, hc19, hr19⟩ := Kd.R_reads hro
  subst e19
  have HC3 := Aside0.mk hr19
  have HX3 := Aside0.mk (blk_below HX.out hb3)
  have HZ3 := Aside0.mk (blk_below HX'.out hb3)
  have HB3 := Aside0.mk (below_step HB2.out hb3)
  clear hb3 hx0 hx1 hx2 hx3 hx4 hx5 hz0 hz1 hz2 hz3 hz4 hz5 hro hr19
  have hx0 := blk_cell HX3.out 0; have hx1 := blk_cell HX3.out 1; have hx2 := blk_cell HX3.out 2; have hx3 := blk_cell HX3.out 3; have hx4 := blk_cell HX3.out 4; have hx5 := blk_cell HX3.out 5
  have hz0 := blk_cell HZ3.out 0; have hz1 := blk_cell HZ3.out 1; have hz2 := blk_cell HZ3.out 2; have hz3 := blk_cell HZ3.out 3; have hz4 := blk_cell HZ3.out 4; have hz5 := blk_cell HZ3.out 5
  go_wp2_with fail
  (with_reducible refine (sector_Put.calls k' i' c' s' a' A' c5' l' y' 0 w3 (Kd.C_below HR'.out HB3.out) hc' HP'.out).mono ?_)
  rintro e w4 ⟨v0, rfl, hro, hb4⟩
  obtain ⟨A20, c20, e20, hc20, hr20⟩ := Kd.R_reads hro
  subst e20
  have HC4 := Aside0.mk (Kd.C_below HC3.out hb4)
  have HD4 := Aside0.mk hr20
  have HX4 := Aside0.mk (blk_below HX3.out hb4)
  have HZ4 := Aside0.mk (blk_below HZ3.out hb4)
  have HB4 := Aside0.mk (below_step HB3.out hb4)
  clear hb4 hx0 hx1 hx2 hx3 hx4 hx5 hz0 hz1 hz2 hz3 hz4 hz5 hro hr20 HX3 HZ3 HB3 HC3
  have hx0 := blk_cell HX4.out 0; have hx1 := blk_cell HX4.out 1; have hx2 := blk_cell HX4.out 2; have hx3 := blk_cell HX4.out 3; have hx4 := blk_cell HX4.out 4; have hx5 := blk_cell HX4.out 5
  have hz0 := blk_cell HZ4.out 0; have hz1 := blk_cell HZ4.out 1; have hz2 := blk_cell HZ4.out 2; have hz3 := blk_cell HZ4.out 3; have hz4 := blk_cell HZ4.out 4; have hz5 := blk_cell HZ4.out 5
  go_wp2_with fail
  have hmk : ∀ W : World, Below w4.heap.size w4 W → (Below w4.heap.size w4 W ∧ W.cell? ⟨w.heap.size, 0, none⟩ = some (.int .i64 k) ∧ W.cell? ⟨w.heap.size, 1, none⟩ = some (.int .i64 i) ∧ W.cell? ⟨w.heap.size, 2, none⟩ = some (.int .i64 c) ∧ W.cell? ⟨w.heap.size, 3, none⟩ = some (.int .u64 s) ∧ W.cell? ⟨w.heap.size, 4, none⟩ = some (.int .u32 a) ∧ W.cell? ⟨w.heap.size, 5, none⟩ = some (.slice A l.length c5) ∧ W.cell? ⟨w.heap.size + 1, 0, none⟩ = some (.int .i64 k') ∧ W.cell? ⟨w.heap.size + 1, 1, none⟩ = some (.int .i64 i') ∧ W.cell? ⟨w.heap.size + 1, 2, none⟩ = some (.int .i64 c') ∧ W.cell? ⟨w.heap.size + 1, 3, none⟩ = some (.int .u64 s') ∧ W.cell? ⟨w.heap.size + 1, 4, none⟩ = some (.int .u32 a') ∧ W.cell? ⟨w.heap.size + 1, 5, none⟩ = some (.slice A' l'.length c5') ∧ (convert 23 9 (.slice A19 y.length c19)).run Try.prog W = .ok (.string (strOfNums y)) W ∧ (convert 23 9 (.slice A20 y'.length c20)).run Try.prog W = .ok (.string (strOfNums y')) W) := fun W hb => ⟨hb, blk_cell (blk_below HX4.out hb) 0, blk_cell (blk_below HX4.out hb) 1, blk_cell (blk_below HX4.out hb) 2, blk_cell (blk_below HX4.out hb) 3, blk_cell (blk_below HX4.out hb) 4, blk_cell (blk_below HX4.out hb) 5, blk_cell (blk_below HZ4.out hb) 0, blk_cell (blk_below HZ4.out hb) 1, blk_cell (blk_below HZ4.out hb) 2, blk_cell (blk_below HZ4.out hb) 3, blk_cell (blk_below HZ4.out hb) 4, blk_cell (blk_below HZ4.out hb) 5, Kd.C_string Try.underlying23 Try.underlying5 Try.underlying9 (Kd.C_below HC4.out hb), Kd.C_string Try.underlying23 Try.underlying5 Try.underlying9 (Kd.C_below HD4.out hb)⟩
  have HMK := Aside0.mk hmk
  have HRK := Aside0.mk (Kd.C_below HR.out HB4.out)
  have HRK' := Aside0.mk (Kd.C_below HR'.out HB4.out)
  clear hmk hx0 hx1 hx2 hx3 hx4 hx5 hz0 hz1 hz2 hz3 hz4 hz5
  go_region_held3 (fun W => Below w4.heap.size w4 W ∧ W.cell? ⟨w.heap.size, 0, none⟩ = some (.int .i64 k) ∧ W.cell? ⟨w.heap.size, 1, none⟩ = some (.int .i64 i) ∧ W.cell? ⟨w.heap.size, 2, none⟩ = some (.int .i64 c) ∧ W.cell? ⟨w.heap.size, 3, none⟩ = some (.int .u64 s) ∧ W.cell? ⟨w.heap.size, 4, none⟩ = some (.int .u32 a) ∧ W.cell? ⟨w.heap.size, 5, none⟩ = some (.slice A l.length c5) ∧ W.cell? ⟨w.heap.size + 1, 0, none⟩ = some (.int .i64 k') ∧ W.cell? ⟨w.heap.size + 1, 1, none⟩ = some (.int .i64 i') ∧ W.cell? ⟨w.heap.size + 1, 2, none⟩ = some (.int .i64 c') ∧ W.cell? ⟨w.heap.size + 1, 3, none⟩ = some (.int .u64 s') ∧ W.cell? ⟨w.heap.size + 1, 4, none⟩ = some (.int .u32 a') ∧ W.cell? ⟨w.heap.size + 1, 5, none⟩ = some (.slice A' l'.length c5') ∧ (convert 23 9 (.slice A19 y.length c19)).run Try.prog W = .ok (.string (strOfNums y)) W ∧ (convert 23 9 (.slice A20 y'.length c20)).run Try.prog W = .ok (.string (strOfNums y')) W) (first | exact HMK.out _ (below_drew1 (Below.refl _ _)) | exact HMK.out _ (below_step (And.left ‹_ ∧ _›) ‹Below (World.heap _).size _ _›))
    (first | (go_at_call 25; (with_reducible refine (frameOf_any _ _ _ _ _ _ _ _ _ (by first | exact Kd.C_below HRK.out (And.left ‹_ ∧ _›) | exact Kd.C_below HRK'.out (And.left ‹_ ∧ _›)) (by assumption)).mono ?_); rintro e w5 ⟨rfl, hb5⟩))
  have HB5 := Aside0.mk (below_step HB4.out (And.left ‹_ ∧ _›))
  try rw [HEQ.out]
  go_wp2
  go_ret
  exact ⟨rfl, HB5.out⟩
set_option maxHeartbeats 4000000 in
set_option maxRecDepth 100000 in
/-- The first frame may be, and is the second one, too: walked. -/
theorem SectorUnlike_same (k i c : Int) (s a : Nat) (A : Option Addr) (c5 : Nat) (l : List Int) (k' i' c' : Int) (s' a' : Nat) (A' : Option Addr) (c5' : Nat) (l' : List Int) (w : World)
    (hr : Kd.C (Kd.int .u8) w A l.length l) (hc : l.length ≤ c5) (hs : s < 18446744073709551616) (ha : a < 4294967296) (hb : bytesB l = true) (hf : frameOk k i c l.length = true) (q7' : l'.length ≤ 200) :
    Calls Try.prog 12 #[.agg #[.int .i64 k, .int .i64 i, .int .i64 c, .int .u64 s, .int .u32 a, .slice A l.length c5], .agg #[.int .i64 k', .int .i64 i', .int .i64 c', .int .u64 s', .int .u32 a', .slice A' l'.length c5'], .bool true] w fun e w' => e = .returned (.bool true) ∧ Below w.heap.size w w' := by
  obtain ⟨-, -, -, -, -, -, q7⟩ := (frameOk_iff _ _ _ _).1 hf
  have HEQ := eq_law k i c s a l k i c s a l hf hf hs ha hs ha hb hb
  obtain ⟨y, hY⟩ : ∃ y, putM k i c s a l = y := ⟨_, rfl⟩
  rw [hY] at HEQ
  have HEQ := Aside0.mk HEQ
  have HP := Aside0.mk (put_f k i c s a l hs ha hb)
  rw [hf, if_pos rfl, hY] at HP
  have HR := Aside0.mk hr
  have hd1 : decide ((200 : Int) < (l.length : Int)) = false := decide_eq_false (by omega)
  have hd2 : decide ((200 : Int) < (l'.length : Int)) = false := decide_eq_false (by omega)
  clear hr hb hf hY q7
  go_enter Try.func12, Try.ntmps12
  go_wp2_with fail
  (with_reducible refine (awake04.calls true _ rfl).mono ?_)
  rintro e w2 ⟨rfl, hb2⟩
  have HX := Aside0.mk (blk_below (blk_alloc (blk_new w (.cells #[.int .i64 k, .int .i64 i, .int .i64 c, .int .u64 s, .int .u32 a, .slice A l.length c5] 42)) (.cells #[.int .i64 k', .int .i64 i', .int .i64 c', .int .u64 s', .int .u32 a', .slice A' l'.length c5'] 42)) hb2)
  have HX' := Aside0.mk (blk_below (blk_new (w.alloc (.cells #[.int .i64 k, .int .i64 i, .int .i64 c, .int .u64 s, .int .u32 a, .slice A l.length c5] 42)) (.cells #[.int .i64 k', .int .i64 i', .int .i64 c', .int .u64 s', .int .u32 a', .slice A' l'.length c5'] 42)) hb2)
  have HB2 := Aside0.mk (below_step (below_alloc (below_alloc (Below.refl _ _) _) _) hb2)
  rw [show (w.alloc (.cells #[.int .i64 k, .int .i64 i, .int .i64 c, .int .u64 s, .int .u32 a, .slice A l.length c5] 42)).heap.size = w.heap.size + 1 from by simp] at HX'
  clear hb2
  have hx0 := blk_cell HX.out 0; have hx1 := blk_cell HX.out 1; have hx2 := blk_cell HX.out 2; have hx3 := blk_cell HX.out 3; have hx4 := blk_cell HX.out 4; have hx5 := blk_cell HX.out 5
  have hz0 := blk_cell HX'.out 0; have hz1 := blk_cell HX'.out 1; have hz2 := blk_cell HX'.out 2; have hz3 := blk_cell HX'.out 3; have hz4 := blk_cell HX'.out 4; have hz5 := blk_cell HX'.out 5
  have hf0 := blk_frozen HX'.out 0; have hf1 := blk_frozen HX'.out 1; have hf2 := blk_frozen HX'.out 2; have hf3 := blk_frozen HX'.out 3; have hf4 := blk_frozen HX'.out 4; have hf5 := blk_frozen HX'.out 5
  go_wp2_with fail
  obtain ⟨w2', hw2'⟩ : ∃ x, (World.setCell (World.setCell (World.setCell (World.setCell (World.setCell (World.setCell w2 ⟨w.heap.size + 1, 0, none⟩ (.int .i64 k)) ⟨w.heap.size + 1, 1, none⟩ (.int .i64 i)) ⟨w.heap.size + 1, 2, none⟩ (.int .i64 c)) ⟨w.heap.size + 1, 3, none⟩ (.int .u64 s)) ⟨w.heap.size + 1, 4, none⟩ (.int .u32 a)) ⟨w.heap.size + 1, 5, none⟩ (.slice A l.length c5)) = x := ⟨_, rfl⟩
  have HZ2 : Aside0 (w2'.heap[w.heap.size + 1]? = some (.cells #[.int .i64 k, .int .i64 i, .int .i64 c, .int .u64 s, .int .u32 a, .slice A l.length c5] 42 (0, 0))) := ⟨by rw [← hw2']; exact (blk_set (blk_set (blk_set (blk_set (blk_set (blk_set HX'.out 0 (.int .i64 k)) 1 (.int .i64 i)) 2 (.int .i64 c)) 3 (.int .u64 s)) 4 (.int .u32 a)) 5 (.slice A l.length c5))⟩
  have HX2 : Aside0 (w2'.heap[w.heap.size]? = some (.cells #[.int .i64 k, .int .i64 i, .int .i64 c, .int .u64 s, .int .u32 a, .slice A l.length c5] 42 (0, 0))) := ⟨by rw [← hw2']; exact (blk_far (blk_far (blk_far (blk_far (blk_far (blk_far HX.out (p := ⟨w.heap.size + 1, 0, none⟩) (by simp) (.int .i64 k)) (p := ⟨w.heap.size + 1, 1, none⟩) (by simp) (.int .i64 i)) (p := ⟨w.heap.size + 1, 2, none⟩) (by simp) (.int .i64 c)) (p := ⟨w.heap.size + 1, 3, none⟩) (by simp) (.int .u64 s)) (p := ⟨w.heap.size + 1, 4, none⟩) (by simp) (.int .u32 a)) (p := ⟨w.heap.size + 1, 5, none⟩) (by simp) (.slice A l.length c5))⟩
  have HBN : Aside0 (Below w.heap.size w w2') := ⟨by rw [← hw2']; exact (below_set (below_set (below_set (below_set (below_set (below_set HB2.out (g := w.heap.size + 1) (j := 0) (v := (.int .i64 k)) (by omega)) (g := w.heap.size + 1) (j := 1) (v := (.int .i64 i)) (by omega)) (g := w.heap.size + 1) (j := 2) (v := (.int .i64 c)) (by omega)) (g := w.heap.size + 1) (j := 3) (v := (.int .u64 s)) (by omega)) (g := w.heap.size + 1) (j := 4) (v := (.int .u32 a)) (by omega)) (g := w.heap.size + 1) (j := 5) (v := (.slice A l.length c5)) (by omega))⟩
  rw [hw2']
  clear hw2' hf0 hf1 hf2 hf3 hf4 hf5
  (with_reducible refine (sector_Put.calls k i c s a A c5 l y 0 w2' (Kd.C_below HR.out HBN.out) hc HP.out).mono ?_)
  rintro e w3 ⟨v0, rfl, hro, hb3⟩
  obtain ⟨A19, c19, e19, hc19, hr19⟩ := Kd.R_reads hro
  subst e19
  have HC3 := Aside0.mk hr19
  have HX3 := Aside0.mk (blk_below HX2.out hb3)
  have HZ3 := Aside0.mk (blk_below HZ2.out hb3)
  have HB3 := Aside0.mk (below_step HBN.out hb3)
  clear hb3 hx0 hx1 hx2 hx3 hx4 hx5 hz0 hz1 hz2 hz3 hz4 hz5 hro hr19
  have hx0 := blk_cell HX3.out 0; have hx1 := blk_cell HX3.out 1; have hx2 := blk_cell HX3.out 2; have hx3 := blk_cell HX3.out 3; have hx4 := blk_cell HX3.out 4; have hx5 := blk_cell HX3.out 5
  have hz0 := blk_cell HZ3.out 0; have hz1 := blk_cell HZ3.out 1; have hz2 := blk_cell HZ3.out 2; have hz3 := blk_cell HZ3.out 3; have hz4 := blk_cell HZ3.out 4; have hz5 := blk_cell HZ3.out 5
  go_wp2_with fail
  (with_reducible refine (sector_Put.calls k i c s a A c5 l y 0 w3 (Kd.C_below HR.out HB3.out) hc HP.out).mono ?_)
  rintro e w4 ⟨v0, rfl, hro, hb4⟩
  obtain ⟨A20, c20, e20, hc20, hr20⟩ := Kd.R_reads hro
  subst e20
  have HC4 := Aside0.mk (Kd.C_below HC3.out hb4)
  have HD4 := Aside0.mk hr20
  have HX4 := Aside0.mk (blk_below HX3.out hb4)
  have HZ4 := Aside0.mk (blk_below HZ3.out hb4)
  have HB4 := Aside0.mk (below_step HB3.out hb4)
  clear hb4 hx0 hx1 hx2 hx3 hx4 hx5 hz0 hz1 hz2 hz3 hz4 hz5 hro hr20 HX3 HZ3 HB3 HC3
  have hx0 := blk_cell HX4.out 0; have hx1 := blk_cell HX4.out 1; have hx2 := blk_cell HX4.out 2; have hx3 := blk_cell HX4.out 3; have hx4 := blk_cell HX4.out 4; have hx5 := blk_cell HX4.out 5
  have hz0 := blk_cell HZ4.out 0; have hz1 := blk_cell HZ4.out 1; have hz2 := blk_cell HZ4.out 2; have hz3 := blk_cell HZ4.out 3; have hz4 := blk_cell HZ4.out 4; have hz5 := blk_cell HZ4.out 5
  go_wp2_with fail
  have hmk : ∀ W : World, Below w4.heap.size w4 W → (Below w4.heap.size w4 W ∧ W.cell? ⟨w.heap.size, 0, none⟩ = some (.int .i64 k) ∧ W.cell? ⟨w.heap.size, 1, none⟩ = some (.int .i64 i) ∧ W.cell? ⟨w.heap.size, 2, none⟩ = some (.int .i64 c) ∧ W.cell? ⟨w.heap.size, 3, none⟩ = some (.int .u64 s) ∧ W.cell? ⟨w.heap.size, 4, none⟩ = some (.int .u32 a) ∧ W.cell? ⟨w.heap.size, 5, none⟩ = some (.slice A l.length c5) ∧ W.cell? ⟨w.heap.size + 1, 0, none⟩ = some (.int .i64 k) ∧ W.cell? ⟨w.heap.size + 1, 1, none⟩ = some (.int .i64 i) ∧ W.cell? ⟨w.heap.size + 1, 2, none⟩ = some (.int .i64 c) ∧ W.cell? ⟨w.heap.size + 1, 3, none⟩ = some (.int .u64 s) ∧ W.cell? ⟨w.heap.size + 1, 4, none⟩ = some (.int .u32 a) ∧ W.cell? ⟨w.heap.size + 1, 5, none⟩ = some (.slice A l.length c5) ∧ (convert 23 9 (.slice A19 y.length c19)).run Try.prog W = .ok (.string (strOfNums y)) W ∧ (convert 23 9 (.slice A20 y.length c20)).run Try.prog W = .ok (.string (strOfNums y)) W) := fun W hb => ⟨hb, blk_cell (blk_below HX4.out hb) 0, blk_cell (blk_below HX4.out hb) 1, blk_cell (blk_below HX4.out hb) 2, blk_cell (blk_below HX4.out hb) 3, blk_cell (blk_below HX4.out hb) 4, blk_cell (blk_below HX4.out hb) 5, blk_cell (blk_below HZ4.out hb) 0, blk_cell (blk_below HZ4.out hb) 1, blk_cell (blk_below HZ4.out hb) 2, blk_cell (blk_below HZ4.out hb) 3, blk_cell (blk_below HZ4.out hb) 4, blk_cell (blk_below HZ4.out hb) 5, Kd.C_string Try.underlying23 Try.underlying5 Try.underlying9 (Kd.C_below HC4.out hb), Kd.C_string Try.underlying23 Try.underlying5 Try.underlying9 (Kd.C_below HD4.out hb)⟩
  have HMK := Aside0.mk hmk
  have HRK := Aside0.mk (Kd.C_below HR.out HB4.out)
  clear hmk hx0 hx1 hx2 hx3 hx4 hx5 hz0 hz1 hz2 hz3 hz4 hz5
  go_region_held3 (fun W => Below w4.heap.size w4 W ∧ W.cell? ⟨w.heap.size, 0, none⟩ = some (.int .i64 k) ∧ W.cell? ⟨w.heap.size, 1, none⟩ = some (.int .i64 i) ∧ W.cell? ⟨w.heap.size, 2, none⟩ = some (.int .i64 c) ∧ W.cell? ⟨w.heap.size, 3, none⟩ = some (.int .u64 s) ∧ W.cell? ⟨w.heap.size, 4, none⟩ = some (.int .u32 a) ∧ W.cell? ⟨w.heap.size, 5, none⟩ = some (.slice A l.length c5) ∧ W.cell? ⟨w.heap.size + 1, 0, none⟩ = some (.int .i64 k) ∧ W.cell? ⟨w.heap.size + 1, 1, none⟩ = some (.int .i64 i) ∧ W.cell? ⟨w.heap.size + 1, 2, none⟩ = some (.int .i64 c) ∧ W.cell? ⟨w.heap.size + 1, 3, none⟩ = some (.int .u64 s) ∧ W.cell? ⟨w.heap.size + 1, 4, none⟩ = some (.int .u32 a) ∧ W.cell? ⟨w.heap.size + 1, 5, none⟩ = some (.slice A l.length c5) ∧ (convert 23 9 (.slice A19 y.length c19)).run Try.prog W = .ok (.string (strOfNums y)) W ∧ (convert 23 9 (.slice A20 y.length c20)).run Try.prog W = .ok (.string (strOfNums y)) W) (first | exact HMK.out _ (below_drew1 (Below.refl _ _)) | exact HMK.out _ (below_step (And.left ‹_ ∧ _›) ‹Below (World.heap _).size _ _›))
    (first | (go_at_call 25; (with_reducible refine (frameOf_any _ _ _ _ _ _ _ _ _ (by first | exact Kd.C_below HRK.out (And.left ‹_ ∧ _›)) (by assumption)).mono ?_); rintro e w5 ⟨rfl, hb5⟩))
  have HB5 := Aside0.mk (below_step HB4.out (And.left ‹_ ∧ _›))
  try rw [HEQ.out]
  go_wp2
  go_ret
  exact ⟨rfl, HB5.out⟩
set_option maxHeartbeats 4000000 in
set_option maxRecDepth 100000 in
/-- The first frame may not be: walked. -/
theorem SectorUnlike_e10 (k i c : Int) (s a : Nat) (A : Option Addr) (c5 : Nat) (l : List Int) (k' i' c' : Int) (s' a' : Nat) (A' : Option Addr) (c5' : Nat) (l' : List Int) (w : World)
    (hr : Kd.C (Kd.int .u8) w A l.length l) (hc : l.length ≤ c5) (hs : s < 18446744073709551616) (ha : a < 4294967296) (hb : bytesB l = true) (hf : frameOk k i c l.length = false) (q7 : l.length ≤ 200) (q7' : l'.length ≤ 200) (hr' : Kd.C (Kd.int .u8) w A' l'.length l') (hc' : l'.length ≤ c5') (hs' : s' < 18446744073709551616) (ha' : a' < 4294967296) (hb' : bytesB l' = true) (hf' : frameOk k' i' c' l'.length = true) :
    Calls Try.prog 12 #[.agg #[.int .i64 k, .int .i64 i, .int .i64 c, .int .u64 s, .int .u32 a, .slice A l.length c5], .agg #[.int .i64 k', .int .i64 i', .int .i64 c', .int .u64 s', .int .u32 a', .slice A' l'.length c5'], .bool false] w fun e w' => e = .returned (.bool true) ∧ Below w.heap.size w w' := by
  obtain ⟨y, hY⟩ : ∃ y, putM k i c s a l = y := ⟨_, rfl⟩
  have HP := Aside0.mk (put_f k i c s a l hs ha hb)
  rw [hf, if_neg (by decide)] at HP
  obtain ⟨y', hY'⟩ : ∃ y, putM k' i' c' s' a' l' = y := ⟨_, rfl⟩
  have HP' := Aside0.mk (put_f k' i' c' s' a' l' hs' ha' hb')
  rw [hf', if_pos rfl, hY'] at HP'
  have HR' := Aside0.mk hr'
  have HR := Aside0.mk hr
  have hd1 : decide ((200 : Int) < (l.length : Int)) = false := decide_eq_false (by omega)
  have hd2 : decide ((200 : Int) < (l'.length : Int)) = false := decide_eq_false (by omega)
  clear hr hb hf hY hr' hb' hf' hY'
  go_enter Try.func12, Try.ntmps12
  go_wp2_with fail
  (with_reducible refine (awake04.calls true _ rfl).mono ?_)
  rintro e w2 ⟨rfl, hb2⟩
  have HX := Aside0.mk (blk_below (blk_alloc (blk_new w (.cells #[.int .i64 k, .int .i64 i, .int .i64 c, .int .u64 s, .int .u32 a, .slice A l.length c5] 42)) (.cells #[.int .i64 k', .int .i64 i', .int .i64 c', .int .u64 s', .int .u32 a', .slice A' l'.length c5'] 42)) hb2)
  have HX' := Aside0.mk (blk_below (blk_new (w.alloc (.cells #[.int .i64 k, .int .i64 i, .int .i64 c, .int .u64 s, .int .u32 a, .slice A l.length c5] 42)) (.cells #[.int .i64 k', .int .i64 i', .int .i64 c', .int .u64 s', .int .u32 a', .slice A' l'.length c5'] 42)) hb2)
  have HB2 := Aside0.mk (below_step (below_alloc (below_alloc (Below.refl _ _) _) _) hb2)
  rw [show (w.alloc (.cells #[.int .i64 k, .int .i64 i, .int .i64 c, .int .u64 s, .int .u32 a, .slice A l.length c5] 42)).heap.size = w.heap.size + 1 from by simp] at HX'
  clear hb2
  have hx0 := blk_cell HX.out 0; have hx1 := blk_cell HX.out 1; have hx2 := blk_cell HX.out 2; have hx3 := blk_cell HX.out 3; have hx4 := blk_cell HX.out 4; have hx5 := blk_cell HX.out 5
  have hz0 := blk_cell HX'.out 0; have hz1 := blk_cell HX'.out 1; have hz2 := blk_cell HX'.out 2; have hz3 := blk_cell HX'.out 3; have hz4 := blk_cell HX'.out 4; have hz5 := blk_cell HX'.out 5
  go_wp2_with fail
  (with_reducible refine (sector_Put.calls k i c s a A c5 l [] 1 w2 (Kd.C_below HR.out HB2.out) hc HP.out).mono ?_)
  rintro e w3 ⟨v0, rfl, hro, hb3⟩
  obtain ⟨A19, c19, e19, hc19, hr19⟩ := Kd.R_reads hro
  subst e19
  have HC3 := Aside0.mk hr19
  have HX3 := Aside0.mk (blk_below HX.out hb3)
  have HZ3 := Aside0.mk (blk_below HX'.out hb3)
  have HB3 := Aside0.mk (below_step HB2.out hb3)
  clear hb3 hx0 hx1 hx2 hx3 hx4 hx5 hz0 hz1 hz2 hz3 hz4 hz5 hro hr19
  have hx0 := blk_cell HX3.out 0; have hx1 := blk_cell HX3.out 1; have hx2 := blk_cell HX3.out 2; have hx3 := blk_cell HX3.out 3; have hx4 := blk_cell HX3.out 4; have hx5 := blk_cell HX3.out 5
  have hz0 := blk_cell HZ3.out 0; have hz1 := blk_cell HZ3.out 1; have hz2 := blk_cell HZ3.out 2; have hz3 := blk_cell HZ3.out 3; have hz4 := blk_cell HZ3.out 4; have hz5 := blk_cell HZ3.out 5
  go_wp2_with fail
  (with_reducible refine (sector_Put.calls k' i' c' s' a' A' c5' l' y' 0 w3 (Kd.C_below HR'.out HB3.out) hc' HP'.out).mono ?_)
  rintro e w4 ⟨v0, rfl, hro, hb4⟩
  obtain ⟨A20, c20, e20, hc20, hr20⟩ := Kd.R_reads hro
  subst e20
  have HC4 := Aside0.mk (Kd.C_below HC3.out hb4)
  have HD4 := Aside0.mk hr20
  have HX4 := Aside0.mk (blk_below HX3.out hb4)
  have HZ4 := Aside0.mk (blk_below HZ3.out hb4)
  have HB4 := Aside0.mk (below_step HB3.out hb4)
  clear hb4 hx0 hx1 hx2 hx3 hx4 hx5 hz0 hz1 hz2 hz3 hz4 hz5 hro hr20 HX3 HZ3 HB3 HC3
  have hx0 := blk_cell HX4.out 0; have hx1 := blk_cell HX4.out 1; have hx2 := blk_cell HX4.out 2; have hx3 := blk_cell HX4.out 3; have hx4 := blk_cell HX4.out 4; have hx5 := blk_cell HX4.out 5
  have hz0 := blk_cell HZ4.out 0; have hz1 := blk_cell HZ4.out 1; have hz2 := blk_cell HZ4.out 2; have hz3 := blk_cell HZ4.out 3; have hz4 := blk_cell HZ4.out 4; have hz5 := blk_cell HZ4.out 5
  go_wp2
  go_ret
  exact ⟨rfl, HB4.out⟩
set_option maxHeartbeats 4000000 in
set_option maxRecDepth 100000 in
/-- The second frame may not be: walked. -/
theorem SectorUnlike_e01 (k i c : Int) (s a : Nat) (A : Option Addr) (c5 : Nat) (l : List Int) (k' i' c' : Int) (s' a' : Nat) (A' : Option Addr) (c5' : Nat) (l' : List Int) (w : World)
    (hr : Kd.C (Kd.int .u8) w A l.length l) (hc : l.length ≤ c5) (hs : s < 18446744073709551616) (ha : a < 4294967296) (hb : bytesB l = true) (hf : frameOk k i c l.length = true) (q7 : l.length ≤ 200) (q7' : l'.length ≤ 200) (hr' : Kd.C (Kd.int .u8) w A' l'.length l') (hc' : l'.length ≤ c5') (hs' : s' < 18446744073709551616) (ha' : a' < 4294967296) (hb' : bytesB l' = true) (hf' : frameOk k' i' c' l'.length = false) :
    Calls Try.prog 12 #[.agg #[.int .i64 k, .int .i64 i, .int .i64 c, .int .u64 s, .int .u32 a, .slice A l.length c5], .agg #[.int .i64 k', .int .i64 i', .int .i64 c', .int .u64 s', .int .u32 a', .slice A' l'.length c5'], .bool false] w fun e w' => e = .returned (.bool true) ∧ Below w.heap.size w w' := by
  obtain ⟨y, hY⟩ : ∃ y, putM k i c s a l = y := ⟨_, rfl⟩
  have HP := Aside0.mk (put_f k i c s a l hs ha hb)
  rw [hf, if_pos rfl, hY] at HP
  obtain ⟨y', hY'⟩ : ∃ y, putM k' i' c' s' a' l' = y := ⟨_, rfl⟩
  have HP' := Aside0.mk (put_f k' i' c' s' a' l' hs' ha' hb')
  rw [hf', if_neg (by decide)] at HP'
  have HR' := Aside0.mk hr'
  have HR := Aside0.mk hr
  have hd1 : decide ((200 : Int) < (l.length : Int)) = false := decide_eq_false (by omega)
  have hd2 : decide ((200 : Int) < (l'.length : Int)) = false := decide_eq_false (by omega)
  clear hr hb hf hY hr' hb' hf' hY'
  go_enter Try.func12, Try.ntmps12
  go_wp2_with fail
  (with_reducible refine (awake04.calls true _ rfl).mono ?_)
  rintro e w2 ⟨rfl, hb2⟩
  have HX := Aside0.mk (blk_below (blk_alloc (blk_new w (.cells #[.int .i64 k, .int .i64 i, .int .i64 c, .int .u64 s, .int .u32 a, .slice A l.length c5] 42)) (.cells #[.int .i64 k', .int .i64 i', .int .i64 c', .int .u64 s', .int .u32 a', .slice A' l'.length c5'] 42)) hb2)
  have HX' := Aside0.mk (blk_below (blk_new (w.alloc (.cells #[.int .i64 k, .int .i64 i, .int .i64 c, .int .u64 s, .int .u32 a, .slice A l.length c5] 42)) (.cells #[.int .i64 k', .int .i64 i', .int .i64 c', .int .u64 s', .int .u32 a', .slice A' l'.length c5'] 42)) hb2)
  have HB2 := Aside0.mk (below_step (below_alloc (below_alloc (Below.refl _ _) _) _) hb2)
  rw [show (w.alloc (.cells #[.int .i64 k, .int .i64 i, .int .i64 c, .int .u64 s, .int .u32 a, .slice A l.length c5] 42)).heap.size = w.heap.size + 1 from by simp] at HX'
  clear hb2
  have hx0 := blk_cell HX.out 0; have hx1 := blk_cell HX.out 1; have hx2 := blk_cell HX.out 2; have hx3 := blk_cell HX.out 3; have hx4 := blk_cell HX.out 4; have hx5 := blk_cell HX.out 5
  have hz0 := blk_cell HX'.out 0; have hz1 := blk_cell HX'.out 1; have hz2 := blk_cell HX'.out 2; have hz3 := blk_cell HX'.out 3; have hz4 := blk_cell HX'.out 4; have hz5 := blk_cell HX'.out 5
  go_wp2_with fail
  (with_reducible refine (sector_Put.calls k i c s a A c5 l y 0 w2 (Kd.C_below HR.out HB2.out) hc HP.out).mono ?_)
  rintro e w3 ⟨v0, rfl, hro, hb3⟩
  obtain ⟨A19, c19, e19, hc19, hr19⟩ := Kd.R_reads hro
  subst e19
  have HC3 := Aside0.mk hr19
  have HX3 := Aside0.mk (blk_below HX.out hb3)
  have HZ3 := Aside0.mk (blk_below HX'.out hb3)
  have HB3 := Aside0.mk (below_step HB2.out hb3)
  clear hb3 hx0 hx1 hx2 hx3 hx4 hx5 hz0 hz1 hz2 hz3 hz4 hz5 hro hr19
  have hx0 := blk_cell HX3.out 0; have hx1 := blk_cell HX3.out 1; have hx2 := blk_cell HX3.out 2; have hx3 := blk_cell HX3.out 3; have hx4 := blk_cell HX3.out 4; have hx5 := blk_cell HX3.out 5
  have hz0 := blk_cell HZ3.out 0; have hz1 := blk_cell HZ3.out 1; have hz2 := blk_cell HZ3.out 2; have hz3 := blk_cell HZ3.out 3; have hz4 := blk_cell HZ3.out 4; have hz5 := blk_cell HZ3.out 5
  go_wp2_with fail
  (with_reducible refine (sector_Put.calls k' i' c' s' a' A' c5' l' [] 1 w3 (Kd.C_below HR'.out HB3.out) hc' HP'.out).mono ?_)
  rintro e w4 ⟨v0, rfl, hro, hb4⟩
  obtain ⟨A20, c20, e20, hc20, hr20⟩ := Kd.R_reads hro
  subst e20
  have HC4 := Aside0.mk (Kd.C_below HC3.out hb4)
  have HD4 := Aside0.mk hr20
  have HX4 := Aside0.mk (blk_below HX3.out hb4)
  have HZ4 := Aside0.mk (blk_below HZ3.out hb4)
  have HB4 := Aside0.mk (below_step HB3.out hb4)
  clear hb4 hx0 hx1 hx2 hx3 hx4 hx5 hz0 hz1 hz2 hz3 hz4 hz5 hro hr20 HX3 HZ3 HB3 HC3
  have hx0 := blk_cell HX4.out 0; have hx1 := blk_cell HX4.out 1; have hx2 := blk_cell HX4.out 2; have hx3 := blk_cell HX4.out 3; have hx4 := blk_cell HX4.out 4; have hx5 := blk_cell HX4.out 5
  have hz0 := blk_cell HZ4.out 0; have hz1 := blk_cell HZ4.out 1; have hz2 := blk_cell HZ4.out 2; have hz3 := blk_cell HZ4.out 3; have hz4 := blk_cell HZ4.out 4; have hz5 := blk_cell HZ4.out 5
  go_wp2
  go_ret
  exact ⟨rfl, HB4.out⟩
set_option maxHeartbeats 4000000 in
set_option maxRecDepth 100000 in
/-- Neither frame may be: walked. -/
theorem SectorUnlike_e11 (k i c : Int) (s a : Nat) (A : Option Addr) (c5 : Nat) (l : List Int) (k' i' c' : Int) (s' a' : Nat) (A' : Option Addr) (c5' : Nat) (l' : List Int) (w : World)
    (hr : Kd.C (Kd.int .u8) w A l.length l) (hc : l.length ≤ c5) (hs : s < 18446744073709551616) (ha : a < 4294967296) (hb : bytesB l = true) (hf : frameOk k i c l.length = false) (q7 : l.length ≤ 200) (q7' : l'.length ≤ 200) (hr' : Kd.C (Kd.int .u8) w A' l'.length l') (hc' : l'.length ≤ c5') (hs' : s' < 18446744073709551616) (ha' : a' < 4294967296) (hb' : bytesB l' = true) (hf' : frameOk k' i' c' l'.length = false) :
    Calls Try.prog 12 #[.agg #[.int .i64 k, .int .i64 i, .int .i64 c, .int .u64 s, .int .u32 a, .slice A l.length c5], .agg #[.int .i64 k', .int .i64 i', .int .i64 c', .int .u64 s', .int .u32 a', .slice A' l'.length c5'], .bool false] w fun e w' => e = .returned (.bool true) ∧ Below w.heap.size w w' := by
  obtain ⟨y, hY⟩ : ∃ y, putM k i c s a l = y := ⟨_, rfl⟩
  have HP := Aside0.mk (put_f k i c s a l hs ha hb)
  rw [hf, if_neg (by decide)] at HP
  obtain ⟨y', hY'⟩ : ∃ y, putM k' i' c' s' a' l' = y := ⟨_, rfl⟩
  have HP' := Aside0.mk (put_f k' i' c' s' a' l' hs' ha' hb')
  rw [hf', if_neg (by decide)] at HP'
  have HR' := Aside0.mk hr'
  have HR := Aside0.mk hr
  have hd1 : decide ((200 : Int) < (l.length : Int)) = false := decide_eq_false (by omega)
  have hd2 : decide ((200 : Int) < (l'.length : Int)) = false := decide_eq_false (by omega)
  clear hr hb hf hY hr' hb' hf' hY'
  go_enter Try.func12, Try.ntmps12
  go_wp2_with fail
  (with_reducible refine (awake04.calls true _ rfl).mono ?_)
  rintro e w2 ⟨rfl, hb2⟩
  have HX := Aside0.mk (blk_below (blk_alloc (blk_new w (.cells #[.int .i64 k, .int .i64 i, .int .i64 c, .int .u64 s, .int .u32 a, .slice A l.length c5] 42)) (.cells #[.int .i64 k', .int .i64 i', .int .i64 c', .int .u64 s', .int .u32 a', .slice A' l'.length c5'] 42)) hb2)
  have HX' := Aside0.mk (blk_below (blk_new (w.alloc (.cells #[.int .i64 k, .int .i64 i, .int .i64 c, .int .u64 s, .int .u32 a, .slice A l.length c5] 42)) (.cells #[.int .i64 k', .int .i64 i', .int .i64 c', .int .u64 s', .int .u32 a', .slice A' l'.length c5'] 42)) hb2)
  have HB2 := Aside0.mk (below_step (below_alloc (below_alloc (Below.refl _ _) _) _) hb2)
  rw [show (w.alloc (.cells #[.int .i64 k, .int .i64 i, .int .i64 c, .int .u64 s, .int .u32 a, .slice A l.length c5] 42)).heap.size = w.heap.size + 1 from by simp] at HX'
  clear hb2
  have hx0 := blk_cell HX.out 0; have hx1 := blk_cell HX.out 1; have hx2 := blk_cell HX.out 2; have hx3 := blk_cell HX.out 3; have hx4 := blk_cell HX.out 4; have hx5 := blk_cell HX.out 5
  have hz0 := blk_cell HX'.out 0; have hz1 := blk_cell HX'.out 1; have hz2 := blk_cell HX'.out 2; have hz3 := blk_cell HX'.out 3; have hz4 := blk_cell HX'.out 4; have hz5 := blk_cell HX'.out 5
  go_wp2_with fail
  (with_reducible refine (sector_Put.calls k i c s a A c5 l [] 1 w2 (Kd.C_below HR.out HB2.out) hc HP.out).mono ?_)
  rintro e w3 ⟨v0, rfl, hro, hb3⟩
  obtain ⟨A19, c19, e19, hc19, hr19⟩ := Kd.R_reads hro
  subst e19
  have HC3 := Aside0.mk hr19
  have HX3 := Aside0.mk (blk_below HX.out hb3)
  have HZ3 := Aside0.mk (blk_below HX'.out hb3)
  have HB3 := Aside0.mk (below_step HB2.out hb3)
  clear hb3 hx0 hx1 hx2 hx3 hx4 hx5 hz0 hz1 hz2 hz3 hz4 hz5 hro hr19
  have hx0 := blk_cell HX3.out 0; have hx1 := blk_cell HX3.out 1; have hx2 := blk_cell HX3.out 2; have hx3 := blk_cell HX3.out 3; have hx4 := blk_cell HX3.out 4; have hx5 := blk_cell HX3.out 5
  have hz0 := blk_cell HZ3.out 0; have hz1 := blk_cell HZ3.out 1; have hz2 := blk_cell HZ3.out 2; have hz3 := blk_cell HZ3.out 3; have hz4 := blk_cell HZ3.out 4; have hz5 := blk_cell HZ3.out 5
  go_wp2_with fail
  (with_reducible refine (sector_Put.calls k' i' c' s' a' A' c5' l' [] 1 w3 (Kd.C_below HR'.out HB3.out) hc' HP'.out).mono ?_)
  rintro e w4 ⟨v0, rfl, hro, hb4⟩
  obtain ⟨A20, c20, e20, hc20, hr20⟩ := Kd.R_reads hro
  subst e20
  have HC4 := Aside0.mk (Kd.C_below HC3.out hb4)
  have HD4 := Aside0.mk hr20
  have HX4 := Aside0.mk (blk_below HX3.out hb4)
  have HZ4 := Aside0.mk (blk_below HZ3.out hb4)
  have HB4 := Aside0.mk (below_step HB3.out hb4)
  clear hb4 hx0 hx1 hx2 hx3 hx4 hx5 hz0 hz1 hz2 hz3 hz4 hz5 hro hr20 HX3 HZ3 HB3 HC3
  have hx0 := blk_cell HX4.out 0; have hx1 := blk_cell HX4.out 1; have hx2 := blk_cell HX4.out 2; have hx3 := blk_cell HX4.out 3; have hx4 := blk_cell HX4.out 4; have hx5 := blk_cell HX4.out 5
  have hz0 := blk_cell HZ4.out 0; have hz1 := blk_cell HZ4.out 1; have hz2 := blk_cell HZ4.out 2; have hz3 := blk_cell HZ4.out 3; have hz4 := blk_cell HZ4.out 4; have hz5 := blk_cell HZ4.out 5
  go_wp2
  go_ret
  exact ⟨rfl, HB4.out⟩
set_option maxHeartbeats 4000000 in
set_option maxRecDepth 100000 in
/-- The first frame may not be, and is the second one, too: walked. -/
theorem SectorUnlike_eS (k i c : Int) (s a : Nat) (A : Option Addr) (c5 : Nat) (l : List Int) (k' i' c' : Int) (s' a' : Nat) (A' : Option Addr) (c5' : Nat) (l' : List Int) (w : World)
    (hr : Kd.C (Kd.int .u8) w A l.length l) (hc : l.length ≤ c5) (hs : s < 18446744073709551616) (ha : a < 4294967296) (hb : bytesB l = true) (hf : frameOk k i c l.length = false) (q7 : l.length ≤ 200) (q7' : l'.length ≤ 200) :
    Calls Try.prog 12 #[.agg #[.int .i64 k, .int .i64 i, .int .i64 c, .int .u64 s, .int .u32 a, .slice A l.length c5], .agg #[.int .i64 k', .int .i64 i', .int .i64 c', .int .u64 s', .int .u32 a', .slice A' l'.length c5'], .bool true] w fun e w' => e = .returned (.bool true) ∧ Below w.heap.size w w' := by
  obtain ⟨y, hY⟩ : ∃ y, putM k i c s a l = y := ⟨_, rfl⟩
  have HP := Aside0.mk (put_f k i c s a l hs ha hb)
  rw [hf, if_neg (by decide)] at HP
  have HR := Aside0.mk hr
  have hd1 : decide ((200 : Int) < (l.length : Int)) = false := decide_eq_false (by omega)
  have hd2 : decide ((200 : Int) < (l'.length : Int)) = false := decide_eq_false (by omega)
  clear hr hb hf hY
  go_enter Try.func12, Try.ntmps12
  go_wp2_with fail
  (with_reducible refine (awake04.calls true _ rfl).mono ?_)
  rintro e w2 ⟨rfl, hb2⟩
  have HX := Aside0.mk (blk_below (blk_alloc (blk_new w (.cells #[.int .i64 k, .int .i64 i, .int .i64 c, .int .u64 s, .int .u32 a, .slice A l.length c5] 42)) (.cells #[.int .i64 k', .int .i64 i', .int .i64 c', .int .u64 s', .int .u32 a', .slice A' l'.length c5'] 42)) hb2)
  have HX' := Aside0.mk (blk_below (blk_new (w.alloc (.cells #[.int .i64 k, .int .i64 i, .int .i64 c, .int .u64 s, .int .u32 a, .slice A l.length c5] 42)) (.cells #[.int .i64 k', .int .i64 i', .int .i64 c', .int .u64 s', .int .u32 a', .slice A' l'.length c5'] 42)) hb2)
  have HB2 := Aside0.mk (below_step (below_alloc (below_alloc (Below.refl _ _) _) _) hb2)
  rw [show (w.alloc (.cells #[.int .i64 k, .int .i64 i, .int .i64 c, .int .u64 s, .int .u32 a, .slice A l.length c5] 42)).heap.size = w.heap.size + 1 from by simp] at HX'
  clear hb2
  have hx0 := blk_cell HX.out 0; have hx1 := blk_cell HX.out 1; have hx2 := blk_cell HX.out 2; have hx3 := blk_cell HX.out 3; have hx4 := blk_cell HX.out 4; have hx5 := blk_cell HX.out 5
  have hz0 := blk_cell HX'.out 0; have hz1 := blk_cell HX'.out 1; have hz2 := blk_cell HX'.out 2; have hz3 := blk_cell HX'.out 3; have hz4 := blk_cell HX'.out 4; have hz5 := blk_cell HX'.out 5
  have hf0 := blk_frozen HX'.out 0; have hf1 := blk_frozen HX'.out 1; have hf2 := blk_frozen HX'.out 2; have hf3 := blk_frozen HX'.out 3; have hf4 := blk_frozen HX'.out 4; have hf5 := blk_frozen HX'.out 5
  go_wp2_with fail
  obtain ⟨w2', hw2'⟩ : ∃ x, (World.setCell (World.setCell (World.setCell (World.setCell (World.setCell (World.setCell w2 ⟨w.heap.size + 1, 0, none⟩ (.int .i64 k)) ⟨w.heap.size + 1, 1, none⟩ (.int .i64 i)) ⟨w.heap.size + 1, 2, none⟩ (.int .i64 c)) ⟨w.heap.size + 1, 3, none⟩ (.int .u64 s)) ⟨w.heap.size + 1, 4, none⟩ (.int .u32 a)) ⟨w.heap.size + 1, 5, none⟩ (.slice A l.length c5)) = x := ⟨_, rfl⟩
  have HZ2 : Aside0 (w2'.heap[w.heap.size + 1]? = some (.cells #[.int .i64 k, .int .i64 i, .int .i64 c, .int .u64 s, .int .u32 a, .slice A l.length c5] 42 (0, 0))) := ⟨by rw [← hw2']; exact (blk_set (blk_set (blk_set (blk_set (blk_set (blk_set HX'.out 0 (.int .i64 k)) 1 (.int .i64 i)) 2 (.int .i64 c)) 3 (.int .u64 s)) 4 (.int .u32 a)) 5 (.slice A l.length c5))⟩
  have HX2 : Aside0 (w2'.heap[w.heap.size]? = some (.cells #[.int .i64 k, .int .i64 i, .int .i64 c, .int .u64 s, .int .u32 a, .slice A l.length c5] 42 (0, 0))) := ⟨by rw [← hw2']; exact (blk_far (blk_far (blk_far (blk_far (blk_far (blk_far HX.out (p := ⟨w.heap.size + 1, 0, none⟩) (by simp) (.int .i64 k)) (p := ⟨w.heap.size + 1, 1, none⟩) (by simp) (.int .i64 i)) (p := ⟨w.heap.size + 1, 2, none⟩) (by simp) (.int .i64 c)) (p := ⟨w.heap.size + 1, 3, none⟩) (by simp) (.int .u64 s)) (p := ⟨w.heap.size + 1, 4, none⟩) (by simp) (.int .u32 a)) (p := ⟨w.heap.size + 1, 5, none⟩) (by simp) (.slice A l.length c5))⟩
  have HBN : Aside0 (Below w.heap.size w w2') := ⟨by rw [← hw2']; exact (below_set (below_set (below_set (below_set (below_set (below_set HB2.out (g := w.heap.size + 1) (j := 0) (v := (.int .i64 k)) (by omega)) (g := w.heap.size + 1) (j := 1) (v := (.int .i64 i)) (by omega)) (g := w.heap.size + 1) (j := 2) (v := (.int .i64 c)) (by omega)) (g := w.heap.size + 1) (j := 3) (v := (.int .u64 s)) (by omega)) (g := w.heap.size + 1) (j := 4) (v := (.int .u32 a)) (by omega)) (g := w.heap.size + 1) (j := 5) (v := (.slice A l.length c5)) (by omega))⟩
  rw [hw2']
  clear hw2' hf0 hf1 hf2 hf3 hf4 hf5
  (with_reducible refine (sector_Put.calls k i c s a A c5 l [] 1 w2' (Kd.C_below HR.out HBN.out) hc HP.out).mono ?_)
  rintro e w3 ⟨v0, rfl, hro, hb3⟩
  obtain ⟨A19, c19, e19, hc19, hr19⟩ := Kd.R_reads hro
  subst e19
  have HC3 := Aside0.mk hr19
  have HX3 := Aside0.mk (blk_below HX2.out hb3)
  have HZ3 := Aside0.mk (blk_below HZ2.out hb3)
  have HB3 := Aside0.mk (below_step HBN.out hb3)
  clear hb3 hx0 hx1 hx2 hx3 hx4 hx5 hz0 hz1 hz2 hz3 hz4 hz5 hro hr19
  have hx0 := blk_cell HX3.out 0; have hx1 := blk_cell HX3.out 1; have hx2 := blk_cell HX3.out 2; have hx3 := blk_cell HX3.out 3; have hx4 := blk_cell HX3.out 4; have hx5 := blk_cell HX3.out 5
  have hz0 := blk_cell HZ3.out 0; have hz1 := blk_cell HZ3.out 1; have hz2 := blk_cell HZ3.out 2; have hz3 := blk_cell HZ3.out 3; have hz4 := blk_cell HZ3.out 4; have hz5 := blk_cell HZ3.out 5
  go_wp2_with fail
  (with_reducible refine (sector_Put.calls k i c s a A c5 l [] 1 w3 (Kd.C_below HR.out HB3.out) hc HP.out).mono ?_)
  rintro e w4 ⟨v0, rfl, hro, hb4⟩
  obtain ⟨A20, c20, e20, hc20, hr20⟩ := Kd.R_reads hro
  subst e20
  have HC4 := Aside0.mk (Kd.C_below HC3.out hb4)
  have HD4 := Aside0.mk hr20
  have HX4 := Aside0.mk (blk_below HX3.out hb4)
  have HZ4 := Aside0.mk (blk_below HZ3.out hb4)
  have HB4 := Aside0.mk (below_step HB3.out hb4)
  clear hb4 hx0 hx1 hx2 hx3 hx4 hx5 hz0 hz1 hz2 hz3 hz4 hz5 hro hr20 HX3 HZ3 HB3 HC3
  have hx0 := blk_cell HX4.out 0; have hx1 := blk_cell HX4.out 1; have hx2 := blk_cell HX4.out 2; have hx3 := blk_cell HX4.out 3; have hx4 := blk_cell HX4.out 4; have hx5 := blk_cell HX4.out 5
  have hz0 := blk_cell HZ4.out 0; have hz1 := blk_cell HZ4.out 1; have hz2 := blk_cell HZ4.out 2; have hz3 := blk_cell HZ4.out 3; have hz4 := blk_cell HZ4.out 4; have hz5 := blk_cell HZ4.out 5
  go_wp2
  go_ret
  exact ⟨rfl, HB4.out⟩
set_option maxHeartbeats 1000000 in
set_option maxRecDepth 100000 in
theorem SectorUnlike_long1 (k i c : Int) (s a : Nat) (A : Option Addr) (c5 : Nat) (l : List Int) (k' i' c' : Int) (s' a' : Nat) (A' : Option Addr) (c5' : Nat) (l' : List Int) (b : Bool) (w : World) (q : 200 < l.length) :
    Calls Try.prog 12 #[.agg #[.int .i64 k, .int .i64 i, .int .i64 c, .int .u64 s, .int .u32 a, .slice A l.length c5], .agg #[.int .i64 k', .int .i64 i', .int .i64 c', .int .u64 s', .int .u32 a', .slice A' l'.length c5'], .bool b] w fun e w' => e = .returned (.bool true) ∧ Below w.heap.size w w' := by
  have hd1 : decide ((200 : Int) < (l.length : Int)) = true := decide_eq_true (by omega)
  go_enter Try.func12, Try.ntmps12
  go_wp2_with fail
  (with_reducible refine (awake04.calls true _ rfl).mono ?_)
  rintro e w2 ⟨rfl, hb2⟩
  have HX := Aside0.mk (blk_below (blk_alloc (blk_new w (.cells #[.int .i64 k, .int .i64 i, .int .i64 c, .int .u64 s, .int .u32 a, .slice A l.length c5] 42)) (.cells #[.int .i64 k', .int .i64 i', .int .i64 c', .int .u64 s', .int .u32 a', .slice A' l'.length c5'] 42)) hb2)
  have HX' := Aside0.mk (blk_below (blk_new (w.alloc (.cells #[.int .i64 k, .int .i64 i, .int .i64 c, .int .u64 s, .int .u32 a, .slice A l.length c5] 42)) (.cells #[.int .i64 k', .int .i64 i', .int .i64 c', .int .u64 s', .int .u32 a', .slice A' l'.length c5'] 42)) hb2)
  have HB2 := Aside0.mk (below_step (below_alloc (below_alloc (Below.refl _ _) _) _) hb2)
  rw [show (w.alloc (.cells #[.int .i64 k, .int .i64 i, .int .i64 c, .int .u64 s, .int .u32 a, .slice A l.length c5] 42)).heap.size = w.heap.size + 1 from by simp] at HX'
  clear hb2
  have hx0 := blk_cell HX.out 0; have hx1 := blk_cell HX.out 1; have hx2 := blk_cell HX.out 2; have hx3 := blk_cell HX.out 3; have hx4 := blk_cell HX.out 4; have hx5 := blk_cell HX.out 5
  have hz0 := blk_cell HX'.out 0; have hz1 := blk_cell HX'.out 1; have hz2 := blk_cell HX'.out 2; have hz3 := blk_cell HX'.out 3; have hz4 := blk_cell HX'.out 4; have hz5 := blk_cell HX'.out 5
  go_wp2
  go_ret
  exact ⟨rfl, HB2.out⟩
set_option maxHeartbeats 1000000 in
set_option maxRecDepth 100000 in
theorem SectorUnlike_long2 (k i c : Int) (s a : Nat) (A : Option Addr) (c5 : Nat) (l : List Int) (k' i' c' : Int) (s' a' : Nat) (A' : Option Addr) (c5' : Nat) (l' : List Int) (b : Bool) (w : World) (q : l.length ≤ 200) (q' : 200 < l'.length) :
    Calls Try.prog 12 #[.agg #[.int .i64 k, .int .i64 i, .int .i64 c, .int .u64 s, .int .u32 a, .slice A l.length c5], .agg #[.int .i64 k', .int .i64 i', .int .i64 c', .int .u64 s', .int .u32 a', .slice A' l'.length c5'], .bool b] w fun e w' => e = .returned (.bool true) ∧ Below w.heap.size w w' := by
  have hd1 : decide ((200 : Int) < (l.length : Int)) = false := decide_eq_false (by omega)
  have hd2 : decide ((200 : Int) < (l'.length : Int)) = true := decide_eq_true (by omega)
  go_enter Try.func12, Try.ntmps12
  go_wp2_with fail
  (with_reducible refine (awake04.calls true _ rfl).mono ?_)
  rintro e w2 ⟨rfl, hb2⟩
  have HX := Aside0.mk (blk_below (blk_alloc (blk_new w (.cells #[.int .i64 k, .int .i64 i, .int .i64 c, .int .u64 s, .int .u32 a, .slice A l.length c5] 42)) (.cells #[.int .i64 k', .int .i64 i', .int .i64 c', .int .u64 s', .int .u32 a', .slice A' l'.length c5'] 42)) hb2)
  have HX' := Aside0.mk (blk_below (blk_new (w.alloc (.cells #[.int .i64 k, .int .i64 i, .int .i64 c, .int .u64 s, .int .u32 a, .slice A l.length c5] 42)) (.cells #[.int .i64 k', .int .i64 i', .int .i64 c', .int .u64 s', .int .u32 a', .slice A' l'.length c5'] 42)) hb2)
  have HB2 := Aside0.mk (below_step (below_alloc (below_alloc (Below.refl _ _) _) _) hb2)
  rw [show (w.alloc (.cells #[.int .i64 k, .int .i64 i, .int .i64 c, .int .u64 s, .int .u32 a, .slice A l.length c5] 42)).heap.size = w.heap.size + 1 from by simp] at HX'
  clear hb2
  have hx0 := blk_cell HX.out 0; have hx1 := blk_cell HX.out 1; have hx2 := blk_cell HX.out 2; have hx3 := blk_cell HX.out 3; have hx4 := blk_cell HX.out 4; have hx5 := blk_cell HX.out 5
  have hz0 := blk_cell HX'.out 0; have hz1 := blk_cell HX'.out 1; have hz2 := blk_cell HX'.out 2; have hz3 := blk_cell HX'.out 3; have hz4 := blk_cell HX'.out 4; have hz5 := blk_cell HX'.out 5
  go_wp2
  go_ret
  exact ⟨rfl, HB2.out⟩
theorem SectorUnlike_walk (k i c s a : Int) (A : Option Addr) (cc : Nat) (l : List Int) (k' i' c' s' a' : Int) (A' : Option Addr) (cc' : Nat) (l' : List Int) (b : Bool) (W : World)
    (hk : (Lit.int .i64 k).wf = true) (hi : (Lit.int .i64 i).wf = true) (hc : (Lit.int .i64 c).wf = true) (hs : (Lit.int .u64 s).wf = true) (ha : (Lit.int .u32 a).wf = true) (hr : Kd.C (Kd.int .u8) W A l.length l) (hcc : l.length ≤ cc) (ok : l.length ≤ maxLen ∧ ∀ x ∈ l, (Lit.int .u8 x).wf = true)
    (hk' : (Lit.int .i64 k').wf = true) (hi' : (Lit.int .i64 i').wf = true) (hc' : (Lit.int .i64 c').wf = true) (hs' : (Lit.int .u64 s').wf = true) (ha' : (Lit.int .u32 a').wf = true) (hr' : Kd.C (Kd.int .u8) W A' l'.length l') (hcc' : l'.length ≤ cc') (ok' : l'.length ≤ maxLen ∧ ∀ x ∈ l', (Lit.int .u8 x).wf = true) :
    Calls Try.prog 12 #[.agg #[.int .i64 k, .int .i64 i, .int .i64 c, .int .u64 s, .int .u32 a, .slice A l.length cc], .agg #[.int .i64 k', .int .i64 i', .int .i64 c', .int .u64 s', .int .u32 a', .slice A' l'.length cc'], .bool b] W fun e W' => e = .returned (.bool true) ∧ Below W.heap.size W W' := by
  have us := u64_of_wf s hs
  have ua := u32_of_wf a ha
  have us' := u64_of_wf s' hs'
  have ua' := u32_of_wf a' ha'
  obtain ⟨s, rfl⟩ := Int.eq_ofNat_of_zero_le us.1
  obtain ⟨a, rfl⟩ := Int.eq_ofNat_of_zero_le ua.1
  obtain ⟨s', rfl⟩ := Int.eq_ofNat_of_zero_le us'.1
  obtain ⟨a', rfl⟩ := Int.eq_ofNat_of_zero_le ua'.1
  have hb := bytesB_of_wf l ok.2
  have hb' := bytesB_of_wf l' ok'.2
  by_cases q : l.length ≤ 200
  · by_cases q' : l'.length ≤ 200
    · cases hf : frameOk k i c l.length with
      | true =>
        cases b with
        | true => exact SectorUnlike_same k i c s a A cc l k' i' c' s' a' A' cc' l' W hr hcc (by omega) (by omega) hb hf q'
        | false =>
          cases hf' : frameOk k' i' c' l'.length with
          | true => exact SectorUnlike_both k i c s a A cc l k' i' c' s' a' A' cc' l' W hr hcc (by omega) (by omega) hb hf hr' hcc' (by omega) (by omega) hb' hf'
          | false => exact SectorUnlike_e01 k i c s a A cc l k' i' c' s' a' A' cc' l' W hr hcc (by omega) (by omega) hb hf q q' hr' hcc' (by omega) (by omega) hb' hf'
      | false =>
        cases b with
        | true => exact SectorUnlike_eS k i c s a A cc l k' i' c' s' a' A' cc' l' W hr hcc (by omega) (by omega) hb hf q q'
        | false =>
          cases hf' : frameOk k' i' c' l'.length with
          | true => exact SectorUnlike_e10 k i c s a A cc l k' i' c' s' a' A' cc' l' W hr hcc (by omega) (by omega) hb hf q q' hr' hcc' (by omega) (by omega) hb' hf'
          | false => exact SectorUnlike_e11 k i c s a A cc l k' i' c' s' a' A' cc' l' W hr hcc (by omega) (by omega) hb hf q q' hr' hcc' (by omega) (by omega) hb' hf'
    · exact SectorUnlike_long2 k i c s a A cc l k' i' c' s' a' A' cc' l' b W q (by omega)
  · exact SectorUnlike_long1 k i c s a A cc l k' i' c' s' a' A' cc' l' b W (by omega)
end Go.Proofs.Ytelhdgnolijpcaa.Hm
end
section
/- What a value that came in holds, kind by kind: an argument of any type of whole numbers, bools, strings, slices and structs is opened to a plain value; conditions: those that each theorem names. -/
namespace Go.Proofs.Ytelhdgnolijpcaa.Hm
open Go.RowKit Go.ChangeShapes Go.WideShapes Go.Deep Go.Proofs.YtelhdgnolijpcaaW.PrintWords Go.Proofs.YtelhdgnolijpcaaW.PrintLast Go.Proofs.YtelhdgnolijpcaaW.PrintMore
set_option linter.unusedVariables false
set_option linter.unusedSimpArgs false

/-- Whatever is read at type t is a value of the kind d, of which ok holds. -/
def Opens (P : Program) (t : TypeId) {α : Type} (d : Kd α) (ok : α → Prop) : Prop :=
  ∀ (H : Type) (enc : TypeId × Value → H) (w : World) (base : Nat) (spare : Nat → Bool) (held : Bool) (fuel : Nat) (cs : List Value) (x : DataW H × List MemPlace),
    DataW.trod enc P w base spare held fuel t cs = some x → ∃ a, d.K w a cs ∧ ok a
theorem opens_int {P : Program} {t : TypeId} {k : IntKind} (ht : P.underlying t = some (.int k)) : Opens P t (Kd.int k) (fun n => (Lit.int k n).wf = true) := by
  intro H enc w base spare held fuel cs x h
  obtain ⟨n, rfl, _, hw⟩ := DataW.trod_int ht h
  exact ⟨n, rfl, hw⟩
theorem opens_bool {P : Program} {t : TypeId} (ht : P.underlying t = some .bool) : Opens P t Kd.bool (fun _ => True) := by
  intro H enc w base spare held fuel cs x h
  obtain ⟨b, rfl, _⟩ := DataW.trod_bool ht h
  exact ⟨b, rfl, trivial⟩
theorem opens_string {P : Program} {t : TypeId} (ht : P.underlying t = some .string) : Opens P t Kd.string (fun s => s.size ≤ maxLen) := by
  intro H enc w base spare held fuel cs x h
  obtain ⟨s, rfl, _, hs⟩ := DataW.trod_string ht h
  exact ⟨s, rfl, hs⟩
theorem exists_list {α : Type} {p : Nat → α → Prop} (n : Nat) (h : ∀ i, i < n → ∃ x, p i x) : ∃ l : List α, l.length = n ∧ ∀ i x, l[i]? = some x → p i x := by
  induction n with
  | zero => exact ⟨[], rfl, fun i x hx => by simp at hx⟩
  | succ n ih =>
    obtain ⟨l, hl, hp⟩ := ih (fun i hi => h i (by omega))
    obtain ⟨y, hy⟩ := h n (by omega)
    refine ⟨l ++ [y], by simp [hl], fun i x hx => ?_⟩
    rcases Nat.lt_or_ge i n with hi | hi
    · rw [List.getElem?_append_left (by omega)] at hx
      exact hp i x hx
    · have hi2 : i = n := by
        have := (List.getElem?_eq_some_iff.1 hx).1
        rw [List.length_append, hl, List.length_singleton] at this
        omega
      subst hi2
      rw [List.getElem?_append_right (by omega), hl, Nat.sub_self] at hx
      obtain rfl : y = x := by simpa using hx
      exact hy
theorem opens_slice {P : Program} {t e : TypeId} {α : Type} {d : Kd α} {ok : α → Prop} (e' : Nat) (ht : P.underlying t = some (.slice e)) (hc : P.cellsOf e = d.sz) (h : Opens P e d ok) :
    Opens P t (Kd.slice e' d) (fun l => l.length ≤ maxLen ∧ ∀ x ∈ l, ok x) := by
  intro H enc w base spare held fuel cs x hx
  rcases open_slice ht hx with ⟨rfl, _⟩ | ⟨a, len, cap, m, n, D, Pl, rfl, _, hl, hm, hmm, _, hi⟩
  · refine ⟨[], ⟨none, 0, rfl, Nat.le_refl _, ⟨rfl, by simp, fun h0 => by simp at h0⟩⟩, by simp, fun x hx => by simp at hx⟩
  · have hlm : len ≤ m := by rw [hmm]; split <;> omega
    obtain ⟨l, hll, hp⟩ := exists_list (p := fun i y => ok y ∧ ∃ cs', d.K w y cs' ∧ w.cells? base (a.add (i * P.cellsOf e)) (P.cellsOf e) = some cs') len (fun i hil => by
      obtain ⟨cs', hcs, htr⟩ := hi i (by omega)
      obtain ⟨y, hy, hoky⟩ := h H enc w base spare held n cs' _ htr
      exact ⟨y, hoky, cs', hy, hcs⟩)
    refine ⟨l, ⟨some a, cap, by rw [hll], by omega, ⟨rfl, by rw [hll]; simp only [maxLen] at hm; omega, fun _ => ⟨a, rfl, fun j p hj => ?_⟩⟩⟩, by rw [hll]; omega, fun x hx => ?_⟩
    · obtain ⟨_, cs', hK, hcs⟩ := hp j p hj
      refine ⟨cs', d.K_len hK, hK, fun i u hu => ?_⟩
      obtain ⟨_, hcl, hat⟩ := World.cells?_some hcs
      have hiu := (List.getElem?_eq_some_iff.1 hu).1
      have := hat i (by omega)
      rw [Go.Deep.add_add, hc] at this
      rw [this, hu]
    · obtain ⟨i, hil, rfl⟩ := List.mem_iff_getElem.1 hx
      exact (hp i _ (List.getElem?_eq_getElem hil)).1
/-- The cells of fields, one behind the other. -/
def Fields (P : Program) (H : Type) (enc : TypeId × Value → H) (w : World) (base : Nat) (spare : Nat → Bool) (held : Bool) (n : Nat) : List TypeId → List Value → Prop
  | [], cs => cs = []
  | t :: ts, cs => ∃ c1 c2, cs = c1 ++ c2 ∧ (∃ y, DataW.trod enc P w base spare held n t c1 = some y) ∧ Fields P H enc w base spare held n ts c2
def laidFrom (P : Program) (total : Nat) : Nat → List Field → Bool
  | o, [] => decide (o = total)
  | o, f :: l => decide (f.offset = o) && laidFrom P total (o + P.cellsOf f.type) l
def OpensF (P : Program) (ts : List TypeId) {α : Type} (d : Kd α) (ok : α → Prop) : Prop :=
  ∀ (H : Type) (enc : TypeId × Value → H) (w : World) (base : Nat) (spare : Nat → Bool) (held : Bool) (n : Nat) (cs : List Value),
    Fields P H enc w base spare held n ts cs → ∃ a, d.K w a cs ∧ ok a
theorem opensF_one {P : Program} {t : TypeId} {α : Type} {d : Kd α} {ok : α → Prop} (h : Opens P t d ok) : OpensF P [t] d ok := by
  rintro H enc w base spare held n cs ⟨c1, c2, rfl, ⟨y, hy⟩, rfl⟩
  rw [List.append_nil]
  exact h H enc w base spare held n c1 y hy
theorem opensF_cons {P : Program} {t : TypeId} {ts : List TypeId} {α β : Type} {d : Kd α} {d' : Kd β} {ok : α → Prop} {ok' : β → Prop} (h : Opens P t d ok) (h' : OpensF P ts d' ok') :
    OpensF P (t :: ts) (Kd.pair d d') (fun x => ok x.1 ∧ ok' x.2) := by
  rintro H enc w base spare held n cs ⟨c1, c2, rfl, ⟨y, hy⟩, hf⟩
  obtain ⟨a, ha, hoa⟩ := h H enc w base spare held n c1 y hy
  obtain ⟨b, hb, hob⟩ := h' H enc w base spare held n c2 hf
  exact ⟨(a, b), ⟨c1, c2, rfl, ha, hb⟩, hoa, hob⟩
theorem fields_from {P : Program} {H : Type} {enc : TypeId × Value → H} {w : World} {base : Nat} {spare : Nat → Bool} {held : Bool} {n total : Nat} {cs : List Value} (hcs : cs.length = total) (l : List Field) :
    ∀ o, laidFrom P total o l = true → (∀ f ∈ l, ∃ y, DataW.trod enc P w base spare held n f.type ((cs.drop f.offset).take (P.cellsOf f.type)) = some y) → Fields P H enc w base spare held n (l.map (·.type)) (cs.drop o) := by
  induction l with
  | nil =>
    intro o ho _
    have : o = total := by simpa [laidFrom] using ho
    show cs.drop o = []
    exact List.drop_eq_nil_of_le (by omega)
  | cons f l ih =>
    intro o ho hf
    simp only [laidFrom, Bool.and_eq_true, decide_eq_true_eq] at ho
    obtain ⟨y, hy⟩ := hf f (by simp)
    refine ⟨(cs.drop o).take (P.cellsOf f.type), cs.drop (o + P.cellsOf f.type), ?_, ⟨y, by rw [← ho.1]; exact hy⟩, ih _ ho.2 (fun g hg => hf g (by simp [hg]))⟩
    rw [← List.drop_drop, List.take_append_drop]
theorem opens_struct {P : Program} {t : TypeId} {fs : Array Field} {α β : Type} {d : Kd α} {ok : α → Prop} (f : β → α) (g : α → β) (hfg : ∀ a, f (g a) = a) (ht : P.underlying t = some (.struct fs))
    (hl : laidFrom P (P.cellsOf t) 0 fs.toList = true) (h : OpensF P (fs.toList.map (·.type)) d ok) : Opens P t (Kd.iso d f) (fun b => ok (f b)) := by
  intro H enc w base spare held fuel cs x hx
  obtain ⟨xs, n, _, _, hcs, hxl, hat⟩ := DataW.trod_struct ht hx
  have hF := fields_from (P := P) (enc := enc) (w := w) (base := base) (spare := spare) (held := held) (n := n) hcs fs.toList 0 hl (fun q hq => by
    obtain ⟨i, hi, rfl⟩ := List.mem_iff_getElem.1 hq
    have hi' : i < fs.size := by simpa using hi
    have := hat i fs[i] (Array.getElem?_eq_getElem hi')
    rw [List.getElem?_eq_getElem (by omega)] at this
    exact ⟨_, by simpa using this⟩)
  obtain ⟨a, ha, hoa⟩ := h H enc w base spare held n _ hF
  rw [List.drop_zero] at ha
  exact ⟨g a, by show d.K w (f (g a)) cs; rw [hfg]; exact ha, by show ok (f (g a)); rw [hfg]; exact hoa⟩
end Go.Proofs.Ytelhdgnolijpcaa.Hm
end
section
/- The row of the statement SectorUnlike: it holds as given, out of the walk of its Go function; no condition. -/
namespace Go.Proofs.Ytelhdgnolijpcaa.sectorUnlike
open Go.ChangeShapes Go.WideShapes Go.ChangeAt Go.RowKit
open Go.ChangeMaps (open_string shut_string)
open Go.Proofs.YtelhdgnolijpcaaW.PrintWords
set_option linter.unusedVariables false
theorem own : ownKnob Try.prog.godebug = none := by kernel_rfl
theorem laidOut : laidOutB Try.prog = true := by kernel_rfl
set_option maxRecDepth 100000 in
theorem lifted (os : Os) (started : os.Started) (H : Type) (enc : TypeId × Value → H) :
    ReturnsInHanded {} Try.checked os 12 .any (Rows.sectorUnlikeSpec.pre6 enc Try.prog Try.f12 Rows.sectorUnlikeRow.domain false) (Rows.sectorUnlikeSpec.post enc Try.prog Try.f12 false true false false) := by
  refine returnsInHanded_of_change_sized (C := Try.checked) own started (by kernel_rfl) Try.func12
    (ChangeSpec.witness6 (enc := enc) (C := Try.checked) false ⟨#[], #[.agg #[.int .i64 0, .int .i64 0, .int .i64 0, .int .u64 0, .int .u32 0, .slice none 0 0], .agg #[.int .i64 0, .int .i64 0, .int .i64 0, .int .u64 0, .int .u32 0, .slice none 0 0], .bool false], []⟩ 8 (by kernel_rfl) (by kernel_rfl) (by kernel_rfl) (by kernel_rfl)) ?_
  intro W base args ds gs before hval0 hW hcnd hsz0 _
  have hsz : (DataW.weightsEach Try.prog (Try.f12.params.toList ++ Rows.sectorUnlikeSpec.plain.varTypes Try.prog) (ds ++ gs)).all (· ≤ reachBytes) = true := hsz0
  have hval : ∀ (j : Nat) t v, Try.f12.params[j]? = some t → args[j]? = some v → Value.okWide Try.prog W .any base t v := hval0
  have hW' := hW
  obtain ⟨p, q, hA0, hV, rfl, hfz, hnd⟩ := hW
  have hA : DataW.TrodAll enc Try.prog W 0 (fun _ => true) true Try.f12.params.toList args.toList ds p := hA0
  rw [Try.params12] at hA hval hsz
  obtain ⟨v0, vs0, d0, ds0, p0, q0, hargs, rfl, rfl, h0, r0⟩ := trodAll_cons hA
  obtain ⟨v1, vs1, d1, ds1, p1, q1, rfl, rfl, rfl, h1, r1⟩ := trodAll_cons r0
  obtain ⟨v2, vs2, d2, ds2, p2, q2, rfl, rfl, rfl, h2, r2⟩ := trodAll_cons r1
  obtain ⟨rfl, rfl, rfl⟩ := trodAll_nil r2
  obtain rfl : args = #[v0, v1, v2] := by cases args; simp_all
  obtain ⟨rfl, rfl⟩ := trodVars_none hV
  have k0 := h0
  have lt0 : ∀ x ∈ p0, x.block < W.heap.size := by obtain ⟨m, hm⟩ := k0; exact DataW.trod_lt m _ _ _ hm
  obtain ⟨q0, rfl, hq0⟩ := okWide_struct Try.underlying42 (hval 0 42 v0 rfl rfl)
  obtain ⟨fuel0, hf0⟩ := h0
  obtain ⟨⟨a0_0, ⟨a0_1, ⟨a0_2, ⟨a0_3, ⟨a0_4, l0_5⟩⟩⟩⟩⟩, hK0, ⟨w0_0, ⟨w0_1, ⟨w0_2, ⟨w0_3, ⟨w0_4, w0_5⟩⟩⟩⟩⟩⟩ := (Hm.opens_struct id id (fun _ => rfl) Try.underlying42 (by kernel_rfl) (Hm.opensF_cons (Hm.opens_int Try.underlying3) (Hm.opensF_cons (Hm.opens_int Try.underlying3) (Hm.opensF_cons (Hm.opens_int Try.underlying3) (Hm.opensF_cons (Hm.opens_int Try.underlying40) (Hm.opensF_cons (Hm.opens_int Try.underlying22) (Hm.opensF_one (Hm.opens_slice 5 Try.underlying23 (by kernel_rfl) (Hm.opens_int Try.underlying5))))))))) H enc W 0 _ true fuel0 _ _ hf0
  obtain ⟨e0, e1, he0, rfl, ⟨_, _, rfl, rfl, ⟨_, _, rfl, rfl, ⟨_, _, rfl, rfl, ⟨_, _, rfl, rfl, ⟨A0_5, c0_5, rfl, hc0_5, hr0_5⟩⟩⟩⟩⟩⟩ := hK0
  obtain rfl : q0 = #[.int .i64 a0_0, .int .i64 a0_1, .int .i64 a0_2, .int .u64 a0_3, .int .u32 a0_4, .slice A0_5 l0_5.length c0_5] := by apply Array.ext'; simpa [Value.cells] using he0
  have k1 := h1
  have lt1 : ∀ x ∈ p1, x.block < W.heap.size := by obtain ⟨m, hm⟩ := k1; exact DataW.trod_lt m _ _ _ hm
  obtain ⟨q1, rfl, hq1⟩ := okWide_struct Try.underlying42 (hval 1 42 v1 rfl rfl)
  obtain ⟨fuel1, hf1⟩ := h1
  obtain ⟨⟨a1_0, ⟨a1_1, ⟨a1_2, ⟨a1_3, ⟨a1_4, l1_5⟩⟩⟩⟩⟩, hK1, ⟨w1_0, ⟨w1_1, ⟨w1_2, ⟨w1_3, ⟨w1_4, w1_5⟩⟩⟩⟩⟩⟩ := (Hm.opens_struct id id (fun _ => rfl) Try.underlying42 (by kernel_rfl) (Hm.opensF_cons (Hm.opens_int Try.underlying3) (Hm.opensF_cons (Hm.opens_int Try.underlying3) (Hm.opensF_cons (Hm.opens_int Try.underlying3) (Hm.opensF_cons (Hm.opens_int Try.underlying40) (Hm.opensF_cons (Hm.opens_int Try.underlying22) (Hm.opensF_one (Hm.opens_slice 5 Try.underlying23 (by kernel_rfl) (Hm.opens_int Try.underlying5))))))))) H enc W 0 _ true fuel1 _ _ hf1
  obtain ⟨e0, e1, he1, rfl, ⟨_, _, rfl, rfl, ⟨_, _, rfl, rfl, ⟨_, _, rfl, rfl, ⟨_, _, rfl, rfl, ⟨A1_5, c1_5, rfl, hc1_5, hr1_5⟩⟩⟩⟩⟩⟩ := hK1
  obtain rfl : q1 = #[.int .i64 a1_0, .int .i64 a1_1, .int .i64 a1_2, .int .u64 a1_3, .int .u32 a1_4, .slice A1_5 l1_5.length c1_5] := by apply Array.ext'; simpa [Value.cells] using he1
  obtain ⟨a2, rfl, rfl, rfl⟩ := open_bool Try.underlying4 (hval 2 4 v2 rfl rfl) h2
  clear hA0 hval0 hsz0 hsz
  refine (Hm.SectorUnlike_walk a0_0 a0_1 a0_2 a0_3 a0_4 A0_5 c0_5 l0_5 a1_0 a1_1 a1_2 a1_3 a1_4 A1_5 c1_5 l1_5 a2 W w0_0 w0_1 w0_2 w0_3 w0_4 hr0_5 hc0_5 w0_5 w1_0 w1_1 w1_2 w1_3 w1_4 hr1_5 hc1_5 w1_5).mono fun e W' ⟨he, bel⟩ => ?_
  subst he
  exact ⟨_, rfl, _, _, _, [], _, [], hW', trodAll_mk1 (shut_bool Try.underlying4 _), (trodAll_cons_mk (Below.trod laidOut (by kernel_rfl) (of_decide_eq_true (by kernel_rfl)) k0 bel lt0) (trodAll_cons_mk (Below.trod laidOut (by kernel_rfl) (of_decide_eq_true (by kernel_rfl)) k1 bel lt1) (trodAll_cons_mk (shut_bool Try.underlying4 _) trodAll_mk0))), rfl, bel.frame _, fun h => by cases h⟩
theorem over : Rows.sectorUnlikeRow.holds Try.pinned (OpenSpec.ofChange Rows.sectorUnlikeSpec) :=
  OpenClaim.holds_of_wide 12 Try.f12 rfl rfl rfl rfl rfl rfl rfl ⟨rfl, rfl, rfl, rfl, rfl⟩ rfl rfl rfl rfl rfl (by kernel_rfl) Try.func12 (by kernel_rfl)
    (of_decide_eq_true (by kernel_rfl)) (by unfold Func.isWrapper; first | (rw [if_pos (by decide +kernel)]; kernel_rfl) | (rw [if_neg (by decide +kernel)]; exact ⟨rfl, rfl⟩))
    (fun os started H enc _ => lifted os started H enc)
theorem proved : Rows.SectorUnlikeSaid := over
#print axioms proved
end Go.Proofs.Ytelhdgnolijpcaa.sectorUnlike
namespace Go.Proofs.Ytelhdgnolijpcaa
/-- The row, under a short name, for the claim. -/
theorem sectorUnlike_holds : Rows.SectorUnlikeSaid := sectorUnlike.proved
end Go.Proofs.Ytelhdgnolijpcaa
end
