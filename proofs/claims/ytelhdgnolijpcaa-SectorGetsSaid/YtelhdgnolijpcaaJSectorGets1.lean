/- Part 2 of the proof of the statement SectorGets: lemmas and walks of the Go functions that it reaches; conditions: those that each theorem names. -/
import Derived.Test.YtelhdgnolijpcaaJSectorGets0
import Derived.Test.YtelhdgnolijpcaaProg
import Derived.Below
import Derived.Deep.Draws
import Derived.Deep.AppendLies
import Derived.Maps.AppendAt
import Derived.OwnWalk
import Derived.Laws.BytesArg
import Derived.Laws.MakeOwn
import Derived.Laws.OwnMore
import Derived.Deep.OwnRows
import Derived.Tactics
import Derived.Lib.ConvBytes
import Derived.Laws.Slices
import Derived.WalkKit
import Derived.KernelRfl
import Derived.RowKit3
import Derived.Deep.LoopGhost
import Derived.Deep.QuietTactic
import Derived.BigQuiet
import Derived.WideLaws
import Derived.Deep.DeepCutAuto
import Derived.Deep.CutBlock
import Derived.Deep.RegionHeld3
import Derived.Laws.Rows
import Derived.Lib.AppendStr
import Derived.ArgAppend
import Derived.Laws.IdiomCopy
import Derived.OrdersHeld
import Derived.Laws.BitsLemmas
import Derived.RowKit
import Derived.Test.YtelhdgnolijpcaaWWords
import Derived.Test.YtelhdgnolijpcaaWLast
import Derived.Test.YtelhdgnolijpcaaWTab
import Derived.Test.YtelhdgnolijpcaaWFour
import Derived.Test.YtelhdgnolijpcaaWQPut
import Derived.Test.YtelhdgnolijpcaaWApart
import Derived.Test.YtelhdgnolijpcaaWArr
import Derived.Test.YtelhdgnolijpcaaWZeros
import Derived.Test.YtelhdgnolijpcaaWFoot
import Derived.Test.YtelhdgnolijpcaaWKept
import Derived.Test.YtelhdgnolijpcaaWShare
import Derived.Test.YtelhdgnolijpcaaWN
import Derived.Test.YtelhdgnolijpcaaWFootNe
import Derived.Test.YtelhdgnolijpcaaWAt
import Derived.Test.YtelhdgnolijpcaaWEqStruct
import Derived.Test.YtelhdgnolijpcaaWRepsOne
import Derived.Test.YtelhdgnolijpcaaWInv
import Derived.Test.YtelhdgnolijpcaaWInvWords
import Derived.Test.YtelhdgnolijpcaaWGuard
import Derived.Test.YtelhdgnolijpcaaWNEv
import Derived.Test.YtelhdgnolijpcaaWMore
section
/- The Go function SectorUnlike of the package's law 4 returns true and leaves what was there: whatever frames come in. -/
namespace Go.Proofs.Ytelhdgnolijpcaa.Hm
open Go.RowKit Go.Proofs.YtelhdgnolijpcaaW.PrintWords Go.Proofs.YtelhdgnolijpcaaW.PrintLast Go.Proofs.YtelhdgnolijpcaaW.PrintMore
set_option linter.unusedVariables false
set_option linter.unusedSimpArgs false

def frA (k i c s a : Int) (A : Option Addr) (n c5 : Nat) : Value := .agg #[.int .i64 k, .int .i64 i, .int .i64 c, .int .u64 s, .int .u32 a, .slice A n c5]
def frM (k i c s a : Int) (l : List Int) : Value := .agg #[.int .i64 k, .int .i64 i, .int .i64 c, .int .u64 s, .int .u32 a, .string (strOfNums l)]
set_option maxHeartbeats 1000000 in
set_option maxRecDepth 100000 in
theorem frameOf_any (k i c s a : Int) (A : Option Addr) (c5 : Nat) (l : List Int) (w : World) (hr : Kd.C (Kd.int .u8) w A l.length l) (hc : l.length ≤ c5) :
    Calls Try.prog 25 #[.agg #[.int .i64 k, .int .i64 i, .int .i64 c, .int .u64 s, .int .u32 a, .slice A l.length c5]] w fun e w' => e = .returned (.agg #[.int .i64 k, .int .i64 i, .int .i64 c, .int .u64 s, .int .u32 a, .string (strOfNums l)]) ∧ Below w.heap.size w w' := by
  have HR := Aside0.mk hr
  clear hr
  have hcv : ∀ W : World, Below w.heap.size w W → (convert 23 9 (.slice A l.length c5)).run Try.prog W = .ok (.string (strOfNums l)) W := fun W hb => Kd.C_string Try.underlying23 Try.underlying5 Try.underlying9 (Kd.C_below HR.out hb)
  have HCV := Aside0.mk hcv
  clear hcv
  go_enter Try.func25, Try.ntmps25
  go_wp2
  rw [HCV.out _ (below_alloc (below_alloc (Below.refl _ _) _) _)]
  go_wp2
  exact bodyPost_ret (v := frM k i c s a l) (by simp [results, frM, Try.results25, go_sem]) rfl ⟨rfl, below_alloc (below_alloc (Below.refl _ _) _) _⟩
theorem eqF (d : Nat) (w : World) (x0 y0 : Int) (x1 y1 : Int) (x2 y2 : Int) (x3 y3 : Int) (x4 y4 : Int) (x5 y5 : ByteArray) :
    (Op.equalIn (d + 2) 49 (.agg #[.int .i64 x0, .int .i64 x1, .int .i64 x2, .int .u64 x3, .int .u32 x4, .string x5]) (.agg #[.int .i64 y0, .int .i64 y1, .int .i64 y2, .int .u64 y3, .int .u32 y4, .string y5])).run Try.prog w = .ok (x0 == y0 && (x1 == y1 && (x2 == y2 && (x3 == y3 && (x4 == y4 && (x5.toList == y5.toList)))))) w := by
  refine eqA_of Try.underlying49 (by kernel_rfl) ?_
  refine eqf_cons (by rfl) (by go_simp; rfl) (by go_simp; rfl) (by go_simp) ?_
  refine eqf_cons (by rfl) (by go_simp; rfl) (by go_simp; rfl) (by go_simp) ?_
  refine eqf_cons (by rfl) (by go_simp; rfl) (by go_simp; rfl) (by go_simp) ?_
  refine eqf_cons (by rfl) (by go_simp; rfl) (by go_simp; rfl) (by go_simp) ?_
  refine eqf_cons (by rfl) (by go_simp; rfl) (by go_simp; rfl) (by go_simp) ?_
  exact eqf_last (by rfl) (by go_simp; rfl) (by go_simp; rfl) (by go_simp)
attribute [local go_sem high] eqF
theorem eq_law (k i c : Int) (s a : Nat) (l : List Int) (k' i' c' : Int) (s' a' : Nat) (l' : List Int) (hf : frameOk k i c l.length = true) (hf' : frameOk k' i' c' l'.length = true) (hs : s < 18446744073709551616) (ha : a < 4294967296)
    (hs' : s' < 18446744073709551616) (ha' : a' < 4294967296) (hb : bytesB l = true) (hb' : bytesB l' = true) :
    (((strOfNums (putM k i c s a l)).toList == (strOfNums (putM k' i' c' s' a' l')).toList) == (k == k' && (i == i' && (c == c' && ((s : Int) == (s' : Int) && ((a : Int) == (a' : Int) && (strOfNums l).toList == (strOfNums l').toList)))))) = true := by
  rw [beq_iff_eq, Bool.eq_iff_iff]
  simp only [beq_iff_eq, Bool.and_eq_true, toList_strs _ _ (putM_bytes k i c s a l hf hb) (putM_bytes k' i' c' s' a' l' hf' hb'), toList_strs l l' hb hb']
  constructor
  · intro h
    obtain ⟨h1, h2, h3, h4, h5, h6⟩ := putM_inj k i c s a l k' i' c' s' a' l' hf hf' hs ha hs' ha' h
    exact ⟨h1, h2, h3, by omega, by omega, h6⟩
  · rintro ⟨h1, h2, h3, h4, h5, h6⟩
    have e1 : s = s' := by omega
    have e2 : a = a' := by omega
    rw [h1, h2, h3, e1, e2, h6]
set_option maxHeartbeats 4000000 in
set_option maxRecDepth 100000 in
/-- Both frames may be: walked. -/
theorem SectorUnlike_both (k i c : Int) (s a : Nat) (A : Option Addr) (c5 : Nat) (l : List Int) (k' i' c' : Int) (s' a' : Nat) (A' : Option Addr) (c5' : Nat) (l' : List Int) (w : World)
    (hr : Kd.C (Kd.int .u8) w A l.length l) (hc : l.length ≤ c5) (hs : s < 18446744073709551616) (ha : a < 4294967296) (hb : bytesB l = true) (hf : frameOk k i c l.length = true)
    (hr' : Kd.C (Kd.int .u8) w A' l'.length l') (hc' : l'.length ≤ c5') (hs' : s' < 18446744073709551616) (ha' : a' < 4294967296) (hb' : bytesB l' = true) (hf' : frameOk k' i' c' l'.length = true) :
    Calls Try.prog 12 #[.agg #[.int .i64 k, .int .i64 i, .int .i64 c, .int .u64 s, .int .u32 a, .slice A l.length c5], .agg #[.int .i64 k', .int .i64 i', .int .i64 c', .int .u64 s', .int .u32 a', .slice A' l'.length c5'], .bool false] w fun e w' => e = .returned (.bool true) ∧ Below w.heap.size w w' := by
  obtain ⟨-, -, -, -, -, -, q7⟩ := (frameOk_iff _ _ _ _).1 hf
  obtain ⟨-, -, -, -, -, -, q7'⟩ := (frameOk_iff _ _ _ _).1 hf'
  have HEQ := eq_law k i c s a l k' i' c' s' a' l' hf hf' hs ha hs' ha' hb hb'
  obtain ⟨y, hY⟩ : ∃ y, putM k i c s a l = y := ⟨_, rfl⟩
  obtain ⟨y', hY'⟩ : ∃ y, putM k' i' c' s' a' l' = y := ⟨_, rfl⟩
  rw [hY, hY'] at HEQ
  have HEQ := Aside0.mk HEQ
  have HP := Aside0.mk (put_f k i c s a l hs ha hb)
  rw [hf, if_pos rfl, hY] at HP
  have HP' := Aside0.mk (put_f k' i' c' s' a' l' hs' ha' hb')
  rw [hf', if_pos rfl, hY'] at HP'
  have HR := Aside0.mk hr
  have HR' := Aside0.mk hr'
  have hd1 : decide ((200 : Int) < (l.length : Int)) = false := decide_eq_false (by omega)
  have hd2 : decide ((200 : Int) < (l'.length : Int)) = false := decide_eq_false (by omega)
  clear hr hr' hb hb' hf hf' hY hY' q7 q7'
  go_enter Try.func12, Try.ntmps12
  go_wp2_with fail
  (with_reducible refine (awake04.calls true _ rfl).mono ?_)
  rintro e w2 ⟨rfl, hb2⟩
  have HX := Aside0.mk (blk_below (blk_alloc (blk_new w (.cells #[.int .i64 k, .int .i64 i, .int .i64 c, .int .u64 s, .int .u32 a, .slice A l.length c5] 42)) (.cells #[.int .i64 k', .int .i64 i', .int .i64 c', .int .u64 s', .int .u32 a', .slice A' l'.length c5'] 42)) hb2)
  have HX' := Aside0.mk (blk_below (blk_new (w.alloc (.cells #[.int .i64 k, .int .i64 i, .int .i64 c, .int .u64 s, .int .u32 a, .slice A l.length c5] 42)) (.cells #[.int .i64 k', .int .i64 i', .int .i64 c', .int .u64 s', .int .u32 a', .slice A' l'.length c5'] 42)) hb2)
  have HB2 := Aside0.mk (below_step (below_alloc (below_alloc (Below.refl _ _) _) _) hb2)
  rw [show (w.alloc (.cells #[.int .i64 k, .int .i64 i, .int .i64 c, .int .u64 s, .int .u32 a, .slice A l.length c5] 42)).heap.size = w.heap.size + 1 from by simp] at HX'
  clear hb2
  have hx0 := blk_cell HX.out 0; have hx1 := blk_cell HX.out 1; have hx2 := blk_cell HX.out 2; have hx3 := blk_cell HX.out 3; have hx4 := blk_cell HX.out 4; have hx5 := blk_cell HX.out 5
  have hz0 := blk_cell HX'.out 0; have hz1 := blk_cell HX'.out 1; have hz2 := blk_cell HX'.out 2; have hz3 := blk_cell HX'.out 3; have hz4 := blk_cell HX'.out 4; have hz5 := blk_cell HX'.out 5
  go_wp2_with fail
  (with_reducible refine (sector_Put.calls k i c s a A c5 l y 0 w2 (Kd.C_below HR.out HB2.out) hc HP.out).mono ?_)
  rintro e w3 ⟨v0, rfl, hro, hb3⟩
  obtain ⟨A19, c19, e19, hc19, hr19⟩ := Kd.R_reads hro
  subst e19
  have HC3 := Aside0.mk hr19
  have HX3 := Aside0.mk (blk_below HX.out hb3)
  have HZ3 := Aside0.mk (blk_below HX'.out hb3)
  have HB3 := Aside0.mk (below_step HB2.out hb3)
  clear hb3 hx0 hx1 hx2 hx3 hx4 hx5 hz0 hz1 hz2 hz3 hz4 hz5 hro hr19
  have hx0 := blk_cell HX3.out 0; have hx1 := blk_cell HX3.out 1; have hx2 := blk_cell HX3.out 2; have hx3 := blk_cell HX3.out 3; have hx4 := blk_cell HX3.out 4; have hx5 := blk_cell HX3.out 5
  have hz0 := blk_cell HZ3.out 0; have hz1 := blk_cell HZ3.out 1; have hz2 := blk_cell HZ3.out 2; have hz3 := blk_cell HZ3.out 3; have hz4 := blk_cell HZ3.out 4; have hz5 := blk_cell HZ3.out 5
  go_wp2_with fail
  (with_reducible refine (sector_Put.calls k' i' c' s' a' A' c5' l' y' 0 w3 (Kd.C_below HR'.out HB3.out) hc' HP'.out).mono ?_)
  rintro e w4 ⟨v0, rfl, hro, hb4⟩
  obtain ⟨A20, c20, e20, hc20, hr20⟩ := Kd.R_reads hro
  subst e20
  have HC4 := Aside0.mk (Kd.C_below HC3.out hb4)
  have HD4 := Aside0.mk hr20
  have HX4 := Aside0.mk (blk_below HX3.out hb4)
  have HZ4 := Aside0.mk (blk_below HZ3.out hb4)
  have HB4 := Aside0.mk (below_step HB3.out hb4)
  clear hb4 hx0 hx1 hx2 hx3 hx4 hx5 hz0 hz1 hz2 hz3 hz4 hz5 hro hr20 HX3 HZ3 HB3 HC3
  have hx0 := blk_cell HX4.out 0; have hx1 := blk_cell HX4.out 1; have hx2 := blk_cell HX4.out 2; have hx3 := blk_cell HX4.out 3; have hx4 := blk_cell HX4.out 4; have hx5 := blk_cell HX4.out 5
  have hz0 := blk_cell HZ4.out 0; have hz1 := blk_cell HZ4.out 1; have hz2 := blk_cell HZ4.out 2; have hz3 := blk_cell HZ4.out 3; have hz4 := blk_cell HZ4.out 4; have hz5 := blk_cell HZ4.out 5
  go_wp2_with fail
  have hmk : ∀ W : World, Below w4.heap.size w4 W → (Below w4.heap.size w4 W ∧ W.cell? ⟨w.heap.size, 0, none⟩ = some (.int .i64 k) ∧ W.cell? ⟨w.heap.size, 1, none⟩ = some (.int .i64 i) ∧ W.cell? ⟨w.heap.size, 2, none⟩ = some (.int .i64 c) ∧ W.cell? ⟨w.heap.size, 3, none⟩ = some (.int .u64 s) ∧ W.cell? ⟨w.heap.size, 4, none⟩ = some (.int .u32 a) ∧ W.cell? ⟨w.heap.size, 5, none⟩ = some (.slice A l.length c5) ∧ W.cell? ⟨w.heap.size + 1, 0, none⟩ = some (.int .i64 k') ∧ W.cell? ⟨w.heap.size + 1, 1, none⟩ = some (.int .i64 i') ∧ W.cell? ⟨w.heap.size + 1, 2, none⟩ = some (.int .i64 c') ∧ W.cell? ⟨w.heap.size + 1, 3, none⟩ = some (.int .u64 s') ∧ W.cell? ⟨w.heap.size + 1, 4, none⟩ = some (.int .u32 a') ∧ W.cell? ⟨w.heap.size + 1, 5, none⟩ = some (.slice A' l'.length c5') ∧ (convert 23 9 (.slice A19 y.length c19)).run Try.prog W = .ok (.string (strOfNums y)) W ∧ (convert 23 9 (.slice A20 y'.length c20)).run Try.prog W = .ok (.string (strOfNums y')) W) := fun W hb => ⟨hb, blk_cell (blk_below HX4.out hb) 0, blk_cell (blk_below HX4.out hb) 1, blk_cell (blk_below HX4.out hb) 2, blk_cell (blk_below HX4.out hb) 3, blk_cell (blk_below HX4.out hb) 4, blk_cell (blk_below HX4.out hb) 5, blk_cell (blk_below HZ4.out hb) 0, blk_cell (blk_below HZ4.out hb) 1, blk_cell (blk_below HZ4.out hb) 2, blk_cell (blk_below HZ4.out hb) 3, blk_cell (blk_below HZ4.out hb) 4, blk_cell (blk_below HZ4.out hb) 5, Kd.C_string Try.underlying23 Try.underlying5 Try.underlying9 (Kd.C_below HC4.out hb), Kd.C_string Try.underlying23 Try.underlying5 Try.underlying9 (Kd.C_below HD4.out hb)⟩
  have HMK := Aside0.mk hmk
  have HRK := Aside0.mk (Kd.C_below HR.out HB4.out)
  have HRK' := Aside0.mk (Kd.C_below HR'.out HB4.out)
  clear hmk hx0 hx1 hx2 hx3 hx4 hx5 hz0 hz1 hz2 hz3 hz4 hz5
  go_region_held3 (fun W => Below w4.heap.size w4 W ∧ W.cell? ⟨w.heap.size, 0, none⟩ = some (.int .i64 k) ∧ W.cell? ⟨w.heap.size, 1, none⟩ = some (.int .i64 i) ∧ W.cell? ⟨w.heap.size, 2, none⟩ = some (.int .i64 c) ∧ W.cell? ⟨w.heap.size, 3, none⟩ = some (.int .u64 s) ∧ W.cell? ⟨w.heap.size, 4, none⟩ = some (.int .u32 a) ∧ W.cell? ⟨w.heap.size, 5, none⟩ = some (.slice A l.length c5) ∧ W.cell? ⟨w.heap.size + 1, 0, none⟩ = some (.int .i64 k') ∧ W.cell? ⟨w.heap.size + 1, 1, none⟩ = some (.int .i64 i') ∧ W.cell? ⟨w.heap.size + 1, 2, none⟩ = some (.int .i64 c') ∧ W.cell? ⟨w.heap.size + 1, 3, none⟩ = some (.int .u64 s') ∧ W.cell? ⟨w.heap.size + 1, 4, none⟩ = some (.int .u32 a') ∧ W.cell? ⟨w.heap.size + 1, 5, none⟩ = some (.slice A' l'.length c5') ∧ (convert 23 9 (.slice A19 y.length c19)).run Try.prog W = .ok (.string (strOfNums y)) W ∧ (convert 23 9 (.slice A20 y'.length c20)).run Try.prog W = .ok (.string (strOfNums y')) W) (first | exact HMK.out _ (below_drew1 (Below.refl _ _)) | exact HMK.out _ (below_step (And.left ‹_ ∧ _›) ‹Below (World.heap _).size _ _›))
    (first | (go_at_call 25; (with_reducible refine (frameOf_any _ _ _ _ _ _ _ _ _ (by first | exact Kd.C_below HRK.out (And.left ‹_ ∧ _›) | exact Kd.C_below HRK'.out (And.left ‹_ ∧ _›)) (by assumption)).mono ?_); rintro e w5 ⟨rfl, hb5⟩))
  have HB5 := Aside0.mk (below_step HB4.out (And.left ‹_ ∧ _›))
  try rw [HEQ.out]
  go_wp2
  go_ret
  exact ⟨rfl, HB5.out⟩
set_option maxHeartbeats 4000000 in
set_option maxRecDepth 100000 in
/-- The first frame may be, and is the second one, too: walked. -/
theorem SectorUnlike_same (k i c : Int) (s a : Nat) (A : Option Addr) (c5 : Nat) (l : List Int) (k' i' c' : Int) (s' a' : Nat) (A' : Option Addr) (c5' : Nat) (l' : List Int) (w : World)
    (hr : Kd.C (Kd.int .u8) w A l.length l) (hc : l.length ≤ c5) (hs : s < 18446744073709551616) (ha : a < 4294967296) (hb : bytesB l = true) (hf : frameOk k i c l.length = true) (q7' : l'.length ≤ 200) :
    Calls Try.prog 12 #[.agg #[.int .i64 k, .int .i64 i, .int .i64 c, .int .u64 s, .int .u32 a, .slice A l.length c5], .agg #[.int .i64 k', .int .i64 i', .int .i64 c', .int .u64 s', .int .u32 a', .slice A' l'.length c5'], .bool true] w fun e w' => e = .returned (.bool true) ∧ Below w.heap.size w w' := by
  obtain ⟨-, -, -, -, -, -, q7⟩ := (frameOk_iff _ _ _ _).1 hf
  have HEQ := eq_law k i c s a l k i c s a l hf hf hs ha hs ha hb hb
  obtain ⟨y, hY⟩ : ∃ y, putM k i c s a l = y := ⟨_, rfl⟩
  rw [hY] at HEQ
  have HEQ := Aside0.mk HEQ
  have HP := Aside0.mk (put_f k i c s a l hs ha hb)
  rw [hf, if_pos rfl, hY] at HP
  have HR := Aside0.mk hr
  have hd1 : decide ((200 : Int) < (l.length : Int)) = false := decide_eq_false (by omega)
  have hd2 : decide ((200 : Int) < (l'.length : Int)) = false := decide_eq_false (by omega)
  clear hr hb hf hY q7
  go_enter Try.func12, Try.ntmps12
  go_wp2_with fail
  (with_reducible refine (awake04.calls true _ rfl).mono ?_)
  rintro e w2 ⟨rfl, hb2⟩
  have HX := Aside0.mk (blk_below (blk_alloc (blk_new w (.cells #[.int .i64 k, .int .i64 i, .int .i64 c, .int .u64 s, .int .u32 a, .slice A l.length c5] 42)) (.cells #[.int .i64 k', .int .i64 i', .int .i64 c', .int .u64 s', .int .u32 a', .slice A' l'.length c5'] 42)) hb2)
  have HX' := Aside0.mk (blk_below (blk_new (w.alloc (.cells #[.int .i64 k, .int .i64 i, .int .i64 c, .int .u64 s, .int .u32 a, .slice A l.length c5] 42)) (.cells #[.int .i64 k', .int .i64 i', .int .i64 c', .int .u64 s', .int .u32 a', .slice A' l'.length c5'] 42)) hb2)
  have HB2 := Aside0.mk (below_step (below_alloc (below_alloc (Below.refl _ _) _) _) hb2)
  rw [show (w.alloc (.cells #[.int .i64 k, .int .i64 i, .int .i64 c, .int .u64 s, .int .u32 a, .slice A l.length c5] 42)).heap.size = w.heap.size + 1 from by simp] at HX'
  clear hb2
  have hx0 := blk_cell HX.out 0; have hx1 := blk_cell HX.out 1; have hx2 := blk_cell HX.out 2; have hx3 := blk_cell HX.out 3; have hx4 := blk_cell HX.out 4; have hx5 := blk_cell HX.out 5
  have hz0 := blk_cell HX'.out 0; have hz1 := blk_cell HX'.out 1; have hz2 := blk_cell HX'.out 2; have hz3 := blk_cell HX'.out 3; have hz4 := blk_cell HX'.out 4; have hz5 := blk_cell HX'.out 5
  have hf0 := blk_frozen HX'.out 0; have hf1 := blk_frozen HX'.out 1; have hf2 := blk_frozen HX'.out 2; have hf3 := blk_frozen HX'.out 3; have hf4 := blk_frozen HX'.out 4; have hf5 := blk_frozen HX'.out 5
  go_wp2_with fail
  obtain ⟨w2', hw2'⟩ : ∃ x, (World.setCell (World.setCell (World.setCell (World.setCell (World.setCell (World.setCell w2 ⟨w.heap.size + 1, 0, none⟩ (.int .i64 k)) ⟨w.heap.size + 1, 1, none⟩ (.int .i64 i)) ⟨w.heap.size + 1, 2, none⟩ (.int .i64 c)) ⟨w.heap.size + 1, 3, none⟩ (.int .u64 s)) ⟨w.heap.size + 1, 4, none⟩ (.int .u32 a)) ⟨w.heap.size + 1, 5, none⟩ (.slice A l.length c5)) = x := ⟨_, rfl⟩
  have HZ2 : Aside0 (w2'.heap[w.heap.size + 1]? = some (.cells #[.int .i64 k, .int .i64 i, .int .i64 c, .int .u64 s, .int .u32 a, .slice A l.length c5] 42 (0, 0))) := ⟨by rw [← hw2']; exact (blk_set (blk_set (blk_set (blk_set (blk_set (blk_set HX'.out 0 (.int .i64 k)) 1 (.int .i64 i)) 2 (.int .i64 c)) 3 (.int .u64 s)) 4 (.int .u32 a)) 5 (.slice A l.length c5))⟩
  have HX2 : Aside0 (w2'.heap[w.heap.size]? = some (.cells #[.int .i64 k, .int .i64 i, .int .i64 c, .int .u64 s, .int .u32 a, .slice A l.length c5] 42 (0, 0))) := ⟨by rw [← hw2']; exact (blk_far (blk_far (blk_far (blk_far (blk_far (blk_far HX.out (p := ⟨w.heap.size + 1, 0, none⟩) (by simp) (.int .i64 k)) (p := ⟨w.heap.size + 1, 1, none⟩) (by simp) (.int .i64 i)) (p := ⟨w.heap.size + 1, 2, none⟩) (by simp) (.int .i64 c)) (p := ⟨w.heap.size + 1, 3, none⟩) (by simp) (.int .u64 s)) (p := ⟨w.heap.size + 1, 4, none⟩) (by simp) (.int .u32 a)) (p := ⟨w.heap.size + 1, 5, none⟩) (by simp) (.slice A l.length c5))⟩
  have HBN : Aside0 (Below w.heap.size w w2') := ⟨by rw [← hw2']; exact (below_set (below_set (below_set (below_set (below_set (below_set HB2.out (g := w.heap.size + 1) (j := 0) (v := (.int .i64 k)) (by omega)) (g := w.heap.size + 1) (j := 1) (v := (.int .i64 i)) (by omega)) (g := w.heap.size + 1) (j := 2) (v := (.int .i64 c)) (by omega)) (g := w.heap.size + 1) (j := 3) (v := (.int .u64 s)) (by omega)) (g := w.heap.size + 1) (j := 4) (v := (.int .u32 a)) (by omega)) (g := w.heap.size + 1) (j := 5) (v := (.slice A l.length c5)) (by omega))⟩
  rw [hw2']
  clear hw2' hf0 hf1 hf2 hf3 hf4 hf5
  (with_reducible refine (sector_Put.calls k i c s a A c5 l y 0 w2' (Kd.C_below HR.out HBN.out) hc HP.out).mono ?_)
  rintro e w3 ⟨v0, rfl, hro, hb3⟩
  obtain ⟨A19, c19, e19, hc19, hr19⟩ := Kd.R_reads hro
  subst e19
  have HC3 := Aside0.mk hr19
  have HX3 := Aside0.mk (blk_below HX2.out hb3)
  have HZ3 := Aside0.mk (blk_below HZ2.out hb3)
  have HB3 := Aside0.mk (below_step HBN.out hb3)
  clear hb3 hx0 hx1 hx2 hx3 hx4 hx5 hz0 hz1 hz2 hz3 hz4 hz5 hro hr19
  have hx0 := blk_cell HX3.out 0; have hx1 := blk_cell HX3.out 1; have hx2 := blk_cell HX3.out 2; have hx3 := blk_cell HX3.out 3; have hx4 := blk_cell HX3.out 4; have hx5 := blk_cell HX3.out 5
  have hz0 := blk_cell HZ3.out 0; have hz1 := blk_cell HZ3.out 1; have hz2 := blk_cell HZ3.out 2; have hz3 := blk_cell HZ3.out 3; have hz4 := blk_cell HZ3.out 4; have hz5 := blk_cell HZ3.out 5
  go_wp2_with fail
  (with_reducible refine (sector_Put.calls k i c s a A c5 l y 0 w3 (Kd.C_below HR.out HB3.out) hc HP.out).mono ?_)
  rintro e w4 ⟨v0, rfl, hro, hb4⟩
  obtain ⟨A20, c20, e20, hc20, hr20⟩ := Kd.R_reads hro
  subst e20
  have HC4 := Aside0.mk (Kd.C_below HC3.out hb4)
  have HD4 := Aside0.mk hr20
  have HX4 := Aside0.mk (blk_below HX3.out hb4)
  have HZ4 := Aside0.mk (blk_below HZ3.out hb4)
  have HB4 := Aside0.mk (below_step HB3.out hb4)
  clear hb4 hx0 hx1 hx2 hx3 hx4 hx5 hz0 hz1 hz2 hz3 hz4 hz5 hro hr20 HX3 HZ3 HB3 HC3
  have hx0 := blk_cell HX4.out 0; have hx1 := blk_cell HX4.out 1; have hx2 := blk_cell HX4.out 2; have hx3 := blk_cell HX4.out 3; have hx4 := blk_cell HX4.out 4; have hx5 := blk_cell HX4.out 5
  have hz0 := blk_cell HZ4.out 0; have hz1 := blk_cell HZ4.out 1; have hz2 := blk_cell HZ4.out 2; have hz3 := blk_cell HZ4.out 3; have hz4 := blk_cell HZ4.out 4; have hz5 := blk_cell HZ4.out 5
  go_wp2_with fail
  have hmk : ∀ W : World, Below w4.heap.size w4 W → (Below w4.heap.size w4 W ∧ W.cell? ⟨w.heap.size, 0, none⟩ = some (.int .i64 k) ∧ W.cell? ⟨w.heap.size, 1, none⟩ = some (.int .i64 i) ∧ W.cell? ⟨w.heap.size, 2, none⟩ = some (.int .i64 c) ∧ W.cell? ⟨w.heap.size, 3, none⟩ = some (.int .u64 s) ∧ W.cell? ⟨w.heap.size, 4, none⟩ = some (.int .u32 a) ∧ W.cell? ⟨w.heap.size, 5, none⟩ = some (.slice A l.length c5) ∧ W.cell? ⟨w.heap.size + 1, 0, none⟩ = some (.int .i64 k) ∧ W.cell? ⟨w.heap.size + 1, 1, none⟩ = some (.int .i64 i) ∧ W.cell? ⟨w.heap.size + 1, 2, none⟩ = some (.int .i64 c) ∧ W.cell? ⟨w.heap.size + 1, 3, none⟩ = some (.int .u64 s) ∧ W.cell? ⟨w.heap.size + 1, 4, none⟩ = some (.int .u32 a) ∧ W.cell? ⟨w.heap.size + 1, 5, none⟩ = some (.slice A l.length c5) ∧ (convert 23 9 (.slice A19 y.length c19)).run Try.prog W = .ok (.string (strOfNums y)) W ∧ (convert 23 9 (.slice A20 y.length c20)).run Try.prog W = .ok (.string (strOfNums y)) W) := fun W hb => ⟨hb, blk_cell (blk_below HX4.out hb) 0, blk_cell (blk_below HX4.out hb) 1, blk_cell (blk_below HX4.out hb) 2, blk_cell (blk_below HX4.out hb) 3, blk_cell (blk_below HX4.out hb) 4, blk_cell (blk_below HX4.out hb) 5, blk_cell (blk_below HZ4.out hb) 0, blk_cell (blk_below HZ4.out hb) 1, blk_cell (blk_below HZ4.out hb) 2, blk_cell (blk_below HZ4.out hb) 3, blk_cell (blk_below HZ4.out hb) 4, blk_cell (blk_below HZ4.out hb) 5, Kd.C_string Try.underlying23 Try.underlying5 Try.underlying9 (Kd.C_below HC4.out hb), Kd.C_string Try.underlying23 Try.underlying5 Try.underlying9 (Kd.C_below HD4.out hb)⟩
  have HMK := Aside0.mk hmk
  have HRK := Aside0.mk (Kd.C_below HR.out HB4.out)
  clear hmk hx0 hx1 hx2 hx3 hx4 hx5 hz0 hz1 hz2 hz3 hz4 hz5
  go_region_held3 (fun W => Below w4.heap.size w4 W ∧ W.cell? ⟨w.heap.size, 0, none⟩ = some (.int .i64 k) ∧ W.cell? ⟨w.heap.size, 1, none⟩ = some (.int .i64 i) ∧ W.cell? ⟨w.heap.size, 2, none⟩ = some (.int .i64 c) ∧ W.cell? ⟨w.heap.size, 3, none⟩ = some (.int .u64 s) ∧ W.cell? ⟨w.heap.size, 4, none⟩ = some (.int .u32 a) ∧ W.cell? ⟨w.heap.size, 5, none⟩ = some (.slice A l.length c5) ∧ W.cell? ⟨w.heap.size + 1, 0, none⟩ = some (.int .i64 k) ∧ W.cell? ⟨w.heap.size + 1, 1, none⟩ = some (.int .i64 i) ∧ W.cell? ⟨w.heap.size + 1, 2, none⟩ = some (.int .i64 c) ∧ W.cell? ⟨w.heap.size + 1, 3, none⟩ = some (.int .u64 s) ∧ W.cell? ⟨w.heap.size + 1, 4, none⟩ = some (.int .u32 a) ∧ W.cell? ⟨w.heap.size + 1, 5, none⟩ = some (.slice A l.length c5) ∧ (convert 23 9 (.slice A19 y.length c19)).run Try.prog W = .ok (.string (strOfNums y)) W ∧ (convert 23 9 (.slice A20 y.length c20)).run Try.prog W = .ok (.string (strOfNums y)) W) (first | exact HMK.out _ (below_drew1 (Below.refl _ _)) | exact HMK.out _ (below_step (And.left ‹_ ∧ _›) ‹Below (World.heap _).size _ _›))
    (first | (go_at_call 25; (with_reducible refine (frameOf_any _ _ _ _ _ _ _ _ _ (by first | exact Kd.C_below HRK.out (And.left ‹_ ∧ _›)) (by assumption)).mono ?_); rintro e w5 ⟨rfl, hb5⟩))
  have HB5 := Aside0.mk (below_step HB4.out (And.left ‹_ ∧ _›))
  try rw [HEQ.out]
  go_wp2
  go_ret
  exact ⟨rfl, HB5.out⟩
set_option maxHeartbeats 4000000 in
set_option maxRecDepth 100000 in
/-- The first frame may not be: walked. -/
theorem SectorUnlike_e10 (k i c : Int) (s a : Nat) (A : Option Addr) (c5 : Nat) (l : List Int) (k' i' c' : Int) (s' a' : Nat) (A' : Option Addr) (c5' : Nat) (l' : List Int) (w : World)
    (hr : Kd.C (Kd.int .u8) w A l.length l) (hc : l.length ≤ c5) (hs : s < 18446744073709551616) (ha : a < 4294967296) (hb : bytesB l = true) (hf : frameOk k i c l.length = false) (q7 : l.length ≤ 200) (q7' : l'.length ≤ 200) (hr' : Kd.C (Kd.int .u8) w A' l'.length l') (hc' : l'.length ≤ c5') (hs' : s' < 18446744073709551616) (ha' : a' < 4294967296) (hb' : bytesB l' = true) (hf' : frameOk k' i' c' l'.length = true) :
    Calls Try.prog 12 #[.agg #[.int .i64 k, .int .i64 i, .int .i64 c, .int .u64 s, .int .u32 a, .slice A l.length c5], .agg #[.int .i64 k', .int .i64 i', .int .i64 c', .int .u64 s', .int .u32 a', .slice A' l'.length c5'], .bool false] w fun e w' => e = .returned (.bool true) ∧ Below w.heap.size w w' := by
  obtain ⟨y, hY⟩ : ∃ y, putM k i c s a l = y := ⟨_, rfl⟩
  have HP := Aside0.mk (put_f k i c s a l hs ha hb)
  rw [hf, if_neg (by decide)] at HP
  obtain ⟨y', hY'⟩ : ∃ y, putM k' i' c' s' a' l' = y := ⟨_, rfl⟩
  have HP' := Aside0.mk (put_f k' i' c' s' a' l' hs' ha' hb')
  rw [hf', if_pos rfl, hY'] at HP'
  have HR' := Aside0.mk hr'
  have HR := Aside0.mk hr
  have hd1 : decide ((200 : Int) < (l.length : Int)) = false := decide_eq_false (by omega)
  have hd2 : decide ((200 : Int) < (l'.length : Int)) = false := decide_eq_false (by omega)
  clear hr hb hf hY hr' hb' hf' hY'
  go_enter Try.func12, Try.ntmps12
  go_wp2_with fail
  (with_reducible refine (awake04.calls true _ rfl).mono ?_)
  rintro e w2 ⟨rfl, hb2⟩
  have HX := Aside0.mk (blk_below (blk_alloc (blk_new w (.cells #[.int .i64 k, .int .i64 i, .int .i64 c, .int .u64 s, .int .u32 a, .slice A l.length c5] 42)) (.cells #[.int .i64 k', .int .i64 i', .int .i64 c', .int .u64 s', .int .u32 a', .slice A' l'.length c5'] 42)) hb2)
  have HX' := Aside0.mk (blk_below (blk_new (w.alloc (.cells #[.int .i64 k, .int .i64 i, .int .i64 c, .int .u64 s, .int .u32 a, .slice A l.length c5] 42)) (.cells #[.int .i64 k', .int .i64 i', .int .i64 c', .int .u64 s', .int .u32 a', .slice A' l'.length c5'] 42)) hb2)
  have HB2 := Aside0.mk (below_step (below_alloc (below_alloc (Below.refl _ _) _) _) hb2)
  rw [show (w.alloc (.cells #[.int .i64 k, .int .i64 i, .int .i64 c, .int .u64 s, .int .u32 a, .slice A l.length c5] 42)).heap.size = w.heap.size + 1 from by simp] at HX'
  clear hb2
  have hx0 := blk_cell HX.out 0; have hx1 := blk_cell HX.out 1; have hx2 := blk_cell HX.out 2; have hx3 := blk_cell HX.out 3; have hx4 := blk_cell HX.out 4; have hx5 := blk_cell HX.out 5
  have hz0 := blk_cell HX'.out 0; have hz1 := blk_cell HX'.out 1; have hz2 := blk_cell HX'.out 2; have hz3 := blk_cell HX'.out 3; have hz4 := blk_cell HX'.out 4; have hz5 := blk_cell HX'.out 5
  go_wp2_with fail
  (with_reducible refine (sector_Put.calls k i c s a A c5 l [] 1 w2 (Kd.C_below HR.out HB2.out) hc HP.out).mono ?_)
  rintro e w3 ⟨v0, rfl, hro, hb3⟩
  obtain ⟨A19, c19, e19, hc19, hr19⟩ := Kd.R_reads hro
  subst e19
  have HC3 := Aside0.mk hr19
  have HX3 := Aside0.mk (blk_below HX.out hb3)
  have HZ3 := Aside0.mk (blk_below HX'.out hb3)
  have HB3 := Aside0.mk (below_step HB2.out hb3)
  clear hb3 hx0 hx1 hx2 hx3 hx4 hx5 hz0 hz1 hz2 hz3 hz4 hz5 hro hr19
  have hx0 := blk_cell HX3.out 0; have hx1 := blk_cell HX3.out 1; have hx2 := blk_cell HX3.out 2; have hx3 := blk_cell HX3.out 3; have hx4 := blk_cell HX3.out 4; have hx5 := blk_cell HX3.out 5
  have hz0 := blk_cell HZ3.out 0; have hz1 := blk_cell HZ3.out 1; have hz2 := blk_cell HZ3.out 2; have hz3 := blk_cell HZ3.out 3; have hz4 := blk_cell HZ3.out 4; have hz5 := blk_cell HZ3.out 5
  go_wp2_with fail
  (with_reducible refine (sector_Put.calls k' i' c' s' a' A' c5' l' y' 0 w3 (Kd.C_below HR'.out HB3.out) hc' HP'.out).mono ?_)
  rintro e w4 ⟨v0, rfl, hro, hb4⟩
  obtain ⟨A20, c20, e20, hc20, hr20⟩ := Kd.R_reads hro
  subst e20
  have HC4 := Aside0.mk (Kd.C_below HC3.out hb4)
  have HD4 := Aside0.mk hr20
  have HX4 := Aside0.mk (blk_below HX3.out hb4)
  have HZ4 := Aside0.mk (blk_below HZ3.out hb4)
  have HB4 := Aside0.mk (below_step HB3.out hb4)
  clear hb4 hx0 hx1 hx2 hx3 hx4 hx5 hz0 hz1 hz2 hz3 hz4 hz5 hro hr20 HX3 HZ3 HB3 HC3
  have hx0 := blk_cell HX4.out 0; have hx1 := blk_cell HX4.out 1; have hx2 := blk_cell HX4.out 2; have hx3 := blk_cell HX4.out 3; have hx4 := blk_cell HX4.out 4; have hx5 := blk_cell HX4.out 5
  have hz0 := blk_cell HZ4.out 0; have hz1 := blk_cell HZ4.out 1; have hz2 := blk_cell HZ4.out 2; have hz3 := blk_cell HZ4.out 3; have hz4 := blk_cell HZ4.out 4; have hz5 := blk_cell HZ4.out 5
  go_wp2
  go_ret
  exact ⟨rfl, HB4.out⟩
set_option maxHeartbeats 4000000 in
set_option maxRecDepth 100000 in
/-- The second frame may not be: walked. -/
theorem SectorUnlike_e01 (k i c : Int) (s a : Nat) (A : Option Addr) (c5 : Nat) (l : List Int) (k' i' c' : Int) (s' a' : Nat) (A' : Option Addr) (c5' : Nat) (l' : List Int) (w : World)
    (hr : Kd.C (Kd.int .u8) w A l.length l) (hc : l.length ≤ c5) (hs : s < 18446744073709551616) (ha : a < 4294967296) (hb : bytesB l = true) (hf : frameOk k i c l.length = true) (q7 : l.length ≤ 200) (q7' : l'.length ≤ 200) (hr' : Kd.C (Kd.int .u8) w A' l'.length l') (hc' : l'.length ≤ c5') (hs' : s' < 18446744073709551616) (ha' : a' < 4294967296) (hb' : bytesB l' = true) (hf' : frameOk k' i' c' l'.length = false) :
    Calls Try.prog 12 #[.agg #[.int .i64 k, .int .i64 i, .int .i64 c, .int .u64 s, .int .u32 a, .slice A l.length c5], .agg #[.int .i64 k', .int .i64 i', .int .i64 c', .int .u64 s', .int .u32 a', .slice A' l'.length c5'], .bool false] w fun e w' => e = .returned (.bool true) ∧ Below w.heap.size w w' := by
  obtain ⟨y, hY⟩ : ∃ y, putM k i c s a l = y := ⟨_, rfl⟩
  have HP := Aside0.mk (put_f k i c s a l hs ha hb)
  rw [hf, if_pos rfl, hY] at HP
  obtain ⟨y', hY'⟩ : ∃ y, putM k' i' c' s' a' l' = y := ⟨_, rfl⟩
  have HP' := Aside0.mk (put_f k' i' c' s' a' l' hs' ha' hb')
  rw [hf', if_neg (by decide)] at HP'
  have HR' := Aside0.mk hr'
  have HR := Aside0.mk hr
  have hd1 : decide ((200 : Int) < (l.length : Int)) = false := decide_eq_false (by omega)
  have hd2 : decide ((200 : Int) < (l'.length : Int)) = false := decide_eq_false (by omega)
  clear hr hb hf hY hr' hb' hf' hY'
  go_enter Try.func12, Try.ntmps12
  go_wp2_with fail
  (with_reducible refine (awake04.calls true _ rfl).mono ?_)
  rintro e w2 ⟨rfl, hb2⟩
  have HX := Aside0.mk (blk_below (blk_alloc (blk_new w (.cells #[.int .i64 k, .int .i64 i, .int .i64 c, .int .u64 s, .int .u32 a, .slice A l.length c5] 42)) (.cells #[.int .i64 k', .int .i64 i', .int .i64 c', .int .u64 s', .int .u32 a', .slice A' l'.length c5'] 42)) hb2)
  have HX' := Aside0.mk (blk_below (blk_new (w.alloc (.cells #[.int .i64 k, .int .i64 i, .int .i64 c, .int .u64 s, .int .u32 a, .slice A l.length c5] 42)) (.cells #[.int .i64 k', .int .i64 i', .int .i64 c', .int .u64 s', .int .u32 a', .slice A' l'.length c5'] 42)) hb2)
  have HB2 := Aside0.mk (below_step (below_alloc (below_alloc (Below.refl _ _) _) _) hb2)
  rw [show (w.alloc (.cells #[.int .i64 k, .int .i64 i, .int .i64 c, .int .u64 s, .int .u32 a, .slice A l.length c5] 42)).heap.size = w.heap.size + 1 from by simp] at HX'
  clear hb2
  have hx0 := blk_cell HX.out 0; have hx1 := blk_cell HX.out 1; have hx2 := blk_cell HX.out 2; have hx3 := blk_cell HX.out 3; have hx4 := blk_cell HX.out 4; have hx5 := blk_cell HX.out 5
  have hz0 := blk_cell HX'.out 0; have hz1 := blk_cell HX'.out 1; have hz2 := blk_cell HX'.out 2; have hz3 := blk_cell HX'.out 3; have hz4 := blk_cell HX'.out 4; have hz5 := blk_cell HX'.out 5
  go_wp2_with fail
  (with_reducible refine (sector_Put.calls k i c s a A c5 l y 0 w2 (Kd.C_below HR.out HB2.out) hc HP.out).mono ?_)
  rintro e w3 ⟨v0, rfl, hro, hb3⟩
  obtain ⟨A19, c19, e19, hc19, hr19⟩ := Kd.R_reads hro
  subst e19
  have HC3 := Aside0.mk hr19
  have HX3 := Aside0.mk (blk_below HX.out hb3)
  have HZ3 := Aside0.mk (blk_below HX'.out hb3)
  have HB3 := Aside0.mk (below_step HB2.out hb3)
  clear hb3 hx0 hx1 hx2 hx3 hx4 hx5 hz0 hz1 hz2 hz3 hz4 hz5 hro hr19
  have hx0 := blk_cell HX3.out 0; have hx1 := blk_cell HX3.out 1; have hx2 := blk_cell HX3.out 2; have hx3 := blk_cell HX3.out 3; have hx4 := blk_cell HX3.out 4; have hx5 := blk_cell HX3.out 5
  have hz0 := blk_cell HZ3.out 0; have hz1 := blk_cell HZ3.out 1; have hz2 := blk_cell HZ3.out 2; have hz3 := blk_cell HZ3.out 3; have hz4 := blk_cell HZ3.out 4; have hz5 := blk_cell HZ3.out 5
  go_wp2_with fail
  (with_reducible refine (sector_Put.calls k' i' c' s' a' A' c5' l' [] 1 w3 (Kd.C_below HR'.out HB3.out) hc' HP'.out).mono ?_)
  rintro e w4 ⟨v0, rfl, hro, hb4⟩
  obtain ⟨A20, c20, e20, hc20, hr20⟩ := Kd.R_reads hro
  subst e20
  have HC4 := Aside0.mk (Kd.C_below HC3.out hb4)
  have HD4 := Aside0.mk hr20
  have HX4 := Aside0.mk (blk_below HX3.out hb4)
  have HZ4 := Aside0.mk (blk_below HZ3.out hb4)
  have HB4 := Aside0.mk (below_step HB3.out hb4)
  clear hb4 hx0 hx1 hx2 hx3 hx4 hx5 hz0 hz1 hz2 hz3 hz4 hz5 hro hr20 HX3 HZ3 HB3 HC3
  have hx0 := blk_cell HX4.out 0; have hx1 := blk_cell HX4.out 1; have hx2 := blk_cell HX4.out 2; have hx3 := blk_cell HX4.out 3; have hx4 := blk_cell HX4.out 4; have hx5 := blk_cell HX4.out 5
  have hz0 := blk_cell HZ4.out 0; have hz1 := blk_cell HZ4.out 1; have hz2 := blk_cell HZ4.out 2; have hz3 := blk_cell HZ4.out 3; have hz4 := blk_cell HZ4.out 4; have hz5 := blk_cell HZ4.out 5
  go_wp2
  go_ret
  exact ⟨rfl, HB4.out⟩
set_option maxHeartbeats 4000000 in
set_option maxRecDepth 100000 in
/-- Neither frame may be: walked. -/
theorem SectorUnlike_e11 (k i c : Int) (s a : Nat) (A : Option Addr) (c5 : Nat) (l : List Int) (k' i' c' : Int) (s' a' : Nat) (A' : Option Addr) (c5' : Nat) (l' : List Int) (w : World)
    (hr : Kd.C (Kd.int .u8) w A l.length l) (hc : l.length ≤ c5) (hs : s < 18446744073709551616) (ha : a < 4294967296) (hb : bytesB l = true) (hf : frameOk k i c l.length = false) (q7 : l.length ≤ 200) (q7' : l'.length ≤ 200) (hr' : Kd.C (Kd.int .u8) w A' l'.length l') (hc' : l'.length ≤ c5') (hs' : s' < 18446744073709551616) (ha' : a' < 4294967296) (hb' : bytesB l' = true) (hf' : frameOk k' i' c' l'.length = false) :
    Calls Try.prog 12 #[.agg #[.int .i64 k, .int .i64 i, .int .i64 c, .int .u64 s, .int .u32 a, .slice A l.length c5], .agg #[.int .i64 k', .int .i64 i', .int .i64 c', .int .u64 s', .int .u32 a', .slice A' l'.length c5'], .bool false] w fun e w' => e = .returned (.bool true) ∧ Below w.heap.size w w' := by
  obtain ⟨y, hY⟩ : ∃ y, putM k i c s a l = y := ⟨_, rfl⟩
  have HP := Aside0.mk (put_f k i c s a l hs ha hb)
  rw [hf, if_neg (by decide)] at HP
  obtain ⟨y', hY'⟩ : ∃ y, putM k' i' c' s' a' l' = y := ⟨_, rfl⟩
  have HP' := Aside0.mk (put_f k' i' c' s' a' l' hs' ha' hb')
  rw [hf', if_neg (by decide)] at HP'
  have HR' := Aside0.mk hr'
  have HR := Aside0.mk hr
  have hd1 : decide ((200 : Int) < (l.length : Int)) = false := decide_eq_false (by omega)
  have hd2 : decide ((200 : Int) < (l'.length : Int)) = false := decide_eq_false (by omega)
  clear hr hb hf hY hr' hb' hf' hY'
  go_enter Try.func12, Try.ntmps12
  go_wp2_with fail
  (with_reducible refine (awake04.calls true _ rfl).mono ?_)
  rintro e w2 ⟨rfl, hb2⟩
  have HX := Aside0.mk (blk_below (blk_alloc (blk_new w (.cells #[.int .i64 k, .int .i64 i, .int .i64 c, .int .u64 s, .int .u32 a, .slice A l.length c5] 42)) (.cells #[.int .i64 k', .int .i64 i', .int .i64 c', .int .u64 s', .int .u32 a', .slice A' l'.length c5'] 42)) hb2)
  have HX' := Aside0.mk (blk_below (blk_new (w.alloc (.cells #[.int .i64 k, .int .i64 i, .int .i64 c, .int .u64 s, .int .u32 a, .slice A l.length c5] 42)) (.cells #[.int .i64 k', .int .i64 i', .int .i64 c', .int .u64 s', .int .u32 a', .slice A' l'.length c5'] 42)) hb2)
  have HB2 := Aside0.mk (below_step (below_alloc (below_alloc (Below.refl _ _) _) _) hb2)
  rw [show (w.alloc (.cells #[.int .i64 k, .int .i64 i, .int .i64 c, .int .u64 s, .int .u32 a, .slice A l.length c5] 42)).heap.size = w.heap.size + 1 from by simp] at HX'
  clear hb2
  have hx0 := blk_cell HX.out 0; have hx1 := blk_cell HX.out 1; have hx2 := blk_cell HX.out 2; have hx3 := blk_cell HX.out 3; have hx4 := blk_cell HX.out 4; have hx5 := blk_cell HX.out 5
  have hz0 := blk_cell HX'.out 0; have hz1 := blk_cell HX'.out 1; have hz2 := blk_cell HX'.out 2; have hz3 := blk_cell HX'.out 3; have hz4 := blk_cell HX'.out 4; have hz5 := blk_cell HX'.out 5
  go_wp2_with fail
  (with_reducible refine (sector_Put.calls k i c s a A c5 l [] 1 w2 (Kd.C_below HR.out HB2.out) hc HP.out).mono ?_)
  rintro e w3 ⟨v0, rfl, hro, hb3⟩
  obtain ⟨A19, c19, e19, hc19, hr19⟩ := Kd.R_reads hro
  subst e19
  have HC3 := Aside0.mk hr19
  have HX3 := Aside0.mk (blk_below HX.out hb3)
  have HZ3 := Aside0.mk (blk_below HX'.out hb3)
  have HB3 := Aside0.mk (below_step HB2.out hb3)
  clear hb3 hx0 hx1 hx2 hx3 hx4 hx5 hz0 hz1 hz2 hz3 hz4 hz5 hro hr19
  have hx0 := blk_cell HX3.out 0; have hx1 := blk_cell HX3.out 1; have hx2 := blk_cell HX3.out 2; have hx3 := blk_cell HX3.out 3; have hx4 := blk_cell HX3.out 4; have hx5 := blk_cell HX3.out 5
  have hz0 := blk_cell HZ3.out 0; have hz1 := blk_cell HZ3.out 1; have hz2 := blk_cell HZ3.out 2; have hz3 := blk_cell HZ3.out 3; have hz4 := blk_cell HZ3.out 4; have hz5 := blk_cell HZ3.out 5
  go_wp2_with fail
  (with_reducible refine (sector_Put.calls k' i' c' s' a' A' c5' l' [] 1 w3 (Kd.C_below HR'.out HB3.out) hc' HP'.out).mono ?_)
  rintro e w4 ⟨v0, rfl, hro, hb4⟩
  obtain ⟨A20, c20, e20, hc20, hr20⟩ := Kd.R_reads hro
  subst e20
  have HC4 := Aside0.mk (Kd.C_below HC3.out hb4)
  have HD4 := Aside0.mk hr20
  have HX4 := Aside0.mk (blk_below HX3.out hb4)
  have HZ4 := Aside0.mk (blk_below HZ3.out hb4)
  have HB4 := Aside0.mk (below_step HB3.out hb4)
  clear hb4 hx0 hx1 hx2 hx3 hx4 hx5 hz0 hz1 hz2 hz3 hz4 hz5 hro hr20 HX3 HZ3 HB3 HC3
  have hx0 := blk_cell HX4.out 0; have hx1 := blk_cell HX4.out 1; have hx2 := blk_cell HX4.out 2; have hx3 := blk_cell HX4.out 3; have hx4 := blk_cell HX4.out 4; have hx5 := blk_cell HX4.out 5
  have hz0 := blk_cell HZ4.out 0; have hz1 := blk_cell HZ4.out 1; have hz2 := blk_cell HZ4.out 2; have hz3 := blk_cell HZ4.out 3; have hz4 := blk_cell HZ4.out 4; have hz5 := blk_cell HZ4.out 5
  go_wp2
  go_ret
  exact ⟨rfl, HB4.out⟩
set_option maxHeartbeats 4000000 in
set_option maxRecDepth 100000 in
/-- The first frame may not be, and is the second one, too: walked. -/
theorem SectorUnlike_eS (k i c : Int) (s a : Nat) (A : Option Addr) (c5 : Nat) (l : List Int) (k' i' c' : Int) (s' a' : Nat) (A' : Option Addr) (c5' : Nat) (l' : List Int) (w : World)
    (hr : Kd.C (Kd.int .u8) w A l.length l) (hc : l.length ≤ c5) (hs : s < 18446744073709551616) (ha : a < 4294967296) (hb : bytesB l = true) (hf : frameOk k i c l.length = false) (q7 : l.length ≤ 200) (q7' : l'.length ≤ 200) :
    Calls Try.prog 12 #[.agg #[.int .i64 k, .int .i64 i, .int .i64 c, .int .u64 s, .int .u32 a, .slice A l.length c5], .agg #[.int .i64 k', .int .i64 i', .int .i64 c', .int .u64 s', .int .u32 a', .slice A' l'.length c5'], .bool true] w fun e w' => e = .returned (.bool true) ∧ Below w.heap.size w w' := by
  obtain ⟨y, hY⟩ : ∃ y, putM k i c s a l = y := ⟨_, rfl⟩
  have HP := Aside0.mk (put_f k i c s a l hs ha hb)
  rw [hf, if_neg (by decide)] at HP
  have HR := Aside0.mk hr
  have hd1 : decide ((200 : Int) < (l.length : Int)) = false := decide_eq_false (by omega)
  have hd2 : decide ((200 : Int) < (l'.length : Int)) = false := decide_eq_false (by omega)
  clear hr hb hf hY
  go_enter Try.func12, Try.ntmps12
  go_wp2_with fail
  (with_reducible refine (awake04.calls true _ rfl).mono ?_)
  rintro e w2 ⟨rfl, hb2⟩
  have HX := Aside0.mk (blk_below (blk_alloc (blk_new w (.cells #[.int .i64 k, .int .i64 i, .int .i64 c, .int .u64 s, .int .u32 a, .slice A l.length c5] 42)) (.cells #[.int .i64 k', .int .i64 i', .int .i64 c', .int .u64 s', .int .u32 a', .slice A' l'.length c5'] 42)) hb2)
  have HX' := Aside0.mk (blk_below (blk_new (w.alloc (.cells #[.int .i64 k, .int .i64 i, .int .i64 c, .int .u64 s, .int .u32 a, .slice A l.length c5] 42)) (.cells #[.int .i64 k', .int .i64 i', .int .i64 c', .int .u64 s', .int .u32 a', .slice A' l'.length c5'] 42)) hb2)
  have HB2 := Aside0.mk (below_step (below_alloc (below_alloc (Below.refl _ _) _) _) hb2)
  rw [show (w.alloc (.cells #[.int .i64 k, .int .i64 i, .int .i64 c, .int .u64 s, .int .u32 a, .slice A l.length c5] 42)).heap.size = w.heap.size + 1 from by simp] at HX'
  clear hb2
  have hx0 := blk_cell HX.out 0; have hx1 := blk_cell HX.out 1; have hx2 := blk_cell HX.out 2; have hx3 := blk_cell HX.out 3; have hx4 := blk_cell HX.out 4; have hx5 := blk_cell HX.out 5
  have hz0 := blk_cell HX'.out 0; have hz1 := blk_cell HX'.out 1; have hz2 := blk_cell HX'.out 2; have hz3 := blk_cell HX'.out 3; have hz4 := blk_cell HX'.out 4; have hz5 := blk_cell HX'.out 5
  have hf0 := blk_frozen HX'.out 0; have hf1 := blk_frozen HX'.out 1; have hf2 := blk_frozen HX'.out 2; have hf3 := blk_frozen HX'.out 3; have hf4 := blk_frozen HX'.out 4; have hf5 := blk_frozen HX'.out 5
  go_wp2_with fail
  obtain ⟨w2', hw2'⟩ : ∃ x, (World.setCell (World.setCell (World.setCell (World.setCell (World.setCell (World.setCell w2 ⟨w.heap.size + 1, 0, none⟩ (.int .i64 k)) ⟨w.heap.size + 1, 1, none⟩ (.int .i64 i)) ⟨w.heap.size + 1, 2, none⟩ (.int .i64 c)) ⟨w.heap.size + 1, 3, none⟩ (.int .u64 s)) ⟨w.heap.size + 1, 4, none⟩ (.int .u32 a)) ⟨w.heap.size + 1, 5, none⟩ (.slice A l.length c5)) = x := ⟨_, rfl⟩
  have HZ2 : Aside0 (w2'.heap[w.heap.size + 1]? = some (.cells #[.int .i64 k, .int .i64 i, .int .i64 c, .int .u64 s, .int .u32 a, .slice A l.length c5] 42 (0, 0))) := ⟨by rw [← hw2']; exact (blk_set (blk_set (blk_set (blk_set (blk_set (blk_set HX'.out 0 (.int .i64 k)) 1 (.int .i64 i)) 2 (.int .i64 c)) 3 (.int .u64 s)) 4 (.int .u32 a)) 5 (.slice A l.length c5))⟩
  have HX2 : Aside0 (w2'.heap[w.heap.size]? = some (.cells #[.int .i64 k, .int .i64 i, .int .i64 c, .int .u64 s, .int .u32 a, .slice A l.length c5] 42 (0, 0))) := ⟨by rw [← hw2']; exact (blk_far (blk_far (blk_far (blk_far (blk_far (blk_far HX.out (p := ⟨w.heap.size + 1, 0, none⟩) (by simp) (.int .i64 k)) (p := ⟨w.heap.size + 1, 1, none⟩) (by simp) (.int .i64 i)) (p := ⟨w.heap.size + 1, 2, none⟩) (by simp) (.int .i64 c)) (p := ⟨w.heap.size + 1, 3, none⟩) (by simp) (.int .u64 s)) (p := ⟨w.heap.size + 1, 4, none⟩) (by simp) (.int .u32 a)) (p := ⟨w.heap.size + 1, 5, none⟩) (by simp) (.slice A l.length c5))⟩
  have HBN : Aside0 (Below w.heap.size w w2') := ⟨by rw [← hw2']; exact (below_set (below_set (below_set (below_set (below_set (below_set HB2.out (g := w.heap.size + 1) (j := 0) (v := (.int .i64 k)) (by omega)) (g := w.heap.size + 1) (j := 1) (v := (.int .i64 i)) (by omega)) (g := w.heap.size + 1) (j := 2) (v := (.int .i64 c)) (by omega)) (g := w.heap.size + 1) (j := 3) (v := (.int .u64 s)) (by omega)) (g := w.heap.size + 1) (j := 4) (v := (.int .u32 a)) (by omega)) (g := w.heap.size + 1) (j := 5) (v := (.slice A l.length c5)) (by omega))⟩
  rw [hw2']
  clear hw2' hf0 hf1 hf2 hf3 hf4 hf5
  (with_reducible refine (sector_Put.calls k i c s a A c5 l [] 1 w2' (Kd.C_below HR.out HBN.out) hc HP.out).mono ?_)
  rintro e w3 ⟨v0, rfl, hro, hb3⟩
  obtain ⟨A19, c19, e19, hc19, hr19⟩ := Kd.R_reads hro
  subst e19
  have HC3 := Aside0.mk hr19
  have HX3 := Aside0.mk (blk_below HX2.out hb3)
  have HZ3 := Aside0.mk (blk_below HZ2.out hb3)
  have HB3 := Aside0.mk (below_step HBN.out hb3)
  clear hb3 hx0 hx1 hx2 hx3 hx4 hx5 hz0 hz1 hz2 hz3 hz4 hz5 hro hr19
  have hx0 := blk_cell HX3.out 0; have hx1 := blk_cell HX3.out 1; have hx2 := blk_cell HX3.out 2; have hx3 := blk_cell HX3.out 3; have hx4 := blk_cell HX3.out 4; have hx5 := blk_cell HX3.out 5
  have hz0 := blk_cell HZ3.out 0; have hz1 := blk_cell HZ3.out 1; have hz2 := blk_cell HZ3.out 2; have hz3 := blk_cell HZ3.out 3; have hz4 := blk_cell HZ3.out 4; have hz5 := blk_cell HZ3.out 5
  go_wp2_with fail
  (with_reducible refine (sector_Put.calls k i c s a A c5 l [] 1 w3 (Kd.C_below HR.out HB3.out) hc HP.out).mono ?_)
  rintro e w4 ⟨v0, rfl, hro, hb4⟩
  obtain ⟨A20, c20, e20, hc20, hr20⟩ := Kd.R_reads hro
  subst e20
  have HC4 := Aside0.mk (Kd.C_below HC3.out hb4)
  have HD4 := Aside0.mk hr20
  have HX4 := Aside0.mk (blk_below HX3.out hb4)
  have HZ4 := Aside0.mk (blk_below HZ3.out hb4)
  have HB4 := Aside0.mk (below_step HB3.out hb4)
  clear hb4 hx0 hx1 hx2 hx3 hx4 hx5 hz0 hz1 hz2 hz3 hz4 hz5 hro hr20 HX3 HZ3 HB3 HC3
  have hx0 := blk_cell HX4.out 0; have hx1 := blk_cell HX4.out 1; have hx2 := blk_cell HX4.out 2; have hx3 := blk_cell HX4.out 3; have hx4 := blk_cell HX4.out 4; have hx5 := blk_cell HX4.out 5
  have hz0 := blk_cell HZ4.out 0; have hz1 := blk_cell HZ4.out 1; have hz2 := blk_cell HZ4.out 2; have hz3 := blk_cell HZ4.out 3; have hz4 := blk_cell HZ4.out 4; have hz5 := blk_cell HZ4.out 5
  go_wp2
  go_ret
  exact ⟨rfl, HB4.out⟩
set_option maxHeartbeats 1000000 in
set_option maxRecDepth 100000 in
theorem SectorUnlike_long1 (k i c : Int) (s a : Nat) (A : Option Addr) (c5 : Nat) (l : List Int) (k' i' c' : Int) (s' a' : Nat) (A' : Option Addr) (c5' : Nat) (l' : List Int) (b : Bool) (w : World) (q : 200 < l.length) :
    Calls Try.prog 12 #[.agg #[.int .i64 k, .int .i64 i, .int .i64 c, .int .u64 s, .int .u32 a, .slice A l.length c5], .agg #[.int .i64 k', .int .i64 i', .int .i64 c', .int .u64 s', .int .u32 a', .slice A' l'.length c5'], .bool b] w fun e w' => e = .returned (.bool true) ∧ Below w.heap.size w w' := by
  have hd1 : decide ((200 : Int) < (l.length : Int)) = true := decide_eq_true (by omega)
  go_enter Try.func12, Try.ntmps12
  go_wp2_with fail
  (with_reducible refine (awake04.calls true _ rfl).mono ?_)
  rintro e w2 ⟨rfl, hb2⟩
  have HX := Aside0.mk (blk_below (blk_alloc (blk_new w (.cells #[.int .i64 k, .int .i64 i, .int .i64 c, .int .u64 s, .int .u32 a, .slice A l.length c5] 42)) (.cells #[.int .i64 k', .int .i64 i', .int .i64 c', .int .u64 s', .int .u32 a', .slice A' l'.length c5'] 42)) hb2)
  have HX' := Aside0.mk (blk_below (blk_new (w.alloc (.cells #[.int .i64 k, .int .i64 i, .int .i64 c, .int .u64 s, .int .u32 a, .slice A l.length c5] 42)) (.cells #[.int .i64 k', .int .i64 i', .int .i64 c', .int .u64 s', .int .u32 a', .slice A' l'.length c5'] 42)) hb2)
  have HB2 := Aside0.mk (below_step (below_alloc (below_alloc (Below.refl _ _) _) _) hb2)
  rw [show (w.alloc (.cells #[.int .i64 k, .int .i64 i, .int .i64 c, .int .u64 s, .int .u32 a, .slice A l.length c5] 42)).heap.size = w.heap.size + 1 from by simp] at HX'
  clear hb2
  have hx0 := blk_cell HX.out 0; have hx1 := blk_cell HX.out 1; have hx2 := blk_cell HX.out 2; have hx3 := blk_cell HX.out 3; have hx4 := blk_cell HX.out 4; have hx5 := blk_cell HX.out 5
  have hz0 := blk_cell HX'.out 0; have hz1 := blk_cell HX'.out 1; have hz2 := blk_cell HX'.out 2; have hz3 := blk_cell HX'.out 3; have hz4 := blk_cell HX'.out 4; have hz5 := blk_cell HX'.out 5
  go_wp2
  go_ret
  exact ⟨rfl, HB2.out⟩
set_option maxHeartbeats 1000000 in
set_option maxRecDepth 100000 in
theorem SectorUnlike_long2 (k i c : Int) (s a : Nat) (A : Option Addr) (c5 : Nat) (l : List Int) (k' i' c' : Int) (s' a' : Nat) (A' : Option Addr) (c5' : Nat) (l' : List Int) (b : Bool) (w : World) (q : l.length ≤ 200) (q' : 200 < l'.length) :
    Calls Try.prog 12 #[.agg #[.int .i64 k, .int .i64 i, .int .i64 c, .int .u64 s, .int .u32 a, .slice A l.length c5], .agg #[.int .i64 k', .int .i64 i', .int .i64 c', .int .u64 s', .int .u32 a', .slice A' l'.length c5'], .bool b] w fun e w' => e = .returned (.bool true) ∧ Below w.heap.size w w' := by
  have hd1 : decide ((200 : Int) < (l.length : Int)) = false := decide_eq_false (by omega)
  have hd2 : decide ((200 : Int) < (l'.length : Int)) = true := decide_eq_true (by omega)
  go_enter Try.func12, Try.ntmps12
  go_wp2_with fail
  (with_reducible refine (awake04.calls true _ rfl).mono ?_)
  rintro e w2 ⟨rfl, hb2⟩
  have HX := Aside0.mk (blk_below (blk_alloc (blk_new w (.cells #[.int .i64 k, .int .i64 i, .int .i64 c, .int .u64 s, .int .u32 a, .slice A l.length c5] 42)) (.cells #[.int .i64 k', .int .i64 i', .int .i64 c', .int .u64 s', .int .u32 a', .slice A' l'.length c5'] 42)) hb2)
  have HX' := Aside0.mk (blk_below (blk_new (w.alloc (.cells #[.int .i64 k, .int .i64 i, .int .i64 c, .int .u64 s, .int .u32 a, .slice A l.length c5] 42)) (.cells #[.int .i64 k', .int .i64 i', .int .i64 c', .int .u64 s', .int .u32 a', .slice A' l'.length c5'] 42)) hb2)
  have HB2 := Aside0.mk (below_step (below_alloc (below_alloc (Below.refl _ _) _) _) hb2)
  rw [show (w.alloc (.cells #[.int .i64 k, .int .i64 i, .int .i64 c, .int .u64 s, .int .u32 a, .slice A l.length c5] 42)).heap.size = w.heap.size + 1 from by simp] at HX'
  clear hb2
  have hx0 := blk_cell HX.out 0; have hx1 := blk_cell HX.out 1; have hx2 := blk_cell HX.out 2; have hx3 := blk_cell HX.out 3; have hx4 := blk_cell HX.out 4; have hx5 := blk_cell HX.out 5
  have hz0 := blk_cell HX'.out 0; have hz1 := blk_cell HX'.out 1; have hz2 := blk_cell HX'.out 2; have hz3 := blk_cell HX'.out 3; have hz4 := blk_cell HX'.out 4; have hz5 := blk_cell HX'.out 5
  go_wp2
  go_ret
  exact ⟨rfl, HB2.out⟩
theorem SectorUnlike_walk (k i c s a : Int) (A : Option Addr) (cc : Nat) (l : List Int) (k' i' c' s' a' : Int) (A' : Option Addr) (cc' : Nat) (l' : List Int) (b : Bool) (W : World)
    (hk : (Lit.int .i64 k).wf = true) (hi : (Lit.int .i64 i).wf = true) (hc : (Lit.int .i64 c).wf = true) (hs : (Lit.int .u64 s).wf = true) (ha : (Lit.int .u32 a).wf = true) (hr : Kd.C (Kd.int .u8) W A l.length l) (hcc : l.length ≤ cc) (ok : l.length ≤ maxLen ∧ ∀ x ∈ l, (Lit.int .u8 x).wf = true)
    (hk' : (Lit.int .i64 k').wf = true) (hi' : (Lit.int .i64 i').wf = true) (hc' : (Lit.int .i64 c').wf = true) (hs' : (Lit.int .u64 s').wf = true) (ha' : (Lit.int .u32 a').wf = true) (hr' : Kd.C (Kd.int .u8) W A' l'.length l') (hcc' : l'.length ≤ cc') (ok' : l'.length ≤ maxLen ∧ ∀ x ∈ l', (Lit.int .u8 x).wf = true) :
    Calls Try.prog 12 #[.agg #[.int .i64 k, .int .i64 i, .int .i64 c, .int .u64 s, .int .u32 a, .slice A l.length cc], .agg #[.int .i64 k', .int .i64 i', .int .i64 c', .int .u64 s', .int .u32 a', .slice A' l'.length cc'], .bool b] W fun e W' => e = .returned (.bool true) ∧ Below W.heap.size W W' := by
  have us := u64_of_wf s hs
  have ua := u32_of_wf a ha
  have us' := u64_of_wf s' hs'
  have ua' := u32_of_wf a' ha'
  obtain ⟨s, rfl⟩ := Int.eq_ofNat_of_zero_le us.1
  obtain ⟨a, rfl⟩ := Int.eq_ofNat_of_zero_le ua.1
  obtain ⟨s', rfl⟩ := Int.eq_ofNat_of_zero_le us'.1
  obtain ⟨a', rfl⟩ := Int.eq_ofNat_of_zero_le ua'.1
  have hb := bytesB_of_wf l ok.2
  have hb' := bytesB_of_wf l' ok'.2
  by_cases q : l.length ≤ 200
  · by_cases q' : l'.length ≤ 200
    · cases hf : frameOk k i c l.length with
      | true =>
        cases b with
        | true => exact SectorUnlike_same k i c s a A cc l k' i' c' s' a' A' cc' l' W hr hcc (by omega) (by omega) hb hf q'
        | false =>
          cases hf' : frameOk k' i' c' l'.length with
          | true => exact SectorUnlike_both k i c s a A cc l k' i' c' s' a' A' cc' l' W hr hcc (by omega) (by omega) hb hf hr' hcc' (by omega) (by omega) hb' hf'
          | false => exact SectorUnlike_e01 k i c s a A cc l k' i' c' s' a' A' cc' l' W hr hcc (by omega) (by omega) hb hf q q' hr' hcc' (by omega) (by omega) hb' hf'
      | false =>
        cases b with
        | true => exact SectorUnlike_eS k i c s a A cc l k' i' c' s' a' A' cc' l' W hr hcc (by omega) (by omega) hb hf q q'
        | false =>
          cases hf' : frameOk k' i' c' l'.length with
          | true => exact SectorUnlike_e10 k i c s a A cc l k' i' c' s' a' A' cc' l' W hr hcc (by omega) (by omega) hb hf q q' hr' hcc' (by omega) (by omega) hb' hf'
          | false => exact SectorUnlike_e11 k i c s a A cc l k' i' c' s' a' A' cc' l' W hr hcc (by omega) (by omega) hb hf q q' hr' hcc' (by omega) (by omega) hb' hf'
    · exact SectorUnlike_long2 k i c s a A cc l k' i' c' s' a' A' cc' l' b W q (by omega)
  · exact SectorUnlike_long1 k i c s a A cc l k' i' c' s' a' A' cc' l' b W (by omega)
end Go.Proofs.Ytelhdgnolijpcaa.Hm
end
section
/- Written by a program of this session (the kit's print, turned by patch-print.py so that it takes contracts proved by hand): functions and what their calls come to. -/
namespace Go.Proofs.Ytelhdgnolijpcaa.PCrcOf
open Go.RowKit Go.Proofs.YtelhdgnolijpcaaW.PrintWords Go.Proofs.YtelhdgnolijpcaaW.PrintLast Go.Proofs.YtelhdgnolijpcaaW.PrintMore
attribute [local go_sem] max2_int min2_int max_two min_two max_three min_three max_four min_four   -- for this text's walks alone
set_option linter.unusedVariables false
set_option linter.unusedSimpArgs false



def errW : Option Int → Value
  | none => .nilIface
  | some c => .iface 0 (.int .i64 c)
theorem errW_none : errW none = .nilIface := rfl
theorem errW_some (c : Int) : errW (some c) = .iface 0 (.int .i64 c) := rfl

theorem info5 : (Try.prog.info? 5).map (fun i => (i.zero, i.size, i.bytes)) = some (some (.int .u8 0), 1, 1) := by kernel_rfl
-- the values' own types
def rd_L1 (xs : List (List Int)) (i : Int) : (List Int) := xs.getD i.toNat ([] : List Int)
theorem at_L1 {w : World} {A : Option Addr} {n : Nat} {xs : List (List Int)} (h : Kd.C (Kd.slice 5 (Kd.int .u8)) w A n xs) (i : Int) (h0 : 0 ≤ i) (h1 : i < n) : ∃ ad A0 c0, A = some ad ∧ w.cell? (ad.add i.toNat) = some (.slice A0 (rd_L1 xs i).length c0) ∧ (rd_L1 xs i).length ≤ c0 ∧ (Kd.int .u8).C w A0 (rd_L1 xs i).length (rd_L1 xs i) := by
  obtain ⟨ad, c, e, _, hK, hc0⟩ := Kd.C_get h ([] : List Int) i h0 h1
  have hc : ∀ j u, c[j]? = some u → w.cell? (ad.add (i.toNat * 1 + j)) = some u := hc0
  obtain ⟨A0, c0, rfl, l0, g0⟩ := hK
  exact ⟨ad, A0, c0, e, by have hq := hc 0 _ rfl; rwa [Nat.mul_one, Nat.add_zero] at hq, l0, g0⟩

end Go.Proofs.Ytelhdgnolijpcaa.PCrcOf
end
section
/- Written by a program of this session (the kit's print, turned by patch-print.py so that it takes contracts proved by hand): functions and what their calls come to. -/
namespace Go.Proofs.Ytelhdgnolijpcaa.PCrcOf
open Go.RowKit Go.Proofs.YtelhdgnolijpcaaW.PrintWords Go.Proofs.YtelhdgnolijpcaaW.PrintLast Go.Proofs.YtelhdgnolijpcaaW.PrintMore
attribute [local go_sem] max2_int min2_int max_two min_two max_three min_three max_four min_four   -- for this text's walks alone
set_option linter.unusedVariables false
set_option linter.unusedSimpArgs false

-- GIVEN: function 14 (crc_Of): Hm.crc_Of

-- GIVEN: function 16 (crc_More): Hm.crc_More

-- GIVEN: function 18 (crc_Sealed): Hm.crc_Sealed

-- GIVEN: function 20 (crc_Right): Hm.crc_Right

/-! ### removalistlaw02_awake: function 13 -/
def removalistlaw02_awake.f  : Option (Bool) := (Hm.crc_Of.f (([49, 50, 51, 52, 53, 54, 55, 56, 57] : List Int))).bind fun t104 => (if t104 = 4236843288 then ((Hm.crc_Of.f (([49, 50, 51] : List Int))).bind fun t108 => ((Hm.crc_More.f t108 (([52, 53, 54, 55, 56, 57] : List Int))).bind fun t112 => (if t112 = 4236843288 then ((Hm.crc_Sealed.f (([120] : List Int))).bind fun t116 => ((Hm.crc_Right.f t116).bind fun t119 => (if t119 = true then ((Hm.crc_Right.f (([97, 98, 99, 100] : List Int))).bind fun t123 => (some (!t123))) else (some false)))) else (some false)))) else (some false))
set_option maxHeartbeats 8000000 in
set_option maxRecDepth 100000 in
theorem removalistlaw02_awake.calls  (r : Bool) (w : World) (h : removalistlaw02_awake.f  = some r) :
    Calls Try.prog 13 #[] w fun e w' => e = .returned (.bool r) ∧ Below w.heap.size w w' := by
  have HB := Aside0.mk (Below.refl w.heap.size w)
  have H : ((Hm.crc_Of.f (([49, 50, 51, 52, 53, 54, 55, 56, 57] : List Int))).bind fun t104 => (if t104 = 4236843288 then ((Hm.crc_Of.f (([49, 50, 51] : List Int))).bind fun t108 => ((Hm.crc_More.f t108 (([52, 53, 54, 55, 56, 57] : List Int))).bind fun t112 => (if t112 = 4236843288 then ((Hm.crc_Sealed.f (([120] : List Int))).bind fun t116 => ((Hm.crc_Right.f t116).bind fun t119 => (if t119 = true then ((Hm.crc_Right.f (([97, 98, 99, 100] : List Int))).bind fun t123 => (some (!t123))) else (some false)))) else (some false)))) else (some false))) = some r := h
  clear h
  obtain ⟨y101, hy101⟩ : ∃ y_ : List Int, y_ = (([49, 50, 51, 52, 53, 54, 55, 56, 57] : List Int)) := ⟨_, rfl⟩
  replace H : ((Hm.crc_Of.f y101).bind fun t104 => (if t104 = 4236843288 then ((Hm.crc_Of.f (([49, 50, 51] : List Int))).bind fun t108 => ((Hm.crc_More.f t108 (([52, 53, 54, 55, 56, 57] : List Int))).bind fun t112 => (if t112 = 4236843288 then ((Hm.crc_Sealed.f (([120] : List Int))).bind fun t116 => ((Hm.crc_Right.f t116).bind fun t119 => (if t119 = true then ((Hm.crc_Right.f (([97, 98, 99, 100] : List Int))).bind fun t123 => (some (!t123))) else (some false)))) else (some false)))) else (some false))) = some r := by first | (rw [hy101]; with_reducible exact H) | (have H2_ := (Option.bind_some _ _).symm.trans H; rw [hy101]; with_reducible exact H2_) | (have H2_ := (Option.bind_some _ _).symm.trans H; with_reducible exact H2_) | with_reducible exact H | (rw [hy101]; exact H) | exact H
  have Ny101 := Aside0.mk hy101
  clear hy101
  replace H := Option.bind_eq_some_iff.mp H
  obtain ⟨t104, A10, H⟩ := H
  replace H : (if t104 = 4236843288 then ((Hm.crc_Of.f (([49, 50, 51] : List Int))).bind fun t108 => ((Hm.crc_More.f t108 (([52, 53, 54, 55, 56, 57] : List Int))).bind fun t112 => (if t112 = 4236843288 then ((Hm.crc_Sealed.f (([120] : List Int))).bind fun t116 => ((Hm.crc_Right.f t116).bind fun t119 => (if t119 = true then ((Hm.crc_Right.f (([97, 98, 99, 100] : List Int))).bind fun t123 => (some (!t123))) else (some false)))) else (some false)))) else (some false)) = some r := H
  have A1 := Aside0.mk A10
  clear A10
  by_cases c2 : t104 = 4236843288
  · rw [if_pos c2] at H
    have c2b0 : (t104 == 4236843288) = true := beq_iff_eq.mpr c2
    have c2b1 : (t104 != 4236843288) = false := bne_eq_false_iff_eq.mpr c2
    clear c2
    obtain ⟨y105, hy105⟩ : ∃ y_ : List Int, y_ = (([49, 50, 51] : List Int)) := ⟨_, rfl⟩
    replace H : ((Hm.crc_Of.f y105).bind fun t108 => ((Hm.crc_More.f t108 (([52, 53, 54, 55, 56, 57] : List Int))).bind fun t112 => (if t112 = 4236843288 then ((Hm.crc_Sealed.f (([120] : List Int))).bind fun t116 => ((Hm.crc_Right.f t116).bind fun t119 => (if t119 = true then ((Hm.crc_Right.f (([97, 98, 99, 100] : List Int))).bind fun t123 => (some (!t123))) else (some false)))) else (some false)))) = some r := by first | (rw [hy105]; with_reducible exact H) | (have H2_ := (Option.bind_some _ _).symm.trans H; rw [hy105]; with_reducible exact H2_) | (have H2_ := (Option.bind_some _ _).symm.trans H; with_reducible exact H2_) | with_reducible exact H | (rw [hy105]; exact H) | exact H
    have Ny105 := Aside0.mk hy105
    clear hy105
    replace H := Option.bind_eq_some_iff.mp H
    obtain ⟨t108, A30, H⟩ := H
    replace H : ((Hm.crc_More.f t108 (([52, 53, 54, 55, 56, 57] : List Int))).bind fun t112 => (if t112 = 4236843288 then ((Hm.crc_Sealed.f (([120] : List Int))).bind fun t116 => ((Hm.crc_Right.f t116).bind fun t119 => (if t119 = true then ((Hm.crc_Right.f (([97, 98, 99, 100] : List Int))).bind fun t123 => (some (!t123))) else (some false)))) else (some false))) = some r := H
    have A3 := Aside0.mk A30
    clear A30
    obtain ⟨y109, hy109⟩ : ∃ y_ : List Int, y_ = (([52, 53, 54, 55, 56, 57] : List Int)) := ⟨_, rfl⟩
    replace H : ((Hm.crc_More.f t108 y109).bind fun t112 => (if t112 = 4236843288 then ((Hm.crc_Sealed.f (([120] : List Int))).bind fun t116 => ((Hm.crc_Right.f t116).bind fun t119 => (if t119 = true then ((Hm.crc_Right.f (([97, 98, 99, 100] : List Int))).bind fun t123 => (some (!t123))) else (some false)))) else (some false))) = some r := by first | (rw [hy109]; with_reducible exact H) | (have H2_ := (Option.bind_some _ _).symm.trans H; rw [hy109]; with_reducible exact H2_) | (have H2_ := (Option.bind_some _ _).symm.trans H; with_reducible exact H2_) | with_reducible exact H | (rw [hy109]; exact H) | exact H
    have Ny109 := Aside0.mk hy109
    clear hy109
    replace H := Option.bind_eq_some_iff.mp H
    obtain ⟨t112, A40, H⟩ := H
    replace H : (if t112 = 4236843288 then ((Hm.crc_Sealed.f (([120] : List Int))).bind fun t116 => ((Hm.crc_Right.f t116).bind fun t119 => (if t119 = true then ((Hm.crc_Right.f (([97, 98, 99, 100] : List Int))).bind fun t123 => (some (!t123))) else (some false)))) else (some false)) = some r := H
    have A4 := Aside0.mk A40
    clear A40
    by_cases c5 : t112 = 4236843288
    · rw [if_pos c5] at H
      have c5b0 : (t112 == 4236843288) = true := beq_iff_eq.mpr c5
      have c5b1 : (t112 != 4236843288) = false := bne_eq_false_iff_eq.mpr c5
      clear c5
      obtain ⟨y113, hy113⟩ : ∃ y_ : List Int, y_ = (([120] : List Int)) := ⟨_, rfl⟩
      replace H : ((Hm.crc_Sealed.f y113).bind fun t116 => ((Hm.crc_Right.f t116).bind fun t119 => (if t119 = true then ((Hm.crc_Right.f (([97, 98, 99, 100] : List Int))).bind fun t123 => (some (!t123))) else (some false)))) = some r := by first | (rw [hy113]; with_reducible exact H) | (have H2_ := (Option.bind_some _ _).symm.trans H; rw [hy113]; with_reducible exact H2_) | (have H2_ := (Option.bind_some _ _).symm.trans H; with_reducible exact H2_) | with_reducible exact H | (rw [hy113]; exact H) | exact H
      have Ny113 := Aside0.mk hy113
      clear hy113
      replace H := Option.bind_eq_some_iff.mp H
      obtain ⟨t116, A60, H⟩ := H
      replace H : ((Hm.crc_Right.f t116).bind fun t119 => (if t119 = true then ((Hm.crc_Right.f (([97, 98, 99, 100] : List Int))).bind fun t123 => (some (!t123))) else (some false))) = some r := H
      have A6 := Aside0.mk A60
      clear A60
      replace H := Option.bind_eq_some_iff.mp H
      obtain ⟨t119, A70, H⟩ := H
      replace H : (if t119 = true then ((Hm.crc_Right.f (([97, 98, 99, 100] : List Int))).bind fun t123 => (some (!t123))) else (some false)) = some r := H
      have A7 := Aside0.mk A70
      clear A70
      by_cases c8 : t119 = true
      · subst c8
        have H1 : ((Hm.crc_Right.f (([97, 98, 99, 100] : List Int))).bind fun t123 => (some (!t123))) = some r := by rw [if_pos rfl] at H; exact H
        clear H
        have H := H1
        clear H1
        obtain ⟨y120, hy120⟩ : ∃ y_ : List Int, y_ = (([97, 98, 99, 100] : List Int)) := ⟨_, rfl⟩
        replace H : ((Hm.crc_Right.f y120).bind fun t123 => (some (!t123))) = some r := by first | (rw [hy120]; with_reducible exact H) | (have H2_ := (Option.bind_some _ _).symm.trans H; rw [hy120]; with_reducible exact H2_) | (have H2_ := (Option.bind_some _ _).symm.trans H; with_reducible exact H2_) | with_reducible exact H | (rw [hy120]; exact H) | exact H
        have Ny120 := Aside0.mk hy120
        clear hy120
        replace H := Option.bind_eq_some_iff.mp H
        obtain ⟨t123, A90, H⟩ := H
        replace H : (some (!t123)) = some r := H
        have A9 := Aside0.mk A90
        clear A90
        obtain rfl := Option.some.inj H
        go_enter Try.func13, Try.ntmps13
        go_wp2_with (first | ((with_reducible refine gate_dst (N := 2) rfl ?_); (try (refine gate_guard (by rfl) ?_; dsimp only)); refine Hm.V_conv_lit ?hg (N' := 2) ?hd _ rfl ([49, 50, 51, 52, 53, 54, 55, 56, 57] : List Int) ?hC ?hx ?hl ?_; (case hd => rfl); (case hg => rfl); (case hC => rfl); (case hx => rfl); (case hl => simp); intro v102 w10 ho11 hb; rw [← Ny101.out] at ho11; have n0_ := Aside0.mk (Kd.V_lower (Kd.V_mono (ok' := fun k_ => True) ho11 (fun k_ hk_ => trivial)) (below_size (by repeat (first | (with_reducible first | exact HB.out | apply below_alloc | apply pw_below_drewN | apply below_drew1) | exact HB.out)))); have n1_ := Aside0.mk (below_step (by repeat (first | (with_reducible first | exact HB.out | apply below_alloc | apply pw_below_drewN | apply below_drew1) | exact HB.out)) hb); clear HB; have HO103 := n0_; have HB := n1_; clear n0_ n1_; clear hb ho11; obtain ⟨Ao12, co12, eo12⟩ := Kd.V_slice HO103.out; subst eo12) | ((with_reducible refine gate_callee (f := 14) rfl ?_); refine goesL_ (some 3) rfl rfl Try.func14 (by kernel_rfl) rfl #[.slice Ao12 y101.length co12] rfl (by (try simp only [List.map_toArray, List.map_cons, List.map_nil]); first | done | rfl | (simp only [List.length_drop, List.length_take]; rfl)) ?_; (with_reducible refine (Hm.crc_Of.calls _ _ y101 t104 _ ?side1 ?side2 A1.out).mono ?_); (case side1 => repeat (first | exact (Kd.V_reads' HO103.out).2.2 | (with_reducible refine Kd.C_alloc ?_ _) | (with_reducible refine Kd.C_drewN ?_ _) | (with_reducible refine Kd.C_drew ?_))); (case side2 => exact (Kd.V_reads' HO103.out).2.1); rintro e w13 ⟨rfl, hb⟩; refine ⟨_, rfl, ?_⟩; have n0_ := Aside0.mk (Kd.V_below (by (with_reducible repeat (first | apply Kd.V_alloc | apply Kd.V_drewN | apply Kd.V_drew)); exact HO103.out) hb); have n1_ := Aside0.mk (below_step (by repeat (first | (with_reducible first | exact HB.out | apply below_alloc | apply pw_below_drewN | apply below_drew1) | exact HB.out)) hb); clear HO103; clear HB; have HO103 := n0_; have HB := n1_; clear n0_ n1_; (try clear hb); (try clear hb2); (try clear hk); (try clear hi)) | ((with_reducible refine gate_dst (N := 7) rfl ?_); (try (refine gate_guard (by rfl) ?_; dsimp only)); refine Hm.V_conv_lit ?hg (N' := 7) ?hd _ rfl ([49, 50, 51] : List Int) ?hC ?hx ?hl ?_; (case hd => rfl); (case hg => rfl); (case hC => rfl); (case hx => rfl); (case hl => simp); intro v106 w14 ho15 hb; rw [← Ny105.out] at ho15; have n0_ := Aside0.mk (Kd.V_below (by (with_reducible repeat (first | apply Kd.V_alloc | apply Kd.V_drewN | apply Kd.V_drew)); exact HO103.out) hb); have n1_ := Aside0.mk (Kd.V_lower (Kd.V_mono (ok' := fun k_ => True) ho15 (fun k_ hk_ => trivial)) (below_size (by repeat (first | (with_reducible first | exact HB.out | apply below_alloc | apply pw_below_drewN | apply below_drew1) | exact HB.out)))); have n2_ := Aside0.mk (below_step (by repeat (first | (with_reducible first | exact HB.out | apply below_alloc | apply pw_below_drewN | apply below_drew1) | exact HB.out)) hb); clear HO103; clear HB; have HO103 := n0_; have HO107 := n1_; have HB := n2_; clear n0_ n1_ n2_; clear hb ho15; obtain ⟨Ao16, co16, eo16⟩ := Kd.V_slice HO107.out; subst eo16) | (go_at_call 14; (with_reducible refine (Hm.crc_Of.calls _ _ y105 t108 _ ?side1 ?side2 A3.out).mono ?_); (case side1 => repeat (first | exact (Kd.V_reads' HO107.out).2.2 | (with_reducible refine Kd.C_alloc ?_ _) | (with_reducible refine Kd.C_drewN ?_ _) | (with_reducible refine Kd.C_drew ?_))); (case side2 => exact (Kd.V_reads' HO107.out).2.1); rintro e w17 ⟨rfl, hb⟩; have n0_ := Aside0.mk (Kd.V_below (by (with_reducible repeat (first | apply Kd.V_alloc | apply Kd.V_drewN | apply Kd.V_drew)); exact HO103.out) hb); have n1_ := Aside0.mk (Kd.V_below (by (with_reducible repeat (first | apply Kd.V_alloc | apply Kd.V_drewN | apply Kd.V_drew)); exact HO107.out) hb); have n2_ := Aside0.mk (below_step (by repeat (first | (with_reducible first | exact HB.out | apply below_alloc | apply pw_below_drewN | apply below_drew1) | exact HB.out)) hb); clear HO103; clear HO107; clear HB; have HO103 := n0_; have HO107 := n1_; have HB := n2_; clear n0_ n1_ n2_; (try clear hb); (try clear hb2); (try clear hk); (try clear hi)) | ((with_reducible refine gate_dst (N := 10) rfl ?_); (try (refine gate_guard (by rfl) ?_; dsimp only)); refine Hm.V_conv_lit ?hg (N' := 10) ?hd _ rfl ([52, 53, 54, 55, 56, 57] : List Int) ?hC ?hx ?hl ?_; (case hd => rfl); (case hg => rfl); (case hC => rfl); (case hx => rfl); (case hl => simp); intro v110 w18 ho19 hb; rw [← Ny109.out] at ho19; have n0_ := Aside0.mk (Kd.V_below (by (with_reducible repeat (first | apply Kd.V_alloc | apply Kd.V_drewN | apply Kd.V_drew)); exact HO103.out) hb); have n1_ := Aside0.mk (Kd.V_below (by (with_reducible repeat (first | apply Kd.V_alloc | apply Kd.V_drewN | apply Kd.V_drew)); exact HO107.out) hb); have n2_ := Aside0.mk (Kd.V_lower (Kd.V_mono (ok' := fun k_ => True) ho19 (fun k_ hk_ => trivial)) (below_size (by repeat (first | (with_reducible first | exact HB.out | apply below_alloc | apply pw_below_drewN | apply below_drew1) | exact HB.out)))); have n3_ := Aside0.mk (below_step (by repeat (first | (with_reducible first | exact HB.out | apply below_alloc | apply pw_below_drewN | apply below_drew1) | exact HB.out)) hb); clear HO103; clear HO107; clear HB; have HO103 := n0_; have HO107 := n1_; have HO111 := n2_; have HB := n3_; clear n0_ n1_ n2_ n3_; clear hb ho19; obtain ⟨Ao20, co20, eo20⟩ := Kd.V_slice HO111.out; subst eo20) | (go_at_call 16; (with_reducible refine (Hm.crc_More.calls t108 _ _ y109 t112 _ ?side1 ?side2 A4.out).mono ?_); (case side1 => repeat (first | exact (Kd.V_reads' HO111.out).2.2 | (with_reducible refine Kd.C_alloc ?_ _) | (with_reducible refine Kd.C_drewN ?_ _) | (with_reducible refine Kd.C_drew ?_))); (case side2 => exact (Kd.V_reads' HO111.out).2.1); rintro e w21 ⟨rfl, hb⟩; have n0_ := Aside0.mk (Kd.V_below (by (with_reducible repeat (first | apply Kd.V_alloc | apply Kd.V_drewN | apply Kd.V_drew)); exact HO103.out) hb); have n1_ := Aside0.mk (Kd.V_below (by (with_reducible repeat (first | apply Kd.V_alloc | apply Kd.V_drewN | apply Kd.V_drew)); exact HO107.out) hb); have n2_ := Aside0.mk (Kd.V_below (by (with_reducible repeat (first | apply Kd.V_alloc | apply Kd.V_drewN | apply Kd.V_drew)); exact HO111.out) hb); have n3_ := Aside0.mk (below_step (by repeat (first | (with_reducible first | exact HB.out | apply below_alloc | apply pw_below_drewN | apply below_drew1) | exact HB.out)) hb); clear HO103; clear HO107; clear HO111; clear HB; have HO103 := n0_; have HO107 := n1_; have HO111 := n2_; have HB := n3_; clear n0_ n1_ n2_ n3_; (try clear hb); (try clear hb2); (try clear hk); (try clear hi)) | ((with_reducible refine gate_dst (N := 16) rfl ?_); (try (refine gate_guard (by rfl) ?_; dsimp only)); refine Hm.V_conv_lit ?hg (N' := 16) ?hd _ rfl ([120] : List Int) ?hC ?hx ?hl ?_; (case hd => rfl); (case hg => rfl); (case hC => rfl); (case hx => rfl); (case hl => simp); intro v114 w22 ho23 hb; rw [← Ny113.out] at ho23; have n0_ := Aside0.mk (Kd.V_below (by (with_reducible repeat (first | apply Kd.V_alloc | apply Kd.V_drewN | apply Kd.V_drew)); exact HO103.out) hb); have n1_ := Aside0.mk (Kd.V_below (by (with_reducible repeat (first | apply Kd.V_alloc | apply Kd.V_drewN | apply Kd.V_drew)); exact HO107.out) hb); have n2_ := Aside0.mk (Kd.V_below (by (with_reducible repeat (first | apply Kd.V_alloc | apply Kd.V_drewN | apply Kd.V_drew)); exact HO111.out) hb); have n3_ := Aside0.mk (Kd.V_lower (Kd.V_mono (ok' := fun k_ => True) ho23 (fun k_ hk_ => trivial)) (below_size (by repeat (first | (with_reducible first | exact HB.out | apply below_alloc | apply pw_below_drewN | apply below_drew1) | exact HB.out)))); have n4_ := Aside0.mk (below_step (by repeat (first | (with_reducible first | exact HB.out | apply below_alloc | apply pw_below_drewN | apply below_drew1) | exact HB.out)) hb); clear HO103; clear HO107; clear HO111; clear HB; have HO103 := n0_; have HO107 := n1_; have HO111 := n2_; have HO115 := n3_; have HB := n4_; clear n0_ n1_ n2_ n3_ n4_; clear hb ho23; obtain ⟨Ao24, co24, eo24⟩ := Kd.V_slice HO115.out; subst eo24) | (go_at_call 18; (with_reducible refine (Hm.crc_Sealed.calls _ _ y113 t116 _ ?side1 ?side2 A6.out).mono ?_); (case side1 => repeat (first | exact (Kd.V_reads' HO115.out).2.2 | (with_reducible refine Kd.C_alloc ?_ _) | (with_reducible refine Kd.C_drewN ?_ _) | (with_reducible refine Kd.C_drew ?_))); (case side2 => exact (Kd.V_reads' HO115.out).2.1); rintro e w25 ⟨v117, rfl, ho0, hb⟩; have n0_ := Aside0.mk (Kd.V_elder' (by (with_reducible repeat (first | apply Kd.V_alloc | apply Kd.V_drewN | apply Kd.V_drew)); exact HO103.out) (Kd.R_base ho0) hb); have n1_ := Aside0.mk (Kd.V_elder' (by (with_reducible repeat (first | apply Kd.V_alloc | apply Kd.V_drewN | apply Kd.V_drew)); exact HO107.out) (Kd.R_base ho0) hb); have n2_ := Aside0.mk (Kd.V_elder' (by (with_reducible repeat (first | apply Kd.V_alloc | apply Kd.V_drewN | apply Kd.V_drew)); exact HO111.out) (Kd.R_base ho0) hb); have n3_ := Aside0.mk (Kd.V_elder' (by (with_reducible repeat (first | apply Kd.V_alloc | apply Kd.V_drewN | apply Kd.V_drew)); exact HO115.out) (Kd.R_base ho0) hb); have n4_ := Aside0.mk (Kd.R_lower ho0 (below_size (by repeat (first | (with_reducible first | exact HB.out | apply below_alloc | apply pw_below_drewN | apply below_drew1) | exact HB.out)))); have n5_ := Aside0.mk (below_step (by repeat (first | (with_reducible first | exact HB.out | apply below_alloc | apply pw_below_drewN | apply below_drew1) | exact HB.out)) hb); clear HO103; clear HO107; clear HO111; clear HO115; clear HB; have HO103 := n0_; have HO107 := n1_; have HO111 := n2_; have HO115 := n3_; have HO118 := n4_; have HB := n5_; clear n0_ n1_ n2_ n3_ n4_ n5_; (try clear hb); (try clear hb2); (try clear hk); (try clear hi); (try clear ho0); obtain ⟨Ao26, co26, eo26⟩ := Kd.R_slice HO118.out; subst eo26) | (go_at_call 20; (with_reducible refine (Hm.crc_Right.calls _ _ t116 true _ ?side1 ?side2 A7.out).mono ?_); (case side1 => repeat (first | exact (Kd.R_reads' HO118.out).2.2 | (with_reducible refine Kd.C_alloc ?_ _) | (with_reducible refine Kd.C_drewN ?_ _) | (with_reducible refine Kd.C_drew ?_))); (case side2 => exact (Kd.R_reads' HO118.out).2.1); rintro e w27 ⟨rfl, hb⟩; have n0_ := Aside0.mk (Kd.V_below (by (with_reducible repeat (first | apply Kd.V_alloc | apply Kd.V_drewN | apply Kd.V_drew)); exact HO103.out) hb); have n1_ := Aside0.mk (Kd.V_below (by (with_reducible repeat (first | apply Kd.V_alloc | apply Kd.V_drewN | apply Kd.V_drew)); exact HO107.out) hb); have n2_ := Aside0.mk (Kd.V_below (by (with_reducible repeat (first | apply Kd.V_alloc | apply Kd.V_drewN | apply Kd.V_drew)); exact HO111.out) hb); have n3_ := Aside0.mk (Kd.V_below (by (with_reducible repeat (first | apply Kd.V_alloc | apply Kd.V_drewN | apply Kd.V_drew)); exact HO115.out) hb); have n4_ := Aside0.mk (Kd.R_below (by (with_reducible repeat (first | apply Kd.R_alloc | apply Kd.R_drewN | apply Kd.R_drew)); exact HO118.out) hb); have n5_ := Aside0.mk (below_step (by repeat (first | (with_reducible first | exact HB.out | apply below_alloc | apply pw_below_drewN | apply below_drew1) | exact HB.out)) hb); clear HO103; clear HO107; clear HO111; clear HO115; clear HO118; clear HB; have HO103 := n0_; have HO107 := n1_; have HO111 := n2_; have HO115 := n3_; have HO118 := n4_; have HB := n5_; clear n0_ n1_ n2_ n3_ n4_ n5_; (try clear hb); (try clear hb2); (try clear hk); (try clear hi)) | ((with_reducible refine gate_dst (N := 22) rfl ?_); (try (refine gate_guard (by rfl) ?_; dsimp only)); refine Hm.V_conv_lit ?hg (N' := 22) ?hd _ rfl ([97, 98, 99, 100] : List Int) ?hC ?hx ?hl ?_; (case hd => rfl); (case hg => rfl); (case hC => rfl); (case hx => rfl); (case hl => simp); intro v121 w28 ho29 hb; rw [← Ny120.out] at ho29; have n0_ := Aside0.mk (Kd.V_below (by (with_reducible repeat (first | apply Kd.V_alloc | apply Kd.V_drewN | apply Kd.V_drew)); exact HO103.out) hb); have n1_ := Aside0.mk (Kd.V_below (by (with_reducible repeat (first | apply Kd.V_alloc | apply Kd.V_drewN | apply Kd.V_drew)); exact HO107.out) hb); have n2_ := Aside0.mk (Kd.V_below (by (with_reducible repeat (first | apply Kd.V_alloc | apply Kd.V_drewN | apply Kd.V_drew)); exact HO111.out) hb); have n3_ := Aside0.mk (Kd.V_below (by (with_reducible repeat (first | apply Kd.V_alloc | apply Kd.V_drewN | apply Kd.V_drew)); exact HO115.out) hb); have n4_ := Aside0.mk (Kd.R_below (by (with_reducible repeat (first | apply Kd.R_alloc | apply Kd.R_drewN | apply Kd.R_drew)); exact HO118.out) hb); have n5_ := Aside0.mk (Kd.V_lower (Kd.V_mono (ok' := fun k_ => some k_ ≠ (.slice Ao26 t116.length co26 : Value).ownBlock) ho29 (fun k_ hk_ => (Kd.fresh' (Kd.R_lt (by (with_reducible repeat (first | apply Kd.R_alloc | apply Kd.R_drewN | apply Kd.R_drew)); exact HO118.out)) k_ hk_))) (below_size (by repeat (first | (with_reducible first | exact HB.out | apply below_alloc | apply pw_below_drewN | apply below_drew1) | exact HB.out)))); have n6_ := Aside0.mk (below_step (by repeat (first | (with_reducible first | exact HB.out | apply below_alloc | apply pw_below_drewN | apply below_drew1) | exact HB.out)) hb); clear HO103; clear HO107; clear HO111; clear HO115; clear HO118; clear HB; have HO103 := n0_; have HO107 := n1_; have HO111 := n2_; have HO115 := n3_; have HO118 := n4_; have HO122 := n5_; have HB := n6_; clear n0_ n1_ n2_ n3_ n4_ n5_ n6_; clear hb ho29; obtain ⟨Ao30, co30, eo30⟩ := Kd.V_slice HO122.out; subst eo30) | (go_at_call 20; (with_reducible refine (Hm.crc_Right.calls _ _ y120 t123 _ ?side1 ?side2 A9.out).mono ?_); (case side1 => repeat (first | exact (Kd.V_reads' HO122.out).2.2 | (with_reducible refine Kd.C_alloc ?_ _) | (with_reducible refine Kd.C_drewN ?_ _) | (with_reducible refine Kd.C_drew ?_))); (case side2 => exact (Kd.V_reads' HO122.out).2.1); rintro e w31 ⟨rfl, hb⟩; have n0_ := Aside0.mk (Kd.V_below (by (with_reducible repeat (first | apply Kd.V_alloc | apply Kd.V_drewN | apply Kd.V_drew)); exact HO103.out) hb); have n1_ := Aside0.mk (Kd.V_below (by (with_reducible repeat (first | apply Kd.V_alloc | apply Kd.V_drewN | apply Kd.V_drew)); exact HO107.out) hb); have n2_ := Aside0.mk (Kd.V_below (by (with_reducible repeat (first | apply Kd.V_alloc | apply Kd.V_drewN | apply Kd.V_drew)); exact HO111.out) hb); have n3_ := Aside0.mk (Kd.V_below (by (with_reducible repeat (first | apply Kd.V_alloc | apply Kd.V_drewN | apply Kd.V_drew)); exact HO115.out) hb); have n4_ := Aside0.mk (Kd.R_below (by (with_reducible repeat (first | apply Kd.R_alloc | apply Kd.R_drewN | apply Kd.R_drew)); exact HO118.out) hb); have n5_ := Aside0.mk (Kd.V_below (by (with_reducible repeat (first | apply Kd.V_alloc | apply Kd.V_drewN | apply Kd.V_drew)); exact HO122.out) hb); have n6_ := Aside0.mk (below_step (by repeat (first | (with_reducible first | exact HB.out | apply below_alloc | apply pw_below_drewN | apply below_drew1) | exact HB.out)) hb); clear HO103; clear HO107; clear HO111; clear HO115; clear HO118; clear HO122; clear HB; have HO103 := n0_; have HO107 := n1_; have HO111 := n2_; have HO115 := n3_; have HO118 := n4_; have HO122 := n5_; have HB := n6_; clear n0_ n1_ n2_ n3_ n4_ n5_ n6_; (try clear hb); (try clear hb2); (try clear hk); (try clear hi)))
        go_ret
        exact ⟨by first | rfl | (simp [errW_none, errW_some] <;> rfl) | (simp [*, errW_none, errW_some] <;> rfl), by repeat (first | (with_reducible first | exact HB.out | apply below_alloc | apply pw_below_drewN | apply below_drew1) | exact HB.out)⟩
      · replace c8 := Bool.eq_false_iff.mpr c8
        subst c8
        have H1 : (some false) = some r := by rw [if_neg (show ¬ (false = true) by decide)] at H; exact H
        clear H
        have H := H1
        clear H1
        obtain rfl := Option.some.inj H
        go_enter Try.func13, Try.ntmps13
        go_wp2_with (first | ((with_reducible refine gate_dst (N := 2) rfl ?_); (try (refine gate_guard (by rfl) ?_; dsimp only)); refine Hm.V_conv_lit ?hg (N' := 2) ?hd _ rfl ([49, 50, 51, 52, 53, 54, 55, 56, 57] : List Int) ?hC ?hx ?hl ?_; (case hd => rfl); (case hg => rfl); (case hC => rfl); (case hx => rfl); (case hl => simp); intro v102 w32 ho33 hb; rw [← Ny101.out] at ho33; have n0_ := Aside0.mk (Kd.V_lower (Kd.V_mono (ok' := fun k_ => True) ho33 (fun k_ hk_ => trivial)) (below_size (by repeat (first | (with_reducible first | exact HB.out | apply below_alloc | apply pw_below_drewN | apply below_drew1) | exact HB.out)))); have n1_ := Aside0.mk (below_step (by repeat (first | (with_reducible first | exact HB.out | apply below_alloc | apply pw_below_drewN | apply below_drew1) | exact HB.out)) hb); clear HB; have HO103 := n0_; have HB := n1_; clear n0_ n1_; clear hb ho33; obtain ⟨Ao34, co34, eo34⟩ := Kd.V_slice HO103.out; subst eo34) | ((with_reducible refine gate_callee (f := 14) rfl ?_); refine goesL_ (some 3) rfl rfl Try.func14 (by kernel_rfl) rfl #[.slice Ao34 y101.length co34] rfl (by (try simp only [List.map_toArray, List.map_cons, List.map_nil]); first | done | rfl | (simp only [List.length_drop, List.length_take]; rfl)) ?_; (with_reducible refine (Hm.crc_Of.calls _ _ y101 t104 _ ?side1 ?side2 A1.out).mono ?_); (case side1 => repeat (first | exact (Kd.V_reads' HO103.out).2.2 | (with_reducible refine Kd.C_alloc ?_ _) | (with_reducible refine Kd.C_drewN ?_ _) | (with_reducible refine Kd.C_drew ?_))); (case side2 => exact (Kd.V_reads' HO103.out).2.1); rintro e w35 ⟨rfl, hb⟩; refine ⟨_, rfl, ?_⟩; have n0_ := Aside0.mk (Kd.V_below (by (with_reducible repeat (first | apply Kd.V_alloc | apply Kd.V_drewN | apply Kd.V_drew)); exact HO103.out) hb); have n1_ := Aside0.mk (below_step (by repeat (first | (with_reducible first | exact HB.out | apply below_alloc | apply pw_below_drewN | apply below_drew1) | exact HB.out)) hb); clear HO103; clear HB; have HO103 := n0_; have HB := n1_; clear n0_ n1_; (try clear hb); (try clear hb2); (try clear hk); (try clear hi)) | ((with_reducible refine gate_dst (N := 7) rfl ?_); (try (refine gate_guard (by rfl) ?_; dsimp only)); refine Hm.V_conv_lit ?hg (N' := 7) ?hd _ rfl ([49, 50, 51] : List Int) ?hC ?hx ?hl ?_; (case hd => rfl); (case hg => rfl); (case hC => rfl); (case hx => rfl); (case hl => simp); intro v106 w36 ho37 hb; rw [← Ny105.out] at ho37; have n0_ := Aside0.mk (Kd.V_below (by (with_reducible repeat (first | apply Kd.V_alloc | apply Kd.V_drewN | apply Kd.V_drew)); exact HO103.out) hb); have n1_ := Aside0.mk (Kd.V_lower (Kd.V_mono (ok' := fun k_ => True) ho37 (fun k_ hk_ => trivial)) (below_size (by repeat (first | (with_reducible first | exact HB.out | apply below_alloc | apply pw_below_drewN | apply below_drew1) | exact HB.out)))); have n2_ := Aside0.mk (below_step (by repeat (first | (with_reducible first | exact HB.out | apply below_alloc | apply pw_below_drewN | apply below_drew1) | exact HB.out)) hb); clear HO103; clear HB; have HO103 := n0_; have HO107 := n1_; have HB := n2_; clear n0_ n1_ n2_; clear hb ho37; obtain ⟨Ao38, co38, eo38⟩ := Kd.V_slice HO107.out; subst eo38) | (go_at_call 14; (with_reducible refine (Hm.crc_Of.calls _ _ y105 t108 _ ?side1 ?side2 A3.out).mono ?_); (case side1 => repeat (first | exact (Kd.V_reads' HO107.out).2.2 | (with_reducible refine Kd.C_alloc ?_ _) | (with_reducible refine Kd.C_drewN ?_ _) | (with_reducible refine Kd.C_drew ?_))); (case side2 => exact (Kd.V_reads' HO107.out).2.1); rintro e w39 ⟨rfl, hb⟩; have n0_ := Aside0.mk (Kd.V_below (by (with_reducible repeat (first | apply Kd.V_alloc | apply Kd.V_drewN | apply Kd.V_drew)); exact HO103.out) hb); have n1_ := Aside0.mk (Kd.V_below (by (with_reducible repeat (first | apply Kd.V_alloc | apply Kd.V_drewN | apply Kd.V_drew)); exact HO107.out) hb); have n2_ := Aside0.mk (below_step (by repeat (first | (with_reducible first | exact HB.out | apply below_alloc | apply pw_below_drewN | apply below_drew1) | exact HB.out)) hb); clear HO103; clear HO107; clear HB; have HO103 := n0_; have HO107 := n1_; have HB := n2_; clear n0_ n1_ n2_; (try clear hb); (try clear hb2); (try clear hk); (try clear hi)) | ((with_reducible refine gate_dst (N := 10) rfl ?_); (try (refine gate_guard (by rfl) ?_; dsimp only)); refine Hm.V_conv_lit ?hg (N' := 10) ?hd _ rfl ([52, 53, 54, 55, 56, 57] : List Int) ?hC ?hx ?hl ?_; (case hd => rfl); (case hg => rfl); (case hC => rfl); (case hx => rfl); (case hl => simp); intro v110 w40 ho41 hb; rw [← Ny109.out] at ho41; have n0_ := Aside0.mk (Kd.V_below (by (with_reducible repeat (first | apply Kd.V_alloc | apply Kd.V_drewN | apply Kd.V_drew)); exact HO103.out) hb); have n1_ := Aside0.mk (Kd.V_below (by (with_reducible repeat (first | apply Kd.V_alloc | apply Kd.V_drewN | apply Kd.V_drew)); exact HO107.out) hb); have n2_ := Aside0.mk (Kd.V_lower (Kd.V_mono (ok' := fun k_ => True) ho41 (fun k_ hk_ => trivial)) (below_size (by repeat (first | (with_reducible first | exact HB.out | apply below_alloc | apply pw_below_drewN | apply below_drew1) | exact HB.out)))); have n3_ := Aside0.mk (below_step (by repeat (first | (with_reducible first | exact HB.out | apply below_alloc | apply pw_below_drewN | apply below_drew1) | exact HB.out)) hb); clear HO103; clear HO107; clear HB; have HO103 := n0_; have HO107 := n1_; have HO111 := n2_; have HB := n3_; clear n0_ n1_ n2_ n3_; clear hb ho41; obtain ⟨Ao42, co42, eo42⟩ := Kd.V_slice HO111.out; subst eo42) | (go_at_call 16; (with_reducible refine (Hm.crc_More.calls t108 _ _ y109 t112 _ ?side1 ?side2 A4.out).mono ?_); (case side1 => repeat (first | exact (Kd.V_reads' HO111.out).2.2 | (with_reducible refine Kd.C_alloc ?_ _) | (with_reducible refine Kd.C_drewN ?_ _) | (with_reducible refine Kd.C_drew ?_))); (case side2 => exact (Kd.V_reads' HO111.out).2.1); rintro e w43 ⟨rfl, hb⟩; have n0_ := Aside0.mk (Kd.V_below (by (with_reducible repeat (first | apply Kd.V_alloc | apply Kd.V_drewN | apply Kd.V_drew)); exact HO103.out) hb); have n1_ := Aside0.mk (Kd.V_below (by (with_reducible repeat (first | apply Kd.V_alloc | apply Kd.V_drewN | apply Kd.V_drew)); exact HO107.out) hb); have n2_ := Aside0.mk (Kd.V_below (by (with_reducible repeat (first | apply Kd.V_alloc | apply Kd.V_drewN | apply Kd.V_drew)); exact HO111.out) hb); have n3_ := Aside0.mk (below_step (by repeat (first | (with_reducible first | exact HB.out | apply below_alloc | apply pw_below_drewN | apply below_drew1) | exact HB.out)) hb); clear HO103; clear HO107; clear HO111; clear HB; have HO103 := n0_; have HO107 := n1_; have HO111 := n2_; have HB := n3_; clear n0_ n1_ n2_ n3_; (try clear hb); (try clear hb2); (try clear hk); (try clear hi)) | ((with_reducible refine gate_dst (N := 16) rfl ?_); (try (refine gate_guard (by rfl) ?_; dsimp only)); refine Hm.V_conv_lit ?hg (N' := 16) ?hd _ rfl ([120] : List Int) ?hC ?hx ?hl ?_; (case hd => rfl); (case hg => rfl); (case hC => rfl); (case hx => rfl); (case hl => simp); intro v114 w44 ho45 hb; rw [← Ny113.out] at ho45; have n0_ := Aside0.mk (Kd.V_below (by (with_reducible repeat (first | apply Kd.V_alloc | apply Kd.V_drewN | apply Kd.V_drew)); exact HO103.out) hb); have n1_ := Aside0.mk (Kd.V_below (by (with_reducible repeat (first | apply Kd.V_alloc | apply Kd.V_drewN | apply Kd.V_drew)); exact HO107.out) hb); have n2_ := Aside0.mk (Kd.V_below (by (with_reducible repeat (first | apply Kd.V_alloc | apply Kd.V_drewN | apply Kd.V_drew)); exact HO111.out) hb); have n3_ := Aside0.mk (Kd.V_lower (Kd.V_mono (ok' := fun k_ => True) ho45 (fun k_ hk_ => trivial)) (below_size (by repeat (first | (with_reducible first | exact HB.out | apply below_alloc | apply pw_below_drewN | apply below_drew1) | exact HB.out)))); have n4_ := Aside0.mk (below_step (by repeat (first | (with_reducible first | exact HB.out | apply below_alloc | apply pw_below_drewN | apply below_drew1) | exact HB.out)) hb); clear HO103; clear HO107; clear HO111; clear HB; have HO103 := n0_; have HO107 := n1_; have HO111 := n2_; have HO115 := n3_; have HB := n4_; clear n0_ n1_ n2_ n3_ n4_; clear hb ho45; obtain ⟨Ao46, co46, eo46⟩ := Kd.V_slice HO115.out; subst eo46) | (go_at_call 18; (with_reducible refine (Hm.crc_Sealed.calls _ _ y113 t116 _ ?side1 ?side2 A6.out).mono ?_); (case side1 => repeat (first | exact (Kd.V_reads' HO115.out).2.2 | (with_reducible refine Kd.C_alloc ?_ _) | (with_reducible refine Kd.C_drewN ?_ _) | (with_reducible refine Kd.C_drew ?_))); (case side2 => exact (Kd.V_reads' HO115.out).2.1); rintro e w47 ⟨v117, rfl, ho0, hb⟩; have n0_ := Aside0.mk (Kd.V_elder' (by (with_reducible repeat (first | apply Kd.V_alloc | apply Kd.V_drewN | apply Kd.V_drew)); exact HO103.out) (Kd.R_base ho0) hb); have n1_ := Aside0.mk (Kd.V_elder' (by (with_reducible repeat (first | apply Kd.V_alloc | apply Kd.V_drewN | apply Kd.V_drew)); exact HO107.out) (Kd.R_base ho0) hb); have n2_ := Aside0.mk (Kd.V_elder' (by (with_reducible repeat (first | apply Kd.V_alloc | apply Kd.V_drewN | apply Kd.V_drew)); exact HO111.out) (Kd.R_base ho0) hb); have n3_ := Aside0.mk (Kd.V_elder' (by (with_reducible repeat (first | apply Kd.V_alloc | apply Kd.V_drewN | apply Kd.V_drew)); exact HO115.out) (Kd.R_base ho0) hb); have n4_ := Aside0.mk (Kd.R_lower ho0 (below_size (by repeat (first | (with_reducible first | exact HB.out | apply below_alloc | apply pw_below_drewN | apply below_drew1) | exact HB.out)))); have n5_ := Aside0.mk (below_step (by repeat (first | (with_reducible first | exact HB.out | apply below_alloc | apply pw_below_drewN | apply below_drew1) | exact HB.out)) hb); clear HO103; clear HO107; clear HO111; clear HO115; clear HB; have HO103 := n0_; have HO107 := n1_; have HO111 := n2_; have HO115 := n3_; have HO118 := n4_; have HB := n5_; clear n0_ n1_ n2_ n3_ n4_ n5_; (try clear hb); (try clear hb2); (try clear hk); (try clear hi); (try clear ho0); obtain ⟨Ao48, co48, eo48⟩ := Kd.R_slice HO118.out; subst eo48) | (go_at_call 20; (with_reducible refine (Hm.crc_Right.calls _ _ t116 false _ ?side1 ?side2 A7.out).mono ?_); (case side1 => repeat (first | exact (Kd.R_reads' HO118.out).2.2 | (with_reducible refine Kd.C_alloc ?_ _) | (with_reducible refine Kd.C_drewN ?_ _) | (with_reducible refine Kd.C_drew ?_))); (case side2 => exact (Kd.R_reads' HO118.out).2.1); rintro e w49 ⟨rfl, hb⟩; have n0_ := Aside0.mk (Kd.V_below (by (with_reducible repeat (first | apply Kd.V_alloc | apply Kd.V_drewN | apply Kd.V_drew)); exact HO103.out) hb); have n1_ := Aside0.mk (Kd.V_below (by (with_reducible repeat (first | apply Kd.V_alloc | apply Kd.V_drewN | apply Kd.V_drew)); exact HO107.out) hb); have n2_ := Aside0.mk (Kd.V_below (by (with_reducible repeat (first | apply Kd.V_alloc | apply Kd.V_drewN | apply Kd.V_drew)); exact HO111.out) hb); have n3_ := Aside0.mk (Kd.V_below (by (with_reducible repeat (first | apply Kd.V_alloc | apply Kd.V_drewN | apply Kd.V_drew)); exact HO115.out) hb); have n4_ := Aside0.mk (Kd.R_below (by (with_reducible repeat (first | apply Kd.R_alloc | apply Kd.R_drewN | apply Kd.R_drew)); exact HO118.out) hb); have n5_ := Aside0.mk (below_step (by repeat (first | (with_reducible first | exact HB.out | apply below_alloc | apply pw_below_drewN | apply below_drew1) | exact HB.out)) hb); clear HO103; clear HO107; clear HO111; clear HO115; clear HO118; clear HB; have HO103 := n0_; have HO107 := n1_; have HO111 := n2_; have HO115 := n3_; have HO118 := n4_; have HB := n5_; clear n0_ n1_ n2_ n3_ n4_ n5_; (try clear hb); (try clear hb2); (try clear hk); (try clear hi)))
        go_ret
        exact ⟨by first | rfl | (simp [errW_none, errW_some] <;> rfl) | (simp [*, errW_none, errW_some] <;> rfl), by repeat (first | (with_reducible first | exact HB.out | apply below_alloc | apply pw_below_drewN | apply below_drew1) | exact HB.out)⟩
    · rw [if_neg c5] at H
      have c5b0 : (t112 == 4236843288) = false := beq_eq_false_iff_ne.mpr c5
      have c5b1 : (t112 != 4236843288) = true := bne_iff_ne.mpr c5
      obtain rfl := Option.some.inj H
      go_enter Try.func13, Try.ntmps13
      go_wp2_with (first | ((with_reducible refine gate_dst (N := 2) rfl ?_); (try (refine gate_guard (by rfl) ?_; dsimp only)); refine Hm.V_conv_lit ?hg (N' := 2) ?hd _ rfl ([49, 50, 51, 52, 53, 54, 55, 56, 57] : List Int) ?hC ?hx ?hl ?_; (case hd => rfl); (case hg => rfl); (case hC => rfl); (case hx => rfl); (case hl => simp); intro v102 w50 ho51 hb; rw [← Ny101.out] at ho51; have n0_ := Aside0.mk (Kd.V_lower (Kd.V_mono (ok' := fun k_ => True) ho51 (fun k_ hk_ => trivial)) (below_size (by repeat (first | (with_reducible first | exact HB.out | apply below_alloc | apply pw_below_drewN | apply below_drew1) | exact HB.out)))); have n1_ := Aside0.mk (below_step (by repeat (first | (with_reducible first | exact HB.out | apply below_alloc | apply pw_below_drewN | apply below_drew1) | exact HB.out)) hb); clear HB; have HO103 := n0_; have HB := n1_; clear n0_ n1_; clear hb ho51; obtain ⟨Ao52, co52, eo52⟩ := Kd.V_slice HO103.out; subst eo52) | ((with_reducible refine gate_callee (f := 14) rfl ?_); refine goesL_ (some 3) rfl rfl Try.func14 (by kernel_rfl) rfl #[.slice Ao52 y101.length co52] rfl (by (try simp only [List.map_toArray, List.map_cons, List.map_nil]); first | done | rfl | (simp only [List.length_drop, List.length_take]; rfl)) ?_; (with_reducible refine (Hm.crc_Of.calls _ _ y101 t104 _ ?side1 ?side2 A1.out).mono ?_); (case side1 => repeat (first | exact (Kd.V_reads' HO103.out).2.2 | (with_reducible refine Kd.C_alloc ?_ _) | (with_reducible refine Kd.C_drewN ?_ _) | (with_reducible refine Kd.C_drew ?_))); (case side2 => exact (Kd.V_reads' HO103.out).2.1); rintro e w53 ⟨rfl, hb⟩; refine ⟨_, rfl, ?_⟩; have n0_ := Aside0.mk (Kd.V_below (by (with_reducible repeat (first | apply Kd.V_alloc | apply Kd.V_drewN | apply Kd.V_drew)); exact HO103.out) hb); have n1_ := Aside0.mk (below_step (by repeat (first | (with_reducible first | exact HB.out | apply below_alloc | apply pw_below_drewN | apply below_drew1) | exact HB.out)) hb); clear HO103; clear HB; have HO103 := n0_; have HB := n1_; clear n0_ n1_; (try clear hb); (try clear hb2); (try clear hk); (try clear hi)) | ((with_reducible refine gate_dst (N := 7) rfl ?_); (try (refine gate_guard (by rfl) ?_; dsimp only)); refine Hm.V_conv_lit ?hg (N' := 7) ?hd _ rfl ([49, 50, 51] : List Int) ?hC ?hx ?hl ?_; (case hd => rfl); (case hg => rfl); (case hC => rfl); (case hx => rfl); (case hl => simp); intro v106 w54 ho55 hb; rw [← Ny105.out] at ho55; have n0_ := Aside0.mk (Kd.V_below (by (with_reducible repeat (first | apply Kd.V_alloc | apply Kd.V_drewN | apply Kd.V_drew)); exact HO103.out) hb); have n1_ := Aside0.mk (Kd.V_lower (Kd.V_mono (ok' := fun k_ => True) ho55 (fun k_ hk_ => trivial)) (below_size (by repeat (first | (with_reducible first | exact HB.out | apply below_alloc | apply pw_below_drewN | apply below_drew1) | exact HB.out)))); have n2_ := Aside0.mk (below_step (by repeat (first | (with_reducible first | exact HB.out | apply below_alloc | apply pw_below_drewN | apply below_drew1) | exact HB.out)) hb); clear HO103; clear HB; have HO103 := n0_; have HO107 := n1_; have HB := n2_; clear n0_ n1_ n2_; clear hb ho55; obtain ⟨Ao56, co56, eo56⟩ := Kd.V_slice HO107.out; subst eo56) | (go_at_call 14; (with_reducible refine (Hm.crc_Of.calls _ _ y105 t108 _ ?side1 ?side2 A3.out).mono ?_); (case side1 => repeat (first | exact (Kd.V_reads' HO107.out).2.2 | (with_reducible refine Kd.C_alloc ?_ _) | (with_reducible refine Kd.C_drewN ?_ _) | (with_reducible refine Kd.C_drew ?_))); (case side2 => exact (Kd.V_reads' HO107.out).2.1); rintro e w57 ⟨rfl, hb⟩; have n0_ := Aside0.mk (Kd.V_below (by (with_reducible repeat (first | apply Kd.V_alloc | apply Kd.V_drewN | apply Kd.V_drew)); exact HO103.out) hb); have n1_ := Aside0.mk (Kd.V_below (by (with_reducible repeat (first | apply Kd.V_alloc | apply Kd.V_drewN | apply Kd.V_drew)); exact HO107.out) hb); have n2_ := Aside0.mk (below_step (by repeat (first | (with_reducible first | exact HB.out | apply below_alloc | apply pw_below_drewN | apply below_drew1) | exact HB.out)) hb); clear HO103; clear HO107; clear HB; have HO103 := n0_; have HO107 := n1_; have HB := n2_; clear n0_ n1_ n2_; (try clear hb); (try clear hb2); (try clear hk); (try clear hi)) | ((with_reducible refine gate_dst (N := 10) rfl ?_); (try (refine gate_guard (by rfl) ?_; dsimp only)); refine Hm.V_conv_lit ?hg (N' := 10) ?hd _ rfl ([52, 53, 54, 55, 56, 57] : List Int) ?hC ?hx ?hl ?_; (case hd => rfl); (case hg => rfl); (case hC => rfl); (case hx => rfl); (case hl => simp); intro v110 w58 ho59 hb; rw [← Ny109.out] at ho59; have n0_ := Aside0.mk (Kd.V_below (by (with_reducible repeat (first | apply Kd.V_alloc | apply Kd.V_drewN | apply Kd.V_drew)); exact HO103.out) hb); have n1_ := Aside0.mk (Kd.V_below (by (with_reducible repeat (first | apply Kd.V_alloc | apply Kd.V_drewN | apply Kd.V_drew)); exact HO107.out) hb); have n2_ := Aside0.mk (Kd.V_lower (Kd.V_mono (ok' := fun k_ => True) ho59 (fun k_ hk_ => trivial)) (below_size (by repeat (first | (with_reducible first | exact HB.out | apply below_alloc | apply pw_below_drewN | apply below_drew1) | exact HB.out)))); have n3_ := Aside0.mk (below_step (by repeat (first | (with_reducible first | exact HB.out | apply below_alloc | apply pw_below_drewN | apply below_drew1) | exact HB.out)) hb); clear HO103; clear HO107; clear HB; have HO103 := n0_; have HO107 := n1_; have HO111 := n2_; have HB := n3_; clear n0_ n1_ n2_ n3_; clear hb ho59; obtain ⟨Ao60, co60, eo60⟩ := Kd.V_slice HO111.out; subst eo60) | (go_at_call 16; (with_reducible refine (Hm.crc_More.calls t108 _ _ y109 t112 _ ?side1 ?side2 A4.out).mono ?_); (case side1 => repeat (first | exact (Kd.V_reads' HO111.out).2.2 | (with_reducible refine Kd.C_alloc ?_ _) | (with_reducible refine Kd.C_drewN ?_ _) | (with_reducible refine Kd.C_drew ?_))); (case side2 => exact (Kd.V_reads' HO111.out).2.1); rintro e w61 ⟨rfl, hb⟩; have n0_ := Aside0.mk (Kd.V_below (by (with_reducible repeat (first | apply Kd.V_alloc | apply Kd.V_drewN | apply Kd.V_drew)); exact HO103.out) hb); have n1_ := Aside0.mk (Kd.V_below (by (with_reducible repeat (first | apply Kd.V_alloc | apply Kd.V_drewN | apply Kd.V_drew)); exact HO107.out) hb); have n2_ := Aside0.mk (Kd.V_below (by (with_reducible repeat (first | apply Kd.V_alloc | apply Kd.V_drewN | apply Kd.V_drew)); exact HO111.out) hb); have n3_ := Aside0.mk (below_step (by repeat (first | (with_reducible first | exact HB.out | apply below_alloc | apply pw_below_drewN | apply below_drew1) | exact HB.out)) hb); clear HO103; clear HO107; clear HO111; clear HB; have HO103 := n0_; have HO107 := n1_; have HO111 := n2_; have HB := n3_; clear n0_ n1_ n2_ n3_; (try clear hb); (try clear hb2); (try clear hk); (try clear hi)))
      go_ret
      exact ⟨by first | rfl | (simp [errW_none, errW_some] <;> rfl) | (simp [*, errW_none, errW_some] <;> rfl), by repeat (first | (with_reducible first | exact HB.out | apply below_alloc | apply pw_below_drewN | apply below_drew1) | exact HB.out)⟩
  · rw [if_neg c2] at H
    have c2b0 : (t104 == 4236843288) = false := beq_eq_false_iff_ne.mpr c2
    have c2b1 : (t104 != 4236843288) = true := bne_iff_ne.mpr c2
    obtain rfl := Option.some.inj H
    go_enter Try.func13, Try.ntmps13
    go_wp2_with (first | ((with_reducible refine gate_dst (N := 2) rfl ?_); (try (refine gate_guard (by rfl) ?_; dsimp only)); refine Hm.V_conv_lit ?hg (N' := 2) ?hd _ rfl ([49, 50, 51, 52, 53, 54, 55, 56, 57] : List Int) ?hC ?hx ?hl ?_; (case hd => rfl); (case hg => rfl); (case hC => rfl); (case hx => rfl); (case hl => simp); intro v102 w62 ho63 hb; rw [← Ny101.out] at ho63; have n0_ := Aside0.mk (Kd.V_lower (Kd.V_mono (ok' := fun k_ => True) ho63 (fun k_ hk_ => trivial)) (below_size (by repeat (first | (with_reducible first | exact HB.out | apply below_alloc | apply pw_below_drewN | apply below_drew1) | exact HB.out)))); have n1_ := Aside0.mk (below_step (by repeat (first | (with_reducible first | exact HB.out | apply below_alloc | apply pw_below_drewN | apply below_drew1) | exact HB.out)) hb); clear HB; have HO103 := n0_; have HB := n1_; clear n0_ n1_; clear hb ho63; obtain ⟨Ao64, co64, eo64⟩ := Kd.V_slice HO103.out; subst eo64) | ((with_reducible refine gate_callee (f := 14) rfl ?_); refine goesL_ (some 3) rfl rfl Try.func14 (by kernel_rfl) rfl #[.slice Ao64 y101.length co64] rfl (by (try simp only [List.map_toArray, List.map_cons, List.map_nil]); first | done | rfl | (simp only [List.length_drop, List.length_take]; rfl)) ?_; (with_reducible refine (Hm.crc_Of.calls _ _ y101 t104 _ ?side1 ?side2 A1.out).mono ?_); (case side1 => repeat (first | exact (Kd.V_reads' HO103.out).2.2 | (with_reducible refine Kd.C_alloc ?_ _) | (with_reducible refine Kd.C_drewN ?_ _) | (with_reducible refine Kd.C_drew ?_))); (case side2 => exact (Kd.V_reads' HO103.out).2.1); rintro e w65 ⟨rfl, hb⟩; refine ⟨_, rfl, ?_⟩; have n0_ := Aside0.mk (Kd.V_below (by (with_reducible repeat (first | apply Kd.V_alloc | apply Kd.V_drewN | apply Kd.V_drew)); exact HO103.out) hb); have n1_ := Aside0.mk (below_step (by repeat (first | (with_reducible first | exact HB.out | apply below_alloc | apply pw_below_drewN | apply below_drew1) | exact HB.out)) hb); clear HO103; clear HB; have HO103 := n0_; have HB := n1_; clear n0_ n1_; (try clear hb); (try clear hb2); (try clear hk); (try clear hi)))
    go_ret
    exact ⟨by first | rfl | (simp [errW_none, errW_some] <;> rfl) | (simp [*, errW_none, errW_some] <;> rfl), by repeat (first | (with_reducible first | exact HB.out | apply below_alloc | apply pw_below_drewN | apply below_drew1) | exact HB.out)⟩

/-! ### removalistref02_More: function 17 -/
mutual
def removalistref02_More.l0 : Nat → ByteArray → Int → Int → Option (Int)
  | 0, _, _, _ => none
  | k + 1, x1, x5, x6 => if x6 < (x1.size : Int) then (if 0 ≤ x6 then (removalistref02_More.l1 k x1 (Go.bits .xor .u32 x5 ((((bt x1 x6) % 4294967296) * 16777216) % 4294967296)) x6 0) else (none)) else (some ((4294967295 - x5) % 4294967296))
def removalistref02_More.l1 : Nat → ByteArray → Int → Int → Int → Option (Int)
  | 0, _, _, _, _ => none
  | k + 1, x1, x5, x6, x7 => if x7 < 8 then (if x5 ≥ 2147483648 then (removalistref02_More.l1 k x1 (Go.bits .xor .u32 ((x5 * 2) % 4294967296) 79764919) x6 (wrap64 (x7 + 1))) else (removalistref02_More.l1 k x1 ((x5 * 2) % 4294967296) x6 (wrap64 (x7 + 1)))) else (removalistref02_More.l0 k x1 x5 (wrap64 (x6 + 1)))
end
def removalistref02_More.f (k : Nat) (a0 : Int) (a1 : ByteArray) : Option (Int) := removalistref02_More.l0 k a1 ((4294967295 - a0) % 4294967296) 0
theorem removalistref02_More.mono_l : ∀ k, (∀ y0 y1 y2, LeO (removalistref02_More.l0 k y0 y1 y2) (removalistref02_More.l0 (k + 1) y0 y1 y2)) ∧ (∀ y0 y1 y2 y3, LeO (removalistref02_More.l1 k y0 y1 y2 y3) (removalistref02_More.l1 (k + 1) y0 y1 y2 y3))
  | 0 => ⟨fun _ _ _ r h => by simp [removalistref02_More.l0] at h, fun _ _ _ _ r h => by simp [removalistref02_More.l1] at h⟩
  | k + 1 => by
    obtain ⟨ih0, ih1⟩ := removalistref02_More.mono_l k
    refine ⟨?_, ?_⟩
    · intro y0 y1 y2
      unfold removalistref02_More.l0
      repeat' first
      | (with_reducible exact ih0 _ _ _)
      | (with_reducible exact ih1 _ _ _ _)
      | (with_reducible exact LeO.refl _)
      | (with_reducible exact LeO.none _)
      | (with_reducible refine LeO.ite ?_ ?_)
      | (with_reducible refine LeO.bind ?_ (fun _ => ?_))
      | exact ih0 _ _ _
      | exact ih1 _ _ _ _
      | exact LeO.none _
      | refine LeO.ite ?_ ?_
      | refine LeO.bind ?_ (fun _ => ?_)
    · intro y0 y1 y2 y3
      unfold removalistref02_More.l1
      repeat' first
      | (with_reducible exact ih0 _ _ _)
      | (with_reducible exact ih1 _ _ _ _)
      | (with_reducible exact LeO.refl _)
      | (with_reducible exact LeO.none _)
      | (with_reducible refine LeO.ite ?_ ?_)
      | (with_reducible refine LeO.bind ?_ (fun _ => ?_))
      | exact ih0 _ _ _
      | exact ih1 _ _ _ _
      | exact LeO.none _
      | refine LeO.ite ?_ ?_
      | refine LeO.bind ?_ (fun _ => ?_)
theorem removalistref02_More.mono : ∀ a0 a1 k, LeO (removalistref02_More.f k a0 a1) (removalistref02_More.f (k + 1) a0 a1) := by
  intro a0 a1 k
  obtain ⟨ih0, ih1⟩ := removalistref02_More.mono_l k
  unfold removalistref02_More.f
  repeat' first
      | (with_reducible exact ih0 _ _ _)
      | (with_reducible exact ih1 _ _ _ _)
      | (with_reducible exact LeO.refl _)
      | (with_reducible exact LeO.none _)
      | (with_reducible refine LeO.ite ?_ ?_)
      | (with_reducible refine LeO.bind ?_ (fun _ => ?_))
      | exact ih0 _ _ _
      | exact ih1 _ _ _ _
      | exact LeO.none _
      | refine LeO.ite ?_ ?_
      | refine LeO.bind ?_ (fun _ => ?_)
set_option maxHeartbeats 8000000 in
set_option maxRecDepth 100000 in
theorem removalistref02_More.calls (k : Nat) (a0 : Int) (a1 : ByteArray) (r : Int) (w : World) (h : removalistref02_More.f k a0 a1 = some r) :
    Calls Try.prog 17 #[.int .u32 a0, .string a1] w fun e w' => e = .returned (.int .u32 r) ∧ Drawn0 w w' := by
  have H : (removalistref02_More.l0 k a1 ((4294967295 - a0) % 4294967296) 0) = some r := h
  clear h
  have H' := Aside0.mk H
  clear H
  go_enter Try.func17, Try.ntmps17
  go_wp2
  go_loopg [5, 6] k (fun kq v5 v6 w' => ∃ (x5_1 : Int) (x6_1 : Int), v5 = .int .u32 x5_1 ∧ v6 = .int .i64 x6_1 ∧ Aside0 (removalistref02_More.l0 kq a1 x5_1 x6_1 = some r) ∧ Aside0 (kq ≤ k) ∧ Drawn0 w w')
  case atStart => exact ⟨((4294967295 - a0) % 4294967296), (0), (by first | rfl | (simp; done) | (simp [*]; done)), (by first | rfl | (simp; done) | (simp [*]; done)), H', ⟨Nat.le_refl _⟩, by repeat (first | exact Drawn0.refl _ | apply Drawn0.step)⟩
  case round =>
    clear H'
    try clear c1
    try clear p2
    obtain ⟨x5_1, x6_1, rfl, rfl, HA, HK1, ⟨m1, rfl⟩⟩ := hrel
    cases gk with
    | zero => exact absurd HA.out (by simp [removalistref02_More.l0])
    | succ k1 =>
      have H := HA.out
      clear HA
      simp only [removalistref02_More.l0] at H
      by_cases c3 : x6_1 < (a1.size : Int)
      · rw [if_pos c3] at H
        have c3b0 : decide (x6_1 < (a1.size : Int)) = true := decide_eq_true c3
        clear c3
        by_cases c4 : 0 ≤ x6_1
        · rw [if_pos c4] at H
          have c4b0 : decide (0 ≤ x6_1) = true := decide_eq_true c4
          clear c4
          have H' := Aside0.mk H
          clear H
          have p5 : 0 ≤ (x6_1 : Int) := of_decide_eq_true (by first | (with_reducible assumption) | assumption)
          have q5 : x6_1 < (a1.size : Int) := of_decide_eq_true (by first | (with_reducible assumption) | assumption)
          have hx5 := bt_at a1 x6_1
          replace p5 := eq_true p5
          replace q5 := eq_true q5
          go_wp2
          go_loopg [5, 7] k1 (fun kq v5 v7 w' => ∃ (x5_2 : Int) (x7_2 : Int), v5 = .int .u32 x5_2 ∧ v7 = .int .i64 x7_2 ∧ Aside0 (removalistref02_More.l1 kq a1 x5_2 x6_1 x7_2 = some r) ∧ Aside0 (kq ≤ k1) ∧ Drawn0 w w')
          case atStart => exact ⟨(Go.bits .xor .u32 x5_1 ((((bt a1 x6_1) % 4294967296) * 16777216) % 4294967296)), (0), (by first | rfl | (simp; done) | (simp [*]; done)), (by first | rfl | (simp; done) | (simp [*]; done)), H', ⟨Nat.le_refl _⟩, by repeat (first | exact Drawn0.refl _ | apply Drawn0.step)⟩
          case round =>
            clear H'
            try clear c1
            try clear p2
            try clear c3
            try clear c3b0
            try clear c4
            try clear c4b0
            try clear p5
            try clear q5
            try clear hx5
            try clear p2
            try clear p5
            try clear q5
            obtain ⟨x5_2, x7_2, rfl, rfl, HA, HK2, ⟨m2, rfl⟩⟩ := hrel
            cases gk with
            | zero => exact absurd HA.out (by simp [removalistref02_More.l1])
            | succ k2 =>
              have H := HA.out
              clear HA
              simp only [removalistref02_More.l1] at H
              by_cases c6 : x7_2 < 8
              · rw [if_pos c6] at H
                have c6b0 : decide (x7_2 < 8) = true := decide_eq_true c6
                clear c6
                by_cases c7 : x5_2 ≥ 2147483648
                · rw [if_pos c7] at H
                  have c7b0 : decide (2147483648 ≤ x5_2) = true := decide_eq_true c7
                  clear c7
                  have H' := Aside0.mk H
                  clear H
                  go_wp2
                  go_roundg k2
                  case measure => have := HK1.out; have := HK2.out; omega
                  case rel => exact ⟨(Go.bits .xor .u32 ((x5_2 * 2) % 4294967296) 79764919), (wrap64 (x7_2 + 1)), (by first | rfl | (simp; done) | (simp [*]; done)), (by first | rfl | (simp; done) | (simp [*]; done)), H', ⟨by have := HK1.out; have := HK2.out; omega⟩, by repeat (first | exact Drawn0.refl _ | apply Drawn0.step)⟩
                · rw [if_neg c7] at H
                  have c7b0 : decide (2147483648 ≤ x5_2) = false := decide_eq_false c7
                  clear c7
                  have H' := Aside0.mk H
                  clear H
                  go_wp2
                  go_roundg k2
                  case measure => have := HK1.out; have := HK2.out; omega
                  case rel => exact ⟨((x5_2 * 2) % 4294967296), (wrap64 (x7_2 + 1)), (by first | rfl | (simp; done) | (simp [*]; done)), (by first | rfl | (simp; done) | (simp [*]; done)), H', ⟨by have := HK1.out; have := HK2.out; omega⟩, by repeat (first | exact Drawn0.refl _ | apply Drawn0.step)⟩
              · rw [if_neg c6] at H
                have c6b0 : decide (x7_2 < 8) = false := decide_eq_false c6
                clear c6
                have H' := Aside0.mk H
                clear H
                go_wp2
                go_roundg k2
                case measure => have := HK1.out; have := HK2.out; omega
                case rel => exact ⟨(x5_2), (wrap64 (x6_1 + 1)), (by first | rfl | (simp; done) | (simp [*]; done)), (by first | rfl | (simp; done) | (simp [*]; done)), H', ⟨by have := HK1.out; have := HK2.out; omega⟩, by repeat (first | exact Drawn0.refl _ | apply Drawn0.step)⟩
        · rw [if_neg c4] at H
          exact absurd H (by simp)
      · rw [if_neg c3] at H
        have c3b0 : decide (x6_1 < (a1.size : Int)) = false := decide_eq_false c3
        clear c3
        obtain rfl := Option.some.inj H
        go_wp2
        go_ret
        exact ⟨by first | rfl | (simp; done) | (simp [*]; done), by repeat (first | exact Drawn0.refl _ | apply Drawn0.step)⟩

/-! ### removalistref02_Of: function 15 -/
def removalistref02_Of.f (k : Nat) (a0 : ByteArray) : Option (Int) := (removalistref02_More.f k 0 a0).bind fun t124 => (some t124)
theorem removalistref02_Of.mono : ∀ a0 k, LeO (removalistref02_Of.f k a0) (removalistref02_Of.f (k + 1) a0) := by
  intro a0 k
  unfold removalistref02_Of.f
  repeat' first
      | (with_reducible exact removalistref02_More.mono _ _ _)
      | (with_reducible exact LeO.refl _)
      | (with_reducible exact LeO.none _)
      | (with_reducible refine LeO.ite ?_ ?_)
      | (with_reducible refine LeO.bind ?_ (fun _ => ?_))
      | exact removalistref02_More.mono _ _ _
      | exact LeO.none _
      | refine LeO.ite ?_ ?_
      | refine LeO.bind ?_ (fun _ => ?_)
set_option maxHeartbeats 8000000 in
set_option maxRecDepth 100000 in
theorem removalistref02_Of.calls (k : Nat) (a0 : ByteArray) (r : Int) (w : World) (h : removalistref02_Of.f k a0 = some r) :
    Calls Try.prog 15 #[.string a0] w fun e w' => e = .returned (.int .u32 r) ∧ Drawn0 w w' := by
  have H : ((removalistref02_More.f k 0 a0).bind fun t124 => (some t124)) = some r := h
  clear h
  replace H := Option.bind_eq_some_iff.mp H
  obtain ⟨t124, A20, H⟩ := H
  replace H : (some t124) = some r := H
  have A2 := Aside0.mk A20
  clear A20
  obtain rfl := Option.some.inj H
  go_enter Try.func15, Try.ntmps15
  go_wp2_with (first | ((with_reducible refine gate_callee (f := 17) rfl ?_); refine goesL_ (some 4) rfl rfl Try.func17 (by kernel_rfl) rfl #[.int .u32 0, .string a0] rfl (by (try simp only [List.map_toArray, List.map_cons, List.map_nil]); first | done | rfl | (simp only [List.length_drop, List.length_take]; rfl)) ?_; (with_reducible refine (removalistref02_More.calls k 0 a0 t124 _ A2.out).mono ?_); rintro e w' ⟨rfl, ⟨nd, rfl⟩⟩; refine ⟨_, rfl, ?_⟩))
  go_ret
  exact ⟨by first | rfl | (simp; done) | (simp [*]; done), by repeat (first | exact Drawn0.refl _ | apply Drawn0.step)⟩

/-! ### removalistref01_U32: function 30 -/
def removalistref01_U32.f (a0 : Int) : Option (ByteArray) := some (strOfNums (([((Int.tdiv a0 16777216) % 4294967296) % 256, ((Int.tdiv a0 65536) % 4294967296) % 256, ((Int.tdiv a0 256) % 4294967296) % 256, (a0) % 256] : List Int)))
set_option maxHeartbeats 8000000 in
set_option maxRecDepth 100000 in
theorem removalistref01_U32.calls (a0 : Int) (r : ByteArray) (w : World) (h : removalistref01_U32.f a0 = some r) :
    Calls Try.prog 30 #[.int .u32 a0] w fun e w' => e = .returned (.string r) ∧ Below w.heap.size w w' := by
  have HB := Aside0.mk (Below.refl w.heap.size w)
  have H : (some (strOfNums (([((Int.tdiv a0 16777216) % 4294967296) % 256, ((Int.tdiv a0 65536) % 4294967296) % 256, ((Int.tdiv a0 256) % 4294967296) % 256, (a0) % 256] : List Int)))) = some r := h
  clear h
  obtain ⟨y125, hy125⟩ : ∃ y_ : List Int, y_ = (([((Int.tdiv a0 16777216) % 4294967296) % 256, ((Int.tdiv a0 65536) % 4294967296) % 256, ((Int.tdiv a0 256) % 4294967296) % 256, (a0) % 256] : List Int)) := ⟨_, rfl⟩
  replace H : (some (strOfNums y125)) = some r := by first | (rw [hy125]; with_reducible exact H) | (have H2_ := (Option.bind_some _ _).symm.trans H; rw [hy125]; with_reducible exact H2_) | (have H2_ := (Option.bind_some _ _).symm.trans H; with_reducible exact H2_) | with_reducible exact H | (rw [hy125]; exact H) | exact H
  have Ny125 := Aside0.mk hy125
  clear hy125
  obtain rfl := Option.some.inj H
  go_enter Try.func30, Try.ntmps30
  go_wp2_with (first | ((with_reducible refine gate_dst (N := 14) rfl ?_); refine Kd.R_lit (Kd.int .u8) _ 5 ?hg (N := 14) ?hd (xs := ([((Int.tdiv a0 16777216) % 4294967296) % 256, ((Int.tdiv a0 65536) % 4294967296) % 256, ((Int.tdiv a0 256) % 4294967296) % 256, (a0) % 256] : List Int)) (inner := [.int .u8 (((Int.tdiv a0 16777216) % 4294967296) % 256), .int .u8 (((Int.tdiv a0 65536) % 4294967296) % 256), .int .u8 (((Int.tdiv a0 256) % 4294967296) % 256), .int .u8 ((a0) % 256)]) (ok := fun _ => True) (okp := fun _ => True) ?hr ?hp (fun _ hk => hk) trivial (Below.refl _ _) (Nat.le_refl _) (by simp) ?_; (case hd => rfl); (case hg => rfl); (case hr => first | (go_simp; done) | (go_simp; rfl)); (case hp => exact (Reps.one (show Kd.M (Kd.int .u8) _ _ _ (((Int.tdiv a0 16777216) % 4294967296) % 256) [.int .u8 (((Int.tdiv a0 16777216) % 4294967296) % 256)] from rfl) (Reps.one (show Kd.M (Kd.int .u8) _ _ _ (((Int.tdiv a0 65536) % 4294967296) % 256) [.int .u8 (((Int.tdiv a0 65536) % 4294967296) % 256)] from rfl) (Reps.one (show Kd.M (Kd.int .u8) _ _ _ (((Int.tdiv a0 256) % 4294967296) % 256) [.int .u8 (((Int.tdiv a0 256) % 4294967296) % 256)] from rfl) (Reps.one (show Kd.M (Kd.int .u8) _ _ _ ((a0) % 256) [.int .u8 ((a0) % 256)] from rfl) (Reps.none _ _)))))); intro v126 w2 ho3 hb hg_ hnew_; clear hg_ hnew_; (first | rw [← Ny125.out] at ho3 | (simp only [Int.reduceToNat] at ho3; rw [← Ny125.out] at ho3)); have n0_ := Aside0.mk (Kd.R_lower ho3 (below_size (by repeat (first | (with_reducible first | exact HB.out | apply below_alloc | apply pw_below_drewN | apply below_drew1) | exact HB.out)))); have n1_ := Aside0.mk (below_step (by repeat (first | (with_reducible first | exact HB.out | apply below_alloc | apply pw_below_drewN | apply below_drew1) | exact HB.out)) hb); clear HB; have HO127 := n0_; have HB := n1_; clear n0_ n1_; clear hb ho3; have hcv4 := own_string (P := Try.prog) Try.underlying23 Try.underlying5 Try.underlying9 (Kd.own_of_R HO127.out)))
  go_ret
  exact ⟨by first | rfl | (simp [errW_none, errW_some] <;> rfl) | (simp [*, errW_none, errW_some] <;> rfl), by repeat (first | (with_reducible first | exact HB.out | apply below_alloc | apply pw_below_drewN | apply below_drew1) | exact HB.out)⟩

/-! ### removalistref02_Sealed: function 19 -/
def removalistref02_Sealed.f (k : Nat) (a0 : ByteArray) : Option (ByteArray) := (removalistref02_Of.f k a0).bind fun t128 => ((removalistref01_U32.f t128).bind fun t129 => (if a0.size + t129.size ≤ 9223372036854775807 then (some (a0 ++ t129)) else (none)))
theorem removalistref02_Sealed.mono : ∀ a0 k, LeO (removalistref02_Sealed.f k a0) (removalistref02_Sealed.f (k + 1) a0) := by
  intro a0 k
  unfold removalistref02_Sealed.f
  repeat' first
      | (with_reducible exact removalistref02_Of.mono _ _)
      | (with_reducible exact LeO.refl _)
      | (with_reducible exact LeO.none _)
      | (with_reducible refine LeO.ite ?_ ?_)
      | (with_reducible refine LeO.bind ?_ (fun _ => ?_))
      | exact removalistref02_Of.mono _ _
      | exact LeO.none _
      | refine LeO.ite ?_ ?_
      | refine LeO.bind ?_ (fun _ => ?_)
set_option maxHeartbeats 8000000 in
set_option maxRecDepth 100000 in
theorem removalistref02_Sealed.calls (k : Nat) (a0 : ByteArray) (r : ByteArray) (w : World) (h : removalistref02_Sealed.f k a0 = some r) :
    Calls Try.prog 19 #[.string a0] w fun e w' => e = .returned (.string r) ∧ Below w.heap.size w w' := by
  have HB := Aside0.mk (Below.refl w.heap.size w)
  have H : ((removalistref02_Of.f k a0).bind fun t128 => ((removalistref01_U32.f t128).bind fun t129 => (if a0.size + t129.size ≤ 9223372036854775807 then (some (a0 ++ t129)) else (none)))) = some r := h
  clear h
  replace H := Option.bind_eq_some_iff.mp H
  obtain ⟨t128, A20, H⟩ := H
  replace H : ((removalistref01_U32.f t128).bind fun t129 => (if a0.size + t129.size ≤ 9223372036854775807 then (some (a0 ++ t129)) else (none))) = some r := H
  have A2 := Aside0.mk A20
  clear A20
  replace H := Option.bind_eq_some_iff.mp H
  obtain ⟨t129, A30, H⟩ := H
  replace H : (if a0.size + t129.size ≤ 9223372036854775807 then (some (a0 ++ t129)) else (none)) = some r := H
  have A3 := Aside0.mk A30
  clear A30
  by_cases c4 : a0.size + t129.size ≤ 9223372036854775807
  · rw [if_pos c4] at H
    have c4b0 := eq_true c4
    have c4b1 : decide (a0.size + t129.size ≤ 9223372036854775807) = true := decide_eq_true c4
    try have c4b2 : (9223372036854775807 < a0.size + t129.size) = False := eq_false (Nat.not_lt.2 c4)
    obtain rfl := Option.some.inj H
    go_enter Try.func19, Try.ntmps19
    go_wp2_with (first | ((with_reducible refine gate_callee (f := 15) rfl ?_); refine goesL_ (some 5) rfl rfl Try.func15 (by kernel_rfl) rfl #[.string a0] rfl (by (try simp only [List.map_toArray, List.map_cons, List.map_nil]); first | done | rfl | (simp only [List.length_drop, List.length_take]; rfl)) ?_; (with_reducible refine (removalistref02_Of.calls k a0 t128 _ A2.out).mono ?_); rintro e w' ⟨rfl, ⟨nd, rfl⟩⟩; refine ⟨_, rfl, ?_⟩) | ((with_reducible refine gate_callee (f := 30) rfl ?_); refine goesL_ (some 6) rfl rfl Try.func30 (by kernel_rfl) rfl #[.int .u32 t128] rfl (by (try simp only [List.map_toArray, List.map_cons, List.map_nil]); first | done | rfl | (simp only [List.length_drop, List.length_take]; rfl)) ?_; (with_reducible refine (removalistref01_U32.calls t128 t129 _ A3.out).mono ?_); rintro e w5 ⟨rfl, hb⟩; refine ⟨_, rfl, ?_⟩; have n0_ := Aside0.mk (below_step (by repeat (first | (with_reducible first | exact HB.out | apply below_alloc | apply pw_below_drewN | apply below_drew1) | exact HB.out)) hb); clear HB; have HB := n0_; clear n0_; (try clear hb); (try clear hb2); (try clear hk); (try clear hi)))
    go_ret
    exact ⟨by first | rfl | (simp [errW_none, errW_some] <;> rfl) | (simp [*, errW_none, errW_some] <;> rfl), by repeat (first | (with_reducible first | exact HB.out | apply below_alloc | apply pw_below_drewN | apply below_drew1) | exact HB.out)⟩
  · rw [if_neg c4] at H
    exact absurd H (by simp)

/-! ### removalistref02_Right: function 21 -/
def removalistref02_Right.f (k : Nat) (a0 : ByteArray) : Option (Bool) := if (a0.size : Int) ≥ 4 then (if 0 ≤ (wrap64 ((a0.size : Int) - 4)) then (if (wrap64 ((a0.size : Int) - 4)) ≤ (a0.size : Int) then ((removalistref02_Sealed.f k (a0.extract 0 ((wrap64 ((a0.size : Int) - 4)) : Int).toNat)).bind fun t130 => (some (t130.toList == a0.toList))) else (none)) else (none)) else (some false)
theorem removalistref02_Right.mono : ∀ a0 k, LeO (removalistref02_Right.f k a0) (removalistref02_Right.f (k + 1) a0) := by
  intro a0 k
  unfold removalistref02_Right.f
  repeat' first
      | (with_reducible exact removalistref02_Sealed.mono _ _)
      | (with_reducible exact LeO.refl _)
      | (with_reducible exact LeO.none _)
      | (with_reducible refine LeO.ite ?_ ?_)
      | (with_reducible refine LeO.bind ?_ (fun _ => ?_))
      | exact removalistref02_Sealed.mono _ _
      | exact LeO.none _
      | refine LeO.ite ?_ ?_
      | refine LeO.bind ?_ (fun _ => ?_)
set_option maxHeartbeats 8000000 in
set_option maxRecDepth 100000 in
theorem removalistref02_Right.calls (k : Nat) (a0 : ByteArray) (r : Bool) (w : World) (h : removalistref02_Right.f k a0 = some r) :
    Calls Try.prog 21 #[.string a0] w fun e w' => e = .returned (.bool r) ∧ Below w.heap.size w w' := by
  have HB := Aside0.mk (Below.refl w.heap.size w)
  have H : (if (a0.size : Int) ≥ 4 then (if 0 ≤ (wrap64 ((a0.size : Int) - 4)) then (if (wrap64 ((a0.size : Int) - 4)) ≤ (a0.size : Int) then ((removalistref02_Sealed.f k (a0.extract 0 ((wrap64 ((a0.size : Int) - 4)) : Int).toNat)).bind fun t130 => (some (t130.toList == a0.toList))) else (none)) else (none)) else (some false)) = some r := h
  clear h
  by_cases c2 : (a0.size : Int) ≥ 4
  · rw [if_pos c2] at H
    have c2b0 : decide (4 ≤ (a0.size : Int)) = true := decide_eq_true c2
    have c2b1 : decide (4 ≤ a0.size) = true := decide_eq_true (by omega)
    clear c2
    obtain ⟨ji3, hji3⟩ : ∃ j_ : Int, (wrap64 ((a0.size : Int) - 4)) = j_ := ⟨_, rfl⟩
    replace H : (if 0 ≤ (ji3) then (if (ji3) ≤ (a0.size : Int) then ((removalistref02_Sealed.f k (a0.extract 0 ((ji3) : Int).toNat)).bind fun t130 => (some (t130.toList == a0.toList))) else (none)) else (none)) = some r := by first | (rw [hji3] at H; exact H) | (simp only [hji3] at H ⊢; exact H)
    have hji3w : (IntKind.i64.wrap ((a0.size : Int) - 4)) = ji3 := (i64_w _).trans hji3
    by_cases c4 : 0 ≤ (ji3)
    · rw [if_pos c4] at H
      have c4b0 := eq_true c4
      have c4b1 : decide (0 ≤ (ji3)) = true := decide_eq_true c4
      clear c4
      by_cases c5 : (ji3) ≤ (a0.size : Int)
      · rw [if_pos c5] at H
        have c5b0 := eq_true c5
        have c5b1 : decide ((ji3) ≤ (a0.size : Int)) = true := decide_eq_true c5
        clear c5
        replace H := Option.bind_eq_some_iff.mp H
        obtain ⟨t130, A60, H⟩ := H
        replace H : (some (t130.toList == a0.toList)) = some r := H
        have A6 := Aside0.mk A60
        clear A60
        obtain rfl := Option.some.inj H
        go_enter Try.func21, Try.ntmps21
        go_wp2_with (first | (go_at_call 19; (with_reducible refine (removalistref02_Sealed.calls k (a0.extract 0 ((ji3) : Int).toNat) t130 _ A6.out).mono ?_); rintro e w7 ⟨rfl, hb⟩; have n0_ := Aside0.mk (below_step (by repeat (first | (with_reducible first | exact HB.out | apply below_alloc | apply pw_below_drewN | apply below_drew1) | exact HB.out)) hb); clear HB; have HB := n0_; clear n0_; (try clear hb); (try clear hb2); (try clear hk); (try clear hi)))
        go_ret
        exact ⟨by first | rfl | (simp [errW_none, errW_some] <;> rfl) | (simp only [← hji3]; first | rfl | (simp [errW_none, errW_some] <;> rfl)) | (simp [*, errW_none, errW_some] <;> rfl), by repeat (first | (with_reducible first | exact HB.out | apply below_alloc | apply pw_below_drewN | apply below_drew1) | exact HB.out)⟩
      · rw [if_neg c5] at H
        exact absurd H (by simp)
    · rw [if_neg c4] at H
      exact absurd H (by simp)
  · rw [if_neg c2] at H
    have c2b0 : decide (4 ≤ (a0.size : Int)) = false := decide_eq_false c2
    have c2b1 : decide (4 ≤ a0.size) = false := decide_eq_false (by omega)
    clear c2
    obtain rfl := Option.some.inj H
    go_enter Try.func21, Try.ntmps21
    go_wp2
    go_ret
    exact ⟨by first | rfl | (simp [errW_none, errW_some] <;> rfl) | (simp [*, errW_none, errW_some] <;> rfl), by repeat (first | (with_reducible first | exact HB.out | apply below_alloc | apply pw_below_drewN | apply below_drew1) | exact HB.out)⟩

end Go.Proofs.Ytelhdgnolijpcaa.PCrcOf
end
section
/- Written by a program of this session (the kit's print, turned by patch-print.py so that it takes contracts proved by hand): functions and what their calls come to. -/
namespace Go.Proofs.Ytelhdgnolijpcaa.PCrcOf
open Go.RowKit Go.Proofs.YtelhdgnolijpcaaW.PrintWords Go.Proofs.YtelhdgnolijpcaaW.PrintLast Go.Proofs.YtelhdgnolijpcaaW.PrintMore
attribute [local go_sem] max2_int min2_int max_two min_two max_three min_three max_four min_four   -- for this text's walks alone
set_option linter.unusedVariables false
set_option linter.unusedSimpArgs false

/-! ### removalistlaw02_CrcOf: function 3 -/
def removalistlaw02_CrcOf.f (k : Nat) (a0 : Int) (l1 : List Int) : Option (Bool) := (removalistlaw02_awake.f).bind fun t131 => (if t131 = true then (if (l1.length : Int) > 400 then (some true) else ((Hm.crc_Of.f l1).bind fun t132 => ((removalistref02_Of.f k (strOfNums l1)).bind fun t133 => (if t132 = t133 then ((Hm.crc_More.f a0 l1).bind fun t134 => ((removalistref02_More.f k a0 (strOfNums l1)).bind fun t135 => (if t134 = t135 then ((Hm.crc_Sealed.f l1).bind fun t136 => ((removalistref02_Sealed.f k (strOfNums l1)).bind fun t139 => (if (strOfNums t136).toList = t139.toList then ((Hm.crc_Right.f l1).bind fun t140 => ((removalistref02_Right.f k (strOfNums l1)).bind fun t141 => (some (t140 == t141)))) else (some false)))) else (some false)))) else (some false))))) else (some false))
theorem removalistlaw02_CrcOf.mono : ∀ a0 a1 k, LeO (removalistlaw02_CrcOf.f k a0 a1) (removalistlaw02_CrcOf.f (k + 1) a0 a1) := by
  intro a0 a1 k
  unfold removalistlaw02_CrcOf.f
  repeat' first
      | (with_reducible exact removalistref02_More.mono _ _ _)
      | (with_reducible exact removalistref02_Of.mono _ _)
      | (with_reducible exact removalistref02_Right.mono _ _)
      | (with_reducible exact removalistref02_Sealed.mono _ _)
      | (with_reducible exact LeO.refl _)
      | (with_reducible exact LeO.none _)
      | (with_reducible refine LeO.ite ?_ ?_)
      | (with_reducible refine LeO.bind ?_ (fun _ => ?_))
      | exact removalistref02_More.mono _ _ _
      | exact removalistref02_Of.mono _ _
      | exact removalistref02_Right.mono _ _
      | exact removalistref02_Sealed.mono _ _
      | exact LeO.none _
      | refine LeO.ite ?_ ?_
      | refine LeO.bind ?_ (fun _ => ?_)
def removalistlaw02_CrcOf.T7 : Bool × List (List Nat × List Nat) := (true, [([], []), ([0], [0]), ([], []), ([2, 1], [2]), ([1, 3], [1, 3]), ([4, 3], [4]), ([5], [5]), ([5], [5]), ([6, 7, 5, 5], [5, 6, 7]), ([5], [5]), ([5], [5]), ([9, 10, 8, 5], [5, 9, 10]), ([8, 11, 5], [5, 8, 11]), ([5, 12], [5, 12]), ([13, 11], [13]), ([14], [14]), ([15, 14, 14], [14, 15]), ([16, 14], [14, 16]), ([14], [14]), ([18, 16, 14], [14, 18]), ([17, 19, 14], [14, 17, 19]), ([14, 20], [14, 20]), ([21, 19], [21]), ([22], [22]), ([23, 22, 22], [22, 23]), ([22], [22]), ([25, 24, 22], [22, 25]), ([24, 26, 22], [22, 24, 26]), ([22, 27], [22, 27]), ([28, 26, 0, 1, 2, 3, 4, 5, 6, 7, 8, 9, 10, 11, 12, 13, 14, 15, 16, 17, 18, 19, 20, 21, 22, 23, 24, 25, 26, 27, 28], [28])])
def removalistlaw02_CrcOf.B7 : List Nat := [0, 1, 0, 7, 15, 31, 63, 63, 255, 63, 63, 2047, 4095, 8191, 16383, 32767, 65535, 131071, 32767, 393215, 1048575, 2097151, 4194303, 8388607, 16777215, 8388607, 67108863, 134217727, 268435455, 536870911]
theorem removalistlaw02_CrcOf.tab7 : rtab .any (opsOf Try.f3 7) = removalistlaw02_CrcOf.T7 := by kernel_rfl
theorem removalistlaw02_CrcOf.bits7 : waitsOk removalistlaw02_CrcOf.T7.2 removalistlaw02_CrcOf.B7 = true := by kernel_rfl
set_option maxHeartbeats 8000000 in
set_option maxRecDepth 100000 in
theorem removalistlaw02_CrcOf.calls (k : Nat) (a0 : Int) (A1 : Option Addr) (c1 : Nat) (l1 : List Int) (r : Bool) (w : World) (hr1 : Kd.C (Kd.int .u8) w A1 l1.length l1) (hc1 : l1.length ≤ c1) (h : removalistlaw02_CrcOf.f k a0 l1 = some r) :
    Calls Try.prog 3 #[.int .u32 a0, .slice A1 l1.length c1] w fun e w' => e = .returned (.bool r) ∧ Below w.heap.size w w' := by
  have HR1 := Aside0.mk hr1
  have HC1 := Aside0.mk hc1
  clear hr1 hc1
  have HB := Aside0.mk (Below.refl w.heap.size w)
  have H : ((removalistlaw02_awake.f).bind fun t131 => (if t131 = true then (if (l1.length : Int) > 400 then (some true) else ((Hm.crc_Of.f l1).bind fun t132 => ((removalistref02_Of.f k (strOfNums l1)).bind fun t133 => (if t132 = t133 then ((Hm.crc_More.f a0 l1).bind fun t134 => ((removalistref02_More.f k a0 (strOfNums l1)).bind fun t135 => (if t134 = t135 then ((Hm.crc_Sealed.f l1).bind fun t136 => ((removalistref02_Sealed.f k (strOfNums l1)).bind fun t139 => (if (strOfNums t136).toList = t139.toList then ((Hm.crc_Right.f l1).bind fun t140 => ((removalistref02_Right.f k (strOfNums l1)).bind fun t141 => (some (t140 == t141)))) else (some false)))) else (some false)))) else (some false))))) else (some false))) = some r := h
  clear h
  replace H := Option.bind_eq_some_iff.mp H
  obtain ⟨t131, A30, H⟩ := H
  replace H : (if t131 = true then (if (l1.length : Int) > 400 then (some true) else ((Hm.crc_Of.f l1).bind fun t132 => ((removalistref02_Of.f k (strOfNums l1)).bind fun t133 => (if t132 = t133 then ((Hm.crc_More.f a0 l1).bind fun t134 => ((removalistref02_More.f k a0 (strOfNums l1)).bind fun t135 => (if t134 = t135 then ((Hm.crc_Sealed.f l1).bind fun t136 => ((removalistref02_Sealed.f k (strOfNums l1)).bind fun t139 => (if (strOfNums t136).toList = t139.toList then ((Hm.crc_Right.f l1).bind fun t140 => ((removalistref02_Right.f k (strOfNums l1)).bind fun t141 => (some (t140 == t141)))) else (some false)))) else (some false)))) else (some false))))) else (some false)) = some r := H
  have A3 := Aside0.mk A30
  clear A30
  by_cases c4 : t131 = true
  · subst c4
    have H1 : (if (l1.length : Int) > 400 then (some true) else ((Hm.crc_Of.f l1).bind fun t132 => ((removalistref02_Of.f k (strOfNums l1)).bind fun t133 => (if t132 = t133 then ((Hm.crc_More.f a0 l1).bind fun t134 => ((removalistref02_More.f k a0 (strOfNums l1)).bind fun t135 => (if t134 = t135 then ((Hm.crc_Sealed.f l1).bind fun t136 => ((removalistref02_Sealed.f k (strOfNums l1)).bind fun t139 => (if (strOfNums t136).toList = t139.toList then ((Hm.crc_Right.f l1).bind fun t140 => ((removalistref02_Right.f k (strOfNums l1)).bind fun t141 => (some (t140 == t141)))) else (some false)))) else (some false)))) else (some false))))) = some r := by rw [if_pos rfl] at H; exact H
    clear H
    have H := H1
    clear H1
    by_cases c5 : (l1.length : Int) > 400
    · rw [if_pos c5] at H
      have c5b0 : decide (400 < (l1.length : Int)) = true := decide_eq_true c5
      have c5b1 : decide (400 < l1.length) = true := decide_eq_true (by omega)
      clear c5
      obtain rfl := Option.some.inj H
      go_enter Try.func3, Try.ntmps3
      go_wp2_with (first | ((with_reducible refine gate_callee (f := 13) rfl ?_); refine goesL_ (some 7) rfl rfl Try.func13 (by kernel_rfl) rfl #[] rfl (by (try simp only [List.map_toArray, List.map_cons, List.map_nil]); first | done | rfl | (simp only [List.length_drop, List.length_take]; rfl)) ?_; (with_reducible refine (removalistlaw02_awake.calls  true _ A3.out).mono ?_); rintro e w6 ⟨rfl, hb⟩; refine ⟨_, rfl, ?_⟩; have n0_ := Aside0.mk (below_step (by repeat (first | (with_reducible first | exact HB.out | apply below_alloc | apply pw_below_drewN | apply below_drew1) | exact HB.out)) hb); clear HB; have HB := n0_; clear n0_; (try clear hb); (try clear hb2); (try clear hk); (try clear hi)))
      go_ret
      exact ⟨by first | rfl | (simp [errW_none, errW_some] <;> rfl) | (simp [*, errW_none, errW_some] <;> rfl), by repeat (first | (with_reducible first | exact HB.out | apply below_alloc | apply pw_below_drewN | apply below_drew1) | exact HB.out)⟩
    · rw [if_neg c5] at H
      have c5b0 : decide (400 < (l1.length : Int)) = false := decide_eq_false c5
      have c5b1 : decide (400 < l1.length) = false := decide_eq_false (by omega)
      clear c5
      replace H := Option.bind_eq_some_iff.mp H
      obtain ⟨t132, A70, H⟩ := H
      replace H : ((removalistref02_Of.f k (strOfNums l1)).bind fun t133 => (if t132 = t133 then ((Hm.crc_More.f a0 l1).bind fun t134 => ((removalistref02_More.f k a0 (strOfNums l1)).bind fun t135 => (if t134 = t135 then ((Hm.crc_Sealed.f l1).bind fun t136 => ((removalistref02_Sealed.f k (strOfNums l1)).bind fun t139 => (if (strOfNums t136).toList = t139.toList then ((Hm.crc_Right.f l1).bind fun t140 => ((removalistref02_Right.f k (strOfNums l1)).bind fun t141 => (some (t140 == t141)))) else (some false)))) else (some false)))) else (some false))) = some r := H
      have A7 := Aside0.mk A70
      clear A70
      replace H := Option.bind_eq_some_iff.mp H
      obtain ⟨t133, A80, H⟩ := H
      replace H : (if t132 = t133 then ((Hm.crc_More.f a0 l1).bind fun t134 => ((removalistref02_More.f k a0 (strOfNums l1)).bind fun t135 => (if t134 = t135 then ((Hm.crc_Sealed.f l1).bind fun t136 => ((removalistref02_Sealed.f k (strOfNums l1)).bind fun t139 => (if (strOfNums t136).toList = t139.toList then ((Hm.crc_Right.f l1).bind fun t140 => ((removalistref02_Right.f k (strOfNums l1)).bind fun t141 => (some (t140 == t141)))) else (some false)))) else (some false)))) else (some false)) = some r := H
      have A8 := Aside0.mk A80
      clear A80
      by_cases c9 : t132 = t133
      · rw [if_pos c9] at H
        have c9b0 : (t132 == t133) = true := beq_iff_eq.mpr c9
        have c9b1 : (t132 != t133) = false := bne_eq_false_iff_eq.mpr c9
        clear c9
        replace H := Option.bind_eq_some_iff.mp H
        obtain ⟨t134, A100, H⟩ := H
        replace H : ((removalistref02_More.f k a0 (strOfNums l1)).bind fun t135 => (if t134 = t135 then ((Hm.crc_Sealed.f l1).bind fun t136 => ((removalistref02_Sealed.f k (strOfNums l1)).bind fun t139 => (if (strOfNums t136).toList = t139.toList then ((Hm.crc_Right.f l1).bind fun t140 => ((removalistref02_Right.f k (strOfNums l1)).bind fun t141 => (some (t140 == t141)))) else (some false)))) else (some false))) = some r := H
        have A10 := Aside0.mk A100
        clear A100
        replace H := Option.bind_eq_some_iff.mp H
        obtain ⟨t135, A110, H⟩ := H
        replace H : (if t134 = t135 then ((Hm.crc_Sealed.f l1).bind fun t136 => ((removalistref02_Sealed.f k (strOfNums l1)).bind fun t139 => (if (strOfNums t136).toList = t139.toList then ((Hm.crc_Right.f l1).bind fun t140 => ((removalistref02_Right.f k (strOfNums l1)).bind fun t141 => (some (t140 == t141)))) else (some false)))) else (some false)) = some r := H
        have A11 := Aside0.mk A110
        clear A110
        by_cases c12 : t134 = t135
        · rw [if_pos c12] at H
          have c12b0 : (t134 == t135) = true := beq_iff_eq.mpr c12
          have c12b1 : (t134 != t135) = false := bne_eq_false_iff_eq.mpr c12
          clear c12
          replace H := Option.bind_eq_some_iff.mp H
          obtain ⟨t136, A130, H⟩ := H
          replace H : ((removalistref02_Sealed.f k (strOfNums l1)).bind fun t139 => (if (strOfNums t136).toList = t139.toList then ((Hm.crc_Right.f l1).bind fun t140 => ((removalistref02_Right.f k (strOfNums l1)).bind fun t141 => (some (t140 == t141)))) else (some false))) = some r := H
          have A13 := Aside0.mk A130
          clear A130
          replace H := Option.bind_eq_some_iff.mp H
          obtain ⟨t139, A140, H⟩ := H
          replace H : (if (strOfNums t136).toList = t139.toList then ((Hm.crc_Right.f l1).bind fun t140 => ((removalistref02_Right.f k (strOfNums l1)).bind fun t141 => (some (t140 == t141)))) else (some false)) = some r := H
          have A14 := Aside0.mk A140
          clear A140
          by_cases c15 : (strOfNums t136).toList = t139.toList
          · rw [if_pos c15] at H
            have c15b0 : ((strOfNums t136).toList == t139.toList) = true := beq_iff_eq.mpr c15
            have c15b1 : ((strOfNums t136).toList != t139.toList) = false := bne_eq_false_iff_eq.mpr c15
            clear c15
            replace H := Option.bind_eq_some_iff.mp H
            obtain ⟨t140, A160, H⟩ := H
            replace H : ((removalistref02_Right.f k (strOfNums l1)).bind fun t141 => (some (t140 == t141))) = some r := H
            have A16 := Aside0.mk A160
            clear A160
            replace H := Option.bind_eq_some_iff.mp H
            obtain ⟨t141, A170, H⟩ := H
            replace H : (some (t140 == t141)) = some r := H
            have A17 := Aside0.mk A170
            clear A170
            obtain rfl := Option.some.inj H
            go_enter Try.func3, Try.ntmps3
            try go_wp2_with (first | ((with_reducible refine gate_callee (f := 13) rfl ?_); refine goesL_ (some 7) rfl rfl Try.func13 (by kernel_rfl) rfl #[] rfl (by (try simp only [List.map_toArray, List.map_cons, List.map_nil]); first | done | rfl | (simp only [List.length_drop, List.length_take]; rfl)) ?_; (with_reducible refine (removalistlaw02_awake.calls  true _ A3.out).mono ?_); rintro e w18 ⟨rfl, hb⟩; refine ⟨_, rfl, ?_⟩; have n0_ := Aside0.mk (below_step (by repeat (first | (with_reducible first | exact HB.out | apply below_alloc | apply pw_below_drewN | apply below_drew1) | exact HB.out)) hb); clear HB; have HB := n0_; clear n0_; (try clear hb); (try clear hb2); (try clear hk); (try clear hi); have hcv19 := Kd.C_string (P := Try.prog) (A := A1) (c := c1) Try.underlying23 Try.underlying5 Try.underlying9 (Kd.C_below HR1.out HB.out)))
            have n0_ := Aside0.mk (below_drew1 HB.out)
            clear HB
            have HB := n0_
            clear n0_
            refine start_ (n := 30) (S := fun w' => True) (ds := []) #[false, false, false, false, false, false, false, false, false, false, false, false, false, false, false, false, false, false, false, false, false, false, false, false, false, false, false, false, false, false] (by kernel_rfl) rfl rfl trivial (fun hHeld => ?_); refine with_tabW removalistlaw02_CrcOf.tab7 removalistlaw02_CrcOf.bits7 (fun HT_ HW_ => ?_)
            generalize w18.drew = w20 at HB hHeld ⊢
            refine pure_ (i := 0) (N := some 15) (v := ?_) (a' := ?_) #[true, false, false, false, false, false, false, false, false, false, false, false, false, false, false, false, false, false, false, false, false, false, false, false, false, false, false, false, false, false] rfl rfl (any_of HT_.out (by kernel_rfl)) (fun _ _ _ h => h) (Or.inl ⟨by rfl, ?_⟩) ?_ ?_
            rotate_left
            · intro w'
              go_simp
              with_reducible rfl
            rotate_left
            · simp only [Act.put, List.setIfInBounds_toArray, List.set_cons_zero, List.set_cons_succ, i64_w, i32_w]
              rfl
            refine pure_ (i := 2) (N := some 17) (v := ?_) (a' := ?_) #[true, false, true, false, false, false, false, false, false, false, false, false, false, false, false, false, false, false, false, false, false, false, false, false, false, false, false, false, false, false] rfl rfl (any_of HT_.out (by kernel_rfl)) (fun _ _ _ h => h) (Or.inl ⟨by rfl, ?_⟩) ?_ ?_
            rotate_left
            · intro w'
              go_simp
              with_reducible rfl
            rotate_left
            · simp only [Act.put, List.setIfInBounds_toArray, List.set_cons_zero, List.set_cons_succ, i64_w, i32_w]
              rfl
            refine one_ (i := 1) (N := some 16) #[true, true, true, false, false, false, false, false, false, false, false, false, false, false, false, false, false, false, false, false, false, false, false, false, false, false, false, false, false, false] rfl rfl (one_of HT_.out (by kernel_rfl)) (by decide) (fun K hK => ?_)
            refine goes_ Try.func14 (by kernel_rfl) rfl #[.slice A1 l1.length c1] (by rfl) rfl rfl (by (try simp only [List.map_toArray, List.map_cons, List.map_nil]); first | done | rfl | (simp only [List.length_drop, List.length_take]; rfl)) ?_
            with_reducible refine (Hm.crc_Of.calls _ _ l1 t132 _ ?side1 ?side2 A7.out).mono ?_
            (case side1 => repeat (first | exact (Kd.C_below HR1.out HB.out) | (with_reducible refine Kd.C_alloc ?_ _) | (with_reducible refine Kd.C_drewN ?_ _) | (with_reducible refine Kd.C_drew ?_)))
            (case side2 => exact HC1.out)
            rintro e w21 ⟨rfl, hb⟩
            refine ⟨_, rfl, ?_⟩
            have n0_ := Aside0.mk (below_step (by repeat (first | (with_reducible first | exact HB.out | apply below_alloc | apply pw_below_drewN | apply below_drew1) | exact HB.out)) hb)
            clear HB
            have HB := n0_
            clear n0_
            (try clear hb)
            (try clear hb2)
            (try clear hk)
            (try clear hi)
            refine hK.out _ _ trivial (fun hHeld => ?_)
            clear hK K
            refine norm_ (a' := ?_) ?_ ?_
            rotate_left
            · show Act.put _ (some 16) _ = _
              simp only [Act.put, List.setIfInBounds_toArray, List.set_cons_zero, List.set_cons_succ, i64_w, i32_w]
              rfl
            refine one_ (i := 3) (N := some 18) #[true, true, true, true, false, false, false, false, false, false, false, false, false, false, false, false, false, false, false, false, false, false, false, false, false, false, false, false, false, false] rfl rfl (one_of HT_.out (by kernel_rfl)) (by decide) (fun K hK => ?_)
            refine goes_ Try.func15 (by kernel_rfl) rfl #[.string (strOfNums l1)] (by rfl) rfl rfl (by (try simp only [List.map_toArray, List.map_cons, List.map_nil]); first | done | rfl | (simp only [List.length_drop, List.length_take]; rfl)) ?_
            with_reducible refine (removalistref02_Of.calls k (strOfNums l1) t133 _ A8.out).mono ?_
            rintro e w' ⟨rfl, ⟨nd, rfl⟩⟩
            refine ⟨_, rfl, ?_⟩
            refine hK.out _ _ trivial (fun hHeld => ?_)
            clear hK K
            refine norm_ (a' := ?_) ?_ ?_
            rotate_left
            · show Act.put _ (some 18) _ = _
              simp only [Act.put, List.setIfInBounds_toArray, List.set_cons_zero, List.set_cons_succ, i64_w, i32_w]
              rfl
            refine pure_ (i := 4) (N := some 19) (v := ?_) (a' := ?_) #[true, true, true, true, true, false, false, false, false, false, false, false, false, false, false, false, false, false, false, false, false, false, false, false, false, false, false, false, false, false] rfl rfl (any_of HT_.out (by kernel_rfl)) (fun _ _ _ h => h) (Or.inl ⟨by rfl, ?_⟩) ?_ ?_
            rotate_left
            · intro w'
              go_simp
              with_reducible rfl
            rotate_left
            · simp only [Act.put, List.setIfInBounds_toArray, List.set_cons_zero, List.set_cons_succ, i64_w, i32_w]
              rfl
            refine pure_ (i := 5) (N := some 20) (v := ?_) (a' := ?_) #[true, true, true, true, true, true, false, false, false, false, false, false, false, false, false, false, false, false, false, false, false, false, false, false, false, false, false, false, false, false] rfl rfl (any_of HT_.out (by kernel_rfl)) (fun _ _ _ h => h) (Or.inl ⟨by rfl, ?_⟩) ?_ ?_
            rotate_left
            · intro w'
              go_simp
              with_reducible rfl
            rotate_left
            · simp only [Act.put, List.setIfInBounds_toArray, List.set_cons_zero, List.set_cons_succ, i64_w, i32_w]
              rfl
            refine pure_ (i := 6) (N := some 21) (v := ?_) (a' := ?_) #[true, true, true, true, true, true, true, false, false, false, false, false, false, false, false, false, false, false, false, false, false, false, false, false, false, false, false, false, false, false] rfl rfl (any_of HT_.out (by kernel_rfl)) (fun _ _ _ h => h) (Or.inl ⟨by rfl, ?_⟩) ?_ ?_
            rotate_left
            · intro w'
              go_simp
              with_reducible rfl
            rotate_left
            · simp only [Act.put, List.setIfInBounds_toArray, List.set_cons_zero, List.set_cons_succ, i64_w, i32_w]
              rfl
            refine pure_ (i := 7) (N := some 22) (v := ?_) (a' := ?_) #[true, true, true, true, true, true, true, true, false, false, false, false, false, false, false, false, false, false, false, false, false, false, false, false, false, false, false, false, false, false] rfl rfl (any_of HT_.out (by kernel_rfl)) (fun _ _ _ h => h) (Or.inl ⟨by rfl, ?_⟩) ?_ ?_
            rotate_left
            · intro w'
              go_simp
              with_reducible rfl
            rotate_left
            · simp only [Act.put, List.setIfInBounds_toArray, List.set_cons_zero, List.set_cons_succ, i64_w, i32_w]
              rfl
            refine pure_ (i := 9) (N := some 24) (v := ?_) (a' := ?_) #[true, true, true, true, true, true, true, true, false, true, false, false, false, false, false, false, false, false, false, false, false, false, false, false, false, false, false, false, false, false] rfl rfl (any_of HT_.out (by kernel_rfl)) (fun _ _ _ h => h) (Or.inl ⟨by rfl, ?_⟩) ?_ ?_
            rotate_left
            · intro w'
              go_simp
              with_reducible rfl
            rotate_left
            · simp only [Act.put, List.setIfInBounds_toArray, List.set_cons_zero, List.set_cons_succ, i64_w, i32_w]
              rfl
            refine pure_ (i := 10) (N := some 25) (v := ?_) (a' := ?_) #[true, true, true, true, true, true, true, true, false, true, true, false, false, false, false, false, false, false, false, false, false, false, false, false, false, false, false, false, false, false] rfl rfl (any_of HT_.out (by kernel_rfl)) (fun _ _ _ h => h) (Or.inl ⟨by rfl, ?_⟩) ?_ ?_
            rotate_left
            · intro w'
              go_simp
              with_reducible rfl
            rotate_left
            · simp only [Act.put, List.setIfInBounds_toArray, List.set_cons_zero, List.set_cons_succ, i64_w, i32_w]
              rfl
            refine one_ (i := 8) (N := some 23) #[true, true, true, true, true, true, true, true, true, true, true, false, false, false, false, false, false, false, false, false, false, false, false, false, false, false, false, false, false, false] rfl rfl (one_of HT_.out (by kernel_rfl)) (by decide) (fun K hK => ?_)
            refine goes_ Try.func16 (by kernel_rfl) rfl #[.int .u32 a0, .slice A1 l1.length c1] (by rfl) rfl rfl (by (try simp only [List.map_toArray, List.map_cons, List.map_nil]); first | done | rfl | (simp only [List.length_drop, List.length_take]; rfl)) ?_
            with_reducible refine (Hm.crc_More.calls a0 _ _ l1 t134 _ ?side1 ?side2 A10.out).mono ?_
            (case side1 => repeat (first | exact (Kd.C_below HR1.out (by repeat (first | (with_reducible first | exact HB.out | apply below_alloc | apply pw_below_drewN | apply below_drew1) | exact HB.out))) | (with_reducible refine Kd.C_alloc ?_ _) | (with_reducible refine Kd.C_drewN ?_ _) | (with_reducible refine Kd.C_drew ?_)))
            (case side2 => exact HC1.out)
            rintro e w22 ⟨rfl, hb⟩
            refine ⟨_, rfl, ?_⟩
            have n0_ := Aside0.mk (below_step (by repeat (first | (with_reducible first | exact HB.out | apply below_alloc | apply pw_below_drewN | apply below_drew1) | exact HB.out)) hb)
            clear HB
            have HB := n0_
            clear n0_
            (try clear hb)
            (try clear hb2)
            (try clear hk)
            (try clear hi)
            refine hK.out _ _ trivial (fun hHeld => ?_)
            clear hK K
            refine norm_ (a' := ?_) ?_ ?_
            rotate_left
            · show Act.put _ (some 23) _ = _
              simp only [Act.put, List.setIfInBounds_toArray, List.set_cons_zero, List.set_cons_succ, i64_w, i32_w]
              rfl
            refine one_ (i := 11) (N := some 26) #[true, true, true, true, true, true, true, true, true, true, true, true, false, false, false, false, false, false, false, false, false, false, false, false, false, false, false, false, false, false] rfl rfl (one_of HT_.out (by kernel_rfl)) (by decide) (fun K hK => ?_)
            refine goes_ Try.func17 (by kernel_rfl) rfl #[.int .u32 a0, .string (strOfNums l1)] (by rfl) rfl rfl (by (try simp only [List.map_toArray, List.map_cons, List.map_nil]); first | done | rfl | (simp only [List.length_drop, List.length_take]; rfl)) ?_
            with_reducible refine (removalistref02_More.calls k a0 (strOfNums l1) t135 _ A11.out).mono ?_
            rintro e w' ⟨rfl, ⟨nd, rfl⟩⟩
            refine ⟨_, rfl, ?_⟩
            refine hK.out _ _ trivial (fun hHeld => ?_)
            clear hK K
            refine norm_ (a' := ?_) ?_ ?_
            rotate_left
            · show Act.put _ (some 26) _ = _
              simp only [Act.put, List.setIfInBounds_toArray, List.set_cons_zero, List.set_cons_succ, i64_w, i32_w]
              rfl
            refine pure_ (i := 12) (N := some 27) (v := ?_) (a' := ?_) #[true, true, true, true, true, true, true, true, true, true, true, true, true, false, false, false, false, false, false, false, false, false, false, false, false, false, false, false, false, false] rfl rfl (any_of HT_.out (by kernel_rfl)) (fun _ _ _ h => h) (Or.inl ⟨by rfl, ?_⟩) ?_ ?_
            rotate_left
            · intro w'
              go_simp
              with_reducible rfl
            rotate_left
            · simp only [Act.put, List.setIfInBounds_toArray, List.set_cons_zero, List.set_cons_succ, i64_w, i32_w]
              rfl
            refine pure_ (i := 13) (N := some 28) (v := ?_) (a' := ?_) #[true, true, true, true, true, true, true, true, true, true, true, true, true, true, false, false, false, false, false, false, false, false, false, false, false, false, false, false, false, false] rfl rfl (any_of HT_.out (by kernel_rfl)) (fun _ _ _ h => h) (Or.inl ⟨by rfl, ?_⟩) ?_ ?_
            rotate_left
            · intro w'
              go_simp
              with_reducible rfl
            rotate_left
            · simp only [Act.put, List.setIfInBounds_toArray, List.set_cons_zero, List.set_cons_succ, i64_w, i32_w]
              rfl
            refine pure_ (i := 14) (N := some 29) (v := ?_) (a' := ?_) #[true, true, true, true, true, true, true, true, true, true, true, true, true, true, true, false, false, false, false, false, false, false, false, false, false, false, false, false, false, false] rfl rfl (any_of HT_.out (by kernel_rfl)) (fun _ _ _ h => h) (Or.inl ⟨by rfl, ?_⟩) ?_ ?_
            rotate_left
            · intro w'
              go_simp
              with_reducible rfl
            rotate_left
            · simp only [Act.put, List.setIfInBounds_toArray, List.set_cons_zero, List.set_cons_succ, i64_w, i32_w]
              rfl
            refine pure_ (i := 15) (N := some 30) (v := ?_) (a' := ?_) #[true, true, true, true, true, true, true, true, true, true, true, true, true, true, true, true, false, false, false, false, false, false, false, false, false, false, false, false, false, false] rfl rfl (any_of HT_.out (by kernel_rfl)) (fun _ _ _ h => h) (Or.inl ⟨by rfl, ?_⟩) ?_ ?_
            rotate_left
            · intro w'
              go_simp
              with_reducible rfl
            rotate_left
            · simp only [Act.put, List.setIfInBounds_toArray, List.set_cons_zero, List.set_cons_succ, i64_w, i32_w]
              rfl
            refine pure_ (i := 18) (N := some 33) (v := ?_) (a' := ?_) #[true, true, true, true, true, true, true, true, true, true, true, true, true, true, true, true, false, false, true, false, false, false, false, false, false, false, false, false, false, false] rfl rfl (any_of HT_.out (by kernel_rfl)) (fun _ _ _ h => h) (Or.inl ⟨by rfl, ?_⟩) ?_ ?_
            rotate_left
            · intro w'
              go_simp
              with_reducible rfl
            rotate_left
            · simp only [Act.put, List.setIfInBounds_toArray, List.set_cons_zero, List.set_cons_succ, i64_w, i32_w]
              rfl
            refine one_ (i := 16) (N := some 31) #[true, true, true, true, true, true, true, true, true, true, true, true, true, true, true, true, true, false, true, false, false, false, false, false, false, false, false, false, false, false] rfl rfl (one_of HT_.out (by kernel_rfl)) (by decide) (fun K hK => ?_)
            refine goes_ Try.func18 (by kernel_rfl) rfl #[.slice A1 l1.length c1] (by rfl) rfl rfl (by (try simp only [List.map_toArray, List.map_cons, List.map_nil]); first | done | rfl | (simp only [List.length_drop, List.length_take]; rfl)) ?_
            with_reducible refine (Hm.crc_Sealed.calls _ _ l1 t136 _ ?side1 ?side2 A13.out).mono ?_
            (case side1 => repeat (first | exact (Kd.C_below HR1.out (by repeat (first | (with_reducible first | exact HB.out | apply below_alloc | apply pw_below_drewN | apply below_drew1) | exact HB.out))) | (with_reducible refine Kd.C_alloc ?_ _) | (with_reducible refine Kd.C_drewN ?_ _) | (with_reducible refine Kd.C_drew ?_)))
            (case side2 => exact HC1.out)
            rintro e w23 ⟨v137, rfl, ho0, hb⟩
            refine ⟨_, rfl, ?_⟩
            have n0_ := Aside0.mk (Kd.R_lower ho0 (below_size (by repeat (first | (with_reducible first | exact HB.out | apply below_alloc | apply pw_below_drewN | apply below_drew1) | exact HB.out))))
            have n1_ := Aside0.mk (below_step (by repeat (first | (with_reducible first | exact HB.out | apply below_alloc | apply pw_below_drewN | apply below_drew1) | exact HB.out)) hb)
            clear HB
            have HO138 := n0_
            have HB := n1_
            clear n0_ n1_
            (try clear hb)
            (try clear hb2)
            (try clear hk)
            (try clear hi)
            (try clear ho0)
            refine hK.out _ _ trivial (fun hHeld => ?_)
            clear hK K
            refine norm_ (a' := ?_) ?_ ?_
            rotate_left
            · show Act.put _ (some 31) _ = _
              simp only [Act.put, List.setIfInBounds_toArray, List.set_cons_zero, List.set_cons_succ, i64_w, i32_w]
              rfl
            refine join_ (σ := Unit) 10 #[true, true, true, true, true, true, true, true, true, true, true, true, true, true, true, true, true, true, true, true, false, false, false, false, false, false, false, false, false, false] (fun s_ => [(32, .string (strOfNums t136)), (34, .string t139)]) (fun s_ w' => (Kd.R (Kd.int .u8) 5 w' w.heap.size (fun _ => True) v137 t136) ∧ (Below w.heap.size w w')) ?_ ?_
            rotate_left
            · intro hCont
              refine two_ (i := 17) (j := 19) (Ni := some 32) (Nj := some 34) #[true, true, true, true, true, true, true, true, true, true, true, true, true, true, true, true, true, true, true, false, false, false, false, false, false, false, false, false, false, false] #[true, true, true, true, true, true, true, true, true, true, true, true, true, true, true, true, true, false, true, true, false, false, false, false, false, false, false, false, false, false] rfl rfl rfl rfl (two_of HT_.out (by kernel_rfl)) (by decide) (by decide) (fun K hK => ?_) (fun K hK => ?_)
              · skip
                have hcv24 := own_string (P := Try.prog) Try.underlying23 Try.underlying5 Try.underlying9 (Kd.own_of_R HO138.out)
                refine value_ (w1 := ?_) (v := ?_) (by rfl) rfl ?_ ?_
                rotate_left 2
                · go_simp
                  constructor
                  · rfl
                  · rfl
                clear hcv24
                refine hK.out _ _ trivial (fun hHeld => ?_)
                clear hK K
                refine norm_ (a' := ?_) ?_ ?_
                rotate_left
                · show Act.put _ (some 32) _ = _
                  simp only [Act.put, List.setIfInBounds_toArray, List.set_cons_zero, List.set_cons_succ, i64_w, i32_w]
                  rfl
                refine one_ (i := 19) (N := some 34) #[true, true, true, true, true, true, true, true, true, true, true, true, true, true, true, true, true, true, true, true, false, false, false, false, false, false, false, false, false, false] rfl rfl (one_of HT_.out (by kernel_rfl)) (by decide) (fun K hK => ?_)
                refine goes_ Try.func19 (by kernel_rfl) rfl #[.string (strOfNums l1)] (by rfl) rfl rfl (by (try simp only [List.map_toArray, List.map_cons, List.map_nil]); first | done | rfl | (simp only [List.length_drop, List.length_take]; rfl)) ?_
                with_reducible refine (removalistref02_Sealed.calls k (strOfNums l1) t139 _ A14.out).mono ?_
                rintro e w25 ⟨rfl, hb⟩
                refine ⟨_, rfl, ?_⟩
                have n0_ := Aside0.mk (Kd.R_below (by (with_reducible repeat (first | apply Kd.R_alloc | apply Kd.R_drewN | apply Kd.R_drew)); exact HO138.out) hb)
                have n1_ := Aside0.mk (below_step (by repeat (first | (with_reducible first | exact HB.out | apply below_alloc | apply pw_below_drewN | apply below_drew1) | exact HB.out)) hb)
                clear HO138
                clear HB
                have HO138 := n0_
                have HB := n1_
                clear n0_ n1_
                (try clear hb)
                (try clear hb2)
                (try clear hk)
                (try clear hi)
                refine hK.out _ _ trivial (fun hHeld => ?_)
                clear hK K
                refine norm_ (a' := ?_) ?_ ?_
                rotate_left
                · show Act.put _ (some 34) _ = _
                  simp only [Act.put, List.setIfInBounds_toArray, List.set_cons_zero, List.set_cons_succ, i64_w, i32_w]
                  rfl
                exact norm_ (by simp only [putAll, Act.put, List.setIfInBounds_toArray, List.set_cons_zero, List.set_cons_succ]) (hCont () _ ⟨(by (with_reducible repeat (first | apply Kd.R_alloc | apply Kd.R_drewN | apply Kd.R_drew)); exact HO138.out), (by repeat (first | (with_reducible first | exact HB.out | apply below_alloc | apply pw_below_drewN | apply below_drew1) | exact HB.out))⟩)
              · skip
                refine goes_ Try.func19 (by kernel_rfl) rfl #[.string (strOfNums l1)] (by rfl) rfl rfl (by (try simp only [List.map_toArray, List.map_cons, List.map_nil]); first | done | rfl | (simp only [List.length_drop, List.length_take]; rfl)) ?_
                with_reducible refine (removalistref02_Sealed.calls k (strOfNums l1) t139 _ A14.out).mono ?_
                rintro e w24 ⟨rfl, hb⟩
                refine ⟨_, rfl, ?_⟩
                have n0_ := Aside0.mk (Kd.R_below (by (with_reducible repeat (first | apply Kd.R_alloc | apply Kd.R_drewN | apply Kd.R_drew)); exact HO138.out) hb)
                have n1_ := Aside0.mk (below_step (by repeat (first | (with_reducible first | exact HB.out | apply below_alloc | apply pw_below_drewN | apply below_drew1) | exact HB.out)) hb)
                clear HO138
                clear HB
                have HO138 := n0_
                have HB := n1_
                clear n0_ n1_
                (try clear hb)
                (try clear hb2)
                (try clear hk)
                (try clear hi)
                refine hK.out _ _ trivial (fun hHeld => ?_)
                clear hK K
                refine norm_ (a' := ?_) ?_ ?_
                rotate_left
                · show Act.put _ (some 34) _ = _
                  simp only [Act.put, List.setIfInBounds_toArray, List.set_cons_zero, List.set_cons_succ, i64_w, i32_w]
                  rfl
                refine one_ (i := 17) (N := some 32) #[true, true, true, true, true, true, true, true, true, true, true, true, true, true, true, true, true, true, true, true, false, false, false, false, false, false, false, false, false, false] rfl rfl (one_of HT_.out (by kernel_rfl)) (by decide) (fun K hK => ?_)
                have hcv25 := own_string (P := Try.prog) Try.underlying23 Try.underlying5 Try.underlying9 (Kd.own_of_R HO138.out)
                refine value_ (w1 := ?_) (v := ?_) (by rfl) rfl ?_ ?_
                rotate_left 2
                · go_simp
                  constructor
                  · rfl
                  · rfl
                clear hcv25
                refine hK.out _ _ trivial (fun hHeld => ?_)
                clear hK K
                refine norm_ (a' := ?_) ?_ ?_
                rotate_left
                · show Act.put _ (some 32) _ = _
                  simp only [Act.put, List.setIfInBounds_toArray, List.set_cons_zero, List.set_cons_succ, i64_w, i32_w]
                  rfl
                exact norm_ (by simp only [putAll, Act.put, List.setIfInBounds_toArray, List.set_cons_zero, List.set_cons_succ]) (hCont () _ ⟨(by (with_reducible repeat (first | apply Kd.R_alloc | apply Kd.R_drewN | apply Kd.R_drew)); exact HO138.out), (by repeat (first | (with_reducible first | exact HB.out | apply below_alloc | apply pw_below_drewN | apply below_drew1) | exact HB.out))⟩)
            rintro _ w26 ⟨h0_, h1_⟩
            have n0_ : Aside0 (Kd.R (Kd.int .u8) 5 w26 w.heap.size (fun _ => True) v137 t136) := ⟨h0_⟩
            have n1_ : Aside0 (Below w.heap.size w w26) := ⟨h1_⟩
            clear HB
            clear h0_ h1_
            have HO138 := n0_
            have HB := n1_
            clear n0_ n1_
            have hHeld := trivial
            refine norm_ (a' := ?_) ?_ ?_
            rotate_left
            · simp only [putAll, Act.put, List.setIfInBounds_toArray, List.set_cons_zero, List.set_cons_succ]
              rfl
            refine pure_ (i := 20) (N := some 35) (v := ?_) (a' := ?_) #[true, true, true, true, true, true, true, true, true, true, true, true, true, true, true, true, true, true, true, true, true, false, false, false, false, false, false, false, false, false] rfl rfl (any_of HT_.out (by kernel_rfl)) (fun _ _ _ h => h) (Or.inl ⟨by rfl, ?_⟩) ?_ ?_
            rotate_left
            · intro w'
              go_simp
              with_reducible rfl
            rotate_left
            · simp only [Act.put, List.setIfInBounds_toArray, List.set_cons_zero, List.set_cons_succ, i64_w, i32_w]
              rfl
            refine pure_ (i := 21) (N := some 36) (v := ?_) (a' := ?_) #[true, true, true, true, true, true, true, true, true, true, true, true, true, true, true, true, true, true, true, true, true, true, false, false, false, false, false, false, false, false] rfl rfl (any_of HT_.out (by kernel_rfl)) (fun _ _ _ h => h) (Or.inl ⟨by rfl, ?_⟩) ?_ ?_
            rotate_left
            · intro w'
              go_simp
              with_reducible rfl
            rotate_left
            · simp only [Act.put, List.setIfInBounds_toArray, List.set_cons_zero, List.set_cons_succ, i64_w, i32_w]
              rfl
            refine pure_ (i := 22) (N := some 37) (v := ?_) (a' := ?_) #[true, true, true, true, true, true, true, true, true, true, true, true, true, true, true, true, true, true, true, true, true, true, true, false, false, false, false, false, false, false] rfl rfl (any_of HT_.out (by kernel_rfl)) (fun _ _ _ h => h) (Or.inl ⟨by rfl, ?_⟩) ?_ ?_
            rotate_left
            · intro w'
              go_simp
              with_reducible rfl
            rotate_left
            · simp only [Act.put, List.setIfInBounds_toArray, List.set_cons_zero, List.set_cons_succ, i64_w, i32_w]
              rfl
            refine pure_ (i := 23) (N := some 38) (v := ?_) (a' := ?_) #[true, true, true, true, true, true, true, true, true, true, true, true, true, true, true, true, true, true, true, true, true, true, true, true, false, false, false, false, false, false] rfl rfl (any_of HT_.out (by kernel_rfl)) (fun _ _ _ h => h) (Or.inl ⟨by rfl, ?_⟩) ?_ ?_
            rotate_left
            · intro w'
              go_simp
              with_reducible rfl
            rotate_left
            · simp only [Act.put, List.setIfInBounds_toArray, List.set_cons_zero, List.set_cons_succ, i64_w, i32_w]
              rfl
            refine pure_ (i := 25) (N := some 40) (v := ?_) (a' := ?_) #[true, true, true, true, true, true, true, true, true, true, true, true, true, true, true, true, true, true, true, true, true, true, true, true, false, true, false, false, false, false] rfl rfl (any_of HT_.out (by kernel_rfl)) (fun _ _ _ h => h) (Or.inl ⟨by rfl, ?_⟩) ?_ ?_
            rotate_left
            · intro w'
              go_simp
              with_reducible rfl
            rotate_left
            · simp only [Act.put, List.setIfInBounds_toArray, List.set_cons_zero, List.set_cons_succ, i64_w, i32_w]
              rfl
            refine one_ (i := 24) (N := some 39) #[true, true, true, true, true, true, true, true, true, true, true, true, true, true, true, true, true, true, true, true, true, true, true, true, true, true, false, false, false, false] rfl rfl (one_of HT_.out (by kernel_rfl)) (by decide) (fun K hK => ?_)
            refine goes_ Try.func20 (by kernel_rfl) rfl #[.slice A1 l1.length c1] (by rfl) rfl rfl (by (try simp only [List.map_toArray, List.map_cons, List.map_nil]); first | done | rfl | (simp only [List.length_drop, List.length_take]; rfl)) ?_
            with_reducible refine (Hm.crc_Right.calls _ _ l1 t140 _ ?side1 ?side2 A16.out).mono ?_
            (case side1 => repeat (first | exact (Kd.C_below HR1.out HB.out) | (with_reducible refine Kd.C_alloc ?_ _) | (with_reducible refine Kd.C_drewN ?_ _) | (with_reducible refine Kd.C_drew ?_)))
            (case side2 => exact HC1.out)
            rintro e w27 ⟨rfl, hb⟩
            refine ⟨_, rfl, ?_⟩
            have n0_ := Aside0.mk (Kd.R_below (by (with_reducible repeat (first | apply Kd.R_alloc | apply Kd.R_drewN | apply Kd.R_drew)); exact HO138.out) hb)
            have n1_ := Aside0.mk (below_step (by repeat (first | (with_reducible first | exact HB.out | apply below_alloc | apply pw_below_drewN | apply below_drew1) | exact HB.out)) hb)
            clear HO138
            clear HB
            have HO138 := n0_
            have HB := n1_
            clear n0_ n1_
            (try clear hb)
            (try clear hb2)
            (try clear hk)
            (try clear hi)
            refine hK.out _ _ trivial (fun hHeld => ?_)
            clear hK K
            refine norm_ (a' := ?_) ?_ ?_
            rotate_left
            · show Act.put _ (some 39) _ = _
              simp only [Act.put, List.setIfInBounds_toArray, List.set_cons_zero, List.set_cons_succ, i64_w, i32_w]
              rfl
            refine one_ (i := 26) (N := some 41) #[true, true, true, true, true, true, true, true, true, true, true, true, true, true, true, true, true, true, true, true, true, true, true, true, true, true, true, false, false, false] rfl rfl (one_of HT_.out (by kernel_rfl)) (by decide) (fun K hK => ?_)
            refine goes_ Try.func21 (by kernel_rfl) rfl #[.string (strOfNums l1)] (by rfl) rfl rfl (by (try simp only [List.map_toArray, List.map_cons, List.map_nil]); first | done | rfl | (simp only [List.length_drop, List.length_take]; rfl)) ?_
            with_reducible refine (removalistref02_Right.calls k (strOfNums l1) t141 _ A17.out).mono ?_
            rintro e w28 ⟨rfl, hb⟩
            refine ⟨_, rfl, ?_⟩
            have n0_ := Aside0.mk (Kd.R_below (by (with_reducible repeat (first | apply Kd.R_alloc | apply Kd.R_drewN | apply Kd.R_drew)); exact HO138.out) hb)
            have n1_ := Aside0.mk (below_step (by repeat (first | (with_reducible first | exact HB.out | apply below_alloc | apply pw_below_drewN | apply below_drew1) | exact HB.out)) hb)
            clear HO138
            clear HB
            have HO138 := n0_
            have HB := n1_
            clear n0_ n1_
            (try clear hb)
            (try clear hb2)
            (try clear hk)
            (try clear hi)
            refine hK.out _ _ trivial (fun hHeld => ?_)
            clear hK K
            refine norm_ (a' := ?_) ?_ ?_
            rotate_left
            · show Act.put _ (some 41) _ = _
              simp only [Act.put, List.setIfInBounds_toArray, List.set_cons_zero, List.set_cons_succ, i64_w, i32_w]
              rfl
            refine pure_ (i := 27) (N := some 42) (v := ?_) (a' := ?_) #[true, true, true, true, true, true, true, true, true, true, true, true, true, true, true, true, true, true, true, true, true, true, true, true, true, true, true, true, false, false] rfl rfl (any_of HT_.out (by kernel_rfl)) (fun _ _ _ h => h) (Or.inl ⟨by rfl, ?_⟩) ?_ ?_
            rotate_left
            · intro w'
              go_simp
              with_reducible rfl
            rotate_left
            · simp only [Act.put, List.setIfInBounds_toArray, List.set_cons_zero, List.set_cons_succ, i64_w, i32_w]
              rfl
            refine pure_ (i := 28) (N := some 43) (v := ?_) (a' := ?_) #[true, true, true, true, true, true, true, true, true, true, true, true, true, true, true, true, true, true, true, true, true, true, true, true, true, true, true, true, true, false] rfl rfl (any_of HT_.out (by kernel_rfl)) (fun _ _ _ h => h) (Or.inl ⟨by rfl, ?_⟩) ?_ ?_
            rotate_left
            · intro w'
              go_simp
              with_reducible rfl
            rotate_left
            · simp only [Act.put, List.setIfInBounds_toArray, List.set_cons_zero, List.set_cons_succ, i64_w, i32_w]
              rfl
            refine pure_ (i := 29) (N := some 4) (v := ?_) (a' := ?_) #[true, true, true, true, true, true, true, true, true, true, true, true, true, true, true, true, true, true, true, true, true, true, true, true, true, true, true, true, true, true] rfl rfl (any_of HT_.out (by kernel_rfl)) (fun _ _ _ h => h) (Or.inl ⟨by rfl, ?_⟩) ?_ ?_
            rotate_left
            · intro w'
              go_simp
              with_reducible rfl
            rotate_left
            · simp only [Act.put, List.setIfInBounds_toArray, List.set_cons_zero, List.set_cons_succ, i64_w, i32_w]
              rfl
            refine done_ (done_of HT_.out (by kernel_rfl)) ?_
            try go_wp2
            go_ret
            exact ⟨by first | rfl | (simp [errW_none, errW_some] <;> rfl) | (simp [*, errW_none, errW_some] <;> rfl), by repeat (first | (with_reducible first | exact HB.out | apply below_alloc | apply pw_below_drewN | apply below_drew1) | exact HB.out)⟩
          · rw [if_neg c15] at H
            have c15b0 : ((strOfNums t136).toList == t139.toList) = false := beq_eq_false_iff_ne.mpr c15
            have c15b1 : ((strOfNums t136).toList != t139.toList) = true := bne_iff_ne.mpr c15
            obtain rfl := Option.some.inj H
            go_enter Try.func3, Try.ntmps3
            try go_wp2_with (first | ((with_reducible refine gate_callee (f := 13) rfl ?_); refine goesL_ (some 7) rfl rfl Try.func13 (by kernel_rfl) rfl #[] rfl (by (try simp only [List.map_toArray, List.map_cons, List.map_nil]); first | done | rfl | (simp only [List.length_drop, List.length_take]; rfl)) ?_; (with_reducible refine (removalistlaw02_awake.calls  true _ A3.out).mono ?_); rintro e w29 ⟨rfl, hb⟩; refine ⟨_, rfl, ?_⟩; have n0_ := Aside0.mk (below_step (by repeat (first | (with_reducible first | exact HB.out | apply below_alloc | apply pw_below_drewN | apply below_drew1) | exact HB.out)) hb); clear HB; have HB := n0_; clear n0_; (try clear hb); (try clear hb2); (try clear hk); (try clear hi); have hcv30 := Kd.C_string (P := Try.prog) (A := A1) (c := c1) Try.underlying23 Try.underlying5 Try.underlying9 (Kd.C_below HR1.out HB.out)))
            have n0_ := Aside0.mk (below_drew1 HB.out)
            clear HB
            have HB := n0_
            clear n0_
            refine start_ (n := 30) (S := fun w' => True) (ds := []) #[false, false, false, false, false, false, false, false, false, false, false, false, false, false, false, false, false, false, false, false, false, false, false, false, false, false, false, false, false, false] (by kernel_rfl) rfl rfl trivial (fun hHeld => ?_); refine with_tabW removalistlaw02_CrcOf.tab7 removalistlaw02_CrcOf.bits7 (fun HT_ HW_ => ?_)
            generalize w29.drew = w31 at HB hHeld ⊢
            refine pure_ (i := 0) (N := some 15) (v := ?_) (a' := ?_) #[true, false, false, false, false, false, false, false, false, false, false, false, false, false, false, false, false, false, false, false, false, false, false, false, false, false, false, false, false, false] rfl rfl (any_of HT_.out (by kernel_rfl)) (fun _ _ _ h => h) (Or.inl ⟨by rfl, ?_⟩) ?_ ?_
            rotate_left
            · intro w'
              go_simp
              with_reducible rfl
            rotate_left
            · simp only [Act.put, List.setIfInBounds_toArray, List.set_cons_zero, List.set_cons_succ, i64_w, i32_w]
              rfl
            refine pure_ (i := 2) (N := some 17) (v := ?_) (a' := ?_) #[true, false, true, false, false, false, false, false, false, false, false, false, false, false, false, false, false, false, false, false, false, false, false, false, false, false, false, false, false, false] rfl rfl (any_of HT_.out (by kernel_rfl)) (fun _ _ _ h => h) (Or.inl ⟨by rfl, ?_⟩) ?_ ?_
            rotate_left
            · intro w'
              go_simp
              with_reducible rfl
            rotate_left
            · simp only [Act.put, List.setIfInBounds_toArray, List.set_cons_zero, List.set_cons_succ, i64_w, i32_w]
              rfl
            refine one_ (i := 1) (N := some 16) #[true, true, true, false, false, false, false, false, false, false, false, false, false, false, false, false, false, false, false, false, false, false, false, false, false, false, false, false, false, false] rfl rfl (one_of HT_.out (by kernel_rfl)) (by decide) (fun K hK => ?_)
            refine goes_ Try.func14 (by kernel_rfl) rfl #[.slice A1 l1.length c1] (by rfl) rfl rfl (by (try simp only [List.map_toArray, List.map_cons, List.map_nil]); first | done | rfl | (simp only [List.length_drop, List.length_take]; rfl)) ?_
            with_reducible refine (Hm.crc_Of.calls _ _ l1 t132 _ ?side1 ?side2 A7.out).mono ?_
            (case side1 => repeat (first | exact (Kd.C_below HR1.out HB.out) | (with_reducible refine Kd.C_alloc ?_ _) | (with_reducible refine Kd.C_drewN ?_ _) | (with_reducible refine Kd.C_drew ?_)))
            (case side2 => exact HC1.out)
            rintro e w32 ⟨rfl, hb⟩
            refine ⟨_, rfl, ?_⟩
            have n0_ := Aside0.mk (below_step (by repeat (first | (with_reducible first | exact HB.out | apply below_alloc | apply pw_below_drewN | apply below_drew1) | exact HB.out)) hb)
            clear HB
            have HB := n0_
            clear n0_
            (try clear hb)
            (try clear hb2)
            (try clear hk)
            (try clear hi)
            refine hK.out _ _ trivial (fun hHeld => ?_)
            clear hK K
            refine norm_ (a' := ?_) ?_ ?_
            rotate_left
            · show Act.put _ (some 16) _ = _
              simp only [Act.put, List.setIfInBounds_toArray, List.set_cons_zero, List.set_cons_succ, i64_w, i32_w]
              rfl
            refine one_ (i := 3) (N := some 18) #[true, true, true, true, false, false, false, false, false, false, false, false, false, false, false, false, false, false, false, false, false, false, false, false, false, false, false, false, false, false] rfl rfl (one_of HT_.out (by kernel_rfl)) (by decide) (fun K hK => ?_)
            refine goes_ Try.func15 (by kernel_rfl) rfl #[.string (strOfNums l1)] (by rfl) rfl rfl (by (try simp only [List.map_toArray, List.map_cons, List.map_nil]); first | done | rfl | (simp only [List.length_drop, List.length_take]; rfl)) ?_
            with_reducible refine (removalistref02_Of.calls k (strOfNums l1) t133 _ A8.out).mono ?_
            rintro e w' ⟨rfl, ⟨nd, rfl⟩⟩
            refine ⟨_, rfl, ?_⟩
            refine hK.out _ _ trivial (fun hHeld => ?_)
            clear hK K
            refine norm_ (a' := ?_) ?_ ?_
            rotate_left
            · show Act.put _ (some 18) _ = _
              simp only [Act.put, List.setIfInBounds_toArray, List.set_cons_zero, List.set_cons_succ, i64_w, i32_w]
              rfl
            refine pure_ (i := 4) (N := some 19) (v := ?_) (a' := ?_) #[true, true, true, true, true, false, false, false, false, false, false, false, false, false, false, false, false, false, false, false, false, false, false, false, false, false, false, false, false, false] rfl rfl (any_of HT_.out (by kernel_rfl)) (fun _ _ _ h => h) (Or.inl ⟨by rfl, ?_⟩) ?_ ?_
            rotate_left
            · intro w'
              go_simp
              with_reducible rfl
            rotate_left
            · simp only [Act.put, List.setIfInBounds_toArray, List.set_cons_zero, List.set_cons_succ, i64_w, i32_w]
              rfl
            refine pure_ (i := 5) (N := some 20) (v := ?_) (a' := ?_) #[true, true, true, true, true, true, false, false, false, false, false, false, false, false, false, false, false, false, false, false, false, false, false, false, false, false, false, false, false, false] rfl rfl (any_of HT_.out (by kernel_rfl)) (fun _ _ _ h => h) (Or.inl ⟨by rfl, ?_⟩) ?_ ?_
            rotate_left
            · intro w'
              go_simp
              with_reducible rfl
            rotate_left
            · simp only [Act.put, List.setIfInBounds_toArray, List.set_cons_zero, List.set_cons_succ, i64_w, i32_w]
              rfl
            refine pure_ (i := 6) (N := some 21) (v := ?_) (a' := ?_) #[true, true, true, true, true, true, true, false, false, false, false, false, false, false, false, false, false, false, false, false, false, false, false, false, false, false, false, false, false, false] rfl rfl (any_of HT_.out (by kernel_rfl)) (fun _ _ _ h => h) (Or.inl ⟨by rfl, ?_⟩) ?_ ?_
            rotate_left
            · intro w'
              go_simp
              with_reducible rfl
            rotate_left
            · simp only [Act.put, List.setIfInBounds_toArray, List.set_cons_zero, List.set_cons_succ, i64_w, i32_w]
              rfl
            refine pure_ (i := 7) (N := some 22) (v := ?_) (a' := ?_) #[true, true, true, true, true, true, true, true, false, false, false, false, false, false, false, false, false, false, false, false, false, false, false, false, false, false, false, false, false, false] rfl rfl (any_of HT_.out (by kernel_rfl)) (fun _ _ _ h => h) (Or.inl ⟨by rfl, ?_⟩) ?_ ?_
            rotate_left
            · intro w'
              go_simp
              with_reducible rfl
            rotate_left
            · simp only [Act.put, List.setIfInBounds_toArray, List.set_cons_zero, List.set_cons_succ, i64_w, i32_w]
              rfl
            refine pure_ (i := 9) (N := some 24) (v := ?_) (a' := ?_) #[true, true, true, true, true, true, true, true, false, true, false, false, false, false, false, false, false, false, false, false, false, false, false, false, false, false, false, false, false, false] rfl rfl (any_of HT_.out (by kernel_rfl)) (fun _ _ _ h => h) (Or.inl ⟨by rfl, ?_⟩) ?_ ?_
            rotate_left
            · intro w'
              go_simp
              with_reducible rfl
            rotate_left
            · simp only [Act.put, List.setIfInBounds_toArray, List.set_cons_zero, List.set_cons_succ, i64_w, i32_w]
              rfl
            refine pure_ (i := 10) (N := some 25) (v := ?_) (a' := ?_) #[true, true, true, true, true, true, true, true, false, true, true, false, false, false, false, false, false, false, false, false, false, false, false, false, false, false, false, false, false, false] rfl rfl (any_of HT_.out (by kernel_rfl)) (fun _ _ _ h => h) (Or.inl ⟨by rfl, ?_⟩) ?_ ?_
            rotate_left
            · intro w'
              go_simp
              with_reducible rfl
            rotate_left
            · simp only [Act.put, List.setIfInBounds_toArray, List.set_cons_zero, List.set_cons_succ, i64_w, i32_w]
              rfl
            refine one_ (i := 8) (N := some 23) #[true, true, true, true, true, true, true, true, true, true, true, false, false, false, false, false, false, false, false, false, false, false, false, false, false, false, false, false, false, false] rfl rfl (one_of HT_.out (by kernel_rfl)) (by decide) (fun K hK => ?_)
            refine goes_ Try.func16 (by kernel_rfl) rfl #[.int .u32 a0, .slice A1 l1.length c1] (by rfl) rfl rfl (by (try simp only [List.map_toArray, List.map_cons, List.map_nil]); first | done | rfl | (simp only [List.length_drop, List.length_take]; rfl)) ?_
            with_reducible refine (Hm.crc_More.calls a0 _ _ l1 t134 _ ?side1 ?side2 A10.out).mono ?_
            (case side1 => repeat (first | exact (Kd.C_below HR1.out (by repeat (first | (with_reducible first | exact HB.out | apply below_alloc | apply pw_below_drewN | apply below_drew1) | exact HB.out))) | (with_reducible refine Kd.C_alloc ?_ _) | (with_reducible refine Kd.C_drewN ?_ _) | (with_reducible refine Kd.C_drew ?_)))
            (case side2 => exact HC1.out)
            rintro e w33 ⟨rfl, hb⟩
            refine ⟨_, rfl, ?_⟩
            have n0_ := Aside0.mk (below_step (by repeat (first | (with_reducible first | exact HB.out | apply below_alloc | apply pw_below_drewN | apply below_drew1) | exact HB.out)) hb)
            clear HB
            have HB := n0_
            clear n0_
            (try clear hb)
            (try clear hb2)
            (try clear hk)
            (try clear hi)
            refine hK.out _ _ trivial (fun hHeld => ?_)
            clear hK K
            refine norm_ (a' := ?_) ?_ ?_
            rotate_left
            · show Act.put _ (some 23) _ = _
              simp only [Act.put, List.setIfInBounds_toArray, List.set_cons_zero, List.set_cons_succ, i64_w, i32_w]
              rfl
            refine one_ (i := 11) (N := some 26) #[true, true, true, true, true, true, true, true, true, true, true, true, false, false, false, false, false, false, false, false, false, false, false, false, false, false, false, false, false, false] rfl rfl (one_of HT_.out (by kernel_rfl)) (by decide) (fun K hK => ?_)
            refine goes_ Try.func17 (by kernel_rfl) rfl #[.int .u32 a0, .string (strOfNums l1)] (by rfl) rfl rfl (by (try simp only [List.map_toArray, List.map_cons, List.map_nil]); first | done | rfl | (simp only [List.length_drop, List.length_take]; rfl)) ?_
            with_reducible refine (removalistref02_More.calls k a0 (strOfNums l1) t135 _ A11.out).mono ?_
            rintro e w' ⟨rfl, ⟨nd, rfl⟩⟩
            refine ⟨_, rfl, ?_⟩
            refine hK.out _ _ trivial (fun hHeld => ?_)
            clear hK K
            refine norm_ (a' := ?_) ?_ ?_
            rotate_left
            · show Act.put _ (some 26) _ = _
              simp only [Act.put, List.setIfInBounds_toArray, List.set_cons_zero, List.set_cons_succ, i64_w, i32_w]
              rfl
            refine pure_ (i := 12) (N := some 27) (v := ?_) (a' := ?_) #[true, true, true, true, true, true, true, true, true, true, true, true, true, false, false, false, false, false, false, false, false, false, false, false, false, false, false, false, false, false] rfl rfl (any_of HT_.out (by kernel_rfl)) (fun _ _ _ h => h) (Or.inl ⟨by rfl, ?_⟩) ?_ ?_
            rotate_left
            · intro w'
              go_simp
              with_reducible rfl
            rotate_left
            · simp only [Act.put, List.setIfInBounds_toArray, List.set_cons_zero, List.set_cons_succ, i64_w, i32_w]
              rfl
            refine pure_ (i := 13) (N := some 28) (v := ?_) (a' := ?_) #[true, true, true, true, true, true, true, true, true, true, true, true, true, true, false, false, false, false, false, false, false, false, false, false, false, false, false, false, false, false] rfl rfl (any_of HT_.out (by kernel_rfl)) (fun _ _ _ h => h) (Or.inl ⟨by rfl, ?_⟩) ?_ ?_
            rotate_left
            · intro w'
              go_simp
              with_reducible rfl
            rotate_left
            · simp only [Act.put, List.setIfInBounds_toArray, List.set_cons_zero, List.set_cons_succ, i64_w, i32_w]
              rfl
            refine pure_ (i := 14) (N := some 29) (v := ?_) (a' := ?_) #[true, true, true, true, true, true, true, true, true, true, true, true, true, true, true, false, false, false, false, false, false, false, false, false, false, false, false, false, false, false] rfl rfl (any_of HT_.out (by kernel_rfl)) (fun _ _ _ h => h) (Or.inl ⟨by rfl, ?_⟩) ?_ ?_
            rotate_left
            · intro w'
              go_simp
              with_reducible rfl
            rotate_left
            · simp only [Act.put, List.setIfInBounds_toArray, List.set_cons_zero, List.set_cons_succ, i64_w, i32_w]
              rfl
            refine pure_ (i := 15) (N := some 30) (v := ?_) (a' := ?_) #[true, true, true, true, true, true, true, true, true, true, true, true, true, true, true, true, false, false, false, false, false, false, false, false, false, false, false, false, false, false] rfl rfl (any_of HT_.out (by kernel_rfl)) (fun _ _ _ h => h) (Or.inl ⟨by rfl, ?_⟩) ?_ ?_
            rotate_left
            · intro w'
              go_simp
              with_reducible rfl
            rotate_left
            · simp only [Act.put, List.setIfInBounds_toArray, List.set_cons_zero, List.set_cons_succ, i64_w, i32_w]
              rfl
            refine pure_ (i := 18) (N := some 33) (v := ?_) (a' := ?_) #[true, true, true, true, true, true, true, true, true, true, true, true, true, true, true, true, false, false, true, false, false, false, false, false, false, false, false, false, false, false] rfl rfl (any_of HT_.out (by kernel_rfl)) (fun _ _ _ h => h) (Or.inl ⟨by rfl, ?_⟩) ?_ ?_
            rotate_left
            · intro w'
              go_simp
              with_reducible rfl
            rotate_left
            · simp only [Act.put, List.setIfInBounds_toArray, List.set_cons_zero, List.set_cons_succ, i64_w, i32_w]
              rfl
            refine one_ (i := 16) (N := some 31) #[true, true, true, true, true, true, true, true, true, true, true, true, true, true, true, true, true, false, true, false, false, false, false, false, false, false, false, false, false, false] rfl rfl (one_of HT_.out (by kernel_rfl)) (by decide) (fun K hK => ?_)
            refine goes_ Try.func18 (by kernel_rfl) rfl #[.slice A1 l1.length c1] (by rfl) rfl rfl (by (try simp only [List.map_toArray, List.map_cons, List.map_nil]); first | done | rfl | (simp only [List.length_drop, List.length_take]; rfl)) ?_
            with_reducible refine (Hm.crc_Sealed.calls _ _ l1 t136 _ ?side1 ?side2 A13.out).mono ?_
            (case side1 => repeat (first | exact (Kd.C_below HR1.out (by repeat (first | (with_reducible first | exact HB.out | apply below_alloc | apply pw_below_drewN | apply below_drew1) | exact HB.out))) | (with_reducible refine Kd.C_alloc ?_ _) | (with_reducible refine Kd.C_drewN ?_ _) | (with_reducible refine Kd.C_drew ?_)))
            (case side2 => exact HC1.out)
            rintro e w34 ⟨v137, rfl, ho0, hb⟩
            refine ⟨_, rfl, ?_⟩
            have n0_ := Aside0.mk (Kd.R_lower ho0 (below_size (by repeat (first | (with_reducible first | exact HB.out | apply below_alloc | apply pw_below_drewN | apply below_drew1) | exact HB.out))))
            have n1_ := Aside0.mk (below_step (by repeat (first | (with_reducible first | exact HB.out | apply below_alloc | apply pw_below_drewN | apply below_drew1) | exact HB.out)) hb)
            clear HB
            have HO138 := n0_
            have HB := n1_
            clear n0_ n1_
            (try clear hb)
            (try clear hb2)
            (try clear hk)
            (try clear hi)
            (try clear ho0)
            refine hK.out _ _ trivial (fun hHeld => ?_)
            clear hK K
            refine norm_ (a' := ?_) ?_ ?_
            rotate_left
            · show Act.put _ (some 31) _ = _
              simp only [Act.put, List.setIfInBounds_toArray, List.set_cons_zero, List.set_cons_succ, i64_w, i32_w]
              rfl
            refine join_ (σ := Unit) 10 #[true, true, true, true, true, true, true, true, true, true, true, true, true, true, true, true, true, true, true, true, false, false, false, false, false, false, false, false, false, false] (fun s_ => [(32, .string (strOfNums t136)), (34, .string t139)]) (fun s_ w' => (Kd.R (Kd.int .u8) 5 w' w.heap.size (fun _ => True) v137 t136) ∧ (Below w.heap.size w w')) ?_ ?_
            rotate_left
            · intro hCont
              refine two_ (i := 17) (j := 19) (Ni := some 32) (Nj := some 34) #[true, true, true, true, true, true, true, true, true, true, true, true, true, true, true, true, true, true, true, false, false, false, false, false, false, false, false, false, false, false] #[true, true, true, true, true, true, true, true, true, true, true, true, true, true, true, true, true, false, true, true, false, false, false, false, false, false, false, false, false, false] rfl rfl rfl rfl (two_of HT_.out (by kernel_rfl)) (by decide) (by decide) (fun K hK => ?_) (fun K hK => ?_)
              · skip
                have hcv35 := own_string (P := Try.prog) Try.underlying23 Try.underlying5 Try.underlying9 (Kd.own_of_R HO138.out)
                refine value_ (w1 := ?_) (v := ?_) (by rfl) rfl ?_ ?_
                rotate_left 2
                · go_simp
                  constructor
                  · rfl
                  · rfl
                clear hcv35
                refine hK.out _ _ trivial (fun hHeld => ?_)
                clear hK K
                refine norm_ (a' := ?_) ?_ ?_
                rotate_left
                · show Act.put _ (some 32) _ = _
                  simp only [Act.put, List.setIfInBounds_toArray, List.set_cons_zero, List.set_cons_succ, i64_w, i32_w]
                  rfl
                refine one_ (i := 19) (N := some 34) #[true, true, true, true, true, true, true, true, true, true, true, true, true, true, true, true, true, true, true, true, false, false, false, false, false, false, false, false, false, false] rfl rfl (one_of HT_.out (by kernel_rfl)) (by decide) (fun K hK => ?_)
                refine goes_ Try.func19 (by kernel_rfl) rfl #[.string (strOfNums l1)] (by rfl) rfl rfl (by (try simp only [List.map_toArray, List.map_cons, List.map_nil]); first | done | rfl | (simp only [List.length_drop, List.length_take]; rfl)) ?_
                with_reducible refine (removalistref02_Sealed.calls k (strOfNums l1) t139 _ A14.out).mono ?_
                rintro e w36 ⟨rfl, hb⟩
                refine ⟨_, rfl, ?_⟩
                have n0_ := Aside0.mk (Kd.R_below (by (with_reducible repeat (first | apply Kd.R_alloc | apply Kd.R_drewN | apply Kd.R_drew)); exact HO138.out) hb)
                have n1_ := Aside0.mk (below_step (by repeat (first | (with_reducible first | exact HB.out | apply below_alloc | apply pw_below_drewN | apply below_drew1) | exact HB.out)) hb)
                clear HO138
                clear HB
                have HO138 := n0_
                have HB := n1_
                clear n0_ n1_
                (try clear hb)
                (try clear hb2)
                (try clear hk)
                (try clear hi)
                refine hK.out _ _ trivial (fun hHeld => ?_)
                clear hK K
                refine norm_ (a' := ?_) ?_ ?_
                rotate_left
                · show Act.put _ (some 34) _ = _
                  simp only [Act.put, List.setIfInBounds_toArray, List.set_cons_zero, List.set_cons_succ, i64_w, i32_w]
                  rfl
                exact norm_ (by simp only [putAll, Act.put, List.setIfInBounds_toArray, List.set_cons_zero, List.set_cons_succ]) (hCont () _ ⟨(by (with_reducible repeat (first | apply Kd.R_alloc | apply Kd.R_drewN | apply Kd.R_drew)); exact HO138.out), (by repeat (first | (with_reducible first | exact HB.out | apply below_alloc | apply pw_below_drewN | apply below_drew1) | exact HB.out))⟩)
              · skip
                refine goes_ Try.func19 (by kernel_rfl) rfl #[.string (strOfNums l1)] (by rfl) rfl rfl (by (try simp only [List.map_toArray, List.map_cons, List.map_nil]); first | done | rfl | (simp only [List.length_drop, List.length_take]; rfl)) ?_
                with_reducible refine (removalistref02_Sealed.calls k (strOfNums l1) t139 _ A14.out).mono ?_
                rintro e w35 ⟨rfl, hb⟩
                refine ⟨_, rfl, ?_⟩
                have n0_ := Aside0.mk (Kd.R_below (by (with_reducible repeat (first | apply Kd.R_alloc | apply Kd.R_drewN | apply Kd.R_drew)); exact HO138.out) hb)
                have n1_ := Aside0.mk (below_step (by repeat (first | (with_reducible first | exact HB.out | apply below_alloc | apply pw_below_drewN | apply below_drew1) | exact HB.out)) hb)
                clear HO138
                clear HB
                have HO138 := n0_
                have HB := n1_
                clear n0_ n1_
                (try clear hb)
                (try clear hb2)
                (try clear hk)
                (try clear hi)
                refine hK.out _ _ trivial (fun hHeld => ?_)
                clear hK K
                refine norm_ (a' := ?_) ?_ ?_
                rotate_left
                · show Act.put _ (some 34) _ = _
                  simp only [Act.put, List.setIfInBounds_toArray, List.set_cons_zero, List.set_cons_succ, i64_w, i32_w]
                  rfl
                refine one_ (i := 17) (N := some 32) #[true, true, true, true, true, true, true, true, true, true, true, true, true, true, true, true, true, true, true, true, false, false, false, false, false, false, false, false, false, false] rfl rfl (one_of HT_.out (by kernel_rfl)) (by decide) (fun K hK => ?_)
                have hcv36 := own_string (P := Try.prog) Try.underlying23 Try.underlying5 Try.underlying9 (Kd.own_of_R HO138.out)
                refine value_ (w1 := ?_) (v := ?_) (by rfl) rfl ?_ ?_
                rotate_left 2
                · go_simp
                  constructor
                  · rfl
                  · rfl
                clear hcv36
                refine hK.out _ _ trivial (fun hHeld => ?_)
                clear hK K
                refine norm_ (a' := ?_) ?_ ?_
                rotate_left
                · show Act.put _ (some 32) _ = _
                  simp only [Act.put, List.setIfInBounds_toArray, List.set_cons_zero, List.set_cons_succ, i64_w, i32_w]
                  rfl
                exact norm_ (by simp only [putAll, Act.put, List.setIfInBounds_toArray, List.set_cons_zero, List.set_cons_succ]) (hCont () _ ⟨(by (with_reducible repeat (first | apply Kd.R_alloc | apply Kd.R_drewN | apply Kd.R_drew)); exact HO138.out), (by repeat (first | (with_reducible first | exact HB.out | apply below_alloc | apply pw_below_drewN | apply below_drew1) | exact HB.out))⟩)
            rintro _ w37 ⟨h0_, h1_⟩
            have n0_ : Aside0 (Kd.R (Kd.int .u8) 5 w37 w.heap.size (fun _ => True) v137 t136) := ⟨h0_⟩
            have n1_ : Aside0 (Below w.heap.size w w37) := ⟨h1_⟩
            clear HB
            clear h0_ h1_
            have HO138 := n0_
            have HB := n1_
            clear n0_ n1_
            have hHeld := trivial
            refine norm_ (a' := ?_) ?_ ?_
            rotate_left
            · simp only [putAll, Act.put, List.setIfInBounds_toArray, List.set_cons_zero, List.set_cons_succ]
              rfl
            refine pure_ (i := 20) (N := some 35) (v := ?_) (a' := ?_) #[true, true, true, true, true, true, true, true, true, true, true, true, true, true, true, true, true, true, true, true, true, false, false, false, false, false, false, false, false, false] rfl rfl (any_of HT_.out (by kernel_rfl)) (fun _ _ _ h => h) (Or.inl ⟨by rfl, ?_⟩) ?_ ?_
            rotate_left
            · intro w'
              go_simp
              with_reducible rfl
            rotate_left
            · simp only [Act.put, List.setIfInBounds_toArray, List.set_cons_zero, List.set_cons_succ, i64_w, i32_w]
              rfl
            refine pure_ (i := 21) (N := some 36) (v := ?_) (a' := ?_) #[true, true, true, true, true, true, true, true, true, true, true, true, true, true, true, true, true, true, true, true, true, true, false, false, false, false, false, false, false, false] rfl rfl (any_of HT_.out (by kernel_rfl)) (fun _ _ _ h => h) (Or.inl ⟨by rfl, ?_⟩) ?_ ?_
            rotate_left
            · intro w'
              go_simp
              with_reducible rfl
            rotate_left
            · simp only [Act.put, List.setIfInBounds_toArray, List.set_cons_zero, List.set_cons_succ, i64_w, i32_w]
              rfl
            refine pure_ (i := 22) (N := some 37) (v := ?_) (a' := ?_) #[true, true, true, true, true, true, true, true, true, true, true, true, true, true, true, true, true, true, true, true, true, true, true, false, false, false, false, false, false, false] rfl rfl (any_of HT_.out (by kernel_rfl)) (fun _ _ _ h => h) (Or.inl ⟨by rfl, ?_⟩) ?_ ?_
            rotate_left
            · intro w'
              go_simp
              with_reducible rfl
            rotate_left
            · simp only [Act.put, List.setIfInBounds_toArray, List.set_cons_zero, List.set_cons_succ, i64_w, i32_w]
              rfl
            refine pure_ (i := 23) (N := some 38) (v := undef) (a' := ?_) #[true, true, true, true, true, true, true, true, true, true, true, true, true, true, true, true, true, true, true, true, true, true, true, true, false, false, false, false, false, false] rfl rfl (any_of HT_.out (by kernel_rfl)) (fun _ _ _ h => h) (Or.inr ⟨by rfl, rfl⟩) ?_ ?_
            rotate_left
            · simp only [Act.put, List.setIfInBounds_toArray, List.set_cons_zero, List.set_cons_succ, i64_w, i32_w]
              rfl
            refine pure_ (i := 24) (N := some 39) (v := undef) (a' := ?_) #[true, true, true, true, true, true, true, true, true, true, true, true, true, true, true, true, true, true, true, true, true, true, true, true, true, false, false, false, false, false] rfl rfl (any_of HT_.out (by kernel_rfl)) (fun _ _ _ h => h) (Or.inr ⟨by rfl, rfl⟩) ?_ ?_
            rotate_left
            · simp only [Act.put, List.setIfInBounds_toArray, List.set_cons_zero, List.set_cons_succ, i64_w, i32_w]
              rfl
            refine pure_ (i := 25) (N := some 40) (v := undef) (a' := ?_) #[true, true, true, true, true, true, true, true, true, true, true, true, true, true, true, true, true, true, true, true, true, true, true, true, true, true, false, false, false, false] rfl rfl (any_of HT_.out (by kernel_rfl)) (fun _ _ _ h => h) (Or.inr ⟨by rfl, rfl⟩) ?_ ?_
            rotate_left
            · simp only [Act.put, List.setIfInBounds_toArray, List.set_cons_zero, List.set_cons_succ, i64_w, i32_w]
              rfl
            refine pure_ (i := 26) (N := some 41) (v := undef) (a' := ?_) #[true, true, true, true, true, true, true, true, true, true, true, true, true, true, true, true, true, true, true, true, true, true, true, true, true, true, true, false, false, false] rfl rfl (any_of HT_.out (by kernel_rfl)) (fun _ _ _ h => h) (Or.inr ⟨by rfl, rfl⟩) ?_ ?_
            rotate_left
            · simp only [Act.put, List.setIfInBounds_toArray, List.set_cons_zero, List.set_cons_succ, i64_w, i32_w]
              rfl
            refine pure_ (i := 27) (N := some 42) (v := undef) (a' := ?_) #[true, true, true, true, true, true, true, true, true, true, true, true, true, true, true, true, true, true, true, true, true, true, true, true, true, true, true, true, false, false] rfl rfl (any_of HT_.out (by kernel_rfl)) (fun _ _ _ h => h) (Or.inr ⟨by rfl, rfl⟩) ?_ ?_
            rotate_left
            · simp only [Act.put, List.setIfInBounds_toArray, List.set_cons_zero, List.set_cons_succ, i64_w, i32_w]
              rfl
            refine pure_ (i := 28) (N := some 43) (v := ?_) (a' := ?_) #[true, true, true, true, true, true, true, true, true, true, true, true, true, true, true, true, true, true, true, true, true, true, true, true, true, true, true, true, true, false] rfl rfl (any_of HT_.out (by kernel_rfl)) (fun _ _ _ h => h) (Or.inl ⟨by rfl, ?_⟩) ?_ ?_
            rotate_left
            · intro w'
              go_simp
              with_reducible rfl
            rotate_left
            · simp only [Act.put, List.setIfInBounds_toArray, List.set_cons_zero, List.set_cons_succ, i64_w, i32_w]
              rfl
            refine pure_ (i := 29) (N := some 4) (v := ?_) (a' := ?_) #[true, true, true, true, true, true, true, true, true, true, true, true, true, true, true, true, true, true, true, true, true, true, true, true, true, true, true, true, true, true] rfl rfl (any_of HT_.out (by kernel_rfl)) (fun _ _ _ h => h) (Or.inl ⟨by rfl, ?_⟩) ?_ ?_
            rotate_left
            · intro w'
              go_simp
              with_reducible rfl
            rotate_left
            · simp only [Act.put, List.setIfInBounds_toArray, List.set_cons_zero, List.set_cons_succ, i64_w, i32_w]
              rfl
            refine done_ (done_of HT_.out (by kernel_rfl)) ?_
            try go_wp2
            go_ret
            exact ⟨by first | rfl | (simp [errW_none, errW_some] <;> rfl) | (simp [*, errW_none, errW_some] <;> rfl), by repeat (first | (with_reducible first | exact HB.out | apply below_alloc | apply pw_below_drewN | apply below_drew1) | exact HB.out)⟩
        · rw [if_neg c12] at H
          have c12b0 : (t134 == t135) = false := beq_eq_false_iff_ne.mpr c12
          have c12b1 : (t134 != t135) = true := bne_iff_ne.mpr c12
          obtain rfl := Option.some.inj H
          go_enter Try.func3, Try.ntmps3
          try go_wp2_with (first | ((with_reducible refine gate_callee (f := 13) rfl ?_); refine goesL_ (some 7) rfl rfl Try.func13 (by kernel_rfl) rfl #[] rfl (by (try simp only [List.map_toArray, List.map_cons, List.map_nil]); first | done | rfl | (simp only [List.length_drop, List.length_take]; rfl)) ?_; (with_reducible refine (removalistlaw02_awake.calls  true _ A3.out).mono ?_); rintro e w38 ⟨rfl, hb⟩; refine ⟨_, rfl, ?_⟩; have n0_ := Aside0.mk (below_step (by repeat (first | (with_reducible first | exact HB.out | apply below_alloc | apply pw_below_drewN | apply below_drew1) | exact HB.out)) hb); clear HB; have HB := n0_; clear n0_; (try clear hb); (try clear hb2); (try clear hk); (try clear hi); have hcv39 := Kd.C_string (P := Try.prog) (A := A1) (c := c1) Try.underlying23 Try.underlying5 Try.underlying9 (Kd.C_below HR1.out HB.out)))
          have n0_ := Aside0.mk (below_drew1 HB.out)
          clear HB
          have HB := n0_
          clear n0_
          refine start_ (n := 30) (S := fun w' => True) (ds := []) #[false, false, false, false, false, false, false, false, false, false, false, false, false, false, false, false, false, false, false, false, false, false, false, false, false, false, false, false, false, false] (by kernel_rfl) rfl rfl trivial (fun hHeld => ?_); refine with_tabW removalistlaw02_CrcOf.tab7 removalistlaw02_CrcOf.bits7 (fun HT_ HW_ => ?_)
          generalize w38.drew = w40 at HB hHeld ⊢
          refine pure_ (i := 0) (N := some 15) (v := ?_) (a' := ?_) #[true, false, false, false, false, false, false, false, false, false, false, false, false, false, false, false, false, false, false, false, false, false, false, false, false, false, false, false, false, false] rfl rfl (any_of HT_.out (by kernel_rfl)) (fun _ _ _ h => h) (Or.inl ⟨by rfl, ?_⟩) ?_ ?_
          rotate_left
          · intro w'
            go_simp
            with_reducible rfl
          rotate_left
          · simp only [Act.put, List.setIfInBounds_toArray, List.set_cons_zero, List.set_cons_succ, i64_w, i32_w]
            rfl
          refine pure_ (i := 2) (N := some 17) (v := ?_) (a' := ?_) #[true, false, true, false, false, false, false, false, false, false, false, false, false, false, false, false, false, false, false, false, false, false, false, false, false, false, false, false, false, false] rfl rfl (any_of HT_.out (by kernel_rfl)) (fun _ _ _ h => h) (Or.inl ⟨by rfl, ?_⟩) ?_ ?_
          rotate_left
          · intro w'
            go_simp
            with_reducible rfl
          rotate_left
          · simp only [Act.put, List.setIfInBounds_toArray, List.set_cons_zero, List.set_cons_succ, i64_w, i32_w]
            rfl
          refine one_ (i := 1) (N := some 16) #[true, true, true, false, false, false, false, false, false, false, false, false, false, false, false, false, false, false, false, false, false, false, false, false, false, false, false, false, false, false] rfl rfl (one_of HT_.out (by kernel_rfl)) (by decide) (fun K hK => ?_)
          refine goes_ Try.func14 (by kernel_rfl) rfl #[.slice A1 l1.length c1] (by rfl) rfl rfl (by (try simp only [List.map_toArray, List.map_cons, List.map_nil]); first | done | rfl | (simp only [List.length_drop, List.length_take]; rfl)) ?_
          with_reducible refine (Hm.crc_Of.calls _ _ l1 t132 _ ?side1 ?side2 A7.out).mono ?_
          (case side1 => repeat (first | exact (Kd.C_below HR1.out HB.out) | (with_reducible refine Kd.C_alloc ?_ _) | (with_reducible refine Kd.C_drewN ?_ _) | (with_reducible refine Kd.C_drew ?_)))
          (case side2 => exact HC1.out)
          rintro e w41 ⟨rfl, hb⟩
          refine ⟨_, rfl, ?_⟩
          have n0_ := Aside0.mk (below_step (by repeat (first | (with_reducible first | exact HB.out | apply below_alloc | apply pw_below_drewN | apply below_drew1) | exact HB.out)) hb)
          clear HB
          have HB := n0_
          clear n0_
          (try clear hb)
          (try clear hb2)
          (try clear hk)
          (try clear hi)
          refine hK.out _ _ trivial (fun hHeld => ?_)
          clear hK K
          refine norm_ (a' := ?_) ?_ ?_
          rotate_left
          · show Act.put _ (some 16) _ = _
            simp only [Act.put, List.setIfInBounds_toArray, List.set_cons_zero, List.set_cons_succ, i64_w, i32_w]
            rfl
          refine one_ (i := 3) (N := some 18) #[true, true, true, true, false, false, false, false, false, false, false, false, false, false, false, false, false, false, false, false, false, false, false, false, false, false, false, false, false, false] rfl rfl (one_of HT_.out (by kernel_rfl)) (by decide) (fun K hK => ?_)
          refine goes_ Try.func15 (by kernel_rfl) rfl #[.string (strOfNums l1)] (by rfl) rfl rfl (by (try simp only [List.map_toArray, List.map_cons, List.map_nil]); first | done | rfl | (simp only [List.length_drop, List.length_take]; rfl)) ?_
          with_reducible refine (removalistref02_Of.calls k (strOfNums l1) t133 _ A8.out).mono ?_
          rintro e w' ⟨rfl, ⟨nd, rfl⟩⟩
          refine ⟨_, rfl, ?_⟩
          refine hK.out _ _ trivial (fun hHeld => ?_)
          clear hK K
          refine norm_ (a' := ?_) ?_ ?_
          rotate_left
          · show Act.put _ (some 18) _ = _
            simp only [Act.put, List.setIfInBounds_toArray, List.set_cons_zero, List.set_cons_succ, i64_w, i32_w]
            rfl
          refine pure_ (i := 4) (N := some 19) (v := ?_) (a' := ?_) #[true, true, true, true, true, false, false, false, false, false, false, false, false, false, false, false, false, false, false, false, false, false, false, false, false, false, false, false, false, false] rfl rfl (any_of HT_.out (by kernel_rfl)) (fun _ _ _ h => h) (Or.inl ⟨by rfl, ?_⟩) ?_ ?_
          rotate_left
          · intro w'
            go_simp
            with_reducible rfl
          rotate_left
          · simp only [Act.put, List.setIfInBounds_toArray, List.set_cons_zero, List.set_cons_succ, i64_w, i32_w]
            rfl
          refine pure_ (i := 5) (N := some 20) (v := ?_) (a' := ?_) #[true, true, true, true, true, true, false, false, false, false, false, false, false, false, false, false, false, false, false, false, false, false, false, false, false, false, false, false, false, false] rfl rfl (any_of HT_.out (by kernel_rfl)) (fun _ _ _ h => h) (Or.inl ⟨by rfl, ?_⟩) ?_ ?_
          rotate_left
          · intro w'
            go_simp
            with_reducible rfl
          rotate_left
          · simp only [Act.put, List.setIfInBounds_toArray, List.set_cons_zero, List.set_cons_succ, i64_w, i32_w]
            rfl
          refine pure_ (i := 6) (N := some 21) (v := ?_) (a' := ?_) #[true, true, true, true, true, true, true, false, false, false, false, false, false, false, false, false, false, false, false, false, false, false, false, false, false, false, false, false, false, false] rfl rfl (any_of HT_.out (by kernel_rfl)) (fun _ _ _ h => h) (Or.inl ⟨by rfl, ?_⟩) ?_ ?_
          rotate_left
          · intro w'
            go_simp
            with_reducible rfl
          rotate_left
          · simp only [Act.put, List.setIfInBounds_toArray, List.set_cons_zero, List.set_cons_succ, i64_w, i32_w]
            rfl
          refine pure_ (i := 7) (N := some 22) (v := ?_) (a' := ?_) #[true, true, true, true, true, true, true, true, false, false, false, false, false, false, false, false, false, false, false, false, false, false, false, false, false, false, false, false, false, false] rfl rfl (any_of HT_.out (by kernel_rfl)) (fun _ _ _ h => h) (Or.inl ⟨by rfl, ?_⟩) ?_ ?_
          rotate_left
          · intro w'
            go_simp
            with_reducible rfl
          rotate_left
          · simp only [Act.put, List.setIfInBounds_toArray, List.set_cons_zero, List.set_cons_succ, i64_w, i32_w]
            rfl
          refine pure_ (i := 9) (N := some 24) (v := ?_) (a' := ?_) #[true, true, true, true, true, true, true, true, false, true, false, false, false, false, false, false, false, false, false, false, false, false, false, false, false, false, false, false, false, false] rfl rfl (any_of HT_.out (by kernel_rfl)) (fun _ _ _ h => h) (Or.inl ⟨by rfl, ?_⟩) ?_ ?_
          rotate_left
          · intro w'
            go_simp
            with_reducible rfl
          rotate_left
          · simp only [Act.put, List.setIfInBounds_toArray, List.set_cons_zero, List.set_cons_succ, i64_w, i32_w]
            rfl
          refine pure_ (i := 10) (N := some 25) (v := ?_) (a' := ?_) #[true, true, true, true, true, true, true, true, false, true, true, false, false, false, false, false, false, false, false, false, false, false, false, false, false, false, false, false, false, false] rfl rfl (any_of HT_.out (by kernel_rfl)) (fun _ _ _ h => h) (Or.inl ⟨by rfl, ?_⟩) ?_ ?_
          rotate_left
          · intro w'
            go_simp
            with_reducible rfl
          rotate_left
          · simp only [Act.put, List.setIfInBounds_toArray, List.set_cons_zero, List.set_cons_succ, i64_w, i32_w]
            rfl
          refine one_ (i := 8) (N := some 23) #[true, true, true, true, true, true, true, true, true, true, true, false, false, false, false, false, false, false, false, false, false, false, false, false, false, false, false, false, false, false] rfl rfl (one_of HT_.out (by kernel_rfl)) (by decide) (fun K hK => ?_)
          refine goes_ Try.func16 (by kernel_rfl) rfl #[.int .u32 a0, .slice A1 l1.length c1] (by rfl) rfl rfl (by (try simp only [List.map_toArray, List.map_cons, List.map_nil]); first | done | rfl | (simp only [List.length_drop, List.length_take]; rfl)) ?_
          with_reducible refine (Hm.crc_More.calls a0 _ _ l1 t134 _ ?side1 ?side2 A10.out).mono ?_
          (case side1 => repeat (first | exact (Kd.C_below HR1.out (by repeat (first | (with_reducible first | exact HB.out | apply below_alloc | apply pw_below_drewN | apply below_drew1) | exact HB.out))) | (with_reducible refine Kd.C_alloc ?_ _) | (with_reducible refine Kd.C_drewN ?_ _) | (with_reducible refine Kd.C_drew ?_)))
          (case side2 => exact HC1.out)
          rintro e w42 ⟨rfl, hb⟩
          refine ⟨_, rfl, ?_⟩
          have n0_ := Aside0.mk (below_step (by repeat (first | (with_reducible first | exact HB.out | apply below_alloc | apply pw_below_drewN | apply below_drew1) | exact HB.out)) hb)
          clear HB
          have HB := n0_
          clear n0_
          (try clear hb)
          (try clear hb2)
          (try clear hk)
          (try clear hi)
          refine hK.out _ _ trivial (fun hHeld => ?_)
          clear hK K
          refine norm_ (a' := ?_) ?_ ?_
          rotate_left
          · show Act.put _ (some 23) _ = _
            simp only [Act.put, List.setIfInBounds_toArray, List.set_cons_zero, List.set_cons_succ, i64_w, i32_w]
            rfl
          refine one_ (i := 11) (N := some 26) #[true, true, true, true, true, true, true, true, true, true, true, true, false, false, false, false, false, false, false, false, false, false, false, false, false, false, false, false, false, false] rfl rfl (one_of HT_.out (by kernel_rfl)) (by decide) (fun K hK => ?_)
          refine goes_ Try.func17 (by kernel_rfl) rfl #[.int .u32 a0, .string (strOfNums l1)] (by rfl) rfl rfl (by (try simp only [List.map_toArray, List.map_cons, List.map_nil]); first | done | rfl | (simp only [List.length_drop, List.length_take]; rfl)) ?_
          with_reducible refine (removalistref02_More.calls k a0 (strOfNums l1) t135 _ A11.out).mono ?_
          rintro e w' ⟨rfl, ⟨nd, rfl⟩⟩
          refine ⟨_, rfl, ?_⟩
          refine hK.out _ _ trivial (fun hHeld => ?_)
          clear hK K
          refine norm_ (a' := ?_) ?_ ?_
          rotate_left
          · show Act.put _ (some 26) _ = _
            simp only [Act.put, List.setIfInBounds_toArray, List.set_cons_zero, List.set_cons_succ, i64_w, i32_w]
            rfl
          refine pure_ (i := 12) (N := some 27) (v := ?_) (a' := ?_) #[true, true, true, true, true, true, true, true, true, true, true, true, true, false, false, false, false, false, false, false, false, false, false, false, false, false, false, false, false, false] rfl rfl (any_of HT_.out (by kernel_rfl)) (fun _ _ _ h => h) (Or.inl ⟨by rfl, ?_⟩) ?_ ?_
          rotate_left
          · intro w'
            go_simp
            with_reducible rfl
          rotate_left
          · simp only [Act.put, List.setIfInBounds_toArray, List.set_cons_zero, List.set_cons_succ, i64_w, i32_w]
            rfl
          refine pure_ (i := 13) (N := some 28) (v := ?_) (a' := ?_) #[true, true, true, true, true, true, true, true, true, true, true, true, true, true, false, false, false, false, false, false, false, false, false, false, false, false, false, false, false, false] rfl rfl (any_of HT_.out (by kernel_rfl)) (fun _ _ _ h => h) (Or.inl ⟨by rfl, ?_⟩) ?_ ?_
          rotate_left
          · intro w'
            go_simp
            with_reducible rfl
          rotate_left
          · simp only [Act.put, List.setIfInBounds_toArray, List.set_cons_zero, List.set_cons_succ, i64_w, i32_w]
            rfl
          refine pure_ (i := 14) (N := some 29) (v := ?_) (a' := ?_) #[true, true, true, true, true, true, true, true, true, true, true, true, true, true, true, false, false, false, false, false, false, false, false, false, false, false, false, false, false, false] rfl rfl (any_of HT_.out (by kernel_rfl)) (fun _ _ _ h => h) (Or.inl ⟨by rfl, ?_⟩) ?_ ?_
          rotate_left
          · intro w'
            go_simp
            with_reducible rfl
          rotate_left
          · simp only [Act.put, List.setIfInBounds_toArray, List.set_cons_zero, List.set_cons_succ, i64_w, i32_w]
            rfl
          refine pure_ (i := 15) (N := some 30) (v := undef) (a' := ?_) #[true, true, true, true, true, true, true, true, true, true, true, true, true, true, true, true, false, false, false, false, false, false, false, false, false, false, false, false, false, false] rfl rfl (any_of HT_.out (by kernel_rfl)) (fun _ _ _ h => h) (Or.inr ⟨by rfl, rfl⟩) ?_ ?_
          rotate_left
          · simp only [Act.put, List.setIfInBounds_toArray, List.set_cons_zero, List.set_cons_succ, i64_w, i32_w]
            rfl
          refine pure_ (i := 16) (N := some 31) (v := undef) (a' := ?_) #[true, true, true, true, true, true, true, true, true, true, true, true, true, true, true, true, true, false, false, false, false, false, false, false, false, false, false, false, false, false] rfl rfl (any_of HT_.out (by kernel_rfl)) (fun _ _ _ h => h) (Or.inr ⟨by rfl, rfl⟩) ?_ ?_
          rotate_left
          · simp only [Act.put, List.setIfInBounds_toArray, List.set_cons_zero, List.set_cons_succ, i64_w, i32_w]
            rfl
          refine pure_ (i := 17) (N := some 32) (v := undef) (a' := ?_) #[true, true, true, true, true, true, true, true, true, true, true, true, true, true, true, true, true, true, false, false, false, false, false, false, false, false, false, false, false, false] rfl rfl (any_of HT_.out (by kernel_rfl)) (fun _ _ _ h => h) (Or.inr ⟨by rfl, rfl⟩) ?_ ?_
          rotate_left
          · simp only [Act.put, List.setIfInBounds_toArray, List.set_cons_zero, List.set_cons_succ, i64_w, i32_w]
            rfl
          refine pure_ (i := 18) (N := some 33) (v := undef) (a' := ?_) #[true, true, true, true, true, true, true, true, true, true, true, true, true, true, true, true, true, true, true, false, false, false, false, false, false, false, false, false, false, false] rfl rfl (any_of HT_.out (by kernel_rfl)) (fun _ _ _ h => h) (Or.inr ⟨by rfl, rfl⟩) ?_ ?_
          rotate_left
          · simp only [Act.put, List.setIfInBounds_toArray, List.set_cons_zero, List.set_cons_succ, i64_w, i32_w]
            rfl
          refine pure_ (i := 19) (N := some 34) (v := undef) (a' := ?_) #[true, true, true, true, true, true, true, true, true, true, true, true, true, true, true, true, true, true, true, true, false, false, false, false, false, false, false, false, false, false] rfl rfl (any_of HT_.out (by kernel_rfl)) (fun _ _ _ h => h) (Or.inr ⟨by rfl, rfl⟩) ?_ ?_
          rotate_left
          · simp only [Act.put, List.setIfInBounds_toArray, List.set_cons_zero, List.set_cons_succ, i64_w, i32_w]
            rfl
          refine pure_ (i := 20) (N := some 35) (v := undef) (a' := ?_) #[true, true, true, true, true, true, true, true, true, true, true, true, true, true, true, true, true, true, true, true, true, false, false, false, false, false, false, false, false, false] rfl rfl (any_of HT_.out (by kernel_rfl)) (fun _ _ _ h => h) (Or.inr ⟨by rfl, rfl⟩) ?_ ?_
          rotate_left
          · simp only [Act.put, List.setIfInBounds_toArray, List.set_cons_zero, List.set_cons_succ, i64_w, i32_w]
            rfl
          refine pure_ (i := 21) (N := some 36) (v := ?_) (a' := ?_) #[true, true, true, true, true, true, true, true, true, true, true, true, true, true, true, true, true, true, true, true, true, true, false, false, false, false, false, false, false, false] rfl rfl (any_of HT_.out (by kernel_rfl)) (fun _ _ _ h => h) (Or.inl ⟨by rfl, ?_⟩) ?_ ?_
          rotate_left
          · intro w'
            go_simp
            with_reducible rfl
          rotate_left
          · simp only [Act.put, List.setIfInBounds_toArray, List.set_cons_zero, List.set_cons_succ, i64_w, i32_w]
            rfl
          refine pure_ (i := 22) (N := some 37) (v := ?_) (a' := ?_) #[true, true, true, true, true, true, true, true, true, true, true, true, true, true, true, true, true, true, true, true, true, true, true, false, false, false, false, false, false, false] rfl rfl (any_of HT_.out (by kernel_rfl)) (fun _ _ _ h => h) (Or.inl ⟨by rfl, ?_⟩) ?_ ?_
          rotate_left
          · intro w'
            go_simp
            with_reducible rfl
          rotate_left
          · simp only [Act.put, List.setIfInBounds_toArray, List.set_cons_zero, List.set_cons_succ, i64_w, i32_w]
            rfl
          refine pure_ (i := 23) (N := some 38) (v := undef) (a' := ?_) #[true, true, true, true, true, true, true, true, true, true, true, true, true, true, true, true, true, true, true, true, true, true, true, true, false, false, false, false, false, false] rfl rfl (any_of HT_.out (by kernel_rfl)) (fun _ _ _ h => h) (Or.inr ⟨by rfl, rfl⟩) ?_ ?_
          rotate_left
          · simp only [Act.put, List.setIfInBounds_toArray, List.set_cons_zero, List.set_cons_succ, i64_w, i32_w]
            rfl
          refine pure_ (i := 24) (N := some 39) (v := undef) (a' := ?_) #[true, true, true, true, true, true, true, true, true, true, true, true, true, true, true, true, true, true, true, true, true, true, true, true, true, false, false, false, false, false] rfl rfl (any_of HT_.out (by kernel_rfl)) (fun _ _ _ h => h) (Or.inr ⟨by rfl, rfl⟩) ?_ ?_
          rotate_left
          · simp only [Act.put, List.setIfInBounds_toArray, List.set_cons_zero, List.set_cons_succ, i64_w, i32_w]
            rfl
          refine pure_ (i := 25) (N := some 40) (v := undef) (a' := ?_) #[true, true, true, true, true, true, true, true, true, true, true, true, true, true, true, true, true, true, true, true, true, true, true, true, true, true, false, false, false, false] rfl rfl (any_of HT_.out (by kernel_rfl)) (fun _ _ _ h => h) (Or.inr ⟨by rfl, rfl⟩) ?_ ?_
          rotate_left
          · simp only [Act.put, List.setIfInBounds_toArray, List.set_cons_zero, List.set_cons_succ, i64_w, i32_w]
            rfl
          refine pure_ (i := 26) (N := some 41) (v := undef) (a' := ?_) #[true, true, true, true, true, true, true, true, true, true, true, true, true, true, true, true, true, true, true, true, true, true, true, true, true, true, true, false, false, false] rfl rfl (any_of HT_.out (by kernel_rfl)) (fun _ _ _ h => h) (Or.inr ⟨by rfl, rfl⟩) ?_ ?_
          rotate_left
          · simp only [Act.put, List.setIfInBounds_toArray, List.set_cons_zero, List.set_cons_succ, i64_w, i32_w]
            rfl
          refine pure_ (i := 27) (N := some 42) (v := undef) (a' := ?_) #[true, true, true, true, true, true, true, true, true, true, true, true, true, true, true, true, true, true, true, true, true, true, true, true, true, true, true, true, false, false] rfl rfl (any_of HT_.out (by kernel_rfl)) (fun _ _ _ h => h) (Or.inr ⟨by rfl, rfl⟩) ?_ ?_
          rotate_left
          · simp only [Act.put, List.setIfInBounds_toArray, List.set_cons_zero, List.set_cons_succ, i64_w, i32_w]
            rfl
          refine pure_ (i := 28) (N := some 43) (v := ?_) (a' := ?_) #[true, true, true, true, true, true, true, true, true, true, true, true, true, true, true, true, true, true, true, true, true, true, true, true, true, true, true, true, true, false] rfl rfl (any_of HT_.out (by kernel_rfl)) (fun _ _ _ h => h) (Or.inl ⟨by rfl, ?_⟩) ?_ ?_
          rotate_left
          · intro w'
            go_simp
            with_reducible rfl
          rotate_left
          · simp only [Act.put, List.setIfInBounds_toArray, List.set_cons_zero, List.set_cons_succ, i64_w, i32_w]
            rfl
          refine pure_ (i := 29) (N := some 4) (v := ?_) (a' := ?_) #[true, true, true, true, true, true, true, true, true, true, true, true, true, true, true, true, true, true, true, true, true, true, true, true, true, true, true, true, true, true] rfl rfl (any_of HT_.out (by kernel_rfl)) (fun _ _ _ h => h) (Or.inl ⟨by rfl, ?_⟩) ?_ ?_
          rotate_left
          · intro w'
            go_simp
            with_reducible rfl
          rotate_left
          · simp only [Act.put, List.setIfInBounds_toArray, List.set_cons_zero, List.set_cons_succ, i64_w, i32_w]
            rfl
          refine done_ (done_of HT_.out (by kernel_rfl)) ?_
          try go_wp2
          go_ret
          exact ⟨by first | rfl | (simp [errW_none, errW_some] <;> rfl) | (simp [*, errW_none, errW_some] <;> rfl), by repeat (first | (with_reducible first | exact HB.out | apply below_alloc | apply pw_below_drewN | apply below_drew1) | exact HB.out)⟩
      · rw [if_neg c9] at H
        have c9b0 : (t132 == t133) = false := beq_eq_false_iff_ne.mpr c9
        have c9b1 : (t132 != t133) = true := bne_iff_ne.mpr c9
        obtain rfl := Option.some.inj H
        go_enter Try.func3, Try.ntmps3
        try go_wp2_with (first | ((with_reducible refine gate_callee (f := 13) rfl ?_); refine goesL_ (some 7) rfl rfl Try.func13 (by kernel_rfl) rfl #[] rfl (by (try simp only [List.map_toArray, List.map_cons, List.map_nil]); first | done | rfl | (simp only [List.length_drop, List.length_take]; rfl)) ?_; (with_reducible refine (removalistlaw02_awake.calls  true _ A3.out).mono ?_); rintro e w43 ⟨rfl, hb⟩; refine ⟨_, rfl, ?_⟩; have n0_ := Aside0.mk (below_step (by repeat (first | (with_reducible first | exact HB.out | apply below_alloc | apply pw_below_drewN | apply below_drew1) | exact HB.out)) hb); clear HB; have HB := n0_; clear n0_; (try clear hb); (try clear hb2); (try clear hk); (try clear hi); have hcv44 := Kd.C_string (P := Try.prog) (A := A1) (c := c1) Try.underlying23 Try.underlying5 Try.underlying9 (Kd.C_below HR1.out HB.out)))
        have n0_ := Aside0.mk (below_drew1 HB.out)
        clear HB
        have HB := n0_
        clear n0_
        refine start_ (n := 30) (S := fun w' => True) (ds := []) #[false, false, false, false, false, false, false, false, false, false, false, false, false, false, false, false, false, false, false, false, false, false, false, false, false, false, false, false, false, false] (by kernel_rfl) rfl rfl trivial (fun hHeld => ?_); refine with_tabW removalistlaw02_CrcOf.tab7 removalistlaw02_CrcOf.bits7 (fun HT_ HW_ => ?_)
        generalize w43.drew = w45 at HB hHeld ⊢
        refine pure_ (i := 0) (N := some 15) (v := ?_) (a' := ?_) #[true, false, false, false, false, false, false, false, false, false, false, false, false, false, false, false, false, false, false, false, false, false, false, false, false, false, false, false, false, false] rfl rfl (any_of HT_.out (by kernel_rfl)) (fun _ _ _ h => h) (Or.inl ⟨by rfl, ?_⟩) ?_ ?_
        rotate_left
        · intro w'
          go_simp
          with_reducible rfl
        rotate_left
        · simp only [Act.put, List.setIfInBounds_toArray, List.set_cons_zero, List.set_cons_succ, i64_w, i32_w]
          rfl
        refine pure_ (i := 2) (N := some 17) (v := ?_) (a' := ?_) #[true, false, true, false, false, false, false, false, false, false, false, false, false, false, false, false, false, false, false, false, false, false, false, false, false, false, false, false, false, false] rfl rfl (any_of HT_.out (by kernel_rfl)) (fun _ _ _ h => h) (Or.inl ⟨by rfl, ?_⟩) ?_ ?_
        rotate_left
        · intro w'
          go_simp
          with_reducible rfl
        rotate_left
        · simp only [Act.put, List.setIfInBounds_toArray, List.set_cons_zero, List.set_cons_succ, i64_w, i32_w]
          rfl
        refine one_ (i := 1) (N := some 16) #[true, true, true, false, false, false, false, false, false, false, false, false, false, false, false, false, false, false, false, false, false, false, false, false, false, false, false, false, false, false] rfl rfl (one_of HT_.out (by kernel_rfl)) (by decide) (fun K hK => ?_)
        refine goes_ Try.func14 (by kernel_rfl) rfl #[.slice A1 l1.length c1] (by rfl) rfl rfl (by (try simp only [List.map_toArray, List.map_cons, List.map_nil]); first | done | rfl | (simp only [List.length_drop, List.length_take]; rfl)) ?_
        with_reducible refine (Hm.crc_Of.calls _ _ l1 t132 _ ?side1 ?side2 A7.out).mono ?_
        (case side1 => repeat (first | exact (Kd.C_below HR1.out HB.out) | (with_reducible refine Kd.C_alloc ?_ _) | (with_reducible refine Kd.C_drewN ?_ _) | (with_reducible refine Kd.C_drew ?_)))
        (case side2 => exact HC1.out)
        rintro e w46 ⟨rfl, hb⟩
        refine ⟨_, rfl, ?_⟩
        have n0_ := Aside0.mk (below_step (by repeat (first | (with_reducible first | exact HB.out | apply below_alloc | apply pw_below_drewN | apply below_drew1) | exact HB.out)) hb)
        clear HB
        have HB := n0_
        clear n0_
        (try clear hb)
        (try clear hb2)
        (try clear hk)
        (try clear hi)
        refine hK.out _ _ trivial (fun hHeld => ?_)
        clear hK K
        refine norm_ (a' := ?_) ?_ ?_
        rotate_left
        · show Act.put _ (some 16) _ = _
          simp only [Act.put, List.setIfInBounds_toArray, List.set_cons_zero, List.set_cons_succ, i64_w, i32_w]
          rfl
        refine one_ (i := 3) (N := some 18) #[true, true, true, true, false, false, false, false, false, false, false, false, false, false, false, false, false, false, false, false, false, false, false, false, false, false, false, false, false, false] rfl rfl (one_of HT_.out (by kernel_rfl)) (by decide) (fun K hK => ?_)
        refine goes_ Try.func15 (by kernel_rfl) rfl #[.string (strOfNums l1)] (by rfl) rfl rfl (by (try simp only [List.map_toArray, List.map_cons, List.map_nil]); first | done | rfl | (simp only [List.length_drop, List.length_take]; rfl)) ?_
        with_reducible refine (removalistref02_Of.calls k (strOfNums l1) t133 _ A8.out).mono ?_
        rintro e w' ⟨rfl, ⟨nd, rfl⟩⟩
        refine ⟨_, rfl, ?_⟩
        refine hK.out _ _ trivial (fun hHeld => ?_)
        clear hK K
        refine norm_ (a' := ?_) ?_ ?_
        rotate_left
        · show Act.put _ (some 18) _ = _
          simp only [Act.put, List.setIfInBounds_toArray, List.set_cons_zero, List.set_cons_succ, i64_w, i32_w]
          rfl
        refine pure_ (i := 4) (N := some 19) (v := ?_) (a' := ?_) #[true, true, true, true, true, false, false, false, false, false, false, false, false, false, false, false, false, false, false, false, false, false, false, false, false, false, false, false, false, false] rfl rfl (any_of HT_.out (by kernel_rfl)) (fun _ _ _ h => h) (Or.inl ⟨by rfl, ?_⟩) ?_ ?_
        rotate_left
        · intro w'
          go_simp
          with_reducible rfl
        rotate_left
        · simp only [Act.put, List.setIfInBounds_toArray, List.set_cons_zero, List.set_cons_succ, i64_w, i32_w]
          rfl
        refine pure_ (i := 5) (N := some 20) (v := ?_) (a' := ?_) #[true, true, true, true, true, true, false, false, false, false, false, false, false, false, false, false, false, false, false, false, false, false, false, false, false, false, false, false, false, false] rfl rfl (any_of HT_.out (by kernel_rfl)) (fun _ _ _ h => h) (Or.inl ⟨by rfl, ?_⟩) ?_ ?_
        rotate_left
        · intro w'
          go_simp
          with_reducible rfl
        rotate_left
        · simp only [Act.put, List.setIfInBounds_toArray, List.set_cons_zero, List.set_cons_succ, i64_w, i32_w]
          rfl
        refine pure_ (i := 6) (N := some 21) (v := undef) (a' := ?_) #[true, true, true, true, true, true, true, false, false, false, false, false, false, false, false, false, false, false, false, false, false, false, false, false, false, false, false, false, false, false] rfl rfl (any_of HT_.out (by kernel_rfl)) (fun _ _ _ h => h) (Or.inr ⟨by rfl, rfl⟩) ?_ ?_
        rotate_left
        · simp only [Act.put, List.setIfInBounds_toArray, List.set_cons_zero, List.set_cons_succ, i64_w, i32_w]
          rfl
        refine pure_ (i := 7) (N := some 22) (v := undef) (a' := ?_) #[true, true, true, true, true, true, true, true, false, false, false, false, false, false, false, false, false, false, false, false, false, false, false, false, false, false, false, false, false, false] rfl rfl (any_of HT_.out (by kernel_rfl)) (fun _ _ _ h => h) (Or.inr ⟨by rfl, rfl⟩) ?_ ?_
        rotate_left
        · simp only [Act.put, List.setIfInBounds_toArray, List.set_cons_zero, List.set_cons_succ, i64_w, i32_w]
          rfl
        refine pure_ (i := 8) (N := some 23) (v := undef) (a' := ?_) #[true, true, true, true, true, true, true, true, true, false, false, false, false, false, false, false, false, false, false, false, false, false, false, false, false, false, false, false, false, false] rfl rfl (any_of HT_.out (by kernel_rfl)) (fun _ _ _ h => h) (Or.inr ⟨by rfl, rfl⟩) ?_ ?_
        rotate_left
        · simp only [Act.put, List.setIfInBounds_toArray, List.set_cons_zero, List.set_cons_succ, i64_w, i32_w]
          rfl
        refine pure_ (i := 9) (N := some 24) (v := undef) (a' := ?_) #[true, true, true, true, true, true, true, true, true, true, false, false, false, false, false, false, false, false, false, false, false, false, false, false, false, false, false, false, false, false] rfl rfl (any_of HT_.out (by kernel_rfl)) (fun _ _ _ h => h) (Or.inr ⟨by rfl, rfl⟩) ?_ ?_
        rotate_left
        · simp only [Act.put, List.setIfInBounds_toArray, List.set_cons_zero, List.set_cons_succ, i64_w, i32_w]
          rfl
        refine pure_ (i := 10) (N := some 25) (v := undef) (a' := ?_) #[true, true, true, true, true, true, true, true, true, true, true, false, false, false, false, false, false, false, false, false, false, false, false, false, false, false, false, false, false, false] rfl rfl (any_of HT_.out (by kernel_rfl)) (fun _ _ _ h => h) (Or.inr ⟨by rfl, rfl⟩) ?_ ?_
        rotate_left
        · simp only [Act.put, List.setIfInBounds_toArray, List.set_cons_zero, List.set_cons_succ, i64_w, i32_w]
          rfl
        refine pure_ (i := 11) (N := some 26) (v := undef) (a' := ?_) #[true, true, true, true, true, true, true, true, true, true, true, true, false, false, false, false, false, false, false, false, false, false, false, false, false, false, false, false, false, false] rfl rfl (any_of HT_.out (by kernel_rfl)) (fun _ _ _ h => h) (Or.inr ⟨by rfl, rfl⟩) ?_ ?_
        rotate_left
        · simp only [Act.put, List.setIfInBounds_toArray, List.set_cons_zero, List.set_cons_succ, i64_w, i32_w]
          rfl
        refine pure_ (i := 12) (N := some 27) (v := undef) (a' := ?_) #[true, true, true, true, true, true, true, true, true, true, true, true, true, false, false, false, false, false, false, false, false, false, false, false, false, false, false, false, false, false] rfl rfl (any_of HT_.out (by kernel_rfl)) (fun _ _ _ h => h) (Or.inr ⟨by rfl, rfl⟩) ?_ ?_
        rotate_left
        · simp only [Act.put, List.setIfInBounds_toArray, List.set_cons_zero, List.set_cons_succ, i64_w, i32_w]
          rfl
        refine pure_ (i := 13) (N := some 28) (v := ?_) (a' := ?_) #[true, true, true, true, true, true, true, true, true, true, true, true, true, true, false, false, false, false, false, false, false, false, false, false, false, false, false, false, false, false] rfl rfl (any_of HT_.out (by kernel_rfl)) (fun _ _ _ h => h) (Or.inl ⟨by rfl, ?_⟩) ?_ ?_
        rotate_left
        · intro w'
          go_simp
          with_reducible rfl
        rotate_left
        · simp only [Act.put, List.setIfInBounds_toArray, List.set_cons_zero, List.set_cons_succ, i64_w, i32_w]
          rfl
        refine pure_ (i := 14) (N := some 29) (v := ?_) (a' := ?_) #[true, true, true, true, true, true, true, true, true, true, true, true, true, true, true, false, false, false, false, false, false, false, false, false, false, false, false, false, false, false] rfl rfl (any_of HT_.out (by kernel_rfl)) (fun _ _ _ h => h) (Or.inl ⟨by rfl, ?_⟩) ?_ ?_
        rotate_left
        · intro w'
          go_simp
          with_reducible rfl
        rotate_left
        · simp only [Act.put, List.setIfInBounds_toArray, List.set_cons_zero, List.set_cons_succ, i64_w, i32_w]
          rfl
        refine pure_ (i := 15) (N := some 30) (v := undef) (a' := ?_) #[true, true, true, true, true, true, true, true, true, true, true, true, true, true, true, true, false, false, false, false, false, false, false, false, false, false, false, false, false, false] rfl rfl (any_of HT_.out (by kernel_rfl)) (fun _ _ _ h => h) (Or.inr ⟨by rfl, rfl⟩) ?_ ?_
        rotate_left
        · simp only [Act.put, List.setIfInBounds_toArray, List.set_cons_zero, List.set_cons_succ, i64_w, i32_w]
          rfl
        refine pure_ (i := 16) (N := some 31) (v := undef) (a' := ?_) #[true, true, true, true, true, true, true, true, true, true, true, true, true, true, true, true, true, false, false, false, false, false, false, false, false, false, false, false, false, false] rfl rfl (any_of HT_.out (by kernel_rfl)) (fun _ _ _ h => h) (Or.inr ⟨by rfl, rfl⟩) ?_ ?_
        rotate_left
        · simp only [Act.put, List.setIfInBounds_toArray, List.set_cons_zero, List.set_cons_succ, i64_w, i32_w]
          rfl
        refine pure_ (i := 17) (N := some 32) (v := undef) (a' := ?_) #[true, true, true, true, true, true, true, true, true, true, true, true, true, true, true, true, true, true, false, false, false, false, false, false, false, false, false, false, false, false] rfl rfl (any_of HT_.out (by kernel_rfl)) (fun _ _ _ h => h) (Or.inr ⟨by rfl, rfl⟩) ?_ ?_
        rotate_left
        · simp only [Act.put, List.setIfInBounds_toArray, List.set_cons_zero, List.set_cons_succ, i64_w, i32_w]
          rfl
        refine pure_ (i := 18) (N := some 33) (v := undef) (a' := ?_) #[true, true, true, true, true, true, true, true, true, true, true, true, true, true, true, true, true, true, true, false, false, false, false, false, false, false, false, false, false, false] rfl rfl (any_of HT_.out (by kernel_rfl)) (fun _ _ _ h => h) (Or.inr ⟨by rfl, rfl⟩) ?_ ?_
        rotate_left
        · simp only [Act.put, List.setIfInBounds_toArray, List.set_cons_zero, List.set_cons_succ, i64_w, i32_w]
          rfl
        refine pure_ (i := 19) (N := some 34) (v := undef) (a' := ?_) #[true, true, true, true, true, true, true, true, true, true, true, true, true, true, true, true, true, true, true, true, false, false, false, false, false, false, false, false, false, false] rfl rfl (any_of HT_.out (by kernel_rfl)) (fun _ _ _ h => h) (Or.inr ⟨by rfl, rfl⟩) ?_ ?_
        rotate_left
        · simp only [Act.put, List.setIfInBounds_toArray, List.set_cons_zero, List.set_cons_succ, i64_w, i32_w]
          rfl
        refine pure_ (i := 20) (N := some 35) (v := undef) (a' := ?_) #[true, true, true, true, true, true, true, true, true, true, true, true, true, true, true, true, true, true, true, true, true, false, false, false, false, false, false, false, false, false] rfl rfl (any_of HT_.out (by kernel_rfl)) (fun _ _ _ h => h) (Or.inr ⟨by rfl, rfl⟩) ?_ ?_
        rotate_left
        · simp only [Act.put, List.setIfInBounds_toArray, List.set_cons_zero, List.set_cons_succ, i64_w, i32_w]
          rfl
        refine pure_ (i := 21) (N := some 36) (v := ?_) (a' := ?_) #[true, true, true, true, true, true, true, true, true, true, true, true, true, true, true, true, true, true, true, true, true, true, false, false, false, false, false, false, false, false] rfl rfl (any_of HT_.out (by kernel_rfl)) (fun _ _ _ h => h) (Or.inl ⟨by rfl, ?_⟩) ?_ ?_
        rotate_left
        · intro w'
          go_simp
          with_reducible rfl
        rotate_left
        · simp only [Act.put, List.setIfInBounds_toArray, List.set_cons_zero, List.set_cons_succ, i64_w, i32_w]
          rfl
        refine pure_ (i := 22) (N := some 37) (v := ?_) (a' := ?_) #[true, true, true, true, true, true, true, true, true, true, true, true, true, true, true, true, true, true, true, true, true, true, true, false, false, false, false, false, false, false] rfl rfl (any_of HT_.out (by kernel_rfl)) (fun _ _ _ h => h) (Or.inl ⟨by rfl, ?_⟩) ?_ ?_
        rotate_left
        · intro w'
          go_simp
          with_reducible rfl
        rotate_left
        · simp only [Act.put, List.setIfInBounds_toArray, List.set_cons_zero, List.set_cons_succ, i64_w, i32_w]
          rfl
        refine pure_ (i := 23) (N := some 38) (v := undef) (a' := ?_) #[true, true, true, true, true, true, true, true, true, true, true, true, true, true, true, true, true, true, true, true, true, true, true, true, false, false, false, false, false, false] rfl rfl (any_of HT_.out (by kernel_rfl)) (fun _ _ _ h => h) (Or.inr ⟨by rfl, rfl⟩) ?_ ?_
        rotate_left
        · simp only [Act.put, List.setIfInBounds_toArray, List.set_cons_zero, List.set_cons_succ, i64_w, i32_w]
          rfl
        refine pure_ (i := 24) (N := some 39) (v := undef) (a' := ?_) #[true, true, true, true, true, true, true, true, true, true, true, true, true, true, true, true, true, true, true, true, true, true, true, true, true, false, false, false, false, false] rfl rfl (any_of HT_.out (by kernel_rfl)) (fun _ _ _ h => h) (Or.inr ⟨by rfl, rfl⟩) ?_ ?_
        rotate_left
        · simp only [Act.put, List.setIfInBounds_toArray, List.set_cons_zero, List.set_cons_succ, i64_w, i32_w]
          rfl
        refine pure_ (i := 25) (N := some 40) (v := undef) (a' := ?_) #[true, true, true, true, true, true, true, true, true, true, true, true, true, true, true, true, true, true, true, true, true, true, true, true, true, true, false, false, false, false] rfl rfl (any_of HT_.out (by kernel_rfl)) (fun _ _ _ h => h) (Or.inr ⟨by rfl, rfl⟩) ?_ ?_
        rotate_left
        · simp only [Act.put, List.setIfInBounds_toArray, List.set_cons_zero, List.set_cons_succ, i64_w, i32_w]
          rfl
        refine pure_ (i := 26) (N := some 41) (v := undef) (a' := ?_) #[true, true, true, true, true, true, true, true, true, true, true, true, true, true, true, true, true, true, true, true, true, true, true, true, true, true, true, false, false, false] rfl rfl (any_of HT_.out (by kernel_rfl)) (fun _ _ _ h => h) (Or.inr ⟨by rfl, rfl⟩) ?_ ?_
        rotate_left
        · simp only [Act.put, List.setIfInBounds_toArray, List.set_cons_zero, List.set_cons_succ, i64_w, i32_w]
          rfl
        refine pure_ (i := 27) (N := some 42) (v := undef) (a' := ?_) #[true, true, true, true, true, true, true, true, true, true, true, true, true, true, true, true, true, true, true, true, true, true, true, true, true, true, true, true, false, false] rfl rfl (any_of HT_.out (by kernel_rfl)) (fun _ _ _ h => h) (Or.inr ⟨by rfl, rfl⟩) ?_ ?_
        rotate_left
        · simp only [Act.put, List.setIfInBounds_toArray, List.set_cons_zero, List.set_cons_succ, i64_w, i32_w]
          rfl
        refine pure_ (i := 28) (N := some 43) (v := ?_) (a' := ?_) #[true, true, true, true, true, true, true, true, true, true, true, true, true, true, true, true, true, true, true, true, true, true, true, true, true, true, true, true, true, false] rfl rfl (any_of HT_.out (by kernel_rfl)) (fun _ _ _ h => h) (Or.inl ⟨by rfl, ?_⟩) ?_ ?_
        rotate_left
        · intro w'
          go_simp
          with_reducible rfl
        rotate_left
        · simp only [Act.put, List.setIfInBounds_toArray, List.set_cons_zero, List.set_cons_succ, i64_w, i32_w]
          rfl
        refine pure_ (i := 29) (N := some 4) (v := ?_) (a' := ?_) #[true, true, true, true, true, true, true, true, true, true, true, true, true, true, true, true, true, true, true, true, true, true, true, true, true, true, true, true, true, true] rfl rfl (any_of HT_.out (by kernel_rfl)) (fun _ _ _ h => h) (Or.inl ⟨by rfl, ?_⟩) ?_ ?_
        rotate_left
        · intro w'
          go_simp
          with_reducible rfl
        rotate_left
        · simp only [Act.put, List.setIfInBounds_toArray, List.set_cons_zero, List.set_cons_succ, i64_w, i32_w]
          rfl
        refine done_ (done_of HT_.out (by kernel_rfl)) ?_
        try go_wp2
        go_ret
        exact ⟨by first | rfl | (simp [errW_none, errW_some] <;> rfl) | (simp [*, errW_none, errW_some] <;> rfl), by repeat (first | (with_reducible first | exact HB.out | apply below_alloc | apply pw_below_drewN | apply below_drew1) | exact HB.out)⟩
  · replace c4 := Bool.eq_false_iff.mpr c4
    subst c4
    have H1 : (some false) = some r := by rw [if_neg (show ¬ (false = true) by decide)] at H; exact H
    clear H
    have H := H1
    clear H1
    obtain rfl := Option.some.inj H
    go_enter Try.func3, Try.ntmps3
    go_wp2_with (first | ((with_reducible refine gate_callee (f := 13) rfl ?_); refine goesL_ (some 7) rfl rfl Try.func13 (by kernel_rfl) rfl #[] rfl (by (try simp only [List.map_toArray, List.map_cons, List.map_nil]); first | done | rfl | (simp only [List.length_drop, List.length_take]; rfl)) ?_; (with_reducible refine (removalistlaw02_awake.calls  false _ A3.out).mono ?_); rintro e w47 ⟨rfl, hb⟩; refine ⟨_, rfl, ?_⟩; have n0_ := Aside0.mk (below_step (by repeat (first | (with_reducible first | exact HB.out | apply below_alloc | apply pw_below_drewN | apply below_drew1) | exact HB.out)) hb); clear HB; have HB := n0_; clear n0_; (try clear hb); (try clear hb2); (try clear hk); (try clear hi)))
    go_ret
    exact ⟨by first | rfl | (simp [errW_none, errW_some] <;> rfl) | (simp [*, errW_none, errW_some] <;> rfl), by repeat (first | (with_reducible first | exact HB.out | apply below_alloc | apply pw_below_drewN | apply below_drew1) | exact HB.out)⟩

/-- THE ONE PURE STATEMENT of removalistlaw02_CrcOf: yours. -/
def removalistlaw02_CrcOf.Pure : Prop := ∀ (a0 : Int) (l1 : List Int), (Lit.int .u32 a0).wf = true → l1.length ≤ maxLen → l1.length * 1 ≤ 140737488351232 → (∀ x ∈ l1, (Lit.int .u8 x).wf = true) → ∃ k, removalistlaw02_CrcOf.f k a0 l1 = some true
theorem removalistlaw02_CrcOf.walk (P : removalistlaw02_CrcOf.Pure) (a0 : Int) (a1 : Option Addr) (len1 cap1 : Nat) (z1 : List Int) (w : World) (w0 : (Lit.int .u32 a0).wf = true) (w1 : (a1 = none ∧ len1 = 0 ∧ cap1 = 0 ∧ z1 = []) ∨ ∃ x, a1 = some x ∧ len1 ≤ cap1 ∧ cap1 ≤ maxLen ∧ z1.length = cap1 ∧ (∀ i, i < z1.length → w.cell? (x.add i) = some (.int .u8 (z1.getD i 0))) ∧ ∀ n ∈ z1, (Lit.int .u8 n).wf = true) (y1 : len1 * 1 ≤ 140737488351232) :
    Calls Try.prog 3 #[.int .u32 a0, .slice a1 len1 cap1] w fun e w' => e = .returned (.bool true) ∧ Below w.heap.size w w' := by
  obtain ⟨l1, rfl, hr1, hm1, hw1, hc1⟩ := ReadsInt.ofRowC w1
  obtain ⟨k, h⟩ := P a0 l1 w0 hm1 y1 hw1
  refine (removalistlaw02_CrcOf.calls k a0 _ _ l1 true w (Kd.C_of_reads (d := (0 : Int)) (h1 := fun _ => rfl) hr1) hc1 h).mono ?_
  rintro e w' ⟨rfl, hd⟩
  exact ⟨rfl, hd⟩

end Go.Proofs.Ytelhdgnolijpcaa.PCrcOf
end
section
/- The reference's sum, sealed bytes and right bytes are the program's: for bytes, enough rounds given. -/
namespace Go.Proofs.Ytelhdgnolijpcaa.Hm
open Go.RowKit Go.Proofs.YtelhdgnolijpcaaW.PrintWords Go.Proofs.YtelhdgnolijpcaaW.PrintLast Go.Proofs.YtelhdgnolijpcaaW.PrintMore Go.Proofs.Ytelhdgnolijpcaa.PCrcOf
set_option linter.unusedVariables false
set_option linter.unusedSimpArgs false

theorem step8 (x c : Int) (h0 : 0 ≤ x) (h1 : x < 4294967296) (h2 : 0 ≤ c) (h3 : c < 256) : tn 8 (Go.bits .xor .u32 x ((c % 4294967296 * 16777216) % 4294967296)) = byteStep x c := by
  have e : (c % 4294967296 * 16777216) % 4294967296 = c * 16777216 := by omega
  rw [e]
  have hx : 0 ≤ Go.bits .xor .u32 x (c * 16777216) ∧ Go.bits .xor .u32 x (c * 16777216) < 4294967296 := by
    rw [u32_xor _ _ h0 h1 (by omega) (by omega)]
    have h := Nat.xor_lt_two_pow (n := 32) (x := x.toNat) (y := (c * 16777216).toNat) (by omega) (by omega)
    omega
  have h8 := tn_range 8 _ hx.1 hx.2
  have hb := byteStep_range x c h0 h1 h2 h3
  refine bv_inj _ _ h8.1 h8.2 hb.1 hb.2 ?_
  rw [bv_tn 8 _ hx.1 hx.2, byteStep_bv x c h0 h1 h2 h3, bv_xor _ _ h0 h1 (by omega) (by omega)]
theorem more_l1 (s : ByteArray) (i : Int) (d : Nat) : ∀ (k : Nat) (x j : Int), 0 ≤ x → x < 4294967296 → 0 ≤ j → j + d = 8 →
    removalistref02_More.l1 (k + d + 1) s x i j = removalistref02_More.l0 k s (tn d x) (wrap64 (i + 1)) := by
  induction d with
  | zero =>
    intro k x j h0 h1 hj hd
    simp only [removalistref02_More.l1, tn]
    rw [if_neg (by omega)]
  | succ d ih =>
    intro k x j h0 h1 hj hd
    have ht := t1_range x h0 h1
    have e : ∀ n (y : Int), tn n (t1 y) = tn (n + 1) y := by
      intro n y
      induction n with
      | zero => rfl
      | succ n ih => show t1 (tn n (t1 y)) = t1 (tn (n + 1) y); rw [ih]
    rw [show k + (d + 1) + 1 = (k + d + 1) + 1 by omega]
    simp only [removalistref02_More.l1]
    rw [if_pos (by omega), wrap_up j hj (by omega)]
    have hh := ih k (t1 x) (j + 1) ht.1 ht.2 (by omega) (by omega)
    rw [e] at hh
    by_cases hx : x ≥ 2147483648
    · rw [if_pos hx]
      unfold t1 at hh
      rw [if_pos hx] at hh
      exact hh
    · rw [if_neg hx]
      unfold t1 at hh
      rw [if_neg hx] at hh
      exact hh
theorem more_l0 (s : ByteArray) (hs : s.size ≤ 9223372036854775806) (d : Nat) : ∀ (k : Nat) (x : Int) (i : Nat), 0 ≤ x → x < 4294967296 → i + d = s.size →
    removalistref02_More.l0 (k + 10 * d + 1) s x i = some (4294967295 - crcRaw x ((bytesOf s).drop i)) := by
  induction d with
  | zero =>
    intro k x i h0 h1 hd
    have hl := bytesOf_length s
    simp only [removalistref02_More.l0]
    rw [if_neg (by omega), List.drop_eq_nil_of_le (by omega)]
    show some ((4294967295 - x) % 4294967296) = some (4294967295 - x)
    congr 1
    omega
  | succ d ih =>
    intro k x i h0 h1 hd
    have hl := bytesOf_length s
    have hc : 0 ≤ rd (bytesOf s) (i : Int) ∧ rd (bytesOf s) (i : Int) < 256 := by
      refine (bytesB_iff _).1 (bytesOf_range s) _ ?_
      rw [rd_at _ _ (by omega)]
      exact List.getElem_mem _
    have hs8 := step8 x (rd (bytesOf s) (i : Int)) h0 h1 hc.1 hc.2
    have hb := byteStep_range x _ h0 h1 hc.1 hc.2
    rw [show k + 10 * (d + 1) + 1 = (k + 10 * d + 1 + 8 + 1) + 1 by omega]
    simp only [removalistref02_More.l0]
    rw [if_pos (by omega), if_pos (by omega), bt_rd]
    have hx : 0 ≤ Go.bits .xor .u32 x ((rd (bytesOf s) (i : Int) % 4294967296 * 16777216) % 4294967296) ∧ Go.bits .xor .u32 x ((rd (bytesOf s) (i : Int) % 4294967296 * 16777216) % 4294967296) < 4294967296 := by
      rw [u32_xor _ _ h0 h1 (by omega) (by omega)]
      have h := Nat.xor_lt_two_pow (n := 32) (x := x.toNat) (y := ((rd (bytesOf s) (i : Int) % 4294967296 * 16777216) % 4294967296).toNat) (by omega) (by omega)
      omega
    rw [more_l1 s i 8 (k + 10 * d + 1) _ 0 hx.1 hx.2 (by omega) (by omega), hs8, wrap_up _ (by omega) (by omega)]
    have := ih k _ (i + 1) hb.1 hb.2 (by omega)
    rw [show ((i + 1 : Nat) : Int) = (i : Int) + 1 by omega] at this
    rw [this]
    rw [show (bytesOf s).drop i = rd (bytesOf s) (i : Int) :: (bytesOf s).drop (i + 1) by rw [rd_at _ _ (by omega), List.getElem_cons_drop]]
    rfl
/-- The reference's sum. -/
theorem ref_More (s : ByteArray) (hs : s.size ≤ 9223372036854775806) (a : Int) (h0 : 0 ≤ a) (h1 : a < 4294967296) (k : Nat) (hk : 10 * s.size + 1 ≤ k) : removalistref02_More.f k a s = some (crcM a (bytesOf s)) := by
  unfold removalistref02_More.f
  rw [show (4294967295 - a) % 4294967296 = 4294967295 - a by omega, show k = (k - (10 * s.size + 1)) + 10 * s.size + 1 by omega]
  exact more_l0 s hs s.size _ _ 0 (by omega) (by omega) (by omega)
theorem ref_Of (s : ByteArray) (hs : s.size ≤ 9223372036854775806) (k : Nat) (hk : 10 * s.size + 1 ≤ k) : removalistref02_Of.f k s = some (crcM 0 (bytesOf s)) := by
  unfold removalistref02_Of.f
  rw [ref_More s hs 0 (by omega) (by omega) k hk]
  rfl
theorem ref_U32 (x : Int) (h0 : 0 ≤ x) (h1 : x < 4294967296) : removalistref01_U32.f x = some (strOfNums (be32 x)) := by
  unfold removalistref01_U32.f be32
  rw [Int.tdiv_eq_ediv_of_nonneg h0, Int.tdiv_eq_ediv_of_nonneg h0, Int.tdiv_eq_ediv_of_nonneg h0, Int.emod_eq_of_lt (a := x / 16777216) (by omega) (by omega), Int.emod_eq_of_lt (a := x / 65536) (by omega) (by omega), Int.emod_eq_of_lt (a := x / 256) (by omega) (by omega)]
theorem ref_Sealed (s : ByteArray) (hs : s.size ≤ 9223372036854775800) (k : Nat) (hk : 10 * s.size + 1 ≤ k) : removalistref02_Sealed.f k s = some (s ++ strOfNums (be32 (crcM 0 (bytesOf s)))) := by
  have hr := crcM_range 0 (bytesOf s) (by omega) (by omega) ((bytesB_iff _).1 (bytesOf_range s))
  unfold removalistref02_Sealed.f
  rw [ref_Of s (by omega) k hk]
  simp only [Option.bind_some]
  rw [ref_U32 _ hr.1 hr.2]
  simp only [Option.bind_some]
  rw [if_pos (by rw [size_strOfNums]; show s.size + 4 ≤ _; omega)]
theorem ref_Right (s : ByteArray) (hs : s.size ≤ 9223372036854775800) (k : Nat) (hk : 10 * s.size + 1 ≤ k) : removalistref02_Right.f k s = some (rightB (bytesOf s)) := by
  have hl := bytesOf_length s
  unfold removalistref02_Right.f rightB
  by_cases h4 : (s.size : Int) ≥ 4
  · have hw : wrap64 ((s.size : Int) - 4) = (s.size : Int) - 4 := by unfold wrap64; omega
    rw [if_pos h4, hw, if_pos (by omega), if_pos (by omega), decide_eq_true (by omega)]
    have hz : (s.extract 0 ((s.size : Int) - 4).toNat).size = s.size - 4 := by simp; omega
    rw [ref_Sealed _ (by rw [hz]; omega) k (by rw [hz]; omega)]
    simp only [Option.bind_some, Bool.true_and]
    congr 1
    rw [Bool.eq_iff_iff, beq_iff_eq, decide_eq_true_iff, toList_iff, bytesOf_append, bytesOf_extract, List.drop_zero, hl]
    have e : ((s.size : Int) - 4).toNat = s.size - 4 := by omega
    rw [e]
    have hr := crcM_range 0 ((bytesOf s).take (s.size - 4)) (by omega) (by omega) ((bytesB_iff _).1 (bytesB_take _ _ (bytesOf_range s)))
    rw [bytesOf_strOfNums _ (bytesB_be32 _ hr.1 hr.2)]
  · rw [if_neg h4, decide_eq_false (by omega)]
    rfl
end Go.Proofs.Ytelhdgnolijpcaa.Hm
end
section
/- The Go functions of the reference for sums (U32, U64, Of, Sealed, Right) as given ones: what they tell of any string, and their calls; conditions: the string's size is far below what a machine holds. -/
namespace Go.Proofs.Ytelhdgnolijpcaa.Hm
open Go.RowKit Go.Proofs.YtelhdgnolijpcaaW.PrintWords Go.Proofs.YtelhdgnolijpcaaW.PrintLast Go.Proofs.YtelhdgnolijpcaaW.PrintMore
set_option linter.unusedVariables false
set_option linter.unusedSimpArgs false

def ref01_U32.f (x : Int) : Option ByteArray := if 0 ≤ x ∧ x < 4294967296 then some (strOfNums (be32 x)) else none
theorem ref01_U32.calls (a0 : Int) (r : ByteArray) (w : World) (h : ref01_U32.f a0 = some r) :
    Calls Try.prog 30 #[.int .u32 a0] w fun e w' => e = .returned (.string r) ∧ Below w.heap.size w w' := by
  unfold ref01_U32.f at h
  split at h
  · rename_i hc; exact PCrcOf.removalistref01_U32.calls a0 r w ((ref_U32 a0 hc.1 hc.2).trans h)
  · simp at h
def ref02_Of.f (s : ByteArray) : Option Int := if s.size ≤ 4611686018427387904 then some (crcM 0 (bytesOf s)) else none
theorem ref02_Of.calls (a0 : ByteArray) (r : Int) (w : World) (h : ref02_Of.f a0 = some r) :
    Calls Try.prog 15 #[.string a0] w fun e w' => e = .returned (.int .u32 r) ∧ Drawn0 w w' := by
  unfold ref02_Of.f at h
  split at h
  · exact PCrcOf.removalistref02_Of.calls (10 * a0.size + 1) a0 r w ((ref_Of a0 (by omega) _ (Nat.le_refl _)).trans h)
  · simp at h
def ref02_Sealed.f (s : ByteArray) : Option ByteArray := if s.size ≤ 4611686018427387904 then some (s ++ strOfNums (be32 (crcM 0 (bytesOf s)))) else none
theorem ref02_Sealed.calls (a0 : ByteArray) (r : ByteArray) (w : World) (h : ref02_Sealed.f a0 = some r) :
    Calls Try.prog 19 #[.string a0] w fun e w' => e = .returned (.string r) ∧ Below w.heap.size w w' := by
  unfold ref02_Sealed.f at h
  split at h
  · exact PCrcOf.removalistref02_Sealed.calls (10 * a0.size + 1) a0 r w ((ref_Sealed a0 (by omega) _ (Nat.le_refl _)).trans h)
  · simp at h
def ref02_Right.f (s : ByteArray) : Option Bool := if s.size ≤ 4611686018427387904 then some (rightB (bytesOf s)) else none
theorem ref02_Right.calls (a0 : ByteArray) (r : Bool) (w : World) (h : ref02_Right.f a0 = some r) :
    Calls Try.prog 21 #[.string a0] w fun e w' => e = .returned (.bool r) ∧ Below w.heap.size w w' := by
  unfold ref02_Right.f at h
  split at h
  · exact PCrcOf.removalistref02_Right.calls (10 * a0.size + 1) a0 r w ((ref_Right a0 (by omega) _ (Nat.le_refl _)).trans h)
  · simp at h
end Go.Proofs.Ytelhdgnolijpcaa.Hm
end
section
/- Go functions as plain Lean functions of numbers and lists, and proofs that their calls come to what these compute; conditions: those that each theorem names. (Written by a program of this session: the print, turned so that it takes contracts proved by hand.) -/
namespace Go.Proofs.Ytelhdgnolijpcaa.PRef04Get
open Go.RowKit Go.Proofs.YtelhdgnolijpcaaW.PrintWords Go.Proofs.YtelhdgnolijpcaaW.PrintLast Go.Proofs.YtelhdgnolijpcaaW.PrintMore
attribute [local go_sem] max2_int min2_int max_two min_two max_three min_three max_four min_four   -- for this text's walks alone
set_option linter.unusedVariables false
set_option linter.unusedSimpArgs false



def errW : Option Int → Value
  | none => .nilIface
  | some c => .iface 0 (.int .i64 c)
theorem errW_none : errW none = .nilIface := rfl
theorem errW_some (c : Int) : errW (some c) = .iface 0 (.int .i64 c) := rfl

-- the values' own types

end Go.Proofs.Ytelhdgnolijpcaa.PRef04Get
end
