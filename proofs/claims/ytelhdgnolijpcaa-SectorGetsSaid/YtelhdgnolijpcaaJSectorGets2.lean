/- Part 3 of the proof of the statement SectorGets: lemmas and walks of the Go functions that it reaches; the last theorem is the statement itself; conditions: those that each theorem names. -/
import Derived.Test.YtelhdgnolijpcaaJSectorGets1
import Derived.Test.YtelhdgnolijpcaaProg
import Derived.Below
import Derived.Deep.Draws
import Derived.Deep.AppendLies
import Derived.Maps.AppendAt
import Derived.OwnWalk
import Derived.Laws.BytesArg
import Derived.Laws.MakeOwn
import Derived.Laws.OwnMore
import Derived.Deep.OwnRows
import Derived.Tactics
import Derived.Lib.ConvBytes
import Derived.Laws.Slices
import Derived.WalkKit
import Derived.KernelRfl
import Derived.RowKit3
import Derived.Deep.LoopGhost
import Derived.Deep.QuietTactic
import Derived.BigQuiet
import Derived.WideLaws
import Derived.Deep.DeepCutAuto
import Derived.Deep.CutBlock
import Derived.Deep.RegionHeld3
import Derived.Laws.Rows
import Derived.Lib.AppendStr
import Derived.ArgAppend
import Derived.Laws.IdiomCopy
import Derived.OrdersHeld
import Derived.Laws.BitsLemmas
import Derived.RowKit
import Derived.Test.YtelhdgnolijpcaaWWords
import Derived.Test.YtelhdgnolijpcaaWLast
import Derived.Test.YtelhdgnolijpcaaWTab
import Derived.Test.YtelhdgnolijpcaaWFour
import Derived.Test.YtelhdgnolijpcaaWQPut
import Derived.Test.YtelhdgnolijpcaaWApart
import Derived.Test.YtelhdgnolijpcaaWArr
import Derived.Test.YtelhdgnolijpcaaWZeros
import Derived.Test.YtelhdgnolijpcaaWFoot
import Derived.Test.YtelhdgnolijpcaaWKept
import Derived.Test.YtelhdgnolijpcaaWShare
import Derived.Test.YtelhdgnolijpcaaWN
import Derived.Test.YtelhdgnolijpcaaWFootNe
import Derived.Test.YtelhdgnolijpcaaWAt
import Derived.Test.YtelhdgnolijpcaaWEqStruct
import Derived.Test.YtelhdgnolijpcaaWRepsOne
import Derived.Test.YtelhdgnolijpcaaWInv
import Derived.Test.YtelhdgnolijpcaaWInvWords
import Derived.Test.YtelhdgnolijpcaaWGuard
import Derived.Test.YtelhdgnolijpcaaWNEv
import Derived.Test.YtelhdgnolijpcaaWMore
import Derived.Deep.Slices
import Derived.Deep.Fields
import Derived.ChangeArms
import Derived.WideShapes
import Derived.Test.YtelhdgnolijpcaaRows
import Derived.ProofKit
import Derived.OpenShut
import Derived.ShutString
import Derived.ChangeOld
import Derived.Carry
import Derived.SizedLaws
section
/- Go functions as plain Lean functions of numbers and lists, and proofs that their calls come to what these compute; conditions: those that each theorem names. (Written by a program of this session: the print, turned so that it takes contracts proved by hand.) -/
namespace Go.Proofs.Ytelhdgnolijpcaa.PRef04Get
open Go.RowKit Go.Proofs.YtelhdgnolijpcaaW.PrintWords Go.Proofs.YtelhdgnolijpcaaW.PrintLast Go.Proofs.YtelhdgnolijpcaaW.PrintMore
attribute [local go_sem] max2_int min2_int max_two min_two max_three min_three max_four min_four   -- for this text's walks alone
set_option linter.unusedVariables false
set_option linter.unusedSimpArgs false

-- GIVEN: function 21 (removalistref02_Right): Hm.ref02_Right

/-! ### removalistref04_number: function 37 -/
def removalistref04_number.l0 : Nat → ByteArray → Int → Int → Option (Int)
  | 0, _, _, _ => none
  | k + 1, x0, x3, x4 => if x4 < (x0.size : Int) then (if 0 ≤ x4 then (removalistref04_number.l0 k x0 (IntKind.u64.wrap ((IntKind.u64.wrap (x3 * 256)) + (IntKind.u64.wrap (bt x0 x4)))) (wrap64 (x4 + 1))) else (none)) else (some x3)
def removalistref04_number.f (k : Nat) (a0 : ByteArray) : Option (Int) := removalistref04_number.l0 k a0 0 0
theorem removalistref04_number.l0_zero : ∀ y0 y1 y2, removalistref04_number.l0 0 y0 y1 y2 = none := fun _ _ _ => rfl
theorem removalistref04_number.l0_succ : ∀ k x0 x3 x4, removalistref04_number.l0 (k + 1) x0 x3 x4 = if x4 < (x0.size : Int) then (if 0 ≤ x4 then (removalistref04_number.l0 k x0 (IntKind.u64.wrap ((IntKind.u64.wrap (x3 * 256)) + (IntKind.u64.wrap (bt x0 x4)))) (wrap64 (x4 + 1))) else (none)) else (some x3) := fun _ _ _ _ => rfl
set_option maxRecDepth 100000 in
theorem removalistref04_number.mono_l : ∀ k, (∀ y0 y1 y2, LeO (removalistref04_number.l0 k y0 y1 y2) (removalistref04_number.l0 (k + 1) y0 y1 y2))
  | 0 => fun _ _ _ r h => by simp [removalistref04_number.l0] at h
  | k + 1 => by
    have ih0 := removalistref04_number.mono_l k
    · intro y0 y1 y2
      unfold removalistref04_number.l0
      repeat' first
      | (with_reducible exact ih0 _ _ _)
      | (with_reducible exact LeO.refl _)
      | (with_reducible exact LeO.none _)
      | (with_reducible refine LeO.ite ?_ ?_)
      | (with_reducible refine LeO.bind ?_ (fun _ => ?_))
      | exact ih0 _ _ _
      | exact LeO.none _
      | refine LeO.ite ?_ ?_
      | refine LeO.bind ?_ (fun _ => ?_)
theorem removalistref04_number.mono : ∀ a0 k, LeO (removalistref04_number.f k a0) (removalistref04_number.f (k + 1) a0) := by
  intro a0 k
  have ih0 := removalistref04_number.mono_l k
  unfold removalistref04_number.f
  repeat' first
      | (with_reducible exact ih0 _ _ _)
      | (with_reducible exact LeO.refl _)
      | (with_reducible exact LeO.none _)
      | (with_reducible refine LeO.ite ?_ ?_)
      | (with_reducible refine LeO.bind ?_ (fun _ => ?_))
      | exact ih0 _ _ _
      | exact LeO.none _
      | refine LeO.ite ?_ ?_
      | refine LeO.bind ?_ (fun _ => ?_)
set_option maxHeartbeats 8000000 in
set_option maxRecDepth 100000 in
theorem removalistref04_number.calls (k : Nat) (a0 : ByteArray) (r : Int) (w : World) (h : removalistref04_number.f k a0 = some r) :
    Calls Try.prog 37 #[.string a0] w fun e w' => e = .returned (.int .u64 r) ∧ Drawn0 w w' := by
  have H : (removalistref04_number.l0 k a0 0 0) = some r := h
  clear h
  have H' := Aside0.mk H
  clear H
  go_enter Try.func37, Try.ntmps37
  go_wp2
  go_loopg [3, 4] k (fun kq v3 v4 w' => ∃ (x3_1 : Int) (x4_1 : Int), v3 = .int .u64 x3_1 ∧ v4 = .int .i64 x4_1 ∧ Aside0 (removalistref04_number.l0 kq a0 x3_1 x4_1 = some r) ∧ Aside0 (kq ≤ k) ∧ Drawn0 w w')
  case atStart => exact ⟨(0), (0), (by first | rfl | (simp; done) | (simp [*]; done)), (by first | rfl | (simp; done) | (simp [*]; done)), H', ⟨Nat.le_refl _⟩, by repeat (first | exact Drawn0.refl _ | apply Drawn0.step)⟩
  case round =>
    clear H'
    obtain ⟨x3_1, x4_1, rfl, rfl, HA, HK1, ⟨m1, rfl⟩⟩ := hrel
    cases gk with
    | zero => exact (Option.some_ne_none _ (HA.out.symm.trans (removalistref04_number.l0_zero _ _ _))).elim
    | succ k1 =>
      have H := HA.out
      clear HA
      simp only [removalistref04_number.l0] at H
      by_cases c2 : x4_1 < (a0.size : Int)
      · rw [if_pos c2] at H
        have c2b0 : decide (x4_1 < (a0.size : Int)) = true := decide_eq_true c2
        clear c2
        by_cases c3 : 0 ≤ x4_1
        · rw [if_pos c3] at H
          have c3b0 : decide (0 ≤ x4_1) = true := decide_eq_true c3
          clear c3
          have H' := Aside0.mk H
          clear H
          have p4 : 0 ≤ (x4_1 : Int) := of_decide_eq_true (by first | (with_reducible assumption) | assumption)
          have q4 : x4_1 < (a0.size : Int) := of_decide_eq_true (by first | (with_reducible assumption) | assumption)
          have hx4 := bt_at a0 x4_1
          replace p4 := eq_true p4
          replace q4 := eq_true q4
          go_wp2
          go_roundg k1
          case measure => have := HK1.out; omega
          case rel => exact ⟨(IntKind.u64.wrap ((IntKind.u64.wrap (x3_1 * 256)) + (IntKind.u64.wrap (bt a0 x4_1)))), (wrap64 (x4_1 + 1)), (by first | rfl | (simp; done) | (simp [*]; done)), (by first | rfl | (simp; done) | (simp [*]; done)), (by first | exact H' | (subst_vars; exact H') | (simp only [*] at H' ⊢; exact H')), ⟨by have := HK1.out; omega⟩, by repeat (first | exact Drawn0.refl _ | apply Drawn0.step)⟩
        · rw [if_neg c3] at H
          exact absurd H (by simp)
      · rw [if_neg c2] at H
        have c2b0 : decide (x4_1 < (a0.size : Int)) = false := decide_eq_false c2
        clear c2
        obtain rfl := Option.some.inj H
        go_wp2
        go_ret
        exact ⟨by first | rfl | (simp; done) | (simp [*]; done), by repeat (first | exact Drawn0.refl _ | apply Drawn0.step)⟩

/-! ### removalistref04_Get: function 27 -/
mutual
def removalistref04_Get.j0 : Nat → ByteArray → Int → Bool → Option (Int × Int × Int × Int × Int × ByteArray × Int)
  | 0, _, _, _ => none
  | k + 1, x0, x5, x30 => if x30 = true then (some (0, 0, 0, 0, 0, (⟨#[]⟩ : ByteArray), 11)) else (removalistref04_Get.l0 k x0 x5 (wrap64 (16 + x5)))
def removalistref04_Get.l0 : Nat → ByteArray → Int → Int → Option (Int × Int × Int × Int × Int × ByteArray × Int)
  | 0, _, _, _ => none
  | k + 1, x0, x5, x6 => if x6 < 124 then (if 0 ≤ x6 then (if x6 < (x0.size : Int) then (if (bt x0 x6) = 0 then (removalistref04_Get.l0 k x0 x5 (wrap64 (x6 + 1))) else (some (0, 0, 0, 0, 0, (⟨#[]⟩ : ByteArray), 11))) else (none)) else (none)) else (if 0 < (x0.size : Int) then (if 1 < (x0.size : Int) then (if 2 < (x0.size : Int) then (if 4 ≤ 12 then (if 12 ≤ (x0.size : Int) then ((removalistref04_number.f k (x0.extract 4 12)).bind fun t103 => (if 12 ≤ 16 then (if 16 ≤ (x0.size : Int) then ((removalistref04_number.f k (x0.extract 12 16)).bind fun t104 => (if 16 ≤ (wrap64 (16 + x5)) then (if (wrap64 (16 + x5)) ≤ (x0.size : Int) then (some (wrap64 (bt x0 0), wrap64 (bt x0 1), wrap64 (bt x0 2), t103, (t104) % 4294967296, x0.extract 16 ((wrap64 (16 + x5)) : Int).toNat, 0)) else (none)) else (none))) else (none)) else (none))) else (none)) else (none)) else (none)) else (none)) else (none))
end
def removalistref04_Get.f (k : Nat) (a0 : ByteArray) : Option (Int × Int × Int × Int × Int × ByteArray × Int) := if (a0.size : Int) = 128 then ((Hm.ref02_Right.f a0).bind fun t102 => (if t102 = true then (if 3 < (a0.size : Int) then (if 0 < (a0.size : Int) then (if (bt a0 0) < 1 then (removalistref04_Get.j0 k a0 (wrap64 (bt a0 3)) true) else (if (bt a0 0) > 4 then (removalistref04_Get.j0 k a0 (wrap64 (bt a0 3)) true) else (removalistref04_Get.j0 k a0 (wrap64 (bt a0 3)) (decide ((wrap64 (bt a0 3)) > 108))))) else (none)) else (none)) else (some (0, 0, 0, 0, 0, (⟨#[]⟩ : ByteArray), 14)))) else (some (0, 0, 0, 0, 0, (⟨#[]⟩ : ByteArray), 11))
theorem removalistref04_Get.j0_zero : ∀ y0 y1 y2, removalistref04_Get.j0 0 y0 y1 y2 = none := fun _ _ _ => rfl
theorem removalistref04_Get.l0_zero : ∀ y0 y1 y2, removalistref04_Get.l0 0 y0 y1 y2 = none := fun _ _ _ => rfl
theorem removalistref04_Get.j0_succ : ∀ k x0 x5 x30, removalistref04_Get.j0 (k + 1) x0 x5 x30 = if x30 = true then (some (0, 0, 0, 0, 0, (⟨#[]⟩ : ByteArray), 11)) else (removalistref04_Get.l0 k x0 x5 (wrap64 (16 + x5))) := fun _ _ _ _ => rfl
theorem removalistref04_Get.l0_succ : ∀ k x0 x5 x6, removalistref04_Get.l0 (k + 1) x0 x5 x6 = if x6 < 124 then (if 0 ≤ x6 then (if x6 < (x0.size : Int) then (if (bt x0 x6) = 0 then (removalistref04_Get.l0 k x0 x5 (wrap64 (x6 + 1))) else (some (0, 0, 0, 0, 0, (⟨#[]⟩ : ByteArray), 11))) else (none)) else (none)) else (if 0 < (x0.size : Int) then (if 1 < (x0.size : Int) then (if 2 < (x0.size : Int) then (if 4 ≤ 12 then (if 12 ≤ (x0.size : Int) then ((removalistref04_number.f k (x0.extract 4 12)).bind fun t103 => (if 12 ≤ 16 then (if 16 ≤ (x0.size : Int) then ((removalistref04_number.f k (x0.extract 12 16)).bind fun t104 => (if 16 ≤ (wrap64 (16 + x5)) then (if (wrap64 (16 + x5)) ≤ (x0.size : Int) then (some (wrap64 (bt x0 0), wrap64 (bt x0 1), wrap64 (bt x0 2), t103, (t104) % 4294967296, x0.extract 16 ((wrap64 (16 + x5)) : Int).toNat, 0)) else (none)) else (none))) else (none)) else (none))) else (none)) else (none)) else (none)) else (none)) else (none)) := fun _ _ _ _ => rfl
set_option maxRecDepth 100000 in
theorem removalistref04_Get.mono_l : ∀ k, (∀ y0 y1 y2, LeO (removalistref04_Get.j0 k y0 y1 y2) (removalistref04_Get.j0 (k + 1) y0 y1 y2)) ∧ (∀ y0 y1 y2, LeO (removalistref04_Get.l0 k y0 y1 y2) (removalistref04_Get.l0 (k + 1) y0 y1 y2))
  | 0 => ⟨fun _ _ _ r h => (by first | (cases h; done) | simp [removalistref04_Get.j0] at h), fun _ _ _ r h => (by first | (cases h; done) | simp [removalistref04_Get.l0] at h)⟩
  | k + 1 => by
    obtain ⟨ih0, ih1⟩ := removalistref04_Get.mono_l k
    refine ⟨?_, ?_⟩
    · intro y0 y1 y2
      unfold removalistref04_Get.j0
      repeat' first
      | (with_reducible exact ih0 _ _ _)
      | (with_reducible exact ih1 _ _ _)
      | (with_reducible exact removalistref04_number.mono _ _)
      | (with_reducible exact LeO.refl _)
      | (with_reducible exact LeO.none _)
      | (with_reducible refine LeO.ite ?_ ?_)
      | (with_reducible refine LeO.bind ?_ (fun _ => ?_))
      | exact ih0 _ _ _
      | exact ih1 _ _ _
      | exact removalistref04_number.mono _ _
      | exact LeO.none _
      | refine LeO.ite ?_ ?_
      | refine LeO.bind ?_ (fun _ => ?_)
    · intro y0 y1 y2
      unfold removalistref04_Get.l0
      repeat' first
      | (with_reducible exact ih0 _ _ _)
      | (with_reducible exact ih1 _ _ _)
      | (with_reducible exact removalistref04_number.mono _ _)
      | (with_reducible exact LeO.refl _)
      | (with_reducible exact LeO.none _)
      | (with_reducible refine LeO.ite ?_ ?_)
      | (with_reducible refine LeO.bind ?_ (fun _ => ?_))
      | exact ih0 _ _ _
      | exact ih1 _ _ _
      | exact removalistref04_number.mono _ _
      | exact LeO.none _
      | refine LeO.ite ?_ ?_
      | refine LeO.bind ?_ (fun _ => ?_)
theorem removalistref04_Get.mono : ∀ a0 k, LeO (removalistref04_Get.f k a0) (removalistref04_Get.f (k + 1) a0) := by
  intro a0 k
  obtain ⟨ih0, ih1⟩ := removalistref04_Get.mono_l k
  unfold removalistref04_Get.f
  repeat' first
      | (with_reducible exact ih0 _ _ _)
      | (with_reducible exact ih1 _ _ _)
      | (with_reducible exact removalistref04_number.mono _ _)
      | (with_reducible exact LeO.refl _)
      | (with_reducible exact LeO.none _)
      | (with_reducible refine LeO.ite ?_ ?_)
      | (with_reducible refine LeO.bind ?_ (fun _ => ?_))
      | exact ih0 _ _ _
      | exact ih1 _ _ _
      | exact removalistref04_number.mono _ _
      | exact LeO.none _
      | refine LeO.ite ?_ ?_
      | refine LeO.bind ?_ (fun _ => ?_)
def removalistref04_Get.T14 : Bool × List (List Nat × List Nat) := (true, [([], []), ([0], [0]), ([1], [1]), ([], []), ([3], [3]), ([4], [4]), ([], []), ([6], [6]), ([7], [7]), ([], []), ([9], [9]), ([10], [10]), ([], []), ([12], [12]), ([13, 11], [13]), ([14], [14]), ([], []), ([], []), ([17], [17]), ([16, 18], [16, 18]), ([2, 5, 8, 11, 15, 19], [2, 5, 8, 11, 15, 19]), ([20, 14, 0, 1, 2, 3, 4, 5, 6, 7, 8, 9, 10, 11, 12, 13, 14, 15, 16, 17, 18, 19, 20], [20]), ([21, 0, 1, 2, 3, 4, 5, 6, 7, 8, 9, 10, 11, 12, 13, 14, 15, 16, 17, 18, 19, 20, 21], [])])
def removalistref04_Get.B14 : List Nat := [0, 1, 3, 0, 8, 24, 0, 64, 192, 0, 512, 1536, 0, 4096, 15872, 32256, 0, 0, 131072, 458752, 1048575, 2097151, 4194303]
theorem removalistref04_Get.tab14 : rtab .any (opsOf Try.f27 14) = removalistref04_Get.T14 := by kernel_rfl
theorem removalistref04_Get.bits14 : waitsOk removalistref04_Get.T14.2 removalistref04_Get.B14 = true := by kernel_rfl
set_option maxHeartbeats 8000000 in
set_option maxRecDepth 100000 in
theorem removalistref04_Get.calls (k : Nat) (a0 : ByteArray) (r1 : Int) (r2 : Int) (r3 : Int) (r4 : Int) (r5 : Int) (r6 : ByteArray) (r7 : Int) (w : World) (h : removalistref04_Get.f k a0 = some (r1, r2, r3, r4, r5, r6, r7)) :
    Calls Try.prog 27 #[.string a0] w fun e w' => e = .returned (.tuple #[.agg #[.int .i64 r1, .int .i64 r2, .int .i64 r3, .int .u64 r4, .int .u32 r5, .string r6], .int .i64 r7]) ∧ Below w.heap.size w w' := by
  have hu49 := Try.underlying49
  have HB := Aside0.mk (Below.refl w.heap.size w)
  have H : (if (a0.size : Int) = 128 then ((Hm.ref02_Right.f a0).bind fun t102 => (if t102 = true then (if 3 < (a0.size : Int) then (if 0 < (a0.size : Int) then (if (bt a0 0) < 1 then (removalistref04_Get.j0 k a0 (wrap64 (bt a0 3)) true) else (if (bt a0 0) > 4 then (removalistref04_Get.j0 k a0 (wrap64 (bt a0 3)) true) else (removalistref04_Get.j0 k a0 (wrap64 (bt a0 3)) (decide ((wrap64 (bt a0 3)) > 108))))) else (none)) else (none)) else (some (0, 0, 0, 0, 0, (⟨#[]⟩ : ByteArray), 14)))) else (some (0, 0, 0, 0, 0, (⟨#[]⟩ : ByteArray), 11))) = some (r1, r2, r3, r4, r5, r6, r7) := h
  clear h
  by_cases c2 : (a0.size : Int) = 128
  · rw [if_pos c2] at H
    have c2b0 : ((a0.size : Int) == 128) = true := beq_iff_eq.mpr c2
    have c2b1 : ((a0.size : Int) != 128) = false := bne_eq_false_iff_eq.mpr c2
    clear c2
    replace H := Option.bind_eq_some_iff.mp H
    obtain ⟨t102, A30, H⟩ := H
    replace H : (if t102 = true then (if 3 < (a0.size : Int) then (if 0 < (a0.size : Int) then (if (bt a0 0) < 1 then (removalistref04_Get.j0 k a0 (wrap64 (bt a0 3)) true) else (if (bt a0 0) > 4 then (removalistref04_Get.j0 k a0 (wrap64 (bt a0 3)) true) else (removalistref04_Get.j0 k a0 (wrap64 (bt a0 3)) (decide ((wrap64 (bt a0 3)) > 108))))) else (none)) else (none)) else (some (0, 0, 0, 0, 0, (⟨#[]⟩ : ByteArray), 14))) = some (r1, r2, r3, r4, r5, r6, r7) := H
    have A3 := Aside0.mk A30
    clear A30
    by_cases c4 : t102 = true
    · subst c4
      have H1 : (if 3 < (a0.size : Int) then (if 0 < (a0.size : Int) then (if (bt a0 0) < 1 then (removalistref04_Get.j0 k a0 (wrap64 (bt a0 3)) true) else (if (bt a0 0) > 4 then (removalistref04_Get.j0 k a0 (wrap64 (bt a0 3)) true) else (removalistref04_Get.j0 k a0 (wrap64 (bt a0 3)) (decide ((wrap64 (bt a0 3)) > 108))))) else (none)) else (none)) = some (r1, r2, r3, r4, r5, r6, r7) := by rw [if_pos rfl] at H; exact H
      clear H
      have H := H1
      clear H1
      by_cases c5 : 3 < (a0.size : Int)
      · rw [if_pos c5] at H
        have c5b0 : decide (3 < (a0.size : Int)) = true := decide_eq_true c5
        have c5b1 : decide (3 < a0.size) = true := decide_eq_true (by omega)
        clear c5
        have HC7 := Aside0.mk H
        clear H
        go_enter Try.func27, Try.ntmps27
        go_upto_region 7 with (first | ((with_reducible refine gate_dst (N := 2) rfl ?_); refine box_event ?hg (N := 2) ?hd (cs := #[.int .i64 0, .int .i64 0, .int .i64 0, .int .u64 0, .int .u32 0, .string (⟨#[]⟩ : ByteArray)]) (t := 49) ?hr ?_; (case hd => rfl); (case hg => rfl); (case hr => first | (go_simp; done) | (go_simp; rfl)); intro gb101 hg w8 hbox hb; have n0_ := Aside0.mk (below_step (by repeat (first | (with_reducible first | exact HB.out | apply below_alloc | apply pw_below_drewN | apply below_drew1) | exact HB.out)) hb); have n1_ := Aside0.mk (hbox); have n2_ := Aside0.mk ((by rw [hg]; exact (below_size (by repeat (first | (with_reducible first | exact HB.out | apply below_alloc | apply pw_below_drewN | apply below_drew1) | exact HB.out))) : w.heap.size ≤ gb101)); have n3_ := Aside0.mk ((by rw [hg]; exact (below_size (by repeat (first | (with_reducible first | exact HB.out | apply below_alloc | apply pw_below_drewN | apply below_drew1) | exact HB.out))) : w.heap.size ≤ gb101)); clear HB; have HB := n0_; have BK101 := n1_; have GW101 := n2_; have GE101 := n3_; clear n0_ n1_ n2_ n3_; clear hb hbox hg) | ((with_reducible refine gate_callee (f := 21) rfl ?_); refine goesL_ (some 12) rfl rfl Try.func21 (by kernel_rfl) rfl #[.string a0] rfl (by (try simp only [List.map_toArray, List.map_cons, List.map_nil]); first | done | rfl | (simp only [List.length_drop, List.length_take]; rfl)) ?_; (with_reducible refine (Hm.ref02_Right.calls a0 true _ A3.out).mono ?_); rintro e w9 ⟨rfl, hb⟩; refine ⟨_, rfl, ?_⟩; have n0_ := Aside0.mk (blk_below (g := gb101) (o := .cells #[.int .i64 0, .int .i64 0, .int .i64 0, .int .u64 0, .int .u32 0, .string (⟨#[]⟩ : ByteArray)] 49 (0, 0)) (by (with_reducible repeat (first | refine blk_drewN ?_ _ | refine blk_drew ?_ | refine blk_alloc ?_ _)); exact BK101.out) hb); have n1_ := Aside0.mk (below_step (by repeat (first | (with_reducible first | exact HB.out | apply below_alloc | apply pw_below_drewN | apply below_drew1 | refine below_set ?_ GE101.out) | exact HB.out)) hb); clear BK101; clear HB; have BK101 := n0_; have HB := n1_; clear n0_ n1_; (try clear hb); (try clear hb2); (try clear hk); (try clear hi); have p6 : 0 ≤ (3 : Int) := (by omega); have q6 : 3 < a0.size := (by have : (3 : Int) < (a0.size : Int) := of_decide_eq_true (by first | (with_reducible assumption) | assumption); omega); have hx6 : ∀ h : 3 < a0.size, ((a0[3]'h).toNat : Int) = bt a0 3 := bt_at a0 3; clear p6; have qi6 : (3 < (a0.size : Int)) = True := eq_true (of_decide_eq_true (by first | (with_reducible assumption) | assumption)); replace q6 := eq_true q6))
        (try simp only [Act.put, List.setIfInBounds_toArray, List.set_cons_zero, List.set_cons_succ])
        go_cut [30] (fun v30 wc => ∃ (kq : Nat) (x30_6 : Bool), v30 = .bool x30_6 ∧ Aside0 (removalistref04_Get.j0 kq a0 (wrap64 (bt a0 3)) x30_6 = some (r1, r2, r3, r4, r5, r6, r7)) ∧ Aside0 (kq ≤ k) ∧ Aside0 (wc.heap[gb101]? = some (.cells #[.int .i64 0, .int .i64 0, .int .i64 0, .int .u64 0, .int .u32 0, .string (⟨#[]⟩ : ByteArray)] 49 (0, 0))) ∧ Aside0 (Below w.heap.size w wc))
        case first =>
          have H := HC7.out
          clear HC7
          by_cases c10 : 0 < (a0.size : Int)
          · rw [if_pos c10] at H
            have c10b0 : decide (0 < (a0.size : Int)) = true := decide_eq_true c10
            have c10b1 : decide (0 < a0.size) = true := decide_eq_true (by omega)
            clear c10
            (first | rw [c10b0] | (simp only [i64_w, i32_w]; rw [c10b0]) | skip)
            by_cases c12 : (bt a0 0) < 1
            · rw [if_pos c12] at H
              have c12b0 : decide ((bt a0 0) < 1) = true := decide_eq_true c12
              clear c12
              have H' := Aside0.mk H
              clear H
              have p11 : 0 ≤ (0 : Int) := (by omega)
              have q11 : 0 < a0.size := (by have : (0 : Int) < (a0.size : Int) := of_decide_eq_true (by first | (with_reducible assumption) | assumption); omega)
              have hx11 : ∀ h : 0 < a0.size, ((a0[0]'h).toNat : Int) = bt a0 0 := bt_at a0 0
              clear p11
              have qi11 : (0 < (a0.size : Int)) = True := eq_true (of_decide_eq_true (by first | (with_reducible assumption) | assumption))
              replace q11 := eq_true q11
              go_wp2
              go_meet
              case rel => exact ⟨_, (true), (by first | rfl | (simp; done) | (simp [*]; done)), (by first | exact H' | (subst_vars; exact H') | (simp only [*] at H' ⊢; exact H')), ⟨by first | omega | exact Nat.le_refl _⟩, ⟨by (with_reducible repeat (first | refine blk_drewN ?_ _ | refine blk_drew ?_ | refine blk_alloc ?_ _)); exact BK101.out⟩, ⟨by repeat (first | (with_reducible first | exact HB.out | apply below_alloc | apply pw_below_drewN | apply below_drew1 | refine below_set ?_ GE101.out) | exact HB.out)⟩⟩
            · rw [if_neg c12] at H
              have c12b0 : decide ((bt a0 0) < 1) = false := decide_eq_false c12
              clear c12
              by_cases c14 : (bt a0 0) > 4
              · rw [if_pos c14] at H
                have c14b0 : decide (4 < (bt a0 0)) = true := decide_eq_true c14
                clear c14
                have H' := Aside0.mk H
                clear H
                have p11 : 0 ≤ (0 : Int) := (by omega)
                have q11 : 0 < a0.size := (by have : (0 : Int) < (a0.size : Int) := of_decide_eq_true (by first | (with_reducible assumption) | assumption); omega)
                have hx11 : ∀ h : 0 < a0.size, ((a0[0]'h).toNat : Int) = bt a0 0 := bt_at a0 0
                clear p11
                have qi11 : (0 < (a0.size : Int)) = True := eq_true (of_decide_eq_true (by first | (with_reducible assumption) | assumption))
                replace q11 := eq_true q11
                have p13 : 0 ≤ (0 : Int) := (by omega)
                have q13 : 0 < a0.size := (by have : (0 : Int) < (a0.size : Int) := of_decide_eq_true (by first | (with_reducible assumption) | assumption); omega)
                have hx13 : ∀ h : 0 < a0.size, ((a0[0]'h).toNat : Int) = bt a0 0 := bt_at a0 0
                clear p13
                have qi13 : (0 < (a0.size : Int)) = True := eq_true (of_decide_eq_true (by first | (with_reducible assumption) | assumption))
                replace q13 := eq_true q13
                go_wp2
                go_meet
                case rel => exact ⟨_, (true), (by first | rfl | (simp; done) | (simp [*]; done)), (by first | exact H' | (subst_vars; exact H') | (simp only [*] at H' ⊢; exact H')), ⟨by first | omega | exact Nat.le_refl _⟩, ⟨by (with_reducible repeat (first | refine blk_drewN ?_ _ | refine blk_drew ?_ | refine blk_alloc ?_ _)); exact BK101.out⟩, ⟨by repeat (first | (with_reducible first | exact HB.out | apply below_alloc | apply pw_below_drewN | apply below_drew1 | refine below_set ?_ GE101.out) | exact HB.out)⟩⟩
              · rw [if_neg c14] at H
                have c14b0 : decide (4 < (bt a0 0)) = false := decide_eq_false c14
                clear c14
                have H' := Aside0.mk H
                clear H
                have p11 : 0 ≤ (0 : Int) := (by omega)
                have q11 : 0 < a0.size := (by have : (0 : Int) < (a0.size : Int) := of_decide_eq_true (by first | (with_reducible assumption) | assumption); omega)
                have hx11 : ∀ h : 0 < a0.size, ((a0[0]'h).toNat : Int) = bt a0 0 := bt_at a0 0
                clear p11
                have qi11 : (0 < (a0.size : Int)) = True := eq_true (of_decide_eq_true (by first | (with_reducible assumption) | assumption))
                replace q11 := eq_true q11
                have p13 : 0 ≤ (0 : Int) := (by omega)
                have q13 : 0 < a0.size := (by have : (0 : Int) < (a0.size : Int) := of_decide_eq_true (by first | (with_reducible assumption) | assumption); omega)
                have hx13 : ∀ h : 0 < a0.size, ((a0[0]'h).toNat : Int) = bt a0 0 := bt_at a0 0
                clear p13
                have qi13 : (0 < (a0.size : Int)) = True := eq_true (of_decide_eq_true (by first | (with_reducible assumption) | assumption))
                replace q13 := eq_true q13
                go_wp2
                go_meet
                case rel => exact ⟨_, (decide ((wrap64 (bt a0 3)) > 108)), (by first | rfl | (simp; done) | (simp [*]; done)), (by first | exact H' | (subst_vars; exact H') | (simp only [*] at H' ⊢; exact H')), ⟨by first | omega | exact Nat.le_refl _⟩, ⟨by (with_reducible repeat (first | refine blk_drewN ?_ _ | refine blk_drew ?_ | refine blk_alloc ?_ _)); exact BK101.out⟩, ⟨by repeat (first | (with_reducible first | exact HB.out | apply below_alloc | apply pw_below_drewN | apply below_drew1 | refine below_set ?_ GE101.out) | exact HB.out)⟩⟩
          · rw [if_neg c10] at H
            exact absurd H (by simp)
        case rest =>
          clear HC7
          try clear c1
          try clear p1
          try clear q1
          try clear hx1
          try clear qi1
          try clear c2
          try clear c2b0
          try clear c2b1
          try clear p2
          try clear c4
          try clear c5
          try clear c5b0
          try clear c5b1
          try clear p6
          try clear q6
          try clear hx6
          try clear qi6
          try clear c10
          try clear c10b0
          try clear c10b1
          try clear p11
          try clear q11
          try clear hx11
          try clear qi11
          try clear c12
          try clear c12b0
          try clear p13
          try clear q13
          try clear hx13
          try clear qi13
          try clear c14
          try clear c14b0
          try clear p11
          try clear p13
          try clear p6
          try clear q11
          try clear q13
          try clear q6
          obtain ⟨kq, x30_6, rfl, HA, HJ6, BK101, HB⟩ := hcut
          cases kq with
          | zero => exact (Option.some_ne_none _ (HA.out.symm.trans (removalistref04_Get.j0_zero _ _ _))).elim
          | succ kj6 =>
            have H := HA.out
            clear HA
            simp only [removalistref04_Get.j0] at H
            by_cases c15 : x30_6 = true
            · subst c15
              have H1 : (some (0, 0, 0, 0, 0, (⟨#[]⟩ : ByteArray), 11)) = some (r1, r2, r3, r4, r5, r6, r7) := by rw [if_pos rfl] at H; exact H
              clear H
              have H := H1
              clear H1
              simp only [Option.some.injEq, Prod.mk.injEq] at H
              obtain ⟨rfl, rfl, rfl, rfl, rfl, rfl, rfl⟩ := H
              have hcz16_0 : wc.cell? ⟨gb101, 0, none⟩ = some (.int .i64 0) := (blk_cell BK101.out 0).trans rfl
              have hcz16_1 : wc.cell? ⟨gb101, 1, none⟩ = some (.int .i64 0) := (blk_cell BK101.out 1).trans rfl
              have hcz16_2 : wc.cell? ⟨gb101, 2, none⟩ = some (.int .i64 0) := (blk_cell BK101.out 2).trans rfl
              have hcz16_3 : wc.cell? ⟨gb101, 3, none⟩ = some (.int .u64 0) := (blk_cell BK101.out 3).trans rfl
              have hcz16_4 : wc.cell? ⟨gb101, 4, none⟩ = some (.int .u32 0) := (blk_cell BK101.out 4).trans rfl
              have hcz16_5 : wc.cell? ⟨gb101, 5, none⟩ = some (.string (⟨#[]⟩ : ByteArray)) := (blk_cell BK101.out 5).trans rfl
              have hfz16_0 := blk_frozen BK101.out 0
              have hfz16_1 := blk_frozen BK101.out 1
              have hfz16_2 := blk_frozen BK101.out 2
              have hfz16_3 := blk_frozen BK101.out 3
              have hfz16_4 := blk_frozen BK101.out 4
              have hfz16_5 := blk_frozen BK101.out 5
              go_wp2
              refine bodyPost_ret (results_ct rfl _ _ gb101 49 #[.int .i64 0, .int .i64 0, .int .i64 0, .int .u64 0, .int .u32 0, .string (⟨#[]⟩ : ByteArray)] (0, 0) _ rfl (by (with_reducible repeat (first | refine blk_drewN ?_ _ | refine blk_drew ?_ | refine blk_alloc ?_ _)); refine blk_put (cs := #[.int .i64 0, .int .i64 0, .int .i64 0, .int .u64 0, .int .u32 0, .string (⟨#[]⟩ : ByteArray)]) ?_ 5 _ rfl; (with_reducible repeat (first | refine blk_drewN ?_ _ | refine blk_drew ?_ | refine blk_alloc ?_ _)); refine blk_put (cs := #[.int .i64 0, .int .i64 0, .int .i64 0, .int .u64 0, .int .u32 0, .string (⟨#[]⟩ : ByteArray)]) ?_ 4 _ rfl; (with_reducible repeat (first | refine blk_drewN ?_ _ | refine blk_drew ?_ | refine blk_alloc ?_ _)); refine blk_put (cs := #[.int .i64 0, .int .i64 0, .int .i64 0, .int .u64 0, .int .u32 0, .string (⟨#[]⟩ : ByteArray)]) ?_ 3 _ rfl; (with_reducible repeat (first | refine blk_drewN ?_ _ | refine blk_drew ?_ | refine blk_alloc ?_ _)); refine blk_put (cs := #[.int .i64 0, .int .i64 0, .int .i64 0, .int .u64 0, .int .u32 0, .string (⟨#[]⟩ : ByteArray)]) ?_ 2 _ rfl; (with_reducible repeat (first | refine blk_drewN ?_ _ | refine blk_drew ?_ | refine blk_alloc ?_ _)); refine blk_put (cs := #[.int .i64 0, .int .i64 0, .int .i64 0, .int .u64 0, .int .u32 0, .string (⟨#[]⟩ : ByteArray)]) ?_ 1 _ rfl; (with_reducible repeat (first | refine blk_drewN ?_ _ | refine blk_drew ?_ | refine blk_alloc ?_ _)); refine blk_put (cs := #[.int .i64 0, .int .i64 0, .int .i64 0, .int .u64 0, .int .u32 0, .string (⟨#[]⟩ : ByteArray)]) ?_ 0 _ rfl; (with_reducible repeat (first | refine blk_drewN ?_ _ | refine blk_drew ?_ | refine blk_alloc ?_ _)); exact BK101.out) Try.underlying49 rfl (by kernel_rfl)) rfl ?_
              exact ⟨by first | rfl | (simp [errW_none, errW_some] <;> rfl) | (simp [*, errW_none, errW_some] <;> rfl), by repeat (first | (with_reducible first | exact HB.out | apply below_alloc | apply pw_below_drewN | apply below_drew1 | refine below_set ?_ GE101.out) | exact HB.out)⟩
            · replace c15 := Bool.eq_false_iff.mpr c15
              subst c15
              have H1 : (removalistref04_Get.l0 kj6 a0 (wrap64 (bt a0 3)) (wrap64 (16 + (wrap64 (bt a0 3))))) = some (r1, r2, r3, r4, r5, r6, r7) := by rw [if_neg (show ¬ (false = true) by decide)] at H; exact H
              clear H
              have H := H1
              clear H1
              have H' := Aside0.mk H
              clear H
              go_wp2
              go_loopg [6] kj6 (fun kq v6 w' => ∃ (x6_2 : Int) (x102000_2 : Int) (x102001_2 : Int) (x102002_2 : Int) (x102003_2 : Int) (x102004_2 : Int) (x102005_2 : ByteArray), v6 = .int .i64 x6_2 ∧ Aside0 (removalistref04_Get.l0 kq a0 (wrap64 (bt a0 3)) x6_2 = some (r1, r2, r3, r4, r5, r6, r7)) ∧ Aside0 (kq ≤ kj6) ∧ Aside0 (w'.heap[gb101]? = some (.cells #[.int .i64 x102000_2, .int .i64 x102001_2, .int .i64 x102002_2, .int .u64 x102003_2, .int .u32 x102004_2, .string x102005_2] 49 (0, 0))) ∧ Aside0 (Below w.heap.size w w'))
              case atStart => exact ⟨(wrap64 (16 + (wrap64 (bt a0 3)))), (0), (0), (0), (0), (0), ((⟨#[]⟩ : ByteArray)), (by first | rfl | (simp; done) | (simp [*]; done)), H', ⟨Nat.le_refl _⟩, ⟨by (with_reducible repeat (first | refine blk_drewN ?_ _ | refine blk_drew ?_ | refine blk_alloc ?_ _)); exact BK101.out⟩, ⟨by repeat (first | (with_reducible first | exact HB.out | apply below_alloc | apply pw_below_drewN | apply below_drew1 | refine below_set ?_ GE101.out) | exact HB.out)⟩⟩
              case round =>
                clear H'
                try clear c1
                try clear p1
                try clear q1
                try clear hx1
                try clear qi1
                try clear c2
                try clear c2b0
                try clear c2b1
                try clear p2
                try clear c4
                try clear c5
                try clear c5b0
                try clear c5b1
                try clear p6
                try clear q6
                try clear hx6
                try clear qi6
                try clear c10
                try clear c10b0
                try clear c10b1
                try clear p11
                try clear q11
                try clear hx11
                try clear qi11
                try clear c12
                try clear c12b0
                try clear p13
                try clear q13
                try clear hx13
                try clear qi13
                try clear c14
                try clear c14b0
                try clear c15
                try clear hcz16_0
                try clear hcz16_1
                try clear hcz16_2
                try clear hcz16_3
                try clear hcz16_4
                try clear hcz16_5
                try clear hfz16_0
                try clear hfz16_1
                try clear hfz16_2
                try clear hfz16_3
                try clear hfz16_4
                try clear hfz16_5
                try clear p1
                try clear p11
                try clear p13
                try clear p2
                try clear p6
                try clear q1
                try clear q11
                try clear q13
                try clear q6
                obtain ⟨x6_2, x102000_2, x102001_2, x102002_2, x102003_2, x102004_2, x102005_2, rfl, HA, HK2, BK101, HB⟩ := hrel
                cases gk with
                | zero => exact (Option.some_ne_none _ (HA.out.symm.trans (removalistref04_Get.l0_zero _ _ _))).elim
                | succ k2 =>
                  have H := HA.out
                  clear HA
                  simp only [removalistref04_Get.l0] at H
                  by_cases c17 : x6_2 < 124
                  · rw [if_pos c17] at H
                    have c17b0 : decide (x6_2 < 124) = true := decide_eq_true c17
                    clear c17
                    by_cases c18 : 0 ≤ x6_2
                    · rw [if_pos c18] at H
                      have c18b0 : decide (0 ≤ x6_2) = true := decide_eq_true c18
                      clear c18
                      by_cases c19 : x6_2 < (a0.size : Int)
                      · rw [if_pos c19] at H
                        have c19b0 : decide (x6_2 < (a0.size : Int)) = true := decide_eq_true c19
                        clear c19
                        by_cases c21 : (bt a0 x6_2) = 0
                        · rw [if_pos c21] at H
                          have c21b0 : ((bt a0 x6_2) == 0) = true := beq_iff_eq.mpr c21
                          have c21b1 : ((bt a0 x6_2) != 0) = false := bne_eq_false_iff_eq.mpr c21
                          clear c21
                          have H' := Aside0.mk H
                          clear H
                          have p20 : 0 ≤ (x6_2 : Int) := of_decide_eq_true (by first | (with_reducible assumption) | assumption)
                          have q20 : x6_2 < (a0.size : Int) := of_decide_eq_true (by first | (with_reducible assumption) | assumption)
                          have hx20 := bt_at a0 x6_2
                          replace p20 := eq_true p20
                          replace q20 := eq_true q20
                          go_wp2
                          go_roundg k2
                          case measure => have := HJ6.out; have := HK2.out; omega
                          case rel => exact ⟨(wrap64 (x6_2 + 1)), (x102000_2), (x102001_2), (x102002_2), (x102003_2), (x102004_2), (x102005_2), (by first | rfl | (simp; done) | (simp [*]; done)), (by first | exact H' | (subst_vars; exact H') | (simp only [*] at H' ⊢; exact H')), ⟨by have := HJ6.out; have := HK2.out; omega⟩, ⟨by (with_reducible repeat (first | refine blk_drewN ?_ _ | refine blk_drew ?_ | refine blk_alloc ?_ _)); exact BK101.out⟩, ⟨by repeat (first | (with_reducible first | exact HB.out | apply below_alloc | apply pw_below_drewN | apply below_drew1 | refine below_set ?_ GE101.out) | exact HB.out)⟩⟩
                        · rw [if_neg c21] at H
                          have c21b0 : ((bt a0 x6_2) == 0) = false := beq_eq_false_iff_ne.mpr c21
                          have c21b1 : ((bt a0 x6_2) != 0) = true := bne_iff_ne.mpr c21
                          simp only [Option.some.injEq, Prod.mk.injEq] at H
                          obtain ⟨rfl, rfl, rfl, rfl, rfl, rfl, rfl⟩ := H
                          have p20 : 0 ≤ (x6_2 : Int) := of_decide_eq_true (by first | (with_reducible assumption) | assumption)
                          have q20 : x6_2 < (a0.size : Int) := of_decide_eq_true (by first | (with_reducible assumption) | assumption)
                          have hx20 := bt_at a0 x6_2
                          replace p20 := eq_true p20
                          replace q20 := eq_true q20
                          have hcz22_0 : wr.cell? ⟨gb101, 0, none⟩ = some (.int .i64 x102000_2) := (blk_cell BK101.out 0).trans rfl
                          have hcz22_1 : wr.cell? ⟨gb101, 1, none⟩ = some (.int .i64 x102001_2) := (blk_cell BK101.out 1).trans rfl
                          have hcz22_2 : wr.cell? ⟨gb101, 2, none⟩ = some (.int .i64 x102002_2) := (blk_cell BK101.out 2).trans rfl
                          have hcz22_3 : wr.cell? ⟨gb101, 3, none⟩ = some (.int .u64 x102003_2) := (blk_cell BK101.out 3).trans rfl
                          have hcz22_4 : wr.cell? ⟨gb101, 4, none⟩ = some (.int .u32 x102004_2) := (blk_cell BK101.out 4).trans rfl
                          have hcz22_5 : wr.cell? ⟨gb101, 5, none⟩ = some (.string x102005_2) := (blk_cell BK101.out 5).trans rfl
                          have hfz22_0 := blk_frozen BK101.out 0
                          have hfz22_1 := blk_frozen BK101.out 1
                          have hfz22_2 := blk_frozen BK101.out 2
                          have hfz22_3 := blk_frozen BK101.out 3
                          have hfz22_4 := blk_frozen BK101.out 4
                          have hfz22_5 := blk_frozen BK101.out 5
                          go_wp2
                          refine bodyPost_ret (results_ct rfl _ _ gb101 49 #[.int .i64 0, .int .i64 0, .int .i64 0, .int .u64 0, .int .u32 0, .string (⟨#[]⟩ : ByteArray)] (0, 0) _ rfl (by (with_reducible repeat (first | refine blk_drewN ?_ _ | refine blk_drew ?_ | refine blk_alloc ?_ _)); refine blk_put (cs := #[.int .i64 0, .int .i64 0, .int .i64 0, .int .u64 0, .int .u32 0, .string x102005_2]) ?_ 5 _ rfl; (with_reducible repeat (first | refine blk_drewN ?_ _ | refine blk_drew ?_ | refine blk_alloc ?_ _)); refine blk_put (cs := #[.int .i64 0, .int .i64 0, .int .i64 0, .int .u64 0, .int .u32 x102004_2, .string x102005_2]) ?_ 4 _ rfl; (with_reducible repeat (first | refine blk_drewN ?_ _ | refine blk_drew ?_ | refine blk_alloc ?_ _)); refine blk_put (cs := #[.int .i64 0, .int .i64 0, .int .i64 0, .int .u64 x102003_2, .int .u32 x102004_2, .string x102005_2]) ?_ 3 _ rfl; (with_reducible repeat (first | refine blk_drewN ?_ _ | refine blk_drew ?_ | refine blk_alloc ?_ _)); refine blk_put (cs := #[.int .i64 0, .int .i64 0, .int .i64 x102002_2, .int .u64 x102003_2, .int .u32 x102004_2, .string x102005_2]) ?_ 2 _ rfl; (with_reducible repeat (first | refine blk_drewN ?_ _ | refine blk_drew ?_ | refine blk_alloc ?_ _)); refine blk_put (cs := #[.int .i64 0, .int .i64 x102001_2, .int .i64 x102002_2, .int .u64 x102003_2, .int .u32 x102004_2, .string x102005_2]) ?_ 1 _ rfl; (with_reducible repeat (first | refine blk_drewN ?_ _ | refine blk_drew ?_ | refine blk_alloc ?_ _)); refine blk_put (cs := #[.int .i64 x102000_2, .int .i64 x102001_2, .int .i64 x102002_2, .int .u64 x102003_2, .int .u32 x102004_2, .string x102005_2]) ?_ 0 _ rfl; (with_reducible repeat (first | refine blk_drewN ?_ _ | refine blk_drew ?_ | refine blk_alloc ?_ _)); exact BK101.out) Try.underlying49 rfl (by kernel_rfl)) rfl ?_
                          exact ⟨by first | rfl | (simp [errW_none, errW_some] <;> rfl) | (simp [*, errW_none, errW_some] <;> rfl), by repeat (first | (with_reducible first | exact HB.out | apply below_alloc | apply pw_below_drewN | apply below_drew1 | refine below_set ?_ GE101.out) | exact HB.out)⟩
                      · rw [if_neg c19] at H
                        exact absurd H (by simp)
                    · rw [if_neg c18] at H
                      exact absurd H (by simp)
                  · rw [if_neg c17] at H
                    have c17b0 : decide (x6_2 < 124) = false := decide_eq_false c17
                    clear c17
                    by_cases c23 : 0 < (a0.size : Int)
                    · rw [if_pos c23] at H
                      have c23b0 : decide (0 < (a0.size : Int)) = true := decide_eq_true c23
                      have c23b1 : decide (0 < a0.size) = true := decide_eq_true (by omega)
                      clear c23
                      by_cases c25 : 1 < (a0.size : Int)
                      · rw [if_pos c25] at H
                        have c25b0 : decide (1 < (a0.size : Int)) = true := decide_eq_true c25
                        have c25b1 : decide (1 < a0.size) = true := decide_eq_true (by omega)
                        clear c25
                        by_cases c27 : 2 < (a0.size : Int)
                        · rw [if_pos c27] at H
                          have c27b0 : decide (2 < (a0.size : Int)) = true := decide_eq_true c27
                          have c27b1 : decide (2 < a0.size) = true := decide_eq_true (by omega)
                          clear c27
                          by_cases c29 : 4 ≤ 12
                          · rw [if_pos c29] at H
                            have c29b0 := eq_true c29
                            have c29b1 : decide (4 ≤ 12) = true := decide_eq_true c29
                            clear c29
                            by_cases c30 : 12 ≤ (a0.size : Int)
                            · rw [if_pos c30] at H
                              have c30b0 := eq_true c30
                              have c30b1 : decide (12 ≤ (a0.size : Int)) = true := decide_eq_true c30
                              clear c30
                              replace H := Option.bind_eq_some_iff.mp H
                              obtain ⟨t103, A310, H⟩ := H
                              replace H : (if 12 ≤ 16 then (if 16 ≤ (a0.size : Int) then ((removalistref04_number.f k2 (a0.extract 12 16)).bind fun t104 => (if 16 ≤ (wrap64 (16 + (wrap64 (bt a0 3)))) then (if (wrap64 (16 + (wrap64 (bt a0 3)))) ≤ (a0.size : Int) then (some (wrap64 (bt a0 0), wrap64 (bt a0 1), wrap64 (bt a0 2), t103, (t104) % 4294967296, a0.extract 16 ((wrap64 (16 + (wrap64 (bt a0 3)))) : Int).toNat, 0)) else (none)) else (none))) else (none)) else (none)) = some (r1, r2, r3, r4, r5, r6, r7) := H
                              have A31 := Aside0.mk A310
                              clear A310
                              by_cases c32 : 12 ≤ 16
                              · rw [if_pos c32] at H
                                have c32b0 := eq_true c32
                                have c32b1 : decide (12 ≤ 16) = true := decide_eq_true c32
                                clear c32
                                by_cases c33 : 16 ≤ (a0.size : Int)
                                · rw [if_pos c33] at H
                                  have c33b0 := eq_true c33
                                  have c33b1 : decide (16 ≤ (a0.size : Int)) = true := decide_eq_true c33
                                  clear c33
                                  replace H := Option.bind_eq_some_iff.mp H
                                  obtain ⟨t104, A340, H⟩ := H
                                  replace H : (if 16 ≤ (wrap64 (16 + (wrap64 (bt a0 3)))) then (if (wrap64 (16 + (wrap64 (bt a0 3)))) ≤ (a0.size : Int) then (some (wrap64 (bt a0 0), wrap64 (bt a0 1), wrap64 (bt a0 2), t103, (t104) % 4294967296, a0.extract 16 ((wrap64 (16 + (wrap64 (bt a0 3)))) : Int).toNat, 0)) else (none)) else (none)) = some (r1, r2, r3, r4, r5, r6, r7) := H
                                  have A34 := Aside0.mk A340
                                  clear A340
                                  by_cases c35 : 16 ≤ (wrap64 (16 + (wrap64 (bt a0 3))))
                                  · rw [if_pos c35] at H
                                    have c35b0 := eq_true c35
                                    have c35b1 : decide (16 ≤ (wrap64 (16 + (wrap64 (bt a0 3))))) = true := decide_eq_true c35
                                    by_cases c36 : (wrap64 (16 + (wrap64 (bt a0 3)))) ≤ (a0.size : Int)
                                    · rw [if_pos c36] at H
                                      have c36b0 := eq_true c36
                                      have c36b1 : decide ((wrap64 (16 + (wrap64 (bt a0 3)))) ≤ (a0.size : Int)) = true := decide_eq_true c36
                                      simp only [Option.some.injEq, Prod.mk.injEq] at H
                                      obtain ⟨rfl, rfl, rfl, rfl, rfl, rfl, rfl⟩ := H
                                      try go_wp2
                                      have n0_ := Aside0.mk (blk_drew BK101.out)
                                      have n1_ := Aside0.mk (below_drew1 HB.out)
                                      clear BK101
                                      clear HB
                                      have BK101 := n0_
                                      have HB := n1_
                                      clear n0_ n1_
                                      have p24 : 0 ≤ (0 : Int) := (by omega)
                                      have q24 : 0 < a0.size := (by have : (0 : Int) < (a0.size : Int) := of_decide_eq_true (by first | (with_reducible assumption) | assumption); omega)
                                      have hx24 : ∀ h : 0 < a0.size, ((a0[0]'h).toNat : Int) = bt a0 0 := bt_at a0 0
                                      clear p24
                                      have qi24 : (0 < (a0.size : Int)) = True := eq_true (of_decide_eq_true (by first | (with_reducible assumption) | assumption))
                                      replace q24 := eq_true q24
                                      have p26 : 0 ≤ (1 : Int) := (by omega)
                                      have q26 : 1 < a0.size := (by have : (1 : Int) < (a0.size : Int) := of_decide_eq_true (by first | (with_reducible assumption) | assumption); omega)
                                      have hx26 : ∀ h : 1 < a0.size, ((a0[1]'h).toNat : Int) = bt a0 1 := bt_at a0 1
                                      clear p26
                                      have qi26 : (1 < (a0.size : Int)) = True := eq_true (of_decide_eq_true (by first | (with_reducible assumption) | assumption))
                                      replace q26 := eq_true q26
                                      have p28 : 0 ≤ (2 : Int) := (by omega)
                                      have q28 : 2 < a0.size := (by have : (2 : Int) < (a0.size : Int) := of_decide_eq_true (by first | (with_reducible assumption) | assumption); omega)
                                      have hx28 : ∀ h : 2 < a0.size, ((a0[2]'h).toNat : Int) = bt a0 2 := bt_at a0 2
                                      clear p28
                                      have qi28 : (2 < (a0.size : Int)) = True := eq_true (of_decide_eq_true (by first | (with_reducible assumption) | assumption))
                                      replace q28 := eq_true q28
                                      refine start_ (n := 23) (S := fun w' => True) (ds := []) #[false, false, false, false, false, false, false, false, false, false, false, false, false, false, false, false, false, false, false, false, false, false, false] (by kernel_rfl) rfl rfl trivial (fun hHeld => ?_); refine with_tabW removalistref04_Get.tab14 removalistref04_Get.bits14 (fun HT_ HW_ => ?_)
                                      generalize wr.drew = w37 at BK101 HB hHeld ⊢
                                      refine pure_ (i := 0) (N := some 43) (v := ?_) (a' := ?_) #[true, false, false, false, false, false, false, false, false, false, false, false, false, false, false, false, false, false, false, false, false, false, false] rfl rfl (any_of HT_.out (by kernel_rfl)) (fun _ _ _ h => h) (Or.inl ⟨by rfl, ?_⟩) ?_ ?_
                                      rotate_left
                                      · intro w'
                                        go_simp
                                        with_reducible rfl
                                      rotate_left
                                      · simp only [Act.put, List.setIfInBounds_toArray, List.set_cons_zero, List.set_cons_succ, i64_w, i32_w]
                                        rfl
                                      refine pure_ (i := 3) (N := some 46) (v := ?_) (a' := ?_) #[true, false, false, true, false, false, false, false, false, false, false, false, false, false, false, false, false, false, false, false, false, false, false] rfl rfl (any_of HT_.out (by kernel_rfl)) (fun _ _ _ h => h) (Or.inl ⟨by rfl, ?_⟩) ?_ ?_
                                      rotate_left
                                      · intro w'
                                        go_simp
                                        with_reducible rfl
                                      rotate_left
                                      · simp only [Act.put, List.setIfInBounds_toArray, List.set_cons_zero, List.set_cons_succ, i64_w, i32_w]
                                        rfl
                                      refine pure_ (i := 6) (N := some 49) (v := ?_) (a' := ?_) #[true, false, false, true, false, false, true, false, false, false, false, false, false, false, false, false, false, false, false, false, false, false, false] rfl rfl (any_of HT_.out (by kernel_rfl)) (fun _ _ _ h => h) (Or.inl ⟨by rfl, ?_⟩) ?_ ?_
                                      rotate_left
                                      · intro w'
                                        go_simp
                                        with_reducible rfl
                                      rotate_left
                                      · simp only [Act.put, List.setIfInBounds_toArray, List.set_cons_zero, List.set_cons_succ, i64_w, i32_w]
                                        rfl
                                      refine pure_ (i := 9) (N := some 52) (v := ?_) (a' := ?_) #[true, false, false, true, false, false, true, false, false, true, false, false, false, false, false, false, false, false, false, false, false, false, false] rfl rfl (any_of HT_.out (by kernel_rfl)) (fun _ _ _ h => h) (Or.inl ⟨by rfl, ?_⟩) ?_ ?_
                                      rotate_left
                                      · intro w'
                                        go_simp
                                        with_reducible rfl
                                      rotate_left
                                      · simp only [Act.put, List.setIfInBounds_toArray, List.set_cons_zero, List.set_cons_succ, i64_w, i32_w]
                                        rfl
                                      refine pure_ (i := 10) (N := some 53) (v := ?_) (a' := ?_) #[true, false, false, true, false, false, true, false, false, true, true, false, false, false, false, false, false, false, false, false, false, false, false] rfl rfl (any_of HT_.out (by kernel_rfl)) (fun _ _ _ h => h) (Or.inl ⟨by rfl, ?_⟩) ?_ ?_
                                      rotate_left
                                      · intro w'
                                        go_simp
                                        with_reducible rfl
                                      rotate_left
                                      · simp only [Act.put, List.setIfInBounds_toArray, List.set_cons_zero, List.set_cons_succ, i64_w, i32_w]
                                        rfl
                                      refine pure_ (i := 12) (N := some 55) (v := ?_) (a' := ?_) #[true, false, false, true, false, false, true, false, false, true, true, false, true, false, false, false, false, false, false, false, false, false, false] rfl rfl (any_of HT_.out (by kernel_rfl)) (fun _ _ _ h => h) (Or.inl ⟨by rfl, ?_⟩) ?_ ?_
                                      rotate_left
                                      · intro w'
                                        go_simp
                                        with_reducible rfl
                                      rotate_left
                                      · simp only [Act.put, List.setIfInBounds_toArray, List.set_cons_zero, List.set_cons_succ, i64_w, i32_w]
                                        rfl
                                      refine pure_ (i := 13) (N := some 56) (v := ?_) (a' := ?_) #[true, false, false, true, false, false, true, false, false, true, true, false, true, true, false, false, false, false, false, false, false, false, false] rfl rfl (any_of HT_.out (by kernel_rfl)) (fun _ _ _ h => h) (Or.inl ⟨by rfl, ?_⟩) ?_ ?_
                                      rotate_left
                                      · intro w'
                                        go_simp
                                        with_reducible rfl
                                      rotate_left
                                      · simp only [Act.put, List.setIfInBounds_toArray, List.set_cons_zero, List.set_cons_succ, i64_w, i32_w]
                                        rfl
                                      refine pure_ (i := 16) (N := some 59) (v := ?_) (a' := ?_) #[true, false, false, true, false, false, true, false, false, true, true, false, true, true, false, false, true, false, false, false, false, false, false] rfl rfl (any_of HT_.out (by kernel_rfl)) (fun _ _ _ h => h) (Or.inl ⟨by rfl, ?_⟩) ?_ ?_
                                      rotate_left
                                      · intro w'
                                        go_simp
                                        with_reducible rfl
                                      rotate_left
                                      · simp only [Act.put, List.setIfInBounds_toArray, List.set_cons_zero, List.set_cons_succ, i64_w, i32_w]
                                        rfl
                                      refine pure_ (i := 17) (N := some 60) (v := ?_) (a' := ?_) #[true, false, false, true, false, false, true, false, false, true, true, false, true, true, false, false, true, true, false, false, false, false, false] rfl rfl (any_of HT_.out (by kernel_rfl)) (fun _ _ _ h => h) (Or.inl ⟨by rfl, ?_⟩) ?_ ?_
                                      rotate_left
                                      · intro w'
                                        go_simp
                                        with_reducible rfl
                                      rotate_left
                                      · simp only [Act.put, List.setIfInBounds_toArray, List.set_cons_zero, List.set_cons_succ, i64_w, i32_w]
                                        rfl
                                      refine pure_ (i := 18) (N := some 61) (v := ?_) (a' := ?_) #[true, false, false, true, false, false, true, false, false, true, true, false, true, true, false, false, true, true, true, false, false, false, false] rfl rfl (any_of HT_.out (by kernel_rfl)) (fun _ _ _ h => h) (Or.inl ⟨by rfl, ?_⟩) ?_ ?_
                                      rotate_left
                                      · intro w'
                                        go_simp
                                        with_reducible rfl
                                      rotate_left
                                      · simp only [Act.put, List.setIfInBounds_toArray, List.set_cons_zero, List.set_cons_succ, i64_w, i32_w]
                                        rfl
                                      refine pure_ (i := 19) (N := some 62) (v := ?_) (a' := ?_) #[true, false, false, true, false, false, true, false, false, true, true, false, true, true, false, false, true, true, true, true, false, false, false] rfl rfl (any_of HT_.out (by kernel_rfl)) (fun _ _ _ h => h) (Or.inl ⟨by rfl, ?_⟩) ?_ ?_
                                      rotate_left
                                      · intro w'
                                        go_simp
                                        with_reducible rfl
                                      rotate_left
                                      · simp only [Act.put, List.setIfInBounds_toArray, List.set_cons_zero, List.set_cons_succ, i64_w, i32_w]
                                        rfl
                                      refine take_ (i := 1) (N := some 44) (v := ?_) (a' := ?_) #[true, true, false, true, false, false, true, false, false, true, true, false, true, true, false, false, true, true, true, true, false, false, false] rfl rfl (take_ofW HT_.out HW_.out (by kernel_rfl)) (fun _ _ _ h => h) (Or.inl ⟨by rfl, ?_⟩) hHeld ?_ ?_
                                      rotate_left
                                      · intro w' _
                                        go_simp
                                        with_reducible rfl
                                      rotate_left
                                      · simp only [Act.put, List.setIfInBounds_toArray, List.set_cons_zero, List.set_cons_succ, i64_w, i32_w]
                                        rfl
                                      refine pure_ (i := 2) (N := some 45) (v := ?_) (a' := ?_) #[true, true, true, true, false, false, true, false, false, true, true, false, true, true, false, false, true, true, true, true, false, false, false] rfl rfl (any_of HT_.out (by kernel_rfl)) (fun _ _ _ h => h) (Or.inl ⟨by rfl, ?_⟩) ?_ ?_
                                      rotate_left
                                      · intro w'
                                        go_simp
                                        with_reducible rfl
                                      rotate_left
                                      · simp only [Act.put, List.setIfInBounds_toArray, List.set_cons_zero, List.set_cons_succ, i64_w, i32_w]
                                        rfl
                                      refine take_ (i := 4) (N := some 47) (v := ?_) (a' := ?_) #[true, true, true, true, true, false, true, false, false, true, true, false, true, true, false, false, true, true, true, true, false, false, false] rfl rfl (take_ofW HT_.out HW_.out (by kernel_rfl)) (fun _ _ _ h => h) (Or.inl ⟨by rfl, ?_⟩) hHeld ?_ ?_
                                      rotate_left
                                      · intro w' _
                                        go_simp
                                        with_reducible rfl
                                      rotate_left
                                      · simp only [Act.put, List.setIfInBounds_toArray, List.set_cons_zero, List.set_cons_succ, i64_w, i32_w]
                                        rfl
                                      refine pure_ (i := 5) (N := some 48) (v := ?_) (a' := ?_) #[true, true, true, true, true, true, true, false, false, true, true, false, true, true, false, false, true, true, true, true, false, false, false] rfl rfl (any_of HT_.out (by kernel_rfl)) (fun _ _ _ h => h) (Or.inl ⟨by rfl, ?_⟩) ?_ ?_
                                      rotate_left
                                      · intro w'
                                        go_simp
                                        with_reducible rfl
                                      rotate_left
                                      · simp only [Act.put, List.setIfInBounds_toArray, List.set_cons_zero, List.set_cons_succ, i64_w, i32_w]
                                        rfl
                                      refine take_ (i := 7) (N := some 50) (v := ?_) (a' := ?_) #[true, true, true, true, true, true, true, true, false, true, true, false, true, true, false, false, true, true, true, true, false, false, false] rfl rfl (take_ofW HT_.out HW_.out (by kernel_rfl)) (fun _ _ _ h => h) (Or.inl ⟨by rfl, ?_⟩) hHeld ?_ ?_
                                      rotate_left
                                      · intro w' _
                                        go_simp
                                        with_reducible rfl
                                      rotate_left
                                      · simp only [Act.put, List.setIfInBounds_toArray, List.set_cons_zero, List.set_cons_succ, i64_w, i32_w]
                                        rfl
                                      refine pure_ (i := 8) (N := some 51) (v := ?_) (a' := ?_) #[true, true, true, true, true, true, true, true, true, true, true, false, true, true, false, false, true, true, true, true, false, false, false] rfl rfl (any_of HT_.out (by kernel_rfl)) (fun _ _ _ h => h) (Or.inl ⟨by rfl, ?_⟩) ?_ ?_
                                      rotate_left
                                      · intro w'
                                        go_simp
                                        with_reducible rfl
                                      rotate_left
                                      · simp only [Act.put, List.setIfInBounds_toArray, List.set_cons_zero, List.set_cons_succ, i64_w, i32_w]
                                        rfl
                                      refine one_ (i := 11) (N := some 54) #[true, true, true, true, true, true, true, true, true, true, true, true, true, true, false, false, true, true, true, true, false, false, false] rfl rfl (one_of HT_.out (by kernel_rfl)) (by decide) (fun K hK => ?_)
                                      refine goes_ Try.func37 (by kernel_rfl) rfl #[.string (a0.extract 4 12)] (by rfl) rfl rfl (by (try simp only [List.map_toArray, List.map_cons, List.map_nil]); first | done | rfl | (simp only [List.length_drop, List.length_take]; rfl)) ?_
                                      with_reducible refine (removalistref04_number.calls k2 (a0.extract 4 12) t103 _ A31.out).mono ?_
                                      rintro e w' ⟨rfl, ⟨nd, rfl⟩⟩
                                      refine ⟨_, rfl, ?_⟩
                                      refine hK.out _ _ trivial (fun hHeld => ?_)
                                      clear hK K
                                      refine norm_ (a' := ?_) ?_ ?_
                                      rotate_left
                                      · show Act.put _ (some 54) _ = _
                                        simp only [Act.put, List.setIfInBounds_toArray, List.set_cons_zero, List.set_cons_succ, i64_w, i32_w]
                                        rfl
                                      refine one_ (i := 14) (N := some 57) #[true, true, true, true, true, true, true, true, true, true, true, true, true, true, true, false, true, true, true, true, false, false, false] rfl rfl (one_of HT_.out (by kernel_rfl)) (by decide) (fun K hK => ?_)
                                      refine goes_ Try.func37 (by kernel_rfl) rfl #[.string (a0.extract 12 16)] (by rfl) rfl rfl (by (try simp only [List.map_toArray, List.map_cons, List.map_nil]); first | done | rfl | (simp only [List.length_drop, List.length_take]; rfl)) ?_
                                      with_reducible refine (removalistref04_number.calls k2 (a0.extract 12 16) t104 _ A34.out).mono ?_
                                      rintro e w' ⟨rfl, ⟨nd, rfl⟩⟩
                                      refine ⟨_, rfl, ?_⟩
                                      refine hK.out _ _ trivial (fun hHeld => ?_)
                                      clear hK K
                                      refine norm_ (a' := ?_) ?_ ?_
                                      rotate_left
                                      · show Act.put _ (some 57) _ = _
                                        simp only [Act.put, List.setIfInBounds_toArray, List.set_cons_zero, List.set_cons_succ, i64_w, i32_w]
                                        rfl
                                      refine pure_ (i := 15) (N := some 58) (v := ?_) (a' := ?_) #[true, true, true, true, true, true, true, true, true, true, true, true, true, true, true, true, true, true, true, true, false, false, false] rfl rfl (any_of HT_.out (by kernel_rfl)) (fun _ _ _ h => h) (Or.inl ⟨by rfl, ?_⟩) ?_ ?_
                                      rotate_left
                                      · intro w'
                                        go_simp
                                        with_reducible rfl
                                      rotate_left
                                      · simp only [Act.put, List.setIfInBounds_toArray, List.set_cons_zero, List.set_cons_succ, i64_w, i32_w]
                                        rfl
                                      refine pure_ (i := 20) (N := some 63) (v := ?_) (a' := ?_) #[true, true, true, true, true, true, true, true, true, true, true, true, true, true, true, true, true, true, true, true, true, false, false] rfl rfl (any_of HT_.out (by kernel_rfl)) (fun _ _ _ h => h) (Or.inl ⟨by rfl, ?_⟩) ?_ ?_
                                      rotate_left
                                      · intro w'
                                        go_simp
                                        with_reducible rfl
                                      rotate_left
                                      · simp only [Act.put, List.setIfInBounds_toArray, List.set_cons_zero, List.set_cons_succ, i64_w, i32_w]
                                        rfl
                                      refine one_ (i := 21) (N := none) #[true, true, true, true, true, true, true, true, true, true, true, true, true, true, true, true, true, true, true, true, true, true, false] rfl rfl (one_of HT_.out (by kernel_rfl)) (by decide) (fun K hK => ?_)
                                      have hs38 : w37.cell? ⟨gb101, 0, none⟩ = some (.int .i64 x102000_2) := (blk_cell BK101.out 0).trans rfl
                                      have hfs38 := blk_frozen BK101.out 0
                                      have hs39 : w37.cell? ⟨gb101, 1, none⟩ = some (.int .i64 x102001_2) := (blk_cell BK101.out 1).trans rfl
                                      have hfs39 := blk_frozen BK101.out 1
                                      have hs40 : w37.cell? ⟨gb101, 2, none⟩ = some (.int .i64 x102002_2) := (blk_cell BK101.out 2).trans rfl
                                      have hfs40 := blk_frozen BK101.out 2
                                      have hs41 : w37.cell? ⟨gb101, 3, none⟩ = some (.int .u64 x102003_2) := (blk_cell BK101.out 3).trans rfl
                                      have hfs41 := blk_frozen BK101.out 3
                                      have hs42 : w37.cell? ⟨gb101, 4, none⟩ = some (.int .u32 x102004_2) := (blk_cell BK101.out 4).trans rfl
                                      have hfs42 := blk_frozen BK101.out 4
                                      have hs43 : w37.cell? ⟨gb101, 5, none⟩ = some (.string x102005_2) := (blk_cell BK101.out 5).trans rfl
                                      have hfs43 := blk_frozen BK101.out 5
                                      refine skip_ (w1 := ?_) (by rfl) rfl ?_ ?_
                                      rotate_left
                                      · go_simp
                                        rfl
                                      refine hK.out _ _ trivial (fun hHeld => ?_)
                                      clear hK K
                                      refine pure_ (i := 22) (N := some 3) (v := ?_) (a' := ?_) #[true, true, true, true, true, true, true, true, true, true, true, true, true, true, true, true, true, true, true, true, true, true, true] rfl rfl (any_of HT_.out (by kernel_rfl)) (fun _ _ _ h => h) (Or.inl ⟨by rfl, ?_⟩) ?_ ?_
                                      rotate_left
                                      · intro w'
                                        go_simp
                                        with_reducible rfl
                                      rotate_left
                                      · simp only [Act.put, List.setIfInBounds_toArray, List.set_cons_zero, List.set_cons_succ, i64_w, i32_w]
                                        rfl
                                      refine done_ (done_of HT_.out (by kernel_rfl)) ?_
                                      try go_wp2
                                      refine bodyPost_ret (results_ct rfl _ _ gb101 49 #[.int .i64 (wrap64 (bt a0 0)), .int .i64 (wrap64 (bt a0 1)), .int .i64 (wrap64 (bt a0 2)), .int .u64 t103, .int .u32 ((t104) % 4294967296), .string (a0.extract 16 ((wrap64 (16 + (wrap64 (bt a0 3)))) : Int).toNat)] (0, 0) _ rfl (by (with_reducible repeat (first | refine blk_drewN ?_ _ | refine blk_drew ?_ | refine blk_alloc ?_ _)); refine blk_put (cs := #[.int .i64 (wrap64 (bt a0 0)), .int .i64 (wrap64 (bt a0 1)), .int .i64 (wrap64 (bt a0 2)), .int .u64 t103, .int .u32 ((t104) % 4294967296), .string x102005_2]) ?_ 5 _ rfl; (with_reducible repeat (first | refine blk_drewN ?_ _ | refine blk_drew ?_ | refine blk_alloc ?_ _)); refine blk_put (cs := #[.int .i64 (wrap64 (bt a0 0)), .int .i64 (wrap64 (bt a0 1)), .int .i64 (wrap64 (bt a0 2)), .int .u64 t103, .int .u32 x102004_2, .string x102005_2]) ?_ 4 _ rfl; (with_reducible repeat (first | refine blk_drewN ?_ _ | refine blk_drew ?_ | refine blk_alloc ?_ _)); refine blk_put (cs := #[.int .i64 (wrap64 (bt a0 0)), .int .i64 (wrap64 (bt a0 1)), .int .i64 (wrap64 (bt a0 2)), .int .u64 x102003_2, .int .u32 x102004_2, .string x102005_2]) ?_ 3 _ rfl; (with_reducible repeat (first | refine blk_drewN ?_ _ | refine blk_drew ?_ | refine blk_alloc ?_ _)); refine blk_put (cs := #[.int .i64 (wrap64 (bt a0 0)), .int .i64 (wrap64 (bt a0 1)), .int .i64 x102002_2, .int .u64 x102003_2, .int .u32 x102004_2, .string x102005_2]) ?_ 2 _ rfl; (with_reducible repeat (first | refine blk_drewN ?_ _ | refine blk_drew ?_ | refine blk_alloc ?_ _)); refine blk_put (cs := #[.int .i64 (wrap64 (bt a0 0)), .int .i64 x102001_2, .int .i64 x102002_2, .int .u64 x102003_2, .int .u32 x102004_2, .string x102005_2]) ?_ 1 _ rfl; (with_reducible repeat (first | refine blk_drewN ?_ _ | refine blk_drew ?_ | refine blk_alloc ?_ _)); refine blk_put (cs := #[.int .i64 x102000_2, .int .i64 x102001_2, .int .i64 x102002_2, .int .u64 x102003_2, .int .u32 x102004_2, .string x102005_2]) ?_ 0 _ rfl; (with_reducible repeat (first | refine blk_drewN ?_ _ | refine blk_drew ?_ | refine blk_alloc ?_ _)); exact BK101.out) Try.underlying49 rfl (by kernel_rfl)) rfl ?_
                                      exact ⟨by first | rfl | (simp [errW_none, errW_some] <;> rfl) | (simp [*, errW_none, errW_some] <;> rfl), by repeat (first | (with_reducible first | exact HB.out | apply below_alloc | apply pw_below_drewN | apply below_drew1 | refine below_set ?_ GE101.out) | exact HB.out)⟩
                                    · rw [if_neg c36] at H
                                      exact absurd H (by simp)
                                  · rw [if_neg c35] at H
                                    exact absurd H (by simp)
                                · rw [if_neg c33] at H
                                  exact absurd H (by simp)
                              · rw [if_neg c32] at H
                                exact absurd H (by simp)
                            · rw [if_neg c30] at H
                              exact absurd H (by simp)
                          · rw [if_neg c29] at H
                            exact absurd H (by simp)
                        · rw [if_neg c27] at H
                          exact absurd H (by simp)
                      · rw [if_neg c25] at H
                        exact absurd H (by simp)
                    · rw [if_neg c23] at H
                      exact absurd H (by simp)
      · rw [if_neg c5] at H
        exact absurd H (by simp)
    · replace c4 := Bool.eq_false_iff.mpr c4
      subst c4
      have H1 : (some (0, 0, 0, 0, 0, (⟨#[]⟩ : ByteArray), 14)) = some (r1, r2, r3, r4, r5, r6, r7) := by rw [if_neg (show ¬ (false = true) by decide)] at H; exact H
      clear H
      have H := H1
      clear H1
      simp only [Option.some.injEq, Prod.mk.injEq] at H
      obtain ⟨rfl, rfl, rfl, rfl, rfl, rfl, rfl⟩ := H
      go_enter Try.func27, Try.ntmps27
      go_wp2_with (first | ((with_reducible refine gate_dst (N := 2) rfl ?_); refine box_event ?hg (N := 2) ?hd (cs := #[.int .i64 0, .int .i64 0, .int .i64 0, .int .u64 0, .int .u32 0, .string (⟨#[]⟩ : ByteArray)]) (t := 49) ?hr ?_; (case hd => rfl); (case hg => rfl); (case hr => first | (go_simp; done) | (go_simp; rfl)); intro gb101 hg w44 hbox hb; have n0_ := Aside0.mk (below_step (by repeat (first | (with_reducible first | exact HB.out | apply below_alloc | apply pw_below_drewN | apply below_drew1) | exact HB.out)) hb); have n1_ := Aside0.mk (hbox); have n2_ := Aside0.mk ((by rw [hg]; exact (below_size (by repeat (first | (with_reducible first | exact HB.out | apply below_alloc | apply pw_below_drewN | apply below_drew1) | exact HB.out))) : w.heap.size ≤ gb101)); have n3_ := Aside0.mk ((by rw [hg]; exact (below_size (by repeat (first | (with_reducible first | exact HB.out | apply below_alloc | apply pw_below_drewN | apply below_drew1) | exact HB.out))) : w.heap.size ≤ gb101)); clear HB; have HB := n0_; have BK101 := n1_; have GW101 := n2_; have GE101 := n3_; clear n0_ n1_ n2_ n3_; clear hb hbox hg) | ((with_reducible refine gate_callee (f := 21) rfl ?_); refine goesL_ (some 12) rfl rfl Try.func21 (by kernel_rfl) rfl #[.string a0] rfl (by (try simp only [List.map_toArray, List.map_cons, List.map_nil]); first | done | rfl | (simp only [List.length_drop, List.length_take]; rfl)) ?_; (with_reducible refine (Hm.ref02_Right.calls a0 false _ A3.out).mono ?_); rintro e w45 ⟨rfl, hb⟩; refine ⟨_, rfl, ?_⟩; have n0_ := Aside0.mk (blk_below (g := gb101) (o := .cells #[.int .i64 0, .int .i64 0, .int .i64 0, .int .u64 0, .int .u32 0, .string (⟨#[]⟩ : ByteArray)] 49 (0, 0)) (by (with_reducible repeat (first | refine blk_drewN ?_ _ | refine blk_drew ?_ | refine blk_alloc ?_ _)); exact BK101.out) hb); have n1_ := Aside0.mk (below_step (by repeat (first | (with_reducible first | exact HB.out | apply below_alloc | apply pw_below_drewN | apply below_drew1 | refine below_set ?_ GE101.out) | exact HB.out)) hb); clear BK101; clear HB; have BK101 := n0_; have HB := n1_; clear n0_ n1_; (try clear hb); (try clear hb2); (try clear hk); (try clear hi); have hcz46_0 : w45.cell? ⟨gb101, 0, none⟩ = some (.int .i64 0) := (blk_cell BK101.out 0).trans rfl; have hcz46_1 : w45.cell? ⟨gb101, 1, none⟩ = some (.int .i64 0) := (blk_cell BK101.out 1).trans rfl; have hcz46_2 : w45.cell? ⟨gb101, 2, none⟩ = some (.int .i64 0) := (blk_cell BK101.out 2).trans rfl; have hcz46_3 : w45.cell? ⟨gb101, 3, none⟩ = some (.int .u64 0) := (blk_cell BK101.out 3).trans rfl; have hcz46_4 : w45.cell? ⟨gb101, 4, none⟩ = some (.int .u32 0) := (blk_cell BK101.out 4).trans rfl; have hcz46_5 : w45.cell? ⟨gb101, 5, none⟩ = some (.string (⟨#[]⟩ : ByteArray)) := (blk_cell BK101.out 5).trans rfl; have hfz46_0 := blk_frozen BK101.out 0; have hfz46_1 := blk_frozen BK101.out 1; have hfz46_2 := blk_frozen BK101.out 2; have hfz46_3 := blk_frozen BK101.out 3; have hfz46_4 := blk_frozen BK101.out 4; have hfz46_5 := blk_frozen BK101.out 5))
      refine bodyPost_ret (results_ct rfl _ _ gb101 49 #[.int .i64 0, .int .i64 0, .int .i64 0, .int .u64 0, .int .u32 0, .string (⟨#[]⟩ : ByteArray)] (0, 0) _ rfl (by (with_reducible repeat (first | refine blk_drewN ?_ _ | refine blk_drew ?_ | refine blk_alloc ?_ _)); refine blk_put (cs := #[.int .i64 0, .int .i64 0, .int .i64 0, .int .u64 0, .int .u32 0, .string (⟨#[]⟩ : ByteArray)]) ?_ 5 _ rfl; (with_reducible repeat (first | refine blk_drewN ?_ _ | refine blk_drew ?_ | refine blk_alloc ?_ _)); refine blk_put (cs := #[.int .i64 0, .int .i64 0, .int .i64 0, .int .u64 0, .int .u32 0, .string (⟨#[]⟩ : ByteArray)]) ?_ 4 _ rfl; (with_reducible repeat (first | refine blk_drewN ?_ _ | refine blk_drew ?_ | refine blk_alloc ?_ _)); refine blk_put (cs := #[.int .i64 0, .int .i64 0, .int .i64 0, .int .u64 0, .int .u32 0, .string (⟨#[]⟩ : ByteArray)]) ?_ 3 _ rfl; (with_reducible repeat (first | refine blk_drewN ?_ _ | refine blk_drew ?_ | refine blk_alloc ?_ _)); refine blk_put (cs := #[.int .i64 0, .int .i64 0, .int .i64 0, .int .u64 0, .int .u32 0, .string (⟨#[]⟩ : ByteArray)]) ?_ 2 _ rfl; (with_reducible repeat (first | refine blk_drewN ?_ _ | refine blk_drew ?_ | refine blk_alloc ?_ _)); refine blk_put (cs := #[.int .i64 0, .int .i64 0, .int .i64 0, .int .u64 0, .int .u32 0, .string (⟨#[]⟩ : ByteArray)]) ?_ 1 _ rfl; (with_reducible repeat (first | refine blk_drewN ?_ _ | refine blk_drew ?_ | refine blk_alloc ?_ _)); refine blk_put (cs := #[.int .i64 0, .int .i64 0, .int .i64 0, .int .u64 0, .int .u32 0, .string (⟨#[]⟩ : ByteArray)]) ?_ 0 _ rfl; (with_reducible repeat (first | refine blk_drewN ?_ _ | refine blk_drew ?_ | refine blk_alloc ?_ _)); exact BK101.out) Try.underlying49 rfl (by kernel_rfl)) rfl ?_
      exact ⟨by first | rfl | (simp [errW_none, errW_some] <;> rfl) | (simp [*, errW_none, errW_some] <;> rfl), by repeat (first | (with_reducible first | exact HB.out | apply below_alloc | apply pw_below_drewN | apply below_drew1 | refine below_set ?_ GE101.out) | exact HB.out)⟩
  · rw [if_neg c2] at H
    have c2b0 : ((a0.size : Int) == 128) = false := beq_eq_false_iff_ne.mpr c2
    have c2b1 : ((a0.size : Int) != 128) = true := bne_iff_ne.mpr c2
    simp only [Option.some.injEq, Prod.mk.injEq] at H
    obtain ⟨rfl, rfl, rfl, rfl, rfl, rfl, rfl⟩ := H
    go_enter Try.func27, Try.ntmps27
    go_wp2_with (first | ((with_reducible refine gate_dst (N := 2) rfl ?_); refine box_event ?hg (N := 2) ?hd (cs := #[.int .i64 0, .int .i64 0, .int .i64 0, .int .u64 0, .int .u32 0, .string (⟨#[]⟩ : ByteArray)]) (t := 49) ?hr ?_; (case hd => rfl); (case hg => rfl); (case hr => first | (go_simp; done) | (go_simp; rfl)); intro gb101 hg w47 hbox hb; have n0_ := Aside0.mk (below_step (by repeat (first | (with_reducible first | exact HB.out | apply below_alloc | apply pw_below_drewN | apply below_drew1) | exact HB.out)) hb); have n1_ := Aside0.mk (hbox); have n2_ := Aside0.mk ((by rw [hg]; exact (below_size (by repeat (first | (with_reducible first | exact HB.out | apply below_alloc | apply pw_below_drewN | apply below_drew1) | exact HB.out))) : w.heap.size ≤ gb101)); have n3_ := Aside0.mk ((by rw [hg]; exact (below_size (by repeat (first | (with_reducible first | exact HB.out | apply below_alloc | apply pw_below_drewN | apply below_drew1) | exact HB.out))) : w.heap.size ≤ gb101)); clear HB; have HB := n0_; have BK101 := n1_; have GW101 := n2_; have GE101 := n3_; clear n0_ n1_ n2_ n3_; clear hb hbox hg; have hcz48_0 : w47.cell? ⟨gb101, 0, none⟩ = some (.int .i64 0) := (blk_cell BK101.out 0).trans rfl; have hcz48_1 : w47.cell? ⟨gb101, 1, none⟩ = some (.int .i64 0) := (blk_cell BK101.out 1).trans rfl; have hcz48_2 : w47.cell? ⟨gb101, 2, none⟩ = some (.int .i64 0) := (blk_cell BK101.out 2).trans rfl; have hcz48_3 : w47.cell? ⟨gb101, 3, none⟩ = some (.int .u64 0) := (blk_cell BK101.out 3).trans rfl; have hcz48_4 : w47.cell? ⟨gb101, 4, none⟩ = some (.int .u32 0) := (blk_cell BK101.out 4).trans rfl; have hcz48_5 : w47.cell? ⟨gb101, 5, none⟩ = some (.string (⟨#[]⟩ : ByteArray)) := (blk_cell BK101.out 5).trans rfl; have hfz48_0 := blk_frozen BK101.out 0; have hfz48_1 := blk_frozen BK101.out 1; have hfz48_2 := blk_frozen BK101.out 2; have hfz48_3 := blk_frozen BK101.out 3; have hfz48_4 := blk_frozen BK101.out 4; have hfz48_5 := blk_frozen BK101.out 5))
    refine bodyPost_ret (results_ct rfl _ _ gb101 49 #[.int .i64 0, .int .i64 0, .int .i64 0, .int .u64 0, .int .u32 0, .string (⟨#[]⟩ : ByteArray)] (0, 0) _ rfl (by (with_reducible repeat (first | refine blk_drewN ?_ _ | refine blk_drew ?_ | refine blk_alloc ?_ _)); refine blk_put (cs := #[.int .i64 0, .int .i64 0, .int .i64 0, .int .u64 0, .int .u32 0, .string (⟨#[]⟩ : ByteArray)]) ?_ 5 _ rfl; (with_reducible repeat (first | refine blk_drewN ?_ _ | refine blk_drew ?_ | refine blk_alloc ?_ _)); refine blk_put (cs := #[.int .i64 0, .int .i64 0, .int .i64 0, .int .u64 0, .int .u32 0, .string (⟨#[]⟩ : ByteArray)]) ?_ 4 _ rfl; (with_reducible repeat (first | refine blk_drewN ?_ _ | refine blk_drew ?_ | refine blk_alloc ?_ _)); refine blk_put (cs := #[.int .i64 0, .int .i64 0, .int .i64 0, .int .u64 0, .int .u32 0, .string (⟨#[]⟩ : ByteArray)]) ?_ 3 _ rfl; (with_reducible repeat (first | refine blk_drewN ?_ _ | refine blk_drew ?_ | refine blk_alloc ?_ _)); refine blk_put (cs := #[.int .i64 0, .int .i64 0, .int .i64 0, .int .u64 0, .int .u32 0, .string (⟨#[]⟩ : ByteArray)]) ?_ 2 _ rfl; (with_reducible repeat (first | refine blk_drewN ?_ _ | refine blk_drew ?_ | refine blk_alloc ?_ _)); refine blk_put (cs := #[.int .i64 0, .int .i64 0, .int .i64 0, .int .u64 0, .int .u32 0, .string (⟨#[]⟩ : ByteArray)]) ?_ 1 _ rfl; (with_reducible repeat (first | refine blk_drewN ?_ _ | refine blk_drew ?_ | refine blk_alloc ?_ _)); refine blk_put (cs := #[.int .i64 0, .int .i64 0, .int .i64 0, .int .u64 0, .int .u32 0, .string (⟨#[]⟩ : ByteArray)]) ?_ 0 _ rfl; (with_reducible repeat (first | refine blk_drewN ?_ _ | refine blk_drew ?_ | refine blk_alloc ?_ _)); exact BK101.out) Try.underlying49 rfl (by kernel_rfl)) rfl ?_
    exact ⟨by first | rfl | (simp [errW_none, errW_some] <;> rfl) | (simp [*, errW_none, errW_some] <;> rfl), by repeat (first | (with_reducible first | exact HB.out | apply below_alloc | apply pw_below_drewN | apply below_drew1 | refine below_set ?_ GE101.out) | exact HB.out)⟩

end Go.Proofs.Ytelhdgnolijpcaa.PRef04Get
end
section
/- Go functions as plain Lean functions of numbers and lists, and proofs that their calls come to what these compute; conditions: those that each theorem names. (Written by a program of this session: the print, turned so that it takes contracts proved by hand.) -/
namespace Go.Proofs.Ytelhdgnolijpcaa.PRef04Put
open Go.RowKit Go.Proofs.YtelhdgnolijpcaaW.PrintWords Go.Proofs.YtelhdgnolijpcaaW.PrintLast Go.Proofs.YtelhdgnolijpcaaW.PrintMore
attribute [local go_sem] max2_int min2_int max_two min_two max_three min_three max_four min_four   -- for this text's walks alone
set_option linter.unusedVariables false
set_option linter.unusedSimpArgs false



def errW : Option Int → Value
  | none => .nilIface
  | some c => .iface 0 (.int .i64 c)
theorem errW_none : errW none = .nilIface := rfl
theorem errW_some (c : Int) : errW (some c) = .iface 0 (.int .i64 c) := rfl

theorem info5 : (Try.prog.info? 5).map (fun i => (i.zero, i.size, i.bytes)) = some (some (.int .u8 0), 1, 1) := by kernel_rfl
-- the values' own types

end Go.Proofs.Ytelhdgnolijpcaa.PRef04Put
end
section
/- Go functions as plain Lean functions of numbers and lists, and proofs that their calls come to what these compute; conditions: those that each theorem names. (Written by a program of this session: the print, turned so that it takes contracts proved by hand.) -/
namespace Go.Proofs.Ytelhdgnolijpcaa.PRef04Put
open Go.RowKit Go.Proofs.YtelhdgnolijpcaaW.PrintWords Go.Proofs.YtelhdgnolijpcaaW.PrintLast Go.Proofs.YtelhdgnolijpcaaW.PrintMore
attribute [local go_sem] max2_int min2_int max_two min_two max_three min_three max_four min_four   -- for this text's walks alone
set_option linter.unusedVariables false
set_option linter.unusedSimpArgs false

-- GIVEN: function 19 (removalistref02_Sealed): Hm.ref02_Sealed

-- GIVEN: function 30 (removalistref01_U32): Hm.ref01_U32

/-! ### removalistref01_U64: function 34 -/
def removalistref01_U64.f (a0 : Int) : Option (ByteArray) := (Hm.ref01_U32.f ((IntKind.u64.wrap (Int.tdiv a0 4294967296)) % 4294967296)).bind fun t101 => ((Hm.ref01_U32.f ((a0) % 4294967296)).bind fun t102 => (if t101.size + t102.size ≤ 9223372036854775807 then (some (t101 ++ t102)) else (none)))
set_option maxHeartbeats 8000000 in
set_option maxRecDepth 100000 in
theorem removalistref01_U64.calls (a0 : Int) (r : ByteArray) (w : World) (h : removalistref01_U64.f a0 = some r) :
    Calls Try.prog 34 #[.int .u64 a0] w fun e w' => e = .returned (.string r) ∧ Below w.heap.size w w' := by
  have HB := Aside0.mk (Below.refl w.heap.size w)
  have H : ((Hm.ref01_U32.f ((IntKind.u64.wrap (Int.tdiv a0 4294967296)) % 4294967296)).bind fun t101 => ((Hm.ref01_U32.f ((a0) % 4294967296)).bind fun t102 => (if t101.size + t102.size ≤ 9223372036854775807 then (some (t101 ++ t102)) else (none)))) = some r := h
  clear h
  replace H := Option.bind_eq_some_iff.mp H
  obtain ⟨t101, A20, H⟩ := H
  replace H : ((Hm.ref01_U32.f ((a0) % 4294967296)).bind fun t102 => (if t101.size + t102.size ≤ 9223372036854775807 then (some (t101 ++ t102)) else (none))) = some r := H
  have A2 := Aside0.mk A20
  clear A20
  replace H := Option.bind_eq_some_iff.mp H
  obtain ⟨t102, A30, H⟩ := H
  replace H : (if t101.size + t102.size ≤ 9223372036854775807 then (some (t101 ++ t102)) else (none)) = some r := H
  have A3 := Aside0.mk A30
  clear A30
  by_cases c4 : t101.size + t102.size ≤ 9223372036854775807
  · rw [if_pos c4] at H
    have c4b0 := eq_true c4
    have c4b1 : decide (t101.size + t102.size ≤ 9223372036854775807) = true := decide_eq_true c4
    try have c4b2 : (9223372036854775807 < t101.size + t102.size) = False := eq_false (Nat.not_lt.2 c4)
    obtain rfl := Option.some.inj H
    go_enter Try.func34, Try.ntmps34
    go_wp2_with (first | ((with_reducible refine gate_callee (f := 30) rfl ?_); refine goesL_ (some 6) rfl rfl Try.func30 (by kernel_rfl) rfl #[.int .u32 ((IntKind.u64.wrap (Int.tdiv a0 4294967296)) % 4294967296)] rfl (by (try simp only [List.map_toArray, List.map_cons, List.map_nil]); first | done | rfl | (simp only [List.length_drop, List.length_take]; rfl)) ?_; (with_reducible refine (Hm.ref01_U32.calls ((IntKind.u64.wrap (Int.tdiv a0 4294967296)) % 4294967296) t101 _ A2.out).mono ?_); rintro e w5 ⟨rfl, hb⟩; refine ⟨_, rfl, ?_⟩; have n0_ := Aside0.mk (below_step (by repeat (first | (with_reducible first | exact HB.out | apply below_alloc | apply pw_below_drewN | apply below_drew1) | exact HB.out)) hb); clear HB; have HB := n0_; clear n0_; (try clear hb); (try clear hb2); (try clear hk); (try clear hi)) | ((with_reducible refine gate_callee (f := 30) rfl ?_); refine goesL_ (some 9) rfl rfl Try.func30 (by kernel_rfl) rfl #[.int .u32 ((a0) % 4294967296)] rfl (by (try simp only [List.map_toArray, List.map_cons, List.map_nil]); first | done | rfl | (simp only [List.length_drop, List.length_take]; rfl)) ?_; (with_reducible refine (Hm.ref01_U32.calls ((a0) % 4294967296) t102 _ A3.out).mono ?_); rintro e w6 ⟨rfl, hb⟩; refine ⟨_, rfl, ?_⟩; have n0_ := Aside0.mk (below_step (by repeat (first | (with_reducible first | exact HB.out | apply below_alloc | apply pw_below_drewN | apply below_drew1) | exact HB.out)) hb); clear HB; have HB := n0_; clear n0_; (try clear hb); (try clear hb2); (try clear hk); (try clear hi)))
    go_ret
    exact ⟨by first | rfl | (simp [errW_none, errW_some] <;> rfl) | (simp [*, errW_none, errW_some] <;> rfl), by repeat (first | (with_reducible first | exact HB.out | apply below_alloc | apply pw_below_drewN | apply below_drew1) | exact HB.out)⟩
  · rw [if_neg c4] at H
    exact absurd H (by simp)

end Go.Proofs.Ytelhdgnolijpcaa.PRef04Put
end
section
/- Go functions as plain Lean functions of numbers and lists, and proofs that their calls come to what these compute; conditions: those that each theorem names. (Written by a program of this session: the print, turned so that it takes contracts proved by hand.) -/
namespace Go.Proofs.Ytelhdgnolijpcaa.PRef04Put
open Go.RowKit Go.Proofs.YtelhdgnolijpcaaW.PrintWords Go.Proofs.YtelhdgnolijpcaaW.PrintLast Go.Proofs.YtelhdgnolijpcaaW.PrintMore
attribute [local go_sem] max2_int min2_int max_two min_two max_three min_three max_four min_four   -- for this text's walks alone
set_option linter.unusedVariables false
set_option linter.unusedSimpArgs false

/-! ### removalistref04_Put: function 24 -/
mutual
def removalistref04_Put.j0 : Nat → Bool → Int → Int → Int → Int → Int → ByteArray → Option (ByteArray × Int)
  | 0, _, _, _, _, _, _, _ => none
  | k + 1, x38, x104000, x104001, x104002, x104003, x104004, x104005 => if x38 = true then (some ((⟨#[]⟩ : ByteArray), 1)) else ((some (([(x104000) % 256, (x104001) % 256, (x104002) % 256, ((x104005.size : Int)) % 256] : List Int) : List Int)).bind fun y104 => ((removalistref01_U64.f x104003).bind fun t107 => (if (strOfNums y104).size + t107.size ≤ 9223372036854775807 then ((Hm.ref01_U32.f x104004).bind fun t108 => (if ((strOfNums y104) ++ t107).size + t108.size ≤ 9223372036854775807 then (if (((strOfNums y104) ++ t107) ++ t108).size + x104005.size ≤ 9223372036854775807 then (removalistref04_Put.l0 k ((((strOfNums y104) ++ t107) ++ t108) ++ x104005)) else (none)) else (none))) else (none))))
def removalistref04_Put.l0 : Nat → ByteArray → Option (ByteArray × Int)
  | 0, _ => none
  | k + 1, x4 => if (x4.size : Int) < 124 then (if x4.size + 1 ≤ 9223372036854775807 then (removalistref04_Put.l0 k (x4 ++ (⟨#[0]⟩ : ByteArray))) else (none)) else ((Hm.ref02_Sealed.f x4).bind fun t109 => (some (t109, 0)))
end
def removalistref04_Put.f (k : Nat) (a0_0 : Int) (a0_1 : Int) (a0_2 : Int) (a0_3 : Int) (a0_4 : Int) (a0_5 : ByteArray) : Option (ByteArray × Int) := if a0_0 < 1 then (removalistref04_Put.j0 k true a0_0 a0_1 a0_2 a0_3 a0_4 a0_5) else (if a0_0 > 4 then (removalistref04_Put.j0 k true a0_0 a0_1 a0_2 a0_3 a0_4 a0_5) else (if a0_1 < 0 then (removalistref04_Put.j0 k true a0_0 a0_1 a0_2 a0_3 a0_4 a0_5) else (if a0_1 > 255 then (removalistref04_Put.j0 k true a0_0 a0_1 a0_2 a0_3 a0_4 a0_5) else (if a0_2 < 0 then (removalistref04_Put.j0 k true a0_0 a0_1 a0_2 a0_3 a0_4 a0_5) else (if a0_2 > 255 then (removalistref04_Put.j0 k true a0_0 a0_1 a0_2 a0_3 a0_4 a0_5) else (removalistref04_Put.j0 k (decide ((a0_5.size : Int) > 108)) a0_0 a0_1 a0_2 a0_3 a0_4 a0_5))))))
theorem removalistref04_Put.j0_zero : ∀ y0 y1 y2 y3 y4 y5 y6, removalistref04_Put.j0 0 y0 y1 y2 y3 y4 y5 y6 = none := fun _ _ _ _ _ _ _ => rfl
theorem removalistref04_Put.l0_zero : ∀ y0, removalistref04_Put.l0 0 y0 = none := fun _ => rfl
theorem removalistref04_Put.j0_succ : ∀ k x38 x104000 x104001 x104002 x104003 x104004 x104005, removalistref04_Put.j0 (k + 1) x38 x104000 x104001 x104002 x104003 x104004 x104005 = if x38 = true then (some ((⟨#[]⟩ : ByteArray), 1)) else ((some (([(x104000) % 256, (x104001) % 256, (x104002) % 256, ((x104005.size : Int)) % 256] : List Int) : List Int)).bind fun y104 => ((removalistref01_U64.f x104003).bind fun t107 => (if (strOfNums y104).size + t107.size ≤ 9223372036854775807 then ((Hm.ref01_U32.f x104004).bind fun t108 => (if ((strOfNums y104) ++ t107).size + t108.size ≤ 9223372036854775807 then (if (((strOfNums y104) ++ t107) ++ t108).size + x104005.size ≤ 9223372036854775807 then (removalistref04_Put.l0 k ((((strOfNums y104) ++ t107) ++ t108) ++ x104005)) else (none)) else (none))) else (none)))) := fun _ _ _ _ _ _ _ _ => rfl
theorem removalistref04_Put.l0_succ : ∀ k x4, removalistref04_Put.l0 (k + 1) x4 = if (x4.size : Int) < 124 then (if x4.size + 1 ≤ 9223372036854775807 then (removalistref04_Put.l0 k (x4 ++ (⟨#[0]⟩ : ByteArray))) else (none)) else ((Hm.ref02_Sealed.f x4).bind fun t109 => (some (t109, 0))) := fun _ _ => rfl
set_option maxRecDepth 100000 in
theorem removalistref04_Put.mono_l : ∀ k, (∀ y0 y1 y2 y3 y4 y5 y6, LeO (removalistref04_Put.j0 k y0 y1 y2 y3 y4 y5 y6) (removalistref04_Put.j0 (k + 1) y0 y1 y2 y3 y4 y5 y6)) ∧ (∀ y0, LeO (removalistref04_Put.l0 k y0) (removalistref04_Put.l0 (k + 1) y0))
  | 0 => ⟨fun _ _ _ _ _ _ _ r h => (by first | (cases h; done) | simp [removalistref04_Put.j0] at h), fun _ r h => (by first | (cases h; done) | simp [removalistref04_Put.l0] at h)⟩
  | k + 1 => by
    obtain ⟨ih0, ih1⟩ := removalistref04_Put.mono_l k
    refine ⟨?_, ?_⟩
    · intro y0 y1 y2 y3 y4 y5 y6
      unfold removalistref04_Put.j0
      repeat' first
      | (with_reducible exact ih0 _ _ _ _ _ _ _)
      | (with_reducible exact ih1 _)
      | (with_reducible exact LeO.refl _)
      | (with_reducible exact LeO.none _)
      | (with_reducible refine LeO.ite ?_ ?_)
      | (with_reducible refine LeO.bind ?_ (fun _ => ?_))
      | exact ih0 _ _ _ _ _ _ _
      | exact ih1 _
      | exact LeO.none _
      | refine LeO.ite ?_ ?_
      | refine LeO.bind ?_ (fun _ => ?_)
    · intro y0
      unfold removalistref04_Put.l0
      repeat' first
      | (with_reducible exact ih0 _ _ _ _ _ _ _)
      | (with_reducible exact ih1 _)
      | (with_reducible exact LeO.refl _)
      | (with_reducible exact LeO.none _)
      | (with_reducible refine LeO.ite ?_ ?_)
      | (with_reducible refine LeO.bind ?_ (fun _ => ?_))
      | exact ih0 _ _ _ _ _ _ _
      | exact ih1 _
      | exact LeO.none _
      | refine LeO.ite ?_ ?_
      | refine LeO.bind ?_ (fun _ => ?_)
theorem removalistref04_Put.mono : ∀ a0 a1 a2 a3 a4 a5 k, LeO (removalistref04_Put.f k a0 a1 a2 a3 a4 a5) (removalistref04_Put.f (k + 1) a0 a1 a2 a3 a4 a5) := by
  intro a0 a1 a2 a3 a4 a5 k
  obtain ⟨ih0, ih1⟩ := removalistref04_Put.mono_l k
  unfold removalistref04_Put.f
  repeat' first
      | (with_reducible exact ih0 _ _ _ _ _ _ _)
      | (with_reducible exact ih1 _)
      | (with_reducible exact LeO.refl _)
      | (with_reducible exact LeO.none _)
      | (with_reducible refine LeO.ite ?_ ?_)
      | (with_reducible refine LeO.bind ?_ (fun _ => ?_))
      | exact ih0 _ _ _ _ _ _ _
      | exact ih1 _
      | exact LeO.none _
      | refine LeO.ite ?_ ?_
      | refine LeO.bind ?_ (fun _ => ?_)
def removalistref04_Put.T3 : Bool × List (List Nat × List Nat) := (true, [([], []), ([0], [0]), ([1], [1]), ([], []), ([3], [3]), ([4], [4]), ([], []), ([6], [6]), ([7], [7]), ([], []), ([9], [9]), ([10], [10]), ([11], [11]), ([2, 5, 8, 12], [2, 5, 8, 12]), ([13], [13]), ([], []), ([15], [15]), ([16], [16]), ([14, 17], [14, 17]), ([], []), ([19], [19]), ([20, 17], [20]), ([18, 21], [18, 21]), ([], []), ([23], [23]), ([22, 24], [22, 24]), ([25, 21, 0, 1, 2, 3, 4, 5, 6, 7, 8, 9, 10, 11, 12, 13, 14, 15, 16, 17, 18, 19, 20, 21, 22, 23, 24, 25], [25])])
def removalistref04_Put.B3 : List Nat := [0, 1, 3, 0, 8, 24, 0, 64, 192, 0, 512, 1536, 3584, 8191, 16383, 0, 32768, 98304, 262143, 0, 524288, 1802240, 4194303, 0, 8388608, 33554431, 67108863]
theorem removalistref04_Put.tab3 : rtab .any (opsOf Try.f24 3) = removalistref04_Put.T3 := by kernel_rfl
theorem removalistref04_Put.bits3 : waitsOk removalistref04_Put.T3.2 removalistref04_Put.B3 = true := by kernel_rfl
set_option maxHeartbeats 8000000 in
set_option maxRecDepth 100000 in
theorem removalistref04_Put.calls (k : Nat) (a0_0 : Int) (a0_1 : Int) (a0_2 : Int) (a0_3 : Int) (a0_4 : Int) (a0_5 : ByteArray) (r1 : ByteArray) (r2 : Int) (w : World) (h : removalistref04_Put.f k a0_0 a0_1 a0_2 a0_3 a0_4 a0_5 = some (r1, r2)) :
    Calls Try.prog 24 #[.agg #[.int .i64 a0_0, .int .i64 a0_1, .int .i64 a0_2, .int .u64 a0_3, .int .u32 a0_4, .string a0_5]] w fun e w' => e = .returned (.tuple #[.string r1, .int .i64 r2]) ∧ Below w.heap.size w w' := by
  have hu49 := Try.underlying49
  have HB := Aside0.mk (Below.refl w.heap.size w)
  have H : (if a0_0 < 1 then (removalistref04_Put.j0 k true a0_0 a0_1 a0_2 a0_3 a0_4 a0_5) else (if a0_0 > 4 then (removalistref04_Put.j0 k true a0_0 a0_1 a0_2 a0_3 a0_4 a0_5) else (if a0_1 < 0 then (removalistref04_Put.j0 k true a0_0 a0_1 a0_2 a0_3 a0_4 a0_5) else (if a0_1 > 255 then (removalistref04_Put.j0 k true a0_0 a0_1 a0_2 a0_3 a0_4 a0_5) else (if a0_2 < 0 then (removalistref04_Put.j0 k true a0_0 a0_1 a0_2 a0_3 a0_4 a0_5) else (if a0_2 > 255 then (removalistref04_Put.j0 k true a0_0 a0_1 a0_2 a0_3 a0_4 a0_5) else (removalistref04_Put.j0 k (decide ((a0_5.size : Int) > 108)) a0_0 a0_1 a0_2 a0_3 a0_4 a0_5))))))) = some (r1, r2) := h
  clear h
  have HC2 := Aside0.mk H
  clear H
  go_enter Try.func24, Try.ntmps24
  go_upto_region 1 with (first | ((with_reducible refine gate_dst (N := 1) rfl ?_); (try (refine gate_guard (by rfl) ?_; dsimp only)); refine box_event ?hg (N := 1) ?hd (cs := #[.int .i64 a0_0, .int .i64 a0_1, .int .i64 a0_2, .int .u64 a0_3, .int .u32 a0_4, .string a0_5]) (t := 49) ?hr ?_; (case hd => rfl); (case hg => rfl); (case hr => first | (go_simp; done) | (go_simp; rfl)); intro gb103 hg w3 hbox hb; have n0_ := Aside0.mk (below_step (by repeat (first | (with_reducible first | exact HB.out | apply below_alloc | apply pw_below_drewN | apply below_drew1) | exact HB.out)) hb); have n1_ := Aside0.mk (hbox); have n2_ := Aside0.mk ((by rw [hg]; exact (below_size (by repeat (first | (with_reducible first | exact HB.out | apply below_alloc | apply pw_below_drewN | apply below_drew1) | exact HB.out))) : w.heap.size ≤ gb103)); have n3_ := Aside0.mk ((by rw [hg]; exact (below_size (by repeat (first | (with_reducible first | exact HB.out | apply below_alloc | apply pw_below_drewN | apply below_drew1) | exact HB.out))) : w.heap.size ≤ gb103)); clear HB; have HB := n0_; have BK103 := n1_; have GW103 := n2_; have GE103 := n3_; clear n0_ n1_ n2_ n3_; clear hb hbox hg))
  (try simp only [Act.put, List.setIfInBounds_toArray, List.set_cons_zero, List.set_cons_succ])
  go_cut [38] (fun v38 wc => ∃ (kq : Nat) (x38_1 : Bool), v38 = .bool x38_1 ∧ Aside0 (removalistref04_Put.j0 kq x38_1 a0_0 a0_1 a0_2 a0_3 a0_4 a0_5 = some (r1, r2)) ∧ Aside0 (kq ≤ k) ∧ Aside0 (wc.heap[gb103]? = some (.cells #[.int .i64 a0_0, .int .i64 a0_1, .int .i64 a0_2, .int .u64 a0_3, .int .u32 a0_4, .string a0_5] 49 (0, 0))) ∧ Aside0 (Below w.heap.size w wc))
  case first =>
    have H := HC2.out
    clear HC2
    by_cases c4 : a0_0 < 1
    · rw [if_pos c4] at H
      have c4b0 : decide (a0_0 < 1) = true := decide_eq_true c4
      clear c4
      (first | rw [c4b0] | (simp only [i64_w, i32_w]; rw [c4b0]) | skip)
      have H' := Aside0.mk H
      clear H
      have hcz5_0 : w3.cell? ⟨gb103, 0, none⟩ = some (.int .i64 a0_0) := (blk_cell BK103.out 0).trans rfl
      have hcz5_1 : w3.cell? ⟨gb103, 1, none⟩ = some (.int .i64 a0_1) := (blk_cell BK103.out 1).trans rfl
      have hcz5_2 : w3.cell? ⟨gb103, 2, none⟩ = some (.int .i64 a0_2) := (blk_cell BK103.out 2).trans rfl
      have hcz5_3 : w3.cell? ⟨gb103, 3, none⟩ = some (.int .u64 a0_3) := (blk_cell BK103.out 3).trans rfl
      have hcz5_4 : w3.cell? ⟨gb103, 4, none⟩ = some (.int .u32 a0_4) := (blk_cell BK103.out 4).trans rfl
      have hcz5_5 : w3.cell? ⟨gb103, 5, none⟩ = some (.string a0_5) := (blk_cell BK103.out 5).trans rfl
      have hfz5_0 := blk_frozen BK103.out 0
      have hfz5_1 := blk_frozen BK103.out 1
      have hfz5_2 := blk_frozen BK103.out 2
      have hfz5_3 := blk_frozen BK103.out 3
      have hfz5_4 := blk_frozen BK103.out 4
      have hfz5_5 := blk_frozen BK103.out 5
      go_wp2
      go_meet
      case rel => exact ⟨_, (true), (by first | rfl | (simp; done) | (simp [*]; done)), (by first | exact H' | (subst_vars; exact H') | (simp only [*] at H' ⊢; exact H')), ⟨by first | omega | exact Nat.le_refl _⟩, ⟨by (with_reducible repeat (first | refine blk_drewN ?_ _ | refine blk_drew ?_ | refine blk_alloc ?_ _)); exact BK103.out⟩, ⟨by repeat (first | (with_reducible first | exact HB.out | apply below_alloc | apply pw_below_drewN | apply below_drew1 | refine below_set ?_ GE103.out) | exact HB.out)⟩⟩
    · rw [if_neg c4] at H
      have c4b0 : decide (a0_0 < 1) = false := decide_eq_false c4
      clear c4
      (first | rw [c4b0] | (simp only [i64_w, i32_w]; rw [c4b0]) | skip)
      by_cases c6 : a0_0 > 4
      · rw [if_pos c6] at H
        have c6b0 : decide (4 < a0_0) = true := decide_eq_true c6
        clear c6
        have H' := Aside0.mk H
        clear H
        have hcz7_0 : w3.cell? ⟨gb103, 0, none⟩ = some (.int .i64 a0_0) := (blk_cell BK103.out 0).trans rfl
        have hcz7_1 : w3.cell? ⟨gb103, 1, none⟩ = some (.int .i64 a0_1) := (blk_cell BK103.out 1).trans rfl
        have hcz7_2 : w3.cell? ⟨gb103, 2, none⟩ = some (.int .i64 a0_2) := (blk_cell BK103.out 2).trans rfl
        have hcz7_3 : w3.cell? ⟨gb103, 3, none⟩ = some (.int .u64 a0_3) := (blk_cell BK103.out 3).trans rfl
        have hcz7_4 : w3.cell? ⟨gb103, 4, none⟩ = some (.int .u32 a0_4) := (blk_cell BK103.out 4).trans rfl
        have hcz7_5 : w3.cell? ⟨gb103, 5, none⟩ = some (.string a0_5) := (blk_cell BK103.out 5).trans rfl
        have hfz7_0 := blk_frozen BK103.out 0
        have hfz7_1 := blk_frozen BK103.out 1
        have hfz7_2 := blk_frozen BK103.out 2
        have hfz7_3 := blk_frozen BK103.out 3
        have hfz7_4 := blk_frozen BK103.out 4
        have hfz7_5 := blk_frozen BK103.out 5
        go_wp2
        go_meet
        case rel => exact ⟨_, (true), (by first | rfl | (simp; done) | (simp [*]; done)), (by first | exact H' | (subst_vars; exact H') | (simp only [*] at H' ⊢; exact H')), ⟨by first | omega | exact Nat.le_refl _⟩, ⟨by (with_reducible repeat (first | refine blk_drewN ?_ _ | refine blk_drew ?_ | refine blk_alloc ?_ _)); exact BK103.out⟩, ⟨by repeat (first | (with_reducible first | exact HB.out | apply below_alloc | apply pw_below_drewN | apply below_drew1 | refine below_set ?_ GE103.out) | exact HB.out)⟩⟩
      · rw [if_neg c6] at H
        have c6b0 : decide (4 < a0_0) = false := decide_eq_false c6
        clear c6
        by_cases c8 : a0_1 < 0
        · rw [if_pos c8] at H
          have c8b0 : decide (a0_1 < 0) = true := decide_eq_true c8
          clear c8
          have H' := Aside0.mk H
          clear H
          have hcz9_0 : w3.cell? ⟨gb103, 0, none⟩ = some (.int .i64 a0_0) := (blk_cell BK103.out 0).trans rfl
          have hcz9_1 : w3.cell? ⟨gb103, 1, none⟩ = some (.int .i64 a0_1) := (blk_cell BK103.out 1).trans rfl
          have hcz9_2 : w3.cell? ⟨gb103, 2, none⟩ = some (.int .i64 a0_2) := (blk_cell BK103.out 2).trans rfl
          have hcz9_3 : w3.cell? ⟨gb103, 3, none⟩ = some (.int .u64 a0_3) := (blk_cell BK103.out 3).trans rfl
          have hcz9_4 : w3.cell? ⟨gb103, 4, none⟩ = some (.int .u32 a0_4) := (blk_cell BK103.out 4).trans rfl
          have hcz9_5 : w3.cell? ⟨gb103, 5, none⟩ = some (.string a0_5) := (blk_cell BK103.out 5).trans rfl
          have hfz9_0 := blk_frozen BK103.out 0
          have hfz9_1 := blk_frozen BK103.out 1
          have hfz9_2 := blk_frozen BK103.out 2
          have hfz9_3 := blk_frozen BK103.out 3
          have hfz9_4 := blk_frozen BK103.out 4
          have hfz9_5 := blk_frozen BK103.out 5
          go_wp2
          go_meet
          case rel => exact ⟨_, (true), (by first | rfl | (simp; done) | (simp [*]; done)), (by first | exact H' | (subst_vars; exact H') | (simp only [*] at H' ⊢; exact H')), ⟨by first | omega | exact Nat.le_refl _⟩, ⟨by (with_reducible repeat (first | refine blk_drewN ?_ _ | refine blk_drew ?_ | refine blk_alloc ?_ _)); exact BK103.out⟩, ⟨by repeat (first | (with_reducible first | exact HB.out | apply below_alloc | apply pw_below_drewN | apply below_drew1 | refine below_set ?_ GE103.out) | exact HB.out)⟩⟩
        · rw [if_neg c8] at H
          have c8b0 : decide (a0_1 < 0) = false := decide_eq_false c8
          clear c8
          by_cases c10 : a0_1 > 255
          · rw [if_pos c10] at H
            have c10b0 : decide (255 < a0_1) = true := decide_eq_true c10
            clear c10
            have H' := Aside0.mk H
            clear H
            have hcz11_0 : w3.cell? ⟨gb103, 0, none⟩ = some (.int .i64 a0_0) := (blk_cell BK103.out 0).trans rfl
            have hcz11_1 : w3.cell? ⟨gb103, 1, none⟩ = some (.int .i64 a0_1) := (blk_cell BK103.out 1).trans rfl
            have hcz11_2 : w3.cell? ⟨gb103, 2, none⟩ = some (.int .i64 a0_2) := (blk_cell BK103.out 2).trans rfl
            have hcz11_3 : w3.cell? ⟨gb103, 3, none⟩ = some (.int .u64 a0_3) := (blk_cell BK103.out 3).trans rfl
            have hcz11_4 : w3.cell? ⟨gb103, 4, none⟩ = some (.int .u32 a0_4) := (blk_cell BK103.out 4).trans rfl
            have hcz11_5 : w3.cell? ⟨gb103, 5, none⟩ = some (.string a0_5) := (blk_cell BK103.out 5).trans rfl
            have hfz11_0 := blk_frozen BK103.out 0
            have hfz11_1 := blk_frozen BK103.out 1
            have hfz11_2 := blk_frozen BK103.out 2
            have hfz11_3 := blk_frozen BK103.out 3
            have hfz11_4 := blk_frozen BK103.out 4
            have hfz11_5 := blk_frozen BK103.out 5
            go_wp2
            go_meet
            case rel => exact ⟨_, (true), (by first | rfl | (simp; done) | (simp [*]; done)), (by first | exact H' | (subst_vars; exact H') | (simp only [*] at H' ⊢; exact H')), ⟨by first | omega | exact Nat.le_refl _⟩, ⟨by (with_reducible repeat (first | refine blk_drewN ?_ _ | refine blk_drew ?_ | refine blk_alloc ?_ _)); exact BK103.out⟩, ⟨by repeat (first | (with_reducible first | exact HB.out | apply below_alloc | apply pw_below_drewN | apply below_drew1 | refine below_set ?_ GE103.out) | exact HB.out)⟩⟩
          · rw [if_neg c10] at H
            have c10b0 : decide (255 < a0_1) = false := decide_eq_false c10
            clear c10
            by_cases c12 : a0_2 < 0
            · rw [if_pos c12] at H
              have c12b0 : decide (a0_2 < 0) = true := decide_eq_true c12
              clear c12
              have H' := Aside0.mk H
              clear H
              have hcz13_0 : w3.cell? ⟨gb103, 0, none⟩ = some (.int .i64 a0_0) := (blk_cell BK103.out 0).trans rfl
              have hcz13_1 : w3.cell? ⟨gb103, 1, none⟩ = some (.int .i64 a0_1) := (blk_cell BK103.out 1).trans rfl
              have hcz13_2 : w3.cell? ⟨gb103, 2, none⟩ = some (.int .i64 a0_2) := (blk_cell BK103.out 2).trans rfl
              have hcz13_3 : w3.cell? ⟨gb103, 3, none⟩ = some (.int .u64 a0_3) := (blk_cell BK103.out 3).trans rfl
              have hcz13_4 : w3.cell? ⟨gb103, 4, none⟩ = some (.int .u32 a0_4) := (blk_cell BK103.out 4).trans rfl
              have hcz13_5 : w3.cell? ⟨gb103, 5, none⟩ = some (.string a0_5) := (blk_cell BK103.out 5).trans rfl
              have hfz13_0 := blk_frozen BK103.out 0
              have hfz13_1 := blk_frozen BK103.out 1
              have hfz13_2 := blk_frozen BK103.out 2
              have hfz13_3 := blk_frozen BK103.out 3
              have hfz13_4 := blk_frozen BK103.out 4
              have hfz13_5 := blk_frozen BK103.out 5
              go_wp2
              go_meet
              case rel => exact ⟨_, (true), (by first | rfl | (simp; done) | (simp [*]; done)), (by first | exact H' | (subst_vars; exact H') | (simp only [*] at H' ⊢; exact H')), ⟨by first | omega | exact Nat.le_refl _⟩, ⟨by (with_reducible repeat (first | refine blk_drewN ?_ _ | refine blk_drew ?_ | refine blk_alloc ?_ _)); exact BK103.out⟩, ⟨by repeat (first | (with_reducible first | exact HB.out | apply below_alloc | apply pw_below_drewN | apply below_drew1 | refine below_set ?_ GE103.out) | exact HB.out)⟩⟩
            · rw [if_neg c12] at H
              have c12b0 : decide (a0_2 < 0) = false := decide_eq_false c12
              clear c12
              by_cases c14 : a0_2 > 255
              · rw [if_pos c14] at H
                have c14b0 : decide (255 < a0_2) = true := decide_eq_true c14
                clear c14
                have H' := Aside0.mk H
                clear H
                have hcz15_0 : w3.cell? ⟨gb103, 0, none⟩ = some (.int .i64 a0_0) := (blk_cell BK103.out 0).trans rfl
                have hcz15_1 : w3.cell? ⟨gb103, 1, none⟩ = some (.int .i64 a0_1) := (blk_cell BK103.out 1).trans rfl
                have hcz15_2 : w3.cell? ⟨gb103, 2, none⟩ = some (.int .i64 a0_2) := (blk_cell BK103.out 2).trans rfl
                have hcz15_3 : w3.cell? ⟨gb103, 3, none⟩ = some (.int .u64 a0_3) := (blk_cell BK103.out 3).trans rfl
                have hcz15_4 : w3.cell? ⟨gb103, 4, none⟩ = some (.int .u32 a0_4) := (blk_cell BK103.out 4).trans rfl
                have hcz15_5 : w3.cell? ⟨gb103, 5, none⟩ = some (.string a0_5) := (blk_cell BK103.out 5).trans rfl
                have hfz15_0 := blk_frozen BK103.out 0
                have hfz15_1 := blk_frozen BK103.out 1
                have hfz15_2 := blk_frozen BK103.out 2
                have hfz15_3 := blk_frozen BK103.out 3
                have hfz15_4 := blk_frozen BK103.out 4
                have hfz15_5 := blk_frozen BK103.out 5
                go_wp2
                go_meet
                case rel => exact ⟨_, (true), (by first | rfl | (simp; done) | (simp [*]; done)), (by first | exact H' | (subst_vars; exact H') | (simp only [*] at H' ⊢; exact H')), ⟨by first | omega | exact Nat.le_refl _⟩, ⟨by (with_reducible repeat (first | refine blk_drewN ?_ _ | refine blk_drew ?_ | refine blk_alloc ?_ _)); exact BK103.out⟩, ⟨by repeat (first | (with_reducible first | exact HB.out | apply below_alloc | apply pw_below_drewN | apply below_drew1 | refine below_set ?_ GE103.out) | exact HB.out)⟩⟩
              · rw [if_neg c14] at H
                have c14b0 : decide (255 < a0_2) = false := decide_eq_false c14
                clear c14
                have H' := Aside0.mk H
                clear H
                have hcz16_0 : w3.cell? ⟨gb103, 0, none⟩ = some (.int .i64 a0_0) := (blk_cell BK103.out 0).trans rfl
                have hcz16_1 : w3.cell? ⟨gb103, 1, none⟩ = some (.int .i64 a0_1) := (blk_cell BK103.out 1).trans rfl
                have hcz16_2 : w3.cell? ⟨gb103, 2, none⟩ = some (.int .i64 a0_2) := (blk_cell BK103.out 2).trans rfl
                have hcz16_3 : w3.cell? ⟨gb103, 3, none⟩ = some (.int .u64 a0_3) := (blk_cell BK103.out 3).trans rfl
                have hcz16_4 : w3.cell? ⟨gb103, 4, none⟩ = some (.int .u32 a0_4) := (blk_cell BK103.out 4).trans rfl
                have hcz16_5 : w3.cell? ⟨gb103, 5, none⟩ = some (.string a0_5) := (blk_cell BK103.out 5).trans rfl
                have hfz16_0 := blk_frozen BK103.out 0
                have hfz16_1 := blk_frozen BK103.out 1
                have hfz16_2 := blk_frozen BK103.out 2
                have hfz16_3 := blk_frozen BK103.out 3
                have hfz16_4 := blk_frozen BK103.out 4
                have hfz16_5 := blk_frozen BK103.out 5
                go_wp2
                go_meet
                case rel => exact ⟨_, (decide ((a0_5.size : Int) > 108)), (by first | rfl | (simp; done) | (simp [*]; done)), (by first | exact H' | (subst_vars; exact H') | (simp only [*] at H' ⊢; exact H')), ⟨by first | omega | exact Nat.le_refl _⟩, ⟨by (with_reducible repeat (first | refine blk_drewN ?_ _ | refine blk_drew ?_ | refine blk_alloc ?_ _)); exact BK103.out⟩, ⟨by repeat (first | (with_reducible first | exact HB.out | apply below_alloc | apply pw_below_drewN | apply below_drew1 | refine below_set ?_ GE103.out) | exact HB.out)⟩⟩
  case rest =>
    clear HC2
    try clear c1
    try clear c2
    try clear p2
    try clear c4
    try clear c4b0
    try clear c6
    try clear c6b0
    try clear c8
    try clear c8b0
    try clear c10
    try clear c10b0
    try clear c12
    try clear c12b0
    try clear c14
    try clear c14b0
    try clear hcz11_0
    try clear hcz11_1
    try clear hcz11_2
    try clear hcz11_3
    try clear hcz11_4
    try clear hcz11_5
    try clear hcz13_0
    try clear hcz13_1
    try clear hcz13_2
    try clear hcz13_3
    try clear hcz13_4
    try clear hcz13_5
    try clear hcz15_0
    try clear hcz15_1
    try clear hcz15_2
    try clear hcz15_3
    try clear hcz15_4
    try clear hcz15_5
    try clear hcz16_0
    try clear hcz16_1
    try clear hcz16_2
    try clear hcz16_3
    try clear hcz16_4
    try clear hcz16_5
    try clear hcz5_0
    try clear hcz5_1
    try clear hcz5_2
    try clear hcz5_3
    try clear hcz5_4
    try clear hcz5_5
    try clear hcz7_0
    try clear hcz7_1
    try clear hcz7_2
    try clear hcz7_3
    try clear hcz7_4
    try clear hcz7_5
    try clear hcz9_0
    try clear hcz9_1
    try clear hcz9_2
    try clear hcz9_3
    try clear hcz9_4
    try clear hcz9_5
    try clear hfz11_0
    try clear hfz11_1
    try clear hfz11_2
    try clear hfz11_3
    try clear hfz11_4
    try clear hfz11_5
    try clear hfz13_0
    try clear hfz13_1
    try clear hfz13_2
    try clear hfz13_3
    try clear hfz13_4
    try clear hfz13_5
    try clear hfz15_0
    try clear hfz15_1
    try clear hfz15_2
    try clear hfz15_3
    try clear hfz15_4
    try clear hfz15_5
    try clear hfz16_0
    try clear hfz16_1
    try clear hfz16_2
    try clear hfz16_3
    try clear hfz16_4
    try clear hfz16_5
    try clear hfz5_0
    try clear hfz5_1
    try clear hfz5_2
    try clear hfz5_3
    try clear hfz5_4
    try clear hfz5_5
    try clear hfz7_0
    try clear hfz7_1
    try clear hfz7_2
    try clear hfz7_3
    try clear hfz7_4
    try clear hfz7_5
    try clear hfz9_0
    try clear hfz9_1
    try clear hfz9_2
    try clear hfz9_3
    try clear hfz9_4
    try clear hfz9_5
    obtain ⟨kq, x38_1, rfl, HA, HJ1, BK103, HB⟩ := hcut
    cases kq with
    | zero => exact (Option.some_ne_none _ (HA.out.symm.trans (removalistref04_Put.j0_zero _ _ _ _ _ _ _))).elim
    | succ kj1 =>
      have H := HA.out
      clear HA
      simp only [removalistref04_Put.j0] at H
      by_cases c17 : x38_1 = true
      · subst c17
        have H1 : (some ((⟨#[]⟩ : ByteArray), 1)) = some (r1, r2) := by rw [if_pos rfl] at H; exact H
        clear H
        have H := H1
        clear H1
        simp only [Option.some.injEq, Prod.mk.injEq] at H
        obtain ⟨rfl, rfl⟩ := H
        go_wp2
        go_ret2
        exact ⟨by first | rfl | (simp [errW_none, errW_some] <;> rfl) | (simp [*, errW_none, errW_some] <;> rfl), by repeat (first | (with_reducible first | exact HB.out | apply below_alloc | apply pw_below_drewN | apply below_drew1 | refine below_set ?_ GE103.out) | exact HB.out)⟩
      · replace c17 := Bool.eq_false_iff.mpr c17
        subst c17
        have H1 : ((some (([(a0_0) % 256, (a0_1) % 256, (a0_2) % 256, ((a0_5.size : Int)) % 256] : List Int) : List Int)).bind fun y104 => ((removalistref01_U64.f a0_3).bind fun t107 => (if (strOfNums y104).size + t107.size ≤ 9223372036854775807 then ((Hm.ref01_U32.f a0_4).bind fun t108 => (if ((strOfNums y104) ++ t107).size + t108.size ≤ 9223372036854775807 then (if (((strOfNums y104) ++ t107) ++ t108).size + a0_5.size ≤ 9223372036854775807 then (removalistref04_Put.l0 kj1 ((((strOfNums y104) ++ t107) ++ t108) ++ a0_5)) else (none)) else (none))) else (none)))) = some (r1, r2) := by rw [if_neg (show ¬ (false = true) by decide)] at H; exact H
        clear H
        have H := H1
        clear H1
        obtain ⟨y104, hy104⟩ : ∃ y_ : List Int, y_ = (([(a0_0) % 256, (a0_1) % 256, (a0_2) % 256, ((a0_5.size : Int)) % 256] : List Int)) := ⟨_, rfl⟩
        replace H : ((removalistref01_U64.f a0_3).bind fun t107 => (if (strOfNums y104).size + t107.size ≤ 9223372036854775807 then ((Hm.ref01_U32.f a0_4).bind fun t108 => (if ((strOfNums y104) ++ t107).size + t108.size ≤ 9223372036854775807 then (if (((strOfNums y104) ++ t107) ++ t108).size + a0_5.size ≤ 9223372036854775807 then (removalistref04_Put.l0 kj1 ((((strOfNums y104) ++ t107) ++ t108) ++ a0_5)) else (none)) else (none))) else (none))) = some (r1, r2) := by first | (rw [hy104]; with_reducible exact H) | (have H2_ := (Option.bind_some _ _).symm.trans H; rw [hy104]; with_reducible exact H2_) | (have H2_ := (Option.bind_some _ _).symm.trans H; with_reducible exact H2_) | with_reducible exact H | (rw [hy104]; exact H) | exact H
        have Ny104 := Aside0.mk hy104
        clear hy104
        replace H := Option.bind_eq_some_iff.mp H
        obtain ⟨t107, A180, H⟩ := H
        replace H : (if (strOfNums y104).size + t107.size ≤ 9223372036854775807 then ((Hm.ref01_U32.f a0_4).bind fun t108 => (if ((strOfNums y104) ++ t107).size + t108.size ≤ 9223372036854775807 then (if (((strOfNums y104) ++ t107) ++ t108).size + a0_5.size ≤ 9223372036854775807 then (removalistref04_Put.l0 kj1 ((((strOfNums y104) ++ t107) ++ t108) ++ a0_5)) else (none)) else (none))) else (none)) = some (r1, r2) := H
        have A18 := Aside0.mk A180
        clear A180
        by_cases c19 : (strOfNums y104).size + t107.size ≤ 9223372036854775807
        · rw [if_pos c19] at H
          have c19b0 := eq_true c19
          have c19b1 : decide ((strOfNums y104).size + t107.size ≤ 9223372036854775807) = true := decide_eq_true c19
          try have c19b2 : (9223372036854775807 < (strOfNums y104).size + t107.size) = False := eq_false (Nat.not_lt.2 c19)
          replace H := Option.bind_eq_some_iff.mp H
          obtain ⟨t108, A200, H⟩ := H
          replace H : (if ((strOfNums y104) ++ t107).size + t108.size ≤ 9223372036854775807 then (if (((strOfNums y104) ++ t107) ++ t108).size + a0_5.size ≤ 9223372036854775807 then (removalistref04_Put.l0 kj1 ((((strOfNums y104) ++ t107) ++ t108) ++ a0_5)) else (none)) else (none)) = some (r1, r2) := H
          have A20 := Aside0.mk A200
          clear A200
          by_cases c21 : ((strOfNums y104) ++ t107).size + t108.size ≤ 9223372036854775807
          · rw [if_pos c21] at H
            have c21b0 := eq_true c21
            have c21b1 : decide (((strOfNums y104) ++ t107).size + t108.size ≤ 9223372036854775807) = true := decide_eq_true c21
            try have c21b2 : (9223372036854775807 < ((strOfNums y104) ++ t107).size + t108.size) = False := eq_false (Nat.not_lt.2 c21)
            try (have c21b3 := c21b2; simp only [ByteArray.size_append] at c21b3)
            by_cases c22 : (((strOfNums y104) ++ t107) ++ t108).size + a0_5.size ≤ 9223372036854775807
            · rw [if_pos c22] at H
              have c22b0 := eq_true c22
              have c22b1 : decide ((((strOfNums y104) ++ t107) ++ t108).size + a0_5.size ≤ 9223372036854775807) = true := decide_eq_true c22
              try have c22b2 : (9223372036854775807 < (((strOfNums y104) ++ t107) ++ t108).size + a0_5.size) = False := eq_false (Nat.not_lt.2 c22)
              try (have c22b3 := c22b2; simp only [ByteArray.size_append] at c22b3)
              have H' := Aside0.mk H
              clear H
              try go_wp2
              have n0_ := Aside0.mk (blk_drew BK103.out)
              have n1_ := Aside0.mk (below_drew1 HB.out)
              clear BK103
              clear HB
              have BK103 := n0_
              have HB := n1_
              clear n0_ n1_
              refine start_ (n := 27) (S := fun w' => w'.cell? ⟨gb103, 0, none⟩ = some (.int .i64 a0_0) ∧ w'.cell? ⟨gb103, 1, none⟩ = some (.int .i64 a0_1) ∧ w'.cell? ⟨gb103, 2, none⟩ = some (.int .i64 a0_2) ∧ w'.cell? ⟨gb103, 3, none⟩ = some (.int .u64 a0_3) ∧ w'.cell? ⟨gb103, 4, none⟩ = some (.int .u32 a0_4) ∧ w'.cell? ⟨gb103, 5, none⟩ = some (.string a0_5)) (ds := []) #[false, false, false, false, false, false, false, false, false, false, false, false, false, false, false, false, false, false, false, false, false, false, false, false, false, false, false] (by kernel_rfl) rfl rfl ⟨(blk_cell BK103.out 0).trans rfl, (blk_cell BK103.out 1).trans rfl, (blk_cell BK103.out 2).trans rfl, (blk_cell BK103.out 3).trans rfl, (blk_cell BK103.out 4).trans rfl, (blk_cell BK103.out 5).trans rfl⟩ (fun hHeld => ?_); refine with_tabW removalistref04_Put.tab3 removalistref04_Put.bits3 (fun HT_ HW_ => ?_)
              generalize wc.drew = w23 at BK103 HB hHeld ⊢
              refine pure_ (i := 0) (N := some 39) (v := ?_) (a' := ?_) #[true, false, false, false, false, false, false, false, false, false, false, false, false, false, false, false, false, false, false, false, false, false, false, false, false, false, false] rfl rfl (any_of HT_.out (by kernel_rfl)) (fun _ _ _ h => h) (Or.inl ⟨by rfl, ?_⟩) ?_ ?_
              rotate_left
              · intro w'
                go_simp
                with_reducible rfl
              rotate_left
              · simp only [Act.put, List.setIfInBounds_toArray, List.set_cons_zero, List.set_cons_succ, i64_w, i32_w]
                rfl
              refine pure_ (i := 3) (N := some 42) (v := ?_) (a' := ?_) #[true, false, false, true, false, false, false, false, false, false, false, false, false, false, false, false, false, false, false, false, false, false, false, false, false, false, false] rfl rfl (any_of HT_.out (by kernel_rfl)) (fun _ _ _ h => h) (Or.inl ⟨by rfl, ?_⟩) ?_ ?_
              rotate_left
              · intro w'
                go_simp
                with_reducible rfl
              rotate_left
              · simp only [Act.put, List.setIfInBounds_toArray, List.set_cons_zero, List.set_cons_succ, i64_w, i32_w]
                rfl
              refine pure_ (i := 6) (N := some 45) (v := ?_) (a' := ?_) #[true, false, false, true, false, false, true, false, false, false, false, false, false, false, false, false, false, false, false, false, false, false, false, false, false, false, false] rfl rfl (any_of HT_.out (by kernel_rfl)) (fun _ _ _ h => h) (Or.inl ⟨by rfl, ?_⟩) ?_ ?_
              rotate_left
              · intro w'
                go_simp
                with_reducible rfl
              rotate_left
              · simp only [Act.put, List.setIfInBounds_toArray, List.set_cons_zero, List.set_cons_succ, i64_w, i32_w]
                rfl
              refine pure_ (i := 9) (N := some 48) (v := ?_) (a' := ?_) #[true, false, false, true, false, false, true, false, false, true, false, false, false, false, false, false, false, false, false, false, false, false, false, false, false, false, false] rfl rfl (any_of HT_.out (by kernel_rfl)) (fun _ _ _ h => h) (Or.inl ⟨by rfl, ?_⟩) ?_ ?_
              rotate_left
              · intro w'
                go_simp
                with_reducible rfl
              rotate_left
              · simp only [Act.put, List.setIfInBounds_toArray, List.set_cons_zero, List.set_cons_succ, i64_w, i32_w]
                rfl
              refine pure_ (i := 15) (N := some 54) (v := ?_) (a' := ?_) #[true, false, false, true, false, false, true, false, false, true, false, false, false, false, false, true, false, false, false, false, false, false, false, false, false, false, false] rfl rfl (any_of HT_.out (by kernel_rfl)) (fun _ _ _ h => h) (Or.inl ⟨by rfl, ?_⟩) ?_ ?_
              rotate_left
              · intro w'
                go_simp
                with_reducible rfl
              rotate_left
              · simp only [Act.put, List.setIfInBounds_toArray, List.set_cons_zero, List.set_cons_succ, i64_w, i32_w]
                rfl
              refine pure_ (i := 19) (N := some 58) (v := ?_) (a' := ?_) #[true, false, false, true, false, false, true, false, false, true, false, false, false, false, false, true, false, false, false, true, false, false, false, false, false, false, false] rfl rfl (any_of HT_.out (by kernel_rfl)) (fun _ _ _ h => h) (Or.inl ⟨by rfl, ?_⟩) ?_ ?_
              rotate_left
              · intro w'
                go_simp
                with_reducible rfl
              rotate_left
              · simp only [Act.put, List.setIfInBounds_toArray, List.set_cons_zero, List.set_cons_succ, i64_w, i32_w]
                rfl
              refine pure_ (i := 23) (N := some 62) (v := ?_) (a' := ?_) #[true, false, false, true, false, false, true, false, false, true, false, false, false, false, false, true, false, false, false, true, false, false, false, true, false, false, false] rfl rfl (any_of HT_.out (by kernel_rfl)) (fun _ _ _ h => h) (Or.inl ⟨by rfl, ?_⟩) ?_ ?_
              rotate_left
              · intro w'
                go_simp
                with_reducible rfl
              rotate_left
              · simp only [Act.put, List.setIfInBounds_toArray, List.set_cons_zero, List.set_cons_succ, i64_w, i32_w]
                rfl
              refine take_ (i := 1) (N := some 40) (v := ?_) (a' := ?_) #[true, true, false, true, false, false, true, false, false, true, false, false, false, false, false, true, false, false, false, true, false, false, false, true, false, false, false] rfl rfl (take_ofW HT_.out HW_.out (by kernel_rfl)) (fun _ _ _ h => h) (Or.inl ⟨by rfl, ?_⟩) hHeld ?_ ?_
              rotate_left
              · rintro w' ⟨s0, s1, s2, s3, s4, s5⟩
                go_simp
                with_reducible rfl
              rotate_left
              · simp only [Act.put, List.setIfInBounds_toArray, List.set_cons_zero, List.set_cons_succ, i64_w, i32_w]
                rfl
              refine pure_ (i := 2) (N := some 41) (v := ?_) (a' := ?_) #[true, true, true, true, false, false, true, false, false, true, false, false, false, false, false, true, false, false, false, true, false, false, false, true, false, false, false] rfl rfl (any_of HT_.out (by kernel_rfl)) (fun _ _ _ h => h) (Or.inl ⟨by rfl, ?_⟩) ?_ ?_
              rotate_left
              · intro w'
                go_simp
                with_reducible rfl
              rotate_left
              · simp only [Act.put, List.setIfInBounds_toArray, List.set_cons_zero, List.set_cons_succ, i64_w, i32_w]
                rfl
              refine take_ (i := 4) (N := some 43) (v := ?_) (a' := ?_) #[true, true, true, true, true, false, true, false, false, true, false, false, false, false, false, true, false, false, false, true, false, false, false, true, false, false, false] rfl rfl (take_ofW HT_.out HW_.out (by kernel_rfl)) (fun _ _ _ h => h) (Or.inl ⟨by rfl, ?_⟩) hHeld ?_ ?_
              rotate_left
              · rintro w' ⟨s0, s1, s2, s3, s4, s5⟩
                go_simp
                with_reducible rfl
              rotate_left
              · simp only [Act.put, List.setIfInBounds_toArray, List.set_cons_zero, List.set_cons_succ, i64_w, i32_w]
                rfl
              refine pure_ (i := 5) (N := some 44) (v := ?_) (a' := ?_) #[true, true, true, true, true, true, true, false, false, true, false, false, false, false, false, true, false, false, false, true, false, false, false, true, false, false, false] rfl rfl (any_of HT_.out (by kernel_rfl)) (fun _ _ _ h => h) (Or.inl ⟨by rfl, ?_⟩) ?_ ?_
              rotate_left
              · intro w'
                go_simp
                with_reducible rfl
              rotate_left
              · simp only [Act.put, List.setIfInBounds_toArray, List.set_cons_zero, List.set_cons_succ, i64_w, i32_w]
                rfl
              refine take_ (i := 7) (N := some 46) (v := ?_) (a' := ?_) #[true, true, true, true, true, true, true, true, false, true, false, false, false, false, false, true, false, false, false, true, false, false, false, true, false, false, false] rfl rfl (take_ofW HT_.out HW_.out (by kernel_rfl)) (fun _ _ _ h => h) (Or.inl ⟨by rfl, ?_⟩) hHeld ?_ ?_
              rotate_left
              · rintro w' ⟨s0, s1, s2, s3, s4, s5⟩
                go_simp
                with_reducible rfl
              rotate_left
              · simp only [Act.put, List.setIfInBounds_toArray, List.set_cons_zero, List.set_cons_succ, i64_w, i32_w]
                rfl
              refine pure_ (i := 8) (N := some 47) (v := ?_) (a' := ?_) #[true, true, true, true, true, true, true, true, true, true, false, false, false, false, false, true, false, false, false, true, false, false, false, true, false, false, false] rfl rfl (any_of HT_.out (by kernel_rfl)) (fun _ _ _ h => h) (Or.inl ⟨by rfl, ?_⟩) ?_ ?_
              rotate_left
              · intro w'
                go_simp
                with_reducible rfl
              rotate_left
              · simp only [Act.put, List.setIfInBounds_toArray, List.set_cons_zero, List.set_cons_succ, i64_w, i32_w]
                rfl
              refine take_ (i := 10) (N := some 49) (v := ?_) (a' := ?_) #[true, true, true, true, true, true, true, true, true, true, true, false, false, false, false, true, false, false, false, true, false, false, false, true, false, false, false] rfl rfl (take_ofW HT_.out HW_.out (by kernel_rfl)) (fun _ _ _ h => h) (Or.inl ⟨by rfl, ?_⟩) hHeld ?_ ?_
              rotate_left
              · rintro w' ⟨s0, s1, s2, s3, s4, s5⟩
                go_simp
                with_reducible rfl
              rotate_left
              · simp only [Act.put, List.setIfInBounds_toArray, List.set_cons_zero, List.set_cons_succ, i64_w, i32_w]
                rfl
              refine pure_ (i := 11) (N := some 50) (v := ?_) (a' := ?_) #[true, true, true, true, true, true, true, true, true, true, true, true, false, false, false, true, false, false, false, true, false, false, false, true, false, false, false] rfl rfl (any_of HT_.out (by kernel_rfl)) (fun _ _ _ h => h) (Or.inl ⟨by rfl, ?_⟩) ?_ ?_
              rotate_left
              · intro w'
                go_simp
                with_reducible rfl
              rotate_left
              · simp only [Act.put, List.setIfInBounds_toArray, List.set_cons_zero, List.set_cons_succ, i64_w, i32_w]
                rfl
              refine pure_ (i := 12) (N := some 51) (v := ?_) (a' := ?_) #[true, true, true, true, true, true, true, true, true, true, true, true, true, false, false, true, false, false, false, true, false, false, false, true, false, false, false] rfl rfl (any_of HT_.out (by kernel_rfl)) (fun _ _ _ h => h) (Or.inl ⟨by rfl, ?_⟩) ?_ ?_
              rotate_left
              · intro w'
                go_simp
                with_reducible rfl
              rotate_left
              · simp only [Act.put, List.setIfInBounds_toArray, List.set_cons_zero, List.set_cons_succ, i64_w, i32_w]
                rfl
              refine take_ (i := 16) (N := some 55) (v := ?_) (a' := ?_) #[true, true, true, true, true, true, true, true, true, true, true, true, true, false, false, true, true, false, false, true, false, false, false, true, false, false, false] rfl rfl (take_ofW HT_.out HW_.out (by kernel_rfl)) (fun _ _ _ h => h) (Or.inl ⟨by rfl, ?_⟩) hHeld ?_ ?_
              rotate_left
              · rintro w' ⟨s0, s1, s2, s3, s4, s5⟩
                go_simp
                with_reducible rfl
              rotate_left
              · simp only [Act.put, List.setIfInBounds_toArray, List.set_cons_zero, List.set_cons_succ, i64_w, i32_w]
                rfl
              refine take_ (i := 20) (N := some 59) (v := ?_) (a' := ?_) #[true, true, true, true, true, true, true, true, true, true, true, true, true, false, false, true, true, false, false, true, true, false, false, true, false, false, false] rfl rfl (take_ofW HT_.out HW_.out (by kernel_rfl)) (fun _ _ _ h => h) (Or.inl ⟨by rfl, ?_⟩) hHeld ?_ ?_
              rotate_left
              · rintro w' ⟨s0, s1, s2, s3, s4, s5⟩
                go_simp
                with_reducible rfl
              rotate_left
              · simp only [Act.put, List.setIfInBounds_toArray, List.set_cons_zero, List.set_cons_succ, i64_w, i32_w]
                rfl
              refine take_ (i := 24) (N := some 63) (v := ?_) (a' := ?_) #[true, true, true, true, true, true, true, true, true, true, true, true, true, false, false, true, true, false, false, true, true, false, false, true, true, false, false] rfl rfl (take_ofW HT_.out HW_.out (by kernel_rfl)) (fun _ _ _ h => h) (Or.inl ⟨by rfl, ?_⟩) hHeld ?_ ?_
              rotate_left
              · rintro w' ⟨s0, s1, s2, s3, s4, s5⟩
                go_simp
                with_reducible rfl
              rotate_left
              · simp only [Act.put, List.setIfInBounds_toArray, List.set_cons_zero, List.set_cons_succ, i64_w, i32_w]
                rfl
              refine join_ (σ := Value) 3 #[true, true, true, true, true, true, true, true, true, true, true, true, true, true, true, true, true, true, true, true, true, true, false, true, true, false, false] (fun s_ => [(52, s_), (53, .string (strOfNums y104)), (56, .string t107), (60, .string t108), (57, .string ((strOfNums y104) ++ t107))]) (fun s_ w' => (w'.cell? ⟨gb103, 0, none⟩ = some (.int .i64 a0_0) ∧ w'.cell? ⟨gb103, 1, none⟩ = some (.int .i64 a0_1) ∧ w'.cell? ⟨gb103, 2, none⟩ = some (.int .i64 a0_2) ∧ w'.cell? ⟨gb103, 3, none⟩ = some (.int .u64 a0_3) ∧ w'.cell? ⟨gb103, 4, none⟩ = some (.int .u32 a0_4) ∧ w'.cell? ⟨gb103, 5, none⟩ = some (.string a0_5)) ∧ (Kd.R (Kd.int .u8) 5 w' w.heap.size (fun _ => True) s_ y104) ∧ (w'.heap[gb103]? = some (.cells #[.int .i64 a0_0, .int .i64 a0_1, .int .i64 a0_2, .int .u64 a0_3, .int .u32 a0_4, .string a0_5] 49 (0, 0))) ∧ (Below w.heap.size w w')) ?_ ?_
              rotate_left
              · intro hJ13_14_17_21
                refine join_ (σ := Value) 4 #[true, true, true, true, true, true, true, true, true, true, true, true, true, true, true, true, true, true, true, true, true, false, false, true, true, false, false] (fun s_ => [(52, s_), (53, .string (strOfNums y104)), (56, .string t107), (57, .string ((strOfNums y104) ++ t107))]) (fun s_ w' => (w'.cell? ⟨gb103, 0, none⟩ = some (.int .i64 a0_0) ∧ w'.cell? ⟨gb103, 1, none⟩ = some (.int .i64 a0_1) ∧ w'.cell? ⟨gb103, 2, none⟩ = some (.int .i64 a0_2) ∧ w'.cell? ⟨gb103, 3, none⟩ = some (.int .u64 a0_3) ∧ w'.cell? ⟨gb103, 4, none⟩ = some (.int .u32 a0_4) ∧ w'.cell? ⟨gb103, 5, none⟩ = some (.string a0_5)) ∧ (Kd.R (Kd.int .u8) 5 w' w.heap.size (fun _ => True) s_ y104) ∧ (w'.heap[gb103]? = some (.cells #[.int .i64 a0_0, .int .i64 a0_1, .int .i64 a0_2, .int .u64 a0_3, .int .u32 a0_4, .string a0_5] 49 (0, 0))) ∧ (Below w.heap.size w w')) ?_ ?_
                rotate_left
                · intro hJ13_14_17
                  refine join_ (σ := Value) 5 #[true, true, true, true, true, true, true, true, true, true, true, true, true, true, false, true, true, true, false, true, true, true, false, true, true, false, false] (fun s_ => [(52, s_), (56, .string t107), (60, .string t108)]) (fun s_ w' => (w'.cell? ⟨gb103, 0, none⟩ = some (.int .i64 a0_0) ∧ w'.cell? ⟨gb103, 1, none⟩ = some (.int .i64 a0_1) ∧ w'.cell? ⟨gb103, 2, none⟩ = some (.int .i64 a0_2) ∧ w'.cell? ⟨gb103, 3, none⟩ = some (.int .u64 a0_3) ∧ w'.cell? ⟨gb103, 4, none⟩ = some (.int .u32 a0_4) ∧ w'.cell? ⟨gb103, 5, none⟩ = some (.string a0_5)) ∧ (Kd.R (Kd.int .u8) 5 w' w.heap.size (fun _ => True) s_ y104) ∧ (w'.heap[gb103]? = some (.cells #[.int .i64 a0_0, .int .i64 a0_1, .int .i64 a0_2, .int .u64 a0_3, .int .u32 a0_4, .string a0_5] 49 (0, 0))) ∧ (Below w.heap.size w w')) ?_ ?_
                  rotate_left
                  · intro hJ13_17_21
                    refine join_ (σ := Value) 6 #[true, true, true, true, true, true, true, true, true, true, true, true, true, true, true, true, true, false, false, true, true, false, false, true, true, false, false] (fun s_ => [(52, s_), (53, .string (strOfNums y104))]) (fun s_ w' => (w'.cell? ⟨gb103, 0, none⟩ = some (.int .i64 a0_0) ∧ w'.cell? ⟨gb103, 1, none⟩ = some (.int .i64 a0_1) ∧ w'.cell? ⟨gb103, 2, none⟩ = some (.int .i64 a0_2) ∧ w'.cell? ⟨gb103, 3, none⟩ = some (.int .u64 a0_3) ∧ w'.cell? ⟨gb103, 4, none⟩ = some (.int .u32 a0_4) ∧ w'.cell? ⟨gb103, 5, none⟩ = some (.string a0_5)) ∧ (Kd.R (Kd.int .u8) 5 w' w.heap.size (fun _ => True) s_ y104) ∧ (w'.heap[gb103]? = some (.cells #[.int .i64 a0_0, .int .i64 a0_1, .int .i64 a0_2, .int .u64 a0_3, .int .u32 a0_4, .string a0_5] 49 (0, 0))) ∧ (Below w.heap.size w w')) ?_ ?_
                    rotate_left
                    · intro hJ13_14
                      refine join_ (σ := Value) 6 #[true, true, true, true, true, true, true, true, true, true, true, true, true, true, false, true, true, true, false, true, true, false, false, true, true, false, false] (fun s_ => [(52, s_), (56, .string t107)]) (fun s_ w' => (w'.cell? ⟨gb103, 0, none⟩ = some (.int .i64 a0_0) ∧ w'.cell? ⟨gb103, 1, none⟩ = some (.int .i64 a0_1) ∧ w'.cell? ⟨gb103, 2, none⟩ = some (.int .i64 a0_2) ∧ w'.cell? ⟨gb103, 3, none⟩ = some (.int .u64 a0_3) ∧ w'.cell? ⟨gb103, 4, none⟩ = some (.int .u32 a0_4) ∧ w'.cell? ⟨gb103, 5, none⟩ = some (.string a0_5)) ∧ (Kd.R (Kd.int .u8) 5 w' w.heap.size (fun _ => True) s_ y104) ∧ (w'.heap[gb103]? = some (.cells #[.int .i64 a0_0, .int .i64 a0_1, .int .i64 a0_2, .int .u64 a0_3, .int .u32 a0_4, .string a0_5] 49 (0, 0))) ∧ (Below w.heap.size w w')) ?_ ?_
                      rotate_left
                      · intro hJ13_17
                        refine join_ (σ := Unit) 6 #[true, true, true, true, true, true, true, true, true, true, true, true, true, false, false, true, true, true, false, true, true, true, false, true, true, false, false] (fun s_ => [(56, .string t107), (60, .string t108)]) (fun s_ w' => (w'.cell? ⟨gb103, 0, none⟩ = some (.int .i64 a0_0) ∧ w'.cell? ⟨gb103, 1, none⟩ = some (.int .i64 a0_1) ∧ w'.cell? ⟨gb103, 2, none⟩ = some (.int .i64 a0_2) ∧ w'.cell? ⟨gb103, 3, none⟩ = some (.int .u64 a0_3) ∧ w'.cell? ⟨gb103, 4, none⟩ = some (.int .u32 a0_4) ∧ w'.cell? ⟨gb103, 5, none⟩ = some (.string a0_5)) ∧ (w'.heap[gb103]? = some (.cells #[.int .i64 a0_0, .int .i64 a0_1, .int .i64 a0_2, .int .u64 a0_3, .int .u32 a0_4, .string a0_5] 49 (0, 0))) ∧ (Below w.heap.size w w')) ?_ ?_
                        rotate_left
                        · intro hJ17_21
                          refine join_ (σ := Value) 7 #[true, true, true, true, true, true, true, true, true, true, true, true, true, true, false, true, true, false, false, true, true, false, false, true, true, false, false] (fun s_ => [(52, s_)]) (fun s_ w' => (w'.cell? ⟨gb103, 0, none⟩ = some (.int .i64 a0_0) ∧ w'.cell? ⟨gb103, 1, none⟩ = some (.int .i64 a0_1) ∧ w'.cell? ⟨gb103, 2, none⟩ = some (.int .i64 a0_2) ∧ w'.cell? ⟨gb103, 3, none⟩ = some (.int .u64 a0_3) ∧ w'.cell? ⟨gb103, 4, none⟩ = some (.int .u32 a0_4) ∧ w'.cell? ⟨gb103, 5, none⟩ = some (.string a0_5)) ∧ (Kd.R (Kd.int .u8) 5 w' w.heap.size (fun _ => True) s_ y104) ∧ (w'.heap[gb103]? = some (.cells #[.int .i64 a0_0, .int .i64 a0_1, .int .i64 a0_2, .int .u64 a0_3, .int .u32 a0_4, .string a0_5] 49 (0, 0))) ∧ (Below w.heap.size w w')) ?_ ?_
                          rotate_left
                          · intro hJ13
                            refine join_ (σ := Unit) 7 #[true, true, true, true, true, true, true, true, true, true, true, true, true, false, false, true, true, true, false, true, true, false, false, true, true, false, false] (fun s_ => [(56, .string t107)]) (fun s_ w' => (w'.cell? ⟨gb103, 0, none⟩ = some (.int .i64 a0_0) ∧ w'.cell? ⟨gb103, 1, none⟩ = some (.int .i64 a0_1) ∧ w'.cell? ⟨gb103, 2, none⟩ = some (.int .i64 a0_2) ∧ w'.cell? ⟨gb103, 3, none⟩ = some (.int .u64 a0_3) ∧ w'.cell? ⟨gb103, 4, none⟩ = some (.int .u32 a0_4) ∧ w'.cell? ⟨gb103, 5, none⟩ = some (.string a0_5)) ∧ (w'.heap[gb103]? = some (.cells #[.int .i64 a0_0, .int .i64 a0_1, .int .i64 a0_2, .int .u64 a0_3, .int .u32 a0_4, .string a0_5] 49 (0, 0))) ∧ (Below w.heap.size w w')) ?_ ?_
                            rotate_left
                            · intro hJ17
                              refine two_ (i := 13) (j := 17) (Ni := some 52) (Nj := some 56) #[true, true, true, true, true, true, true, true, true, true, true, true, true, true, false, true, true, false, false, true, true, false, false, true, true, false, false] #[true, true, true, true, true, true, true, true, true, true, true, true, true, false, false, true, true, true, false, true, true, false, false, true, true, false, false] rfl rfl rfl rfl (two_of HT_.out (by kernel_rfl)) (by decide) (by decide) (fun K hK => ?_) (fun K hK => ?_)
                              · skip
                                refine Kd.R_lit_step (Kd.int .u8) _ 5 ?hg (N := 52) ?hd (xs := ([(a0_0) % 256, (a0_1) % 256, (a0_2) % 256, ((a0_5.size : Int)) % 256] : List Int)) (inner := [.int .u8 ((a0_0) % 256), .int .u8 ((a0_1) % 256), .int .u8 ((a0_2) % 256), .int .u8 (((a0_5.size : Int)) % 256)]) (ok := fun _ => True) (okp := fun _ => True) ?hr ?hp (fun _ hk => hk) trivial (Below.refl _ _) (Nat.le_refl _) (by simp) ?_; (case hd => rfl); (case hg => rfl); (case hr => first | (go_simp; done) | (go_simp; rfl)); (case hp => exact (Reps.one (show Kd.M (Kd.int .u8) _ _ _ ((a0_0) % 256) [.int .u8 ((a0_0) % 256)] from rfl) (Reps.one (show Kd.M (Kd.int .u8) _ _ _ ((a0_1) % 256) [.int .u8 ((a0_1) % 256)] from rfl) (Reps.one (show Kd.M (Kd.int .u8) _ _ _ ((a0_2) % 256) [.int .u8 ((a0_2) % 256)] from rfl) (Reps.one (show Kd.M (Kd.int .u8) _ _ _ (((a0_5.size : Int)) % 256) [.int .u8 (((a0_5.size : Int)) % 256)] from rfl) (Reps.none _ _))))))
                                intro v105 w24 ho25 hb hg_ hnew_
                                clear hg_ hnew_
                                (first | rw [← Ny104.out] at ho25 | (simp only [Int.reduceToNat] at ho25; rw [← Ny104.out] at ho25))
                                have n0_ := Aside0.mk (Kd.R_lower ho25 (below_size (by repeat (first | (with_reducible first | exact HB.out | apply below_alloc | apply pw_below_drewN | apply below_drew1 | refine below_set ?_ GE103.out) | exact HB.out))))
                                have n1_ := Aside0.mk (blk_below (g := gb103) (o := .cells #[.int .i64 a0_0, .int .i64 a0_1, .int .i64 a0_2, .int .u64 a0_3, .int .u32 a0_4, .string a0_5] 49 (0, 0)) (by (with_reducible repeat (first | refine blk_drewN ?_ _ | refine blk_drew ?_ | refine blk_alloc ?_ _)); exact BK103.out) hb)
                                have n2_ := Aside0.mk (below_step (by repeat (first | (with_reducible first | exact HB.out | apply below_alloc | apply pw_below_drewN | apply below_drew1 | refine below_set ?_ GE103.out) | exact HB.out)) hb)
                                clear BK103
                                clear HB
                                have HO106 := n0_
                                have BK103 := n1_
                                have HB := n2_
                                clear n0_ n1_ n2_
                                clear hb ho25
                                refine hK.out _ _ ⟨(blk_cell BK103.out 0).trans rfl, (blk_cell BK103.out 1).trans rfl, (blk_cell BK103.out 2).trans rfl, (blk_cell BK103.out 3).trans rfl, (blk_cell BK103.out 4).trans rfl, (blk_cell BK103.out 5).trans rfl⟩ (fun hHeld => ?_)
                                clear hK K
                                refine norm_ (a' := ?_) ?_ ?_
                                rotate_left
                                · show Act.put _ (some 52) _ = _
                                  simp only [Act.put, List.setIfInBounds_toArray, List.set_cons_zero, List.set_cons_succ, i64_w, i32_w]
                                  rfl
                                exact norm_ (by first | (simp only [putAll, Act.put, List.setIfInBounds_toArray, List.set_cons_zero, List.set_cons_succ]; done) | (simp only [putAll, Act.put, List.setIfInBounds_toArray, List.set_cons_zero, List.set_cons_succ]; rfl)) (hJ13 (v105) _ ⟨hHeld, (by (with_reducible repeat (first | apply Kd.R_alloc | apply Kd.R_drewN | apply Kd.R_drew)); exact HO106.out), (by (with_reducible repeat (first | refine blk_drewN ?_ _ | refine blk_drew ?_ | refine blk_alloc ?_ _)); exact BK103.out), (by repeat (first | (with_reducible first | exact HB.out | apply below_alloc | apply pw_below_drewN | apply below_drew1 | refine below_set ?_ GE103.out) | exact HB.out))⟩)
                              · skip
                                refine goes_ Try.func34 (by kernel_rfl) rfl #[.int .u64 a0_3] (by rfl) rfl rfl (by (try simp only [List.map_toArray, List.map_cons, List.map_nil]); first | done | rfl | (simp only [List.length_drop, List.length_take]; rfl)) ?_
                                with_reducible refine (removalistref01_U64.calls a0_3 t107 _ A18.out).mono ?_
                                rintro e w24 ⟨rfl, hb⟩
                                refine ⟨_, rfl, ?_⟩
                                have n0_ := Aside0.mk (blk_below (g := gb103) (o := .cells #[.int .i64 a0_0, .int .i64 a0_1, .int .i64 a0_2, .int .u64 a0_3, .int .u32 a0_4, .string a0_5] 49 (0, 0)) (by (with_reducible repeat (first | refine blk_drewN ?_ _ | refine blk_drew ?_ | refine blk_alloc ?_ _)); exact BK103.out) hb)
                                have n1_ := Aside0.mk (below_step (by repeat (first | (with_reducible first | exact HB.out | apply below_alloc | apply pw_below_drewN | apply below_drew1 | refine below_set ?_ GE103.out) | exact HB.out)) hb)
                                clear BK103
                                clear HB
                                have BK103 := n0_
                                have HB := n1_
                                clear n0_ n1_
                                (try clear hb)
                                (try clear hb2)
                                (try clear hk)
                                (try clear hi)
                                refine hK.out _ _ ⟨(blk_cell BK103.out 0).trans rfl, (blk_cell BK103.out 1).trans rfl, (blk_cell BK103.out 2).trans rfl, (blk_cell BK103.out 3).trans rfl, (blk_cell BK103.out 4).trans rfl, (blk_cell BK103.out 5).trans rfl⟩ (fun hHeld => ?_)
                                clear hK K
                                refine norm_ (a' := ?_) ?_ ?_
                                rotate_left
                                · show Act.put _ (some 56) _ = _
                                  simp only [Act.put, List.setIfInBounds_toArray, List.set_cons_zero, List.set_cons_succ, i64_w, i32_w]
                                  rfl
                                exact norm_ (by first | (simp only [putAll, Act.put, List.setIfInBounds_toArray, List.set_cons_zero, List.set_cons_succ]; done) | (simp only [putAll, Act.put, List.setIfInBounds_toArray, List.set_cons_zero, List.set_cons_succ]; rfl)) (hJ17 () _ ⟨hHeld, (by (with_reducible repeat (first | refine blk_drewN ?_ _ | refine blk_drew ?_ | refine blk_alloc ?_ _)); exact BK103.out), (by repeat (first | (with_reducible first | exact HB.out | apply below_alloc | apply pw_below_drewN | apply below_drew1 | refine below_set ?_ GE103.out) | exact HB.out))⟩)
                            · skip
                              rintro _ w25 ⟨hS_, h0_, h1_⟩
                              have n0_ : Aside0 (w25.heap[gb103]? = some (.cells #[.int .i64 a0_0, .int .i64 a0_1, .int .i64 a0_2, .int .u64 a0_3, .int .u32 a0_4, .string a0_5] 49 (0, 0))) := ⟨h0_⟩
                              have n1_ : Aside0 (Below w.heap.size w w25) := ⟨h1_⟩
                              clear BK103
                              clear HB
                              clear h0_ h1_
                              have BK103 := n0_
                              have HB := n1_
                              clear n0_ n1_
                              have hHeld : w25.cell? ⟨gb103, 0, none⟩ = some (.int .i64 a0_0) ∧ w25.cell? ⟨gb103, 1, none⟩ = some (.int .i64 a0_1) ∧ w25.cell? ⟨gb103, 2, none⟩ = some (.int .i64 a0_2) ∧ w25.cell? ⟨gb103, 3, none⟩ = some (.int .u64 a0_3) ∧ w25.cell? ⟨gb103, 4, none⟩ = some (.int .u32 a0_4) ∧ w25.cell? ⟨gb103, 5, none⟩ = some (.string a0_5) := hS_
                              refine norm_ (a' := ?_) ?_ ?_
                              rotate_left
                              · simp only [putAll, Act.put, List.setIfInBounds_toArray, List.set_cons_zero, List.set_cons_succ]
                                rfl
                              refine two_ (i := 13) (j := 21) (Ni := some 52) (Nj := some 60) #[true, true, true, true, true, true, true, true, true, true, true, true, true, true, false, true, true, true, false, true, true, false, false, true, true, false, false] #[true, true, true, true, true, true, true, true, true, true, true, true, true, false, false, true, true, true, false, true, true, true, false, true, true, false, false] rfl rfl rfl rfl (two_of HT_.out (by kernel_rfl)) (by decide) (by decide) (fun K hK => ?_) (fun K hK => ?_)
                              · skip
                                refine Kd.R_lit_step (Kd.int .u8) _ 5 ?hg (N := 52) ?hd (xs := ([(a0_0) % 256, (a0_1) % 256, (a0_2) % 256, ((a0_5.size : Int)) % 256] : List Int)) (inner := [.int .u8 ((a0_0) % 256), .int .u8 ((a0_1) % 256), .int .u8 ((a0_2) % 256), .int .u8 (((a0_5.size : Int)) % 256)]) (ok := fun _ => True) (okp := fun _ => True) ?hr ?hp (fun _ hk => hk) trivial (Below.refl _ _) (Nat.le_refl _) (by simp) ?_; (case hd => rfl); (case hg => rfl); (case hr => first | (go_simp; done) | (go_simp; rfl)); (case hp => exact (Reps.one (show Kd.M (Kd.int .u8) _ _ _ ((a0_0) % 256) [.int .u8 ((a0_0) % 256)] from rfl) (Reps.one (show Kd.M (Kd.int .u8) _ _ _ ((a0_1) % 256) [.int .u8 ((a0_1) % 256)] from rfl) (Reps.one (show Kd.M (Kd.int .u8) _ _ _ ((a0_2) % 256) [.int .u8 ((a0_2) % 256)] from rfl) (Reps.one (show Kd.M (Kd.int .u8) _ _ _ (((a0_5.size : Int)) % 256) [.int .u8 (((a0_5.size : Int)) % 256)] from rfl) (Reps.none _ _))))))
                                intro v105 w26 ho27 hb hg_ hnew_
                                clear hg_ hnew_
                                (first | rw [← Ny104.out] at ho27 | (simp only [Int.reduceToNat] at ho27; rw [← Ny104.out] at ho27))
                                have n0_ := Aside0.mk (Kd.R_lower ho27 (below_size (by repeat (first | (with_reducible first | exact HB.out | apply below_alloc | apply pw_below_drewN | apply below_drew1 | refine below_set ?_ GE103.out) | exact HB.out))))
                                have n1_ := Aside0.mk (blk_below (g := gb103) (o := .cells #[.int .i64 a0_0, .int .i64 a0_1, .int .i64 a0_2, .int .u64 a0_3, .int .u32 a0_4, .string a0_5] 49 (0, 0)) (by (with_reducible repeat (first | refine blk_drewN ?_ _ | refine blk_drew ?_ | refine blk_alloc ?_ _)); exact BK103.out) hb)
                                have n2_ := Aside0.mk (below_step (by repeat (first | (with_reducible first | exact HB.out | apply below_alloc | apply pw_below_drewN | apply below_drew1 | refine below_set ?_ GE103.out) | exact HB.out)) hb)
                                clear BK103
                                clear HB
                                have HO106 := n0_
                                have BK103 := n1_
                                have HB := n2_
                                clear n0_ n1_ n2_
                                clear hb ho27
                                refine hK.out _ _ ⟨(blk_cell BK103.out 0).trans rfl, (blk_cell BK103.out 1).trans rfl, (blk_cell BK103.out 2).trans rfl, (blk_cell BK103.out 3).trans rfl, (blk_cell BK103.out 4).trans rfl, (blk_cell BK103.out 5).trans rfl⟩ (fun hHeld => ?_)
                                clear hK K
                                refine norm_ (a' := ?_) ?_ ?_
                                rotate_left
                                · show Act.put _ (some 52) _ = _
                                  simp only [Act.put, List.setIfInBounds_toArray, List.set_cons_zero, List.set_cons_succ, i64_w, i32_w]
                                  rfl
                                exact norm_ (by first | (simp only [putAll, Act.put, List.setIfInBounds_toArray, List.set_cons_zero, List.set_cons_succ]; done) | (simp only [putAll, Act.put, List.setIfInBounds_toArray, List.set_cons_zero, List.set_cons_succ]; rfl)) (hJ13_17 (v105) _ ⟨hHeld, (by (with_reducible repeat (first | apply Kd.R_alloc | apply Kd.R_drewN | apply Kd.R_drew)); exact HO106.out), (by (with_reducible repeat (first | refine blk_drewN ?_ _ | refine blk_drew ?_ | refine blk_alloc ?_ _)); exact BK103.out), (by repeat (first | (with_reducible first | exact HB.out | apply below_alloc | apply pw_below_drewN | apply below_drew1 | refine below_set ?_ GE103.out) | exact HB.out))⟩)
                              · skip
                                refine goes_ Try.func30 (by kernel_rfl) rfl #[.int .u32 a0_4] (by rfl) rfl rfl (by (try simp only [List.map_toArray, List.map_cons, List.map_nil]); first | done | rfl | (simp only [List.length_drop, List.length_take]; rfl)) ?_
                                with_reducible refine (Hm.ref01_U32.calls a0_4 t108 _ A20.out).mono ?_
                                rintro e w26 ⟨rfl, hb⟩
                                refine ⟨_, rfl, ?_⟩
                                have n0_ := Aside0.mk (blk_below (g := gb103) (o := .cells #[.int .i64 a0_0, .int .i64 a0_1, .int .i64 a0_2, .int .u64 a0_3, .int .u32 a0_4, .string a0_5] 49 (0, 0)) (by (with_reducible repeat (first | refine blk_drewN ?_ _ | refine blk_drew ?_ | refine blk_alloc ?_ _)); exact BK103.out) hb)
                                have n1_ := Aside0.mk (below_step (by repeat (first | (with_reducible first | exact HB.out | apply below_alloc | apply pw_below_drewN | apply below_drew1 | refine below_set ?_ GE103.out) | exact HB.out)) hb)
                                clear BK103
                                clear HB
                                have BK103 := n0_
                                have HB := n1_
                                clear n0_ n1_
                                (try clear hb)
                                (try clear hb2)
                                (try clear hk)
                                (try clear hi)
                                refine hK.out _ _ ⟨(blk_cell BK103.out 0).trans rfl, (blk_cell BK103.out 1).trans rfl, (blk_cell BK103.out 2).trans rfl, (blk_cell BK103.out 3).trans rfl, (blk_cell BK103.out 4).trans rfl, (blk_cell BK103.out 5).trans rfl⟩ (fun hHeld => ?_)
                                clear hK K
                                refine norm_ (a' := ?_) ?_ ?_
                                rotate_left
                                · show Act.put _ (some 60) _ = _
                                  simp only [Act.put, List.setIfInBounds_toArray, List.set_cons_zero, List.set_cons_succ, i64_w, i32_w]
                                  rfl
                                exact norm_ (by first | (simp only [putAll, Act.put, List.setIfInBounds_toArray, List.set_cons_zero, List.set_cons_succ]; done) | (simp only [putAll, Act.put, List.setIfInBounds_toArray, List.set_cons_zero, List.set_cons_succ]; rfl)) (hJ17_21 () _ ⟨hHeld, (by (with_reducible repeat (first | refine blk_drewN ?_ _ | refine blk_drew ?_ | refine blk_alloc ?_ _)); exact BK103.out), (by repeat (first | (with_reducible first | exact HB.out | apply below_alloc | apply pw_below_drewN | apply below_drew1 | refine below_set ?_ GE103.out) | exact HB.out))⟩)
                          · skip
                            rintro v105 w26 ⟨hS_, h0_, h1_, h2_⟩
                            have n0_ : Aside0 (Kd.R (Kd.int .u8) 5 w26 w.heap.size (fun _ => True) v105 y104) := ⟨h0_⟩
                            have n1_ : Aside0 (w26.heap[gb103]? = some (.cells #[.int .i64 a0_0, .int .i64 a0_1, .int .i64 a0_2, .int .u64 a0_3, .int .u32 a0_4, .string a0_5] 49 (0, 0))) := ⟨h1_⟩
                            have n2_ : Aside0 (Below w.heap.size w w26) := ⟨h2_⟩
                            clear BK103
                            clear HB
                            clear h0_ h1_ h2_
                            have HO106 := n0_
                            have BK103 := n1_
                            have HB := n2_
                            clear n0_ n1_ n2_
                            have hHeld : w26.cell? ⟨gb103, 0, none⟩ = some (.int .i64 a0_0) ∧ w26.cell? ⟨gb103, 1, none⟩ = some (.int .i64 a0_1) ∧ w26.cell? ⟨gb103, 2, none⟩ = some (.int .i64 a0_2) ∧ w26.cell? ⟨gb103, 3, none⟩ = some (.int .u64 a0_3) ∧ w26.cell? ⟨gb103, 4, none⟩ = some (.int .u32 a0_4) ∧ w26.cell? ⟨gb103, 5, none⟩ = some (.string a0_5) := hS_
                            refine norm_ (a' := ?_) ?_ ?_
                            rotate_left
                            · simp only [putAll, Act.put, List.setIfInBounds_toArray, List.set_cons_zero, List.set_cons_succ]
                              rfl
                            refine two_ (i := 14) (j := 17) (Ni := some 53) (Nj := some 56) #[true, true, true, true, true, true, true, true, true, true, true, true, true, true, true, true, true, false, false, true, true, false, false, true, true, false, false] #[true, true, true, true, true, true, true, true, true, true, true, true, true, true, false, true, true, true, false, true, true, false, false, true, true, false, false] rfl rfl rfl rfl (two_of HT_.out (by kernel_rfl)) (by decide) (by decide) (fun K hK => ?_) (fun K hK => ?_)
                            · skip
                              have hcv27 := own_string (P := Try.prog) Try.underlying23 Try.underlying5 Try.underlying9 (Kd.own_of_R HO106.out)
                              refine value_ (w1 := ?_) (v := ?_) (by rfl) rfl ?_ ?_
                              rotate_left 2
                              · go_simp
                                constructor
                                · rfl
                                · rfl
                              clear hcv27
                              refine hK.out _ _ ⟨(blk_cell BK103.out 0).trans rfl, (blk_cell BK103.out 1).trans rfl, (blk_cell BK103.out 2).trans rfl, (blk_cell BK103.out 3).trans rfl, (blk_cell BK103.out 4).trans rfl, (blk_cell BK103.out 5).trans rfl⟩ (fun hHeld => ?_)
                              clear hK K
                              refine norm_ (a' := ?_) ?_ ?_
                              rotate_left
                              · show Act.put _ (some 53) _ = _
                                simp only [Act.put, List.setIfInBounds_toArray, List.set_cons_zero, List.set_cons_succ, i64_w, i32_w]
                                rfl
                              exact norm_ (by first | (simp only [putAll, Act.put, List.setIfInBounds_toArray, List.set_cons_zero, List.set_cons_succ]; done) | (simp only [putAll, Act.put, List.setIfInBounds_toArray, List.set_cons_zero, List.set_cons_succ]; rfl)) (hJ13_14 (v105) _ ⟨hHeld, (by (with_reducible repeat (first | apply Kd.R_alloc | apply Kd.R_drewN | apply Kd.R_drew)); exact HO106.out), (by (with_reducible repeat (first | refine blk_drewN ?_ _ | refine blk_drew ?_ | refine blk_alloc ?_ _)); exact BK103.out), (by repeat (first | (with_reducible first | exact HB.out | apply below_alloc | apply pw_below_drewN | apply below_drew1 | refine below_set ?_ GE103.out) | exact HB.out))⟩)
                            · skip
                              refine goes_ Try.func34 (by kernel_rfl) rfl #[.int .u64 a0_3] (by rfl) rfl rfl (by (try simp only [List.map_toArray, List.map_cons, List.map_nil]); first | done | rfl | (simp only [List.length_drop, List.length_take]; rfl)) ?_
                              with_reducible refine (removalistref01_U64.calls a0_3 t107 _ A18.out).mono ?_
                              rintro e w27 ⟨rfl, hb⟩
                              refine ⟨_, rfl, ?_⟩
                              have n0_ := Aside0.mk (Kd.R_below (by (with_reducible repeat (first | apply Kd.R_alloc | apply Kd.R_drewN | apply Kd.R_drew)); exact HO106.out) hb)
                              have n1_ := Aside0.mk (blk_below (g := gb103) (o := .cells #[.int .i64 a0_0, .int .i64 a0_1, .int .i64 a0_2, .int .u64 a0_3, .int .u32 a0_4, .string a0_5] 49 (0, 0)) (by (with_reducible repeat (first | refine blk_drewN ?_ _ | refine blk_drew ?_ | refine blk_alloc ?_ _)); exact BK103.out) hb)
                              have n2_ := Aside0.mk (below_step (by repeat (first | (with_reducible first | exact HB.out | apply below_alloc | apply pw_below_drewN | apply below_drew1 | refine below_set ?_ GE103.out) | exact HB.out)) hb)
                              clear HO106
                              clear BK103
                              clear HB
                              have HO106 := n0_
                              have BK103 := n1_
                              have HB := n2_
                              clear n0_ n1_ n2_
                              (try clear hb)
                              (try clear hb2)
                              (try clear hk)
                              (try clear hi)
                              refine hK.out _ _ ⟨(blk_cell BK103.out 0).trans rfl, (blk_cell BK103.out 1).trans rfl, (blk_cell BK103.out 2).trans rfl, (blk_cell BK103.out 3).trans rfl, (blk_cell BK103.out 4).trans rfl, (blk_cell BK103.out 5).trans rfl⟩ (fun hHeld => ?_)
                              clear hK K
                              refine norm_ (a' := ?_) ?_ ?_
                              rotate_left
                              · show Act.put _ (some 56) _ = _
                                simp only [Act.put, List.setIfInBounds_toArray, List.set_cons_zero, List.set_cons_succ, i64_w, i32_w]
                                rfl
                              exact norm_ (by first | (simp only [putAll, Act.put, List.setIfInBounds_toArray, List.set_cons_zero, List.set_cons_succ]; done) | (simp only [putAll, Act.put, List.setIfInBounds_toArray, List.set_cons_zero, List.set_cons_succ]; rfl)) (hJ13_17 (v105) _ ⟨hHeld, (by (with_reducible repeat (first | apply Kd.R_alloc | apply Kd.R_drewN | apply Kd.R_drew)); exact HO106.out), (by (with_reducible repeat (first | refine blk_drewN ?_ _ | refine blk_drew ?_ | refine blk_alloc ?_ _)); exact BK103.out), (by repeat (first | (with_reducible first | exact HB.out | apply below_alloc | apply pw_below_drewN | apply below_drew1 | refine below_set ?_ GE103.out) | exact HB.out))⟩)
                        · skip
                          rintro _ w26 ⟨hS_, h0_, h1_⟩
                          have n0_ : Aside0 (w26.heap[gb103]? = some (.cells #[.int .i64 a0_0, .int .i64 a0_1, .int .i64 a0_2, .int .u64 a0_3, .int .u32 a0_4, .string a0_5] 49 (0, 0))) := ⟨h0_⟩
                          have n1_ : Aside0 (Below w.heap.size w w26) := ⟨h1_⟩
                          clear BK103
                          clear HB
                          clear h0_ h1_
                          have BK103 := n0_
                          have HB := n1_
                          clear n0_ n1_
                          have hHeld : w26.cell? ⟨gb103, 0, none⟩ = some (.int .i64 a0_0) ∧ w26.cell? ⟨gb103, 1, none⟩ = some (.int .i64 a0_1) ∧ w26.cell? ⟨gb103, 2, none⟩ = some (.int .i64 a0_2) ∧ w26.cell? ⟨gb103, 3, none⟩ = some (.int .u64 a0_3) ∧ w26.cell? ⟨gb103, 4, none⟩ = some (.int .u32 a0_4) ∧ w26.cell? ⟨gb103, 5, none⟩ = some (.string a0_5) := hS_
                          refine norm_ (a' := ?_) ?_ ?_
                          rotate_left
                          · simp only [putAll, Act.put, List.setIfInBounds_toArray, List.set_cons_zero, List.set_cons_succ]
                            rfl
                          refine one_ (i := 13) (N := some 52) #[true, true, true, true, true, true, true, true, true, true, true, true, true, true, false, true, true, true, false, true, true, true, false, true, true, false, false] rfl rfl (one_of HT_.out (by kernel_rfl)) (by decide) (fun K hK => ?_)
                          refine Kd.R_lit_step (Kd.int .u8) _ 5 ?hg (N := 52) ?hd (xs := ([(a0_0) % 256, (a0_1) % 256, (a0_2) % 256, ((a0_5.size : Int)) % 256] : List Int)) (inner := [.int .u8 ((a0_0) % 256), .int .u8 ((a0_1) % 256), .int .u8 ((a0_2) % 256), .int .u8 (((a0_5.size : Int)) % 256)]) (ok := fun _ => True) (okp := fun _ => True) ?hr ?hp (fun _ hk => hk) trivial (Below.refl _ _) (Nat.le_refl _) (by simp) ?_; (case hd => rfl); (case hg => rfl); (case hr => first | (go_simp; done) | (go_simp; rfl)); (case hp => exact (Reps.one (show Kd.M (Kd.int .u8) _ _ _ ((a0_0) % 256) [.int .u8 ((a0_0) % 256)] from rfl) (Reps.one (show Kd.M (Kd.int .u8) _ _ _ ((a0_1) % 256) [.int .u8 ((a0_1) % 256)] from rfl) (Reps.one (show Kd.M (Kd.int .u8) _ _ _ ((a0_2) % 256) [.int .u8 ((a0_2) % 256)] from rfl) (Reps.one (show Kd.M (Kd.int .u8) _ _ _ (((a0_5.size : Int)) % 256) [.int .u8 (((a0_5.size : Int)) % 256)] from rfl) (Reps.none _ _))))))
                          intro v105 w27 ho28 hb hg_ hnew_
                          clear hg_ hnew_
                          (first | rw [← Ny104.out] at ho28 | (simp only [Int.reduceToNat] at ho28; rw [← Ny104.out] at ho28))
                          have n0_ := Aside0.mk (Kd.R_lower ho28 (below_size (by repeat (first | (with_reducible first | exact HB.out | apply below_alloc | apply pw_below_drewN | apply below_drew1 | refine below_set ?_ GE103.out) | exact HB.out))))
                          have n1_ := Aside0.mk (blk_below (g := gb103) (o := .cells #[.int .i64 a0_0, .int .i64 a0_1, .int .i64 a0_2, .int .u64 a0_3, .int .u32 a0_4, .string a0_5] 49 (0, 0)) (by (with_reducible repeat (first | refine blk_drewN ?_ _ | refine blk_drew ?_ | refine blk_alloc ?_ _)); exact BK103.out) hb)
                          have n2_ := Aside0.mk (below_step (by repeat (first | (with_reducible first | exact HB.out | apply below_alloc | apply pw_below_drewN | apply below_drew1 | refine below_set ?_ GE103.out) | exact HB.out)) hb)
                          clear BK103
                          clear HB
                          have HO106 := n0_
                          have BK103 := n1_
                          have HB := n2_
                          clear n0_ n1_ n2_
                          clear hb ho28
                          refine hK.out _ _ ⟨(blk_cell BK103.out 0).trans rfl, (blk_cell BK103.out 1).trans rfl, (blk_cell BK103.out 2).trans rfl, (blk_cell BK103.out 3).trans rfl, (blk_cell BK103.out 4).trans rfl, (blk_cell BK103.out 5).trans rfl⟩ (fun hHeld => ?_)
                          clear hK K
                          refine norm_ (a' := ?_) ?_ ?_
                          rotate_left
                          · show Act.put _ (some 52) _ = _
                            simp only [Act.put, List.setIfInBounds_toArray, List.set_cons_zero, List.set_cons_succ, i64_w, i32_w]
                            rfl
                          exact norm_ (by first | (simp only [putAll, Act.put, List.setIfInBounds_toArray, List.set_cons_zero, List.set_cons_succ]; done) | (simp only [putAll, Act.put, List.setIfInBounds_toArray, List.set_cons_zero, List.set_cons_succ]; rfl)) (hJ13_17_21 (v105) _ ⟨hHeld, (by (with_reducible repeat (first | apply Kd.R_alloc | apply Kd.R_drewN | apply Kd.R_drew)); exact HO106.out), (by (with_reducible repeat (first | refine blk_drewN ?_ _ | refine blk_drew ?_ | refine blk_alloc ?_ _)); exact BK103.out), (by repeat (first | (with_reducible first | exact HB.out | apply below_alloc | apply pw_below_drewN | apply below_drew1 | refine below_set ?_ GE103.out) | exact HB.out))⟩)
                      · skip
                        rintro v105 w27 ⟨hS_, h0_, h1_, h2_⟩
                        have n0_ : Aside0 (Kd.R (Kd.int .u8) 5 w27 w.heap.size (fun _ => True) v105 y104) := ⟨h0_⟩
                        have n1_ : Aside0 (w27.heap[gb103]? = some (.cells #[.int .i64 a0_0, .int .i64 a0_1, .int .i64 a0_2, .int .u64 a0_3, .int .u32 a0_4, .string a0_5] 49 (0, 0))) := ⟨h1_⟩
                        have n2_ : Aside0 (Below w.heap.size w w27) := ⟨h2_⟩
                        clear BK103
                        clear HB
                        clear h0_ h1_ h2_
                        have HO106 := n0_
                        have BK103 := n1_
                        have HB := n2_
                        clear n0_ n1_ n2_
                        have hHeld : w27.cell? ⟨gb103, 0, none⟩ = some (.int .i64 a0_0) ∧ w27.cell? ⟨gb103, 1, none⟩ = some (.int .i64 a0_1) ∧ w27.cell? ⟨gb103, 2, none⟩ = some (.int .i64 a0_2) ∧ w27.cell? ⟨gb103, 3, none⟩ = some (.int .u64 a0_3) ∧ w27.cell? ⟨gb103, 4, none⟩ = some (.int .u32 a0_4) ∧ w27.cell? ⟨gb103, 5, none⟩ = some (.string a0_5) := hS_
                        refine norm_ (a' := ?_) ?_ ?_
                        rotate_left
                        · simp only [putAll, Act.put, List.setIfInBounds_toArray, List.set_cons_zero, List.set_cons_succ]
                          rfl
                        refine two_ (i := 14) (j := 21) (Ni := some 53) (Nj := some 60) #[true, true, true, true, true, true, true, true, true, true, true, true, true, true, true, true, true, true, false, true, true, false, false, true, true, false, false] #[true, true, true, true, true, true, true, true, true, true, true, true, true, true, false, true, true, true, false, true, true, true, false, true, true, false, false] rfl rfl rfl rfl (two_of HT_.out (by kernel_rfl)) (by decide) (by decide) (fun K hK => ?_) (fun K hK => ?_)
                        · skip
                          have hcv28 := own_string (P := Try.prog) Try.underlying23 Try.underlying5 Try.underlying9 (Kd.own_of_R HO106.out)
                          refine value_ (w1 := ?_) (v := ?_) (by rfl) rfl ?_ ?_
                          rotate_left 2
                          · go_simp
                            constructor
                            · rfl
                            · rfl
                          clear hcv28
                          refine hK.out _ _ ⟨(blk_cell BK103.out 0).trans rfl, (blk_cell BK103.out 1).trans rfl, (blk_cell BK103.out 2).trans rfl, (blk_cell BK103.out 3).trans rfl, (blk_cell BK103.out 4).trans rfl, (blk_cell BK103.out 5).trans rfl⟩ (fun hHeld => ?_)
                          clear hK K
                          refine norm_ (a' := ?_) ?_ ?_
                          rotate_left
                          · show Act.put _ (some 53) _ = _
                            simp only [Act.put, List.setIfInBounds_toArray, List.set_cons_zero, List.set_cons_succ, i64_w, i32_w]
                            rfl
                          refine pure_ (i := 18) (N := some 57) (v := ?_) (a' := ?_) #[true, true, true, true, true, true, true, true, true, true, true, true, true, true, true, true, true, true, true, true, true, false, false, true, true, false, false] rfl rfl (any_of HT_.out (by kernel_rfl)) (fun _ _ _ h => h) (Or.inl ⟨by rfl, ?_⟩) ?_ ?_
                          rotate_left
                          · intro w'
                            go_simp
                            with_reducible rfl
                          rotate_left
                          · simp only [Act.put, List.setIfInBounds_toArray, List.set_cons_zero, List.set_cons_succ, i64_w, i32_w]
                            rfl
                          exact norm_ (by first | (simp only [putAll, Act.put, List.setIfInBounds_toArray, List.set_cons_zero, List.set_cons_succ]; done) | (simp only [putAll, Act.put, List.setIfInBounds_toArray, List.set_cons_zero, List.set_cons_succ]; rfl)) (hJ13_14_17 (v105) _ ⟨hHeld, (by (with_reducible repeat (first | apply Kd.R_alloc | apply Kd.R_drewN | apply Kd.R_drew)); exact HO106.out), (by (with_reducible repeat (first | refine blk_drewN ?_ _ | refine blk_drew ?_ | refine blk_alloc ?_ _)); exact BK103.out), (by repeat (first | (with_reducible first | exact HB.out | apply below_alloc | apply pw_below_drewN | apply below_drew1 | refine below_set ?_ GE103.out) | exact HB.out))⟩)
                        · skip
                          refine goes_ Try.func30 (by kernel_rfl) rfl #[.int .u32 a0_4] (by rfl) rfl rfl (by (try simp only [List.map_toArray, List.map_cons, List.map_nil]); first | done | rfl | (simp only [List.length_drop, List.length_take]; rfl)) ?_
                          with_reducible refine (Hm.ref01_U32.calls a0_4 t108 _ A20.out).mono ?_
                          rintro e w28 ⟨rfl, hb⟩
                          refine ⟨_, rfl, ?_⟩
                          have n0_ := Aside0.mk (Kd.R_below (by (with_reducible repeat (first | apply Kd.R_alloc | apply Kd.R_drewN | apply Kd.R_drew)); exact HO106.out) hb)
                          have n1_ := Aside0.mk (blk_below (g := gb103) (o := .cells #[.int .i64 a0_0, .int .i64 a0_1, .int .i64 a0_2, .int .u64 a0_3, .int .u32 a0_4, .string a0_5] 49 (0, 0)) (by (with_reducible repeat (first | refine blk_drewN ?_ _ | refine blk_drew ?_ | refine blk_alloc ?_ _)); exact BK103.out) hb)
                          have n2_ := Aside0.mk (below_step (by repeat (first | (with_reducible first | exact HB.out | apply below_alloc | apply pw_below_drewN | apply below_drew1 | refine below_set ?_ GE103.out) | exact HB.out)) hb)
                          clear HO106
                          clear BK103
                          clear HB
                          have HO106 := n0_
                          have BK103 := n1_
                          have HB := n2_
                          clear n0_ n1_ n2_
                          (try clear hb)
                          (try clear hb2)
                          (try clear hk)
                          (try clear hi)
                          refine hK.out _ _ ⟨(blk_cell BK103.out 0).trans rfl, (blk_cell BK103.out 1).trans rfl, (blk_cell BK103.out 2).trans rfl, (blk_cell BK103.out 3).trans rfl, (blk_cell BK103.out 4).trans rfl, (blk_cell BK103.out 5).trans rfl⟩ (fun hHeld => ?_)
                          clear hK K
                          refine norm_ (a' := ?_) ?_ ?_
                          rotate_left
                          · show Act.put _ (some 60) _ = _
                            simp only [Act.put, List.setIfInBounds_toArray, List.set_cons_zero, List.set_cons_succ, i64_w, i32_w]
                            rfl
                          exact norm_ (by first | (simp only [putAll, Act.put, List.setIfInBounds_toArray, List.set_cons_zero, List.set_cons_succ]; done) | (simp only [putAll, Act.put, List.setIfInBounds_toArray, List.set_cons_zero, List.set_cons_succ]; rfl)) (hJ13_17_21 (v105) _ ⟨hHeld, (by (with_reducible repeat (first | apply Kd.R_alloc | apply Kd.R_drewN | apply Kd.R_drew)); exact HO106.out), (by (with_reducible repeat (first | refine blk_drewN ?_ _ | refine blk_drew ?_ | refine blk_alloc ?_ _)); exact BK103.out), (by repeat (first | (with_reducible first | exact HB.out | apply below_alloc | apply pw_below_drewN | apply below_drew1 | refine below_set ?_ GE103.out) | exact HB.out))⟩)
                    · skip
                      rintro v105 w27 ⟨hS_, h0_, h1_, h2_⟩
                      have n0_ : Aside0 (Kd.R (Kd.int .u8) 5 w27 w.heap.size (fun _ => True) v105 y104) := ⟨h0_⟩
                      have n1_ : Aside0 (w27.heap[gb103]? = some (.cells #[.int .i64 a0_0, .int .i64 a0_1, .int .i64 a0_2, .int .u64 a0_3, .int .u32 a0_4, .string a0_5] 49 (0, 0))) := ⟨h1_⟩
                      have n2_ : Aside0 (Below w.heap.size w w27) := ⟨h2_⟩
                      clear BK103
                      clear HB
                      clear h0_ h1_ h2_
                      have HO106 := n0_
                      have BK103 := n1_
                      have HB := n2_
                      clear n0_ n1_ n2_
                      have hHeld : w27.cell? ⟨gb103, 0, none⟩ = some (.int .i64 a0_0) ∧ w27.cell? ⟨gb103, 1, none⟩ = some (.int .i64 a0_1) ∧ w27.cell? ⟨gb103, 2, none⟩ = some (.int .i64 a0_2) ∧ w27.cell? ⟨gb103, 3, none⟩ = some (.int .u64 a0_3) ∧ w27.cell? ⟨gb103, 4, none⟩ = some (.int .u32 a0_4) ∧ w27.cell? ⟨gb103, 5, none⟩ = some (.string a0_5) := hS_
                      refine norm_ (a' := ?_) ?_ ?_
                      rotate_left
                      · simp only [putAll, Act.put, List.setIfInBounds_toArray, List.set_cons_zero, List.set_cons_succ]
                        rfl
                      refine one_ (i := 17) (N := some 56) #[true, true, true, true, true, true, true, true, true, true, true, true, true, true, true, true, true, true, false, true, true, false, false, true, true, false, false] rfl rfl (one_of HT_.out (by kernel_rfl)) (by decide) (fun K hK => ?_)
                      refine goes_ Try.func34 (by kernel_rfl) rfl #[.int .u64 a0_3] (by rfl) rfl rfl (by (try simp only [List.map_toArray, List.map_cons, List.map_nil]); first | done | rfl | (simp only [List.length_drop, List.length_take]; rfl)) ?_
                      with_reducible refine (removalistref01_U64.calls a0_3 t107 _ A18.out).mono ?_
                      rintro e w28 ⟨rfl, hb⟩
                      refine ⟨_, rfl, ?_⟩
                      have n0_ := Aside0.mk (Kd.R_below (by (with_reducible repeat (first | apply Kd.R_alloc | apply Kd.R_drewN | apply Kd.R_drew)); exact HO106.out) hb)
                      have n1_ := Aside0.mk (blk_below (g := gb103) (o := .cells #[.int .i64 a0_0, .int .i64 a0_1, .int .i64 a0_2, .int .u64 a0_3, .int .u32 a0_4, .string a0_5] 49 (0, 0)) (by (with_reducible repeat (first | refine blk_drewN ?_ _ | refine blk_drew ?_ | refine blk_alloc ?_ _)); exact BK103.out) hb)
                      have n2_ := Aside0.mk (below_step (by repeat (first | (with_reducible first | exact HB.out | apply below_alloc | apply pw_below_drewN | apply below_drew1 | refine below_set ?_ GE103.out) | exact HB.out)) hb)
                      clear HO106
                      clear BK103
                      clear HB
                      have HO106 := n0_
                      have BK103 := n1_
                      have HB := n2_
                      clear n0_ n1_ n2_
                      (try clear hb)
                      (try clear hb2)
                      (try clear hk)
                      (try clear hi)
                      refine hK.out _ _ ⟨(blk_cell BK103.out 0).trans rfl, (blk_cell BK103.out 1).trans rfl, (blk_cell BK103.out 2).trans rfl, (blk_cell BK103.out 3).trans rfl, (blk_cell BK103.out 4).trans rfl, (blk_cell BK103.out 5).trans rfl⟩ (fun hHeld => ?_)
                      clear hK K
                      refine norm_ (a' := ?_) ?_ ?_
                      rotate_left
                      · show Act.put _ (some 56) _ = _
                        simp only [Act.put, List.setIfInBounds_toArray, List.set_cons_zero, List.set_cons_succ, i64_w, i32_w]
                        rfl
                      refine pure_ (i := 18) (N := some 57) (v := ?_) (a' := ?_) #[true, true, true, true, true, true, true, true, true, true, true, true, true, true, true, true, true, true, true, true, true, false, false, true, true, false, false] rfl rfl (any_of HT_.out (by kernel_rfl)) (fun _ _ _ h => h) (Or.inl ⟨by rfl, ?_⟩) ?_ ?_
                      rotate_left
                      · intro w'
                        go_simp
                        with_reducible rfl
                      rotate_left
                      · simp only [Act.put, List.setIfInBounds_toArray, List.set_cons_zero, List.set_cons_succ, i64_w, i32_w]
                        rfl
                      exact norm_ (by first | (simp only [putAll, Act.put, List.setIfInBounds_toArray, List.set_cons_zero, List.set_cons_succ]; done) | (simp only [putAll, Act.put, List.setIfInBounds_toArray, List.set_cons_zero, List.set_cons_succ]; rfl)) (hJ13_14_17 (v105) _ ⟨hHeld, (by (with_reducible repeat (first | apply Kd.R_alloc | apply Kd.R_drewN | apply Kd.R_drew)); exact HO106.out), (by (with_reducible repeat (first | refine blk_drewN ?_ _ | refine blk_drew ?_ | refine blk_alloc ?_ _)); exact BK103.out), (by repeat (first | (with_reducible first | exact HB.out | apply below_alloc | apply pw_below_drewN | apply below_drew1 | refine below_set ?_ GE103.out) | exact HB.out))⟩)
                  · skip
                    rintro v105 w28 ⟨hS_, h0_, h1_, h2_⟩
                    have n0_ : Aside0 (Kd.R (Kd.int .u8) 5 w28 w.heap.size (fun _ => True) v105 y104) := ⟨h0_⟩
                    have n1_ : Aside0 (w28.heap[gb103]? = some (.cells #[.int .i64 a0_0, .int .i64 a0_1, .int .i64 a0_2, .int .u64 a0_3, .int .u32 a0_4, .string a0_5] 49 (0, 0))) := ⟨h1_⟩
                    have n2_ : Aside0 (Below w.heap.size w w28) := ⟨h2_⟩
                    clear BK103
                    clear HB
                    clear h0_ h1_ h2_
                    have HO106 := n0_
                    have BK103 := n1_
                    have HB := n2_
                    clear n0_ n1_ n2_
                    have hHeld : w28.cell? ⟨gb103, 0, none⟩ = some (.int .i64 a0_0) ∧ w28.cell? ⟨gb103, 1, none⟩ = some (.int .i64 a0_1) ∧ w28.cell? ⟨gb103, 2, none⟩ = some (.int .i64 a0_2) ∧ w28.cell? ⟨gb103, 3, none⟩ = some (.int .u64 a0_3) ∧ w28.cell? ⟨gb103, 4, none⟩ = some (.int .u32 a0_4) ∧ w28.cell? ⟨gb103, 5, none⟩ = some (.string a0_5) := hS_
                    refine norm_ (a' := ?_) ?_ ?_
                    rotate_left
                    · simp only [putAll, Act.put, List.setIfInBounds_toArray, List.set_cons_zero, List.set_cons_succ]
                      rfl
                    refine one_ (i := 14) (N := some 53) #[true, true, true, true, true, true, true, true, true, true, true, true, true, true, true, true, true, true, false, true, true, true, false, true, true, false, false] rfl rfl (one_of HT_.out (by kernel_rfl)) (by decide) (fun K hK => ?_)
                    have hcv29 := own_string (P := Try.prog) Try.underlying23 Try.underlying5 Try.underlying9 (Kd.own_of_R HO106.out)
                    refine value_ (w1 := ?_) (v := ?_) (by rfl) rfl ?_ ?_
                    rotate_left 2
                    · go_simp
                      constructor
                      · rfl
                      · rfl
                    clear hcv29
                    refine hK.out _ _ ⟨(blk_cell BK103.out 0).trans rfl, (blk_cell BK103.out 1).trans rfl, (blk_cell BK103.out 2).trans rfl, (blk_cell BK103.out 3).trans rfl, (blk_cell BK103.out 4).trans rfl, (blk_cell BK103.out 5).trans rfl⟩ (fun hHeld => ?_)
                    clear hK K
                    refine norm_ (a' := ?_) ?_ ?_
                    rotate_left
                    · show Act.put _ (some 53) _ = _
                      simp only [Act.put, List.setIfInBounds_toArray, List.set_cons_zero, List.set_cons_succ, i64_w, i32_w]
                      rfl
                    refine pure_ (i := 18) (N := some 57) (v := ?_) (a' := ?_) #[true, true, true, true, true, true, true, true, true, true, true, true, true, true, true, true, true, true, true, true, true, true, false, true, true, false, false] rfl rfl (any_of HT_.out (by kernel_rfl)) (fun _ _ _ h => h) (Or.inl ⟨by rfl, ?_⟩) ?_ ?_
                    rotate_left
                    · intro w'
                      go_simp
                      with_reducible rfl
                    rotate_left
                    · simp only [Act.put, List.setIfInBounds_toArray, List.set_cons_zero, List.set_cons_succ, i64_w, i32_w]
                      rfl
                    exact norm_ (by first | (simp only [putAll, Act.put, List.setIfInBounds_toArray, List.set_cons_zero, List.set_cons_succ]; done) | (simp only [putAll, Act.put, List.setIfInBounds_toArray, List.set_cons_zero, List.set_cons_succ]; rfl)) (hJ13_14_17_21 (v105) _ ⟨hHeld, (by (with_reducible repeat (first | apply Kd.R_alloc | apply Kd.R_drewN | apply Kd.R_drew)); exact HO106.out), (by (with_reducible repeat (first | refine blk_drewN ?_ _ | refine blk_drew ?_ | refine blk_alloc ?_ _)); exact BK103.out), (by repeat (first | (with_reducible first | exact HB.out | apply below_alloc | apply pw_below_drewN | apply below_drew1 | refine below_set ?_ GE103.out) | exact HB.out))⟩)
                · skip
                  rintro v105 w28 ⟨hS_, h0_, h1_, h2_⟩
                  have n0_ : Aside0 (Kd.R (Kd.int .u8) 5 w28 w.heap.size (fun _ => True) v105 y104) := ⟨h0_⟩
                  have n1_ : Aside0 (w28.heap[gb103]? = some (.cells #[.int .i64 a0_0, .int .i64 a0_1, .int .i64 a0_2, .int .u64 a0_3, .int .u32 a0_4, .string a0_5] 49 (0, 0))) := ⟨h1_⟩
                  have n2_ : Aside0 (Below w.heap.size w w28) := ⟨h2_⟩
                  clear BK103
                  clear HB
                  clear h0_ h1_ h2_
                  have HO106 := n0_
                  have BK103 := n1_
                  have HB := n2_
                  clear n0_ n1_ n2_
                  have hHeld : w28.cell? ⟨gb103, 0, none⟩ = some (.int .i64 a0_0) ∧ w28.cell? ⟨gb103, 1, none⟩ = some (.int .i64 a0_1) ∧ w28.cell? ⟨gb103, 2, none⟩ = some (.int .i64 a0_2) ∧ w28.cell? ⟨gb103, 3, none⟩ = some (.int .u64 a0_3) ∧ w28.cell? ⟨gb103, 4, none⟩ = some (.int .u32 a0_4) ∧ w28.cell? ⟨gb103, 5, none⟩ = some (.string a0_5) := hS_
                  refine norm_ (a' := ?_) ?_ ?_
                  rotate_left
                  · simp only [putAll, Act.put, List.setIfInBounds_toArray, List.set_cons_zero, List.set_cons_succ]
                    rfl
                  refine one_ (i := 21) (N := some 60) #[true, true, true, true, true, true, true, true, true, true, true, true, true, true, true, true, true, true, true, true, true, true, false, true, true, false, false] rfl rfl (one_of HT_.out (by kernel_rfl)) (by decide) (fun K hK => ?_)
                  refine goes_ Try.func30 (by kernel_rfl) rfl #[.int .u32 a0_4] (by rfl) rfl rfl (by (try simp only [List.map_toArray, List.map_cons, List.map_nil]); first | done | rfl | (simp only [List.length_drop, List.length_take]; rfl)) ?_
                  with_reducible refine (Hm.ref01_U32.calls a0_4 t108 _ A20.out).mono ?_
                  rintro e w29 ⟨rfl, hb⟩
                  refine ⟨_, rfl, ?_⟩
                  have n0_ := Aside0.mk (Kd.R_below (by (with_reducible repeat (first | apply Kd.R_alloc | apply Kd.R_drewN | apply Kd.R_drew)); exact HO106.out) hb)
                  have n1_ := Aside0.mk (blk_below (g := gb103) (o := .cells #[.int .i64 a0_0, .int .i64 a0_1, .int .i64 a0_2, .int .u64 a0_3, .int .u32 a0_4, .string a0_5] 49 (0, 0)) (by (with_reducible repeat (first | refine blk_drewN ?_ _ | refine blk_drew ?_ | refine blk_alloc ?_ _)); exact BK103.out) hb)
                  have n2_ := Aside0.mk (below_step (by repeat (first | (with_reducible first | exact HB.out | apply below_alloc | apply pw_below_drewN | apply below_drew1 | refine below_set ?_ GE103.out) | exact HB.out)) hb)
                  clear HO106
                  clear BK103
                  clear HB
                  have HO106 := n0_
                  have BK103 := n1_
                  have HB := n2_
                  clear n0_ n1_ n2_
                  (try clear hb)
                  (try clear hb2)
                  (try clear hk)
                  (try clear hi)
                  refine hK.out _ _ ⟨(blk_cell BK103.out 0).trans rfl, (blk_cell BK103.out 1).trans rfl, (blk_cell BK103.out 2).trans rfl, (blk_cell BK103.out 3).trans rfl, (blk_cell BK103.out 4).trans rfl, (blk_cell BK103.out 5).trans rfl⟩ (fun hHeld => ?_)
                  clear hK K
                  refine norm_ (a' := ?_) ?_ ?_
                  rotate_left
                  · show Act.put _ (some 60) _ = _
                    simp only [Act.put, List.setIfInBounds_toArray, List.set_cons_zero, List.set_cons_succ, i64_w, i32_w]
                    rfl
                  exact norm_ (by first | (simp only [putAll, Act.put, List.setIfInBounds_toArray, List.set_cons_zero, List.set_cons_succ]; done) | (simp only [putAll, Act.put, List.setIfInBounds_toArray, List.set_cons_zero, List.set_cons_succ]; rfl)) (hJ13_14_17_21 (v105) _ ⟨hHeld, (by (with_reducible repeat (first | apply Kd.R_alloc | apply Kd.R_drewN | apply Kd.R_drew)); exact HO106.out), (by (with_reducible repeat (first | refine blk_drewN ?_ _ | refine blk_drew ?_ | refine blk_alloc ?_ _)); exact BK103.out), (by repeat (first | (with_reducible first | exact HB.out | apply below_alloc | apply pw_below_drewN | apply below_drew1 | refine below_set ?_ GE103.out) | exact HB.out))⟩)
              rintro v105 w29 ⟨hS_, h0_, h1_, h2_⟩
              have n0_ : Aside0 (Kd.R (Kd.int .u8) 5 w29 w.heap.size (fun _ => True) v105 y104) := ⟨h0_⟩
              have n1_ : Aside0 (w29.heap[gb103]? = some (.cells #[.int .i64 a0_0, .int .i64 a0_1, .int .i64 a0_2, .int .u64 a0_3, .int .u32 a0_4, .string a0_5] 49 (0, 0))) := ⟨h1_⟩
              have n2_ : Aside0 (Below w.heap.size w w29) := ⟨h2_⟩
              clear BK103
              clear HB
              clear h0_ h1_ h2_
              have HO106 := n0_
              have BK103 := n1_
              have HB := n2_
              clear n0_ n1_ n2_
              have hHeld : w29.cell? ⟨gb103, 0, none⟩ = some (.int .i64 a0_0) ∧ w29.cell? ⟨gb103, 1, none⟩ = some (.int .i64 a0_1) ∧ w29.cell? ⟨gb103, 2, none⟩ = some (.int .i64 a0_2) ∧ w29.cell? ⟨gb103, 3, none⟩ = some (.int .u64 a0_3) ∧ w29.cell? ⟨gb103, 4, none⟩ = some (.int .u32 a0_4) ∧ w29.cell? ⟨gb103, 5, none⟩ = some (.string a0_5) := hS_
              refine norm_ (a' := ?_) ?_ ?_
              rotate_left
              · simp only [putAll, Act.put, List.setIfInBounds_toArray, List.set_cons_zero, List.set_cons_succ]
                rfl
              refine pure_ (i := 22) (N := some 61) (v := ?_) (a' := ?_) #[true, true, true, true, true, true, true, true, true, true, true, true, true, true, true, true, true, true, true, true, true, true, true, true, true, false, false] rfl rfl (any_of HT_.out (by kernel_rfl)) (fun _ _ _ h => h) (Or.inl ⟨by rfl, ?_⟩) ?_ ?_
              rotate_left
              · intro w'
                go_simp
                with_reducible rfl
              rotate_left
              · simp only [Act.put, List.setIfInBounds_toArray, List.set_cons_zero, List.set_cons_succ, i64_w, i32_w]
                rfl
              refine pure_ (i := 25) (N := some 64) (v := ?_) (a' := ?_) #[true, true, true, true, true, true, true, true, true, true, true, true, true, true, true, true, true, true, true, true, true, true, true, true, true, true, false] rfl rfl (any_of HT_.out (by kernel_rfl)) (fun _ _ _ h => h) (Or.inl ⟨by rfl, ?_⟩) ?_ ?_
              rotate_left
              · intro w'
                go_simp
                with_reducible rfl
              rotate_left
              · simp only [Act.put, List.setIfInBounds_toArray, List.set_cons_zero, List.set_cons_succ, i64_w, i32_w]
                rfl
              refine pure_ (i := 26) (N := some 4) (v := ?_) (a' := ?_) #[true, true, true, true, true, true, true, true, true, true, true, true, true, true, true, true, true, true, true, true, true, true, true, true, true, true, true] rfl rfl (any_of HT_.out (by kernel_rfl)) (fun _ _ _ h => h) (Or.inl ⟨by rfl, ?_⟩) ?_ ?_
              rotate_left
              · intro w'
                go_simp
                with_reducible rfl
              rotate_left
              · simp only [Act.put, List.setIfInBounds_toArray, List.set_cons_zero, List.set_cons_succ, i64_w, i32_w]
                rfl
              refine done_ (done_of HT_.out (by kernel_rfl)) ?_
              try go_wp2
              go_loopg [4] kj1 (fun kq v4 w' => ∃ (x4_2 : ByteArray), v4 = .string x4_2 ∧ Aside0 (removalistref04_Put.l0 kq x4_2 = some (r1, r2)) ∧ Aside0 (kq ≤ kj1) ∧ Aside0 (w'.heap[gb103]? = some (.cells #[.int .i64 a0_0, .int .i64 a0_1, .int .i64 a0_2, .int .u64 a0_3, .int .u32 a0_4, .string a0_5] 49 (0, 0))) ∧ Aside0 (Below w.heap.size w w'))
              case atStart => exact ⟨((((strOfNums y104) ++ t107) ++ t108) ++ a0_5), (by first | rfl | (simp; done) | (simp [*]; done)), H', ⟨Nat.le_refl _⟩, ⟨by (with_reducible repeat (first | refine blk_drewN ?_ _ | refine blk_drew ?_ | refine blk_alloc ?_ _)); exact BK103.out⟩, ⟨by repeat (first | (with_reducible first | exact HB.out | apply below_alloc | apply pw_below_drewN | apply below_drew1 | refine below_set ?_ GE103.out) | exact HB.out)⟩⟩
              case round =>
                clear H'
                try clear p2
                try clear hcv2
                try clear c3
                try clear hcv27
                try clear hcv28
                try clear hcv29
                obtain ⟨x4_2, rfl, HA, HK2, BK103, HB⟩ := hrel
                cases gk with
                | zero => exact (Option.some_ne_none _ (HA.out.symm.trans (removalistref04_Put.l0_zero _))).elim
                | succ k2 =>
                  have H := HA.out
                  clear HA
                  rw [removalistref04_Put.l0_succ] at H
                  by_cases c30 : (x4_2.size : Int) < 124
                  · rw [if_pos c30] at H
                    have c30b0 : decide ((x4_2.size : Int) < 124) = true := decide_eq_true c30
                    have c30b1 : decide (x4_2.size < 124) = true := decide_eq_true (by omega)
                    clear c30
                    by_cases c31 : x4_2.size + 1 ≤ 9223372036854775807
                    · rw [if_pos c31] at H
                      have c31b0 := eq_true c31
                      have c31b1 : decide (x4_2.size + 1 ≤ 9223372036854775807) = true := decide_eq_true c31
                      try have c31b2 : (9223372036854775807 < x4_2.size + 1) = False := eq_false (by omega)
                      have H' := Aside0.mk H
                      clear H
                      go_wp2
                      go_roundg k2
                      case measure => have := HJ1.out; have := HK2.out; omega
                      case rel => exact ⟨(x4_2 ++ (⟨#[0]⟩ : ByteArray)), (by first | rfl | (simp; done) | (simp [*]; done)), (by first | exact H' | (subst_vars; exact H') | (simp only [*] at H' ⊢; exact H')), ⟨by have := HJ1.out; have := HK2.out; omega⟩, ⟨by (with_reducible repeat (first | refine blk_drewN ?_ _ | refine blk_drew ?_ | refine blk_alloc ?_ _)); exact BK103.out⟩, ⟨by repeat (first | (with_reducible first | exact HB.out | apply below_alloc | apply pw_below_drewN | apply below_drew1 | refine below_set ?_ GE103.out) | exact HB.out)⟩⟩
                    · rw [if_neg c31] at H
                      exact absurd H (by simp)
                  · rw [if_neg c30] at H
                    have c30b0 : decide ((x4_2.size : Int) < 124) = false := decide_eq_false c30
                    have c30b1 : decide (x4_2.size < 124) = false := decide_eq_false (by omega)
                    clear c30
                    replace H := Option.bind_eq_some_iff.mp H
                    obtain ⟨t109, A320, H⟩ := H
                    replace H : (some (t109, 0)) = some (r1, r2) := H
                    have A32 := Aside0.mk A320
                    clear A320
                    simp only [Option.some.injEq, Prod.mk.injEq] at H
                    obtain ⟨rfl, rfl⟩ := H
                    go_wp2_with (first | ((with_reducible refine gate_callee (f := 19) rfl ?_); refine goesL_ (some 71) rfl rfl Try.func19 (by kernel_rfl) rfl #[.string x4_2] rfl (by (try simp only [List.map_toArray, List.map_cons, List.map_nil]); first | done | rfl | (simp only [List.length_drop, List.length_take]; rfl)) ?_; (with_reducible refine (Hm.ref02_Sealed.calls x4_2 t109 _ A32.out).mono ?_); rintro e w33 ⟨rfl, hb⟩; refine ⟨_, rfl, ?_⟩; have n0_ := Aside0.mk (blk_below (g := gb103) (o := .cells #[.int .i64 a0_0, .int .i64 a0_1, .int .i64 a0_2, .int .u64 a0_3, .int .u32 a0_4, .string a0_5] 49 (0, 0)) (by (with_reducible repeat (first | refine blk_drewN ?_ _ | refine blk_drew ?_ | refine blk_alloc ?_ _)); exact BK103.out) hb); have n1_ := Aside0.mk (below_step (by repeat (first | (with_reducible first | exact HB.out | apply below_alloc | apply pw_below_drewN | apply below_drew1 | refine below_set ?_ GE103.out) | exact HB.out)) hb); clear BK103; clear HB; have BK103 := n0_; have HB := n1_; clear n0_ n1_; (try clear hb); (try clear hb2); (try clear hk); (try clear hi)))
                    go_ret2
                    exact ⟨by first | rfl | (simp [errW_none, errW_some] <;> rfl) | (simp [*, errW_none, errW_some] <;> rfl), by repeat (first | (with_reducible first | exact HB.out | apply below_alloc | apply pw_below_drewN | apply below_drew1 | refine below_set ?_ GE103.out) | exact HB.out)⟩
            · rw [if_neg c22] at H
              exact absurd H (by simp)
          · rw [if_neg c21] at H
            exact absurd H (by simp)
        · rw [if_neg c19] at H
          exact absurd H (by simp)

end Go.Proofs.Ytelhdgnolijpcaa.PRef04Put
end
section
/- The reference's answers for sectors, as plain Lean functions: Get's and Put's; conditions: those that each names. -/
namespace Go.Proofs.Ytelhdgnolijpcaa.Hm
open Go.RowKit Go.Proofs.YtelhdgnolijpcaaW.PrintWords Go.Proofs.YtelhdgnolijpcaaW.PrintLast Go.Proofs.YtelhdgnolijpcaaW.PrintMore Go.Proofs.Ytelhdgnolijpcaa.PRef04Get Go.Proofs.Ytelhdgnolijpcaa.PRef04Put
set_option linter.unusedVariables false
set_option linter.unusedSimpArgs false

theorem rnum_l0 (s : ByteArray) (h8 : s.size ≤ 8) (d : Nat) : ∀ (k i : Nat) (x : Int), i + d = s.size → 0 ≤ x → x < 256 ^ i → removalistref04_number.l0 (k + d + 1) s x (i : Int) = some (numN x ((bytesOf s).drop i)) := by
  have hl := bytesOf_length s
  induction d with
  | zero =>
    intro k i x hi h0 h1
    unfold removalistref04_number.l0
    rw [if_neg (by omega), List.drop_eq_nil_of_le (by omega)]
    rfl
  | succ d ih =>
    intro k i x hi h0 h1
    rw [show k + (d + 1) + 1 = (k + d + 1) + 1 by omega]
    unfold removalistref04_number.l0
    have hlt : i < (bytesOf s).length := by omega
    have hr := (bytesB_iff _).1 (bytesOf_range s) (bytesOf s)[i] (List.getElem_mem hlt)
    rw [if_pos (by omega), if_pos (by omega), bt_rd, rd_at _ i hlt, List.drop_eq_getElem_cons hlt]
    have hx : x * 256 ≤ 18446744073709551360 := by
      have h7 := Int.lt_of_lt_of_le h1 (p256 i (by omega))
      clear h1
      omega
    have hx' : x * 256 + (bytesOf s)[i] < 256 ^ (i + 1) := by rw [Int.pow_succ]; omega
    rw [u64w (x * 256) (by omega) (by omega), u64w _ hr.1 (by omega), u64w _ (by omega) (by omega), wrap_up i (by omega) (by omega)]
    have := ih k (i + 1) (x * 256 + (bytesOf s)[i]) (by omega) (by omega) hx'
    rw [Int.natCast_add] at this
    rw [show ((i : Int) + 1) = (i : Int) + ((1 : Nat) : Int) from rfl, this]
    rfl
theorem rnum (s : ByteArray) (h8 : s.size ≤ 8) (k : Nat) (hk : s.size + 1 ≤ k) : removalistref04_number.f k s = some (numN 0 (bytesOf s)) := by
  unfold removalistref04_number.f
  have := rnum_l0 s h8 s.size (k - s.size - 1) 0 0 (by omega) (by omega) (by omega)
  rw [show k - s.size - 1 + s.size + 1 = k by omega] at this
  exact this
def asStr (x : Int × Int × Int × Int × Int × List Int × Int) : Int × Int × Int × Int × Int × ByteArray × Int := (x.1, x.2.1, x.2.2.1, x.2.2.2.1, x.2.2.2.2.1, strOfNums x.2.2.2.2.2.1, x.2.2.2.2.2.2)
theorem strOf_take (s : ByteArray) (i j : Nat) : strOfNums (((bytesOf s).take j).drop i) = s.extract i j := by
  rw [← bytesOf_extract, strOfNums_bytesOf]
def rgetV (s : ByteArray) (n : Nat) : Int × Int × Int × Int × Int × ByteArray × Int := asStr (rd (bytesOf s) 0, rd (bytesOf s) 1, rd (bytesOf s) 2, numN 0 (((bytesOf s).take 12).drop 4), numN 0 (((bytesOf s).take 16).drop 12), ((bytesOf s).take (16 + n)).drop 16, 0)
theorem rget_end (s : ByteArray) (h : s.size = 128) (n : Nat) (hn : n ≤ 108) (k : Nat) (hk : 10 ≤ k) : removalistref04_Get.l0 (k + 1) s (n : Int) 124 = some (rgetV s n) := by
  have hl := bytesOf_length s
  have hB := bytesOf_range s
  have b0 : 0 ≤ rd (bytesOf s) 0 ∧ rd (bytesOf s) 0 < 256 := rd_range _ hB 0 (by omega)
  have b1 : 0 ≤ rd (bytesOf s) 1 ∧ rd (bytesOf s) 1 < 256 := rd_range _ hB 1 (by omega)
  have b2 : 0 ≤ rd (bytesOf s) 2 ∧ rd (bytesOf s) 2 < 256 := rd_range _ hB 2 (by omega)
  have h1 : (s.extract 4 12).size = 8 := by simp; omega
  have h2 : (s.extract 12 16).size = 4 := by simp; omega
  have e2 := numN_range (((bytesOf s).take 16).drop 12) (bytesB_drop _ _ (bytesB_take _ _ hB)) 0 0 (by omega) (by omega)
  rw [show 0 + (((bytesOf s).take 16).drop 12).length = 4 by simp; omega, show (256 : Int) ^ 4 = 4294967296 from rfl] at e2
  have ht : (16 + (n : Int)).toNat = 16 + n := by omega
  rw [removalistref04_Get.l0_succ, if_neg (by omega), if_pos (by omega), if_pos (by omega), if_pos (by omega), if_pos (by omega), if_pos (by omega), rnum (s.extract 4 12) (by omega) k (by omega), Option.bind_some,
    if_pos (by omega), if_pos (by omega), rnum (s.extract 12 16) (by omega) k (by omega), Option.bind_some]
  rw [wrap64_id (16 + (n : Int)) (by omega) (by omega), if_pos (by omega), if_pos (by omega), bt_rd, bt_rd, bt_rd, wrap64_id _ (by omega) (by omega), wrap64_id _ (by omega) (by omega), wrap64_id _ (by omega) (by omega),
    bytesOf_extract, bytesOf_extract, Int.emod_eq_of_lt e2.1 e2.2, ht]
  unfold rgetV asStr
  dsimp only
  rw [strOf_take]
theorem rget_l0 (s : ByteArray) (h : s.size = 128) (n : Nat) (hn : n ≤ 108) (d : Nat) : ∀ (k i : Nat), i + d = 124 → 10 ≤ k →
    removalistref04_Get.l0 (k + d + 1) s (n : Int) (i : Int) = some (if cleanB (((bytesOf s).take 124).drop i) = true then rgetV s n else (0, 0, 0, 0, 0, (⟨#[]⟩ : ByteArray), 11)) := by
  have hl := bytesOf_length s
  induction d with
  | zero =>
    intro k i hi hk
    have hcl : cleanB (((bytesOf s).take 124).drop i) = true := by
      rw [List.drop_eq_nil_of_le (by simp; omega)]; rfl
    rw [if_pos hcl, show (i : Int) = 124 by omega]
    exact rget_end s h n hn k hk
  | succ d ih =>
    intro k i hi hk
    rw [show k + (d + 1) + 1 = (k + d + 1) + 1 by omega]
    rw [removalistref04_Get.l0_succ]
    have hlt : i < (bytesOf s).length := by omega
    have hlt' : i < ((bytesOf s).take 124).length := by simp; omega
    rw [if_pos (by omega), if_pos (by omega), if_pos (by omega), bt_rd, rd_at _ i hlt, List.drop_eq_getElem_cons hlt', List.getElem_take]
    by_cases h0 : (bytesOf s)[i] = 0
    · rw [if_pos h0, wrap_up i (by omega) (by omega)]
      have := ih k (i + 1) (by omega) hk
      rw [Int.natCast_add] at this
      rw [show ((i : Int) + 1) = (i : Int) + ((1 : Nat) : Int) from rfl, this]
      unfold cleanB
      rw [List.all_cons, decide_eq_true h0, Bool.true_and]
    · rw [if_neg h0]
      unfold cleanB
      rw [List.all_cons, decide_eq_false h0, Bool.false_and, if_neg (by decide)]
theorem rget (s : ByteArray) (hs : s.size ≤ 4611686018427387904) : removalistref04_Get.f 300 s = some (asStr (getM (bytesOf s))) := by
  have hl := bytesOf_length s
  have hB := bytesOf_range s
  unfold removalistref04_Get.f getM
  by_cases h : s.size = 128
  · rw [if_pos (show (s.size : Int) = 128 by omega), if_pos (show (bytesOf s).length = 128 by omega)]
    have b0 : 0 ≤ rd (bytesOf s) 0 ∧ rd (bytesOf s) 0 < 256 := rd_range _ hB 0 (by omega)
    have b3 : 0 ≤ rd (bytesOf s) 3 ∧ rd (bytesOf s) 3 < 256 := rd_range _ hB 3 (by omega)
    obtain ⟨n, hn⟩ := Int.eq_ofNat_of_zero_le b3.1
    unfold ref02_Right.f
    rw [if_pos hs]
    simp only [Option.bind_some]
    by_cases hr : rightB (bytesOf s) = true
    · rw [if_pos hr, if_pos hr, if_pos (by omega), if_pos (by omega), bt_rd, bt_rd, wrap64_id (rd (bytesOf s) 3) (by omega) (by omega)]
      have bad : removalistref04_Get.j0 300 s (rd (bytesOf s) 3) true = some (0, 0, 0, 0, 0, (⟨#[]⟩ : ByteArray), 11) := by
        unfold removalistref04_Get.j0
        simp
      rw [bad]
      by_cases h1 : rd (bytesOf s) 0 < 1
      · rw [if_pos h1, if_neg (by omega)]
        rfl
      · rw [if_neg h1]
        by_cases h4 : rd (bytesOf s) 0 > 4
        · rw [if_pos h4, if_neg (by omega)]
          rfl
        · rw [if_neg h4]
          by_cases hn1 : rd (bytesOf s) 3 > 108
          · rw [decide_eq_true hn1, bad, if_neg (by omega)]
            rfl
          · rw [decide_eq_false hn1]
            unfold removalistref04_Get.j0
            simp only [Bool.false_eq_true, if_false]
            rw [hn, Int.toNat_natCast, wrap64_id (16 + (n : Int)) (by omega) (by omega)]
            have := rget_l0 s h n (by omega) (108 - n) (298 - (108 - n)) (16 + n) (by omega) (by omega)
            rw [show 298 - (108 - n) + (108 - n) + 1 = 299 by omega, Int.natCast_add] at this
            rw [show ((16 : Int) + (n : Int)) = ((16 : Nat) : Int) + (n : Int) from rfl, this]
            refine congrArg some ?_
            by_cases hc : cleanB (((bytesOf s).take 124).drop (16 + n)) = true
            · rw [if_pos hc, if_pos ⟨by omega, by omega, by omega, hc⟩]
              rfl
            · rw [if_neg hc, if_neg (fun hh => hc hh.2.2.2)]
              rfl
    · rw [if_neg hr, if_neg hr]
      rfl
  · rw [if_neg (show ¬ (s.size : Int) = 128 by omega), if_neg (show ¬ (bytesOf s).length = 128 by omega)]
    rfl
/-- removalistref04.Get. -/
def ref04_Get.f (s : ByteArray) : Option (Int × Int × Int × Int × Int × ByteArray × Int) := if s.size ≤ 4611686018427387904 then some (asStr (getM (bytesOf s))) else none
theorem ref04_Get.calls (a0 : ByteArray) (r1 : Int) (r2 : Int) (r3 : Int) (r4 : Int) (r5 : Int) (r6 : ByteArray) (r7 : Int) (w : World) (h : ref04_Get.f a0 = some (r1, r2, r3, r4, r5, r6, r7)) :
    Calls Try.prog 27 #[.string a0] w fun e w' => e = .returned (.tuple #[.agg #[.int .i64 r1, .int .i64 r2, .int .i64 r3, .int .u64 r4, .int .u32 r5, .string r6], .int .i64 r7]) ∧ Below w.heap.size w w' := by
  unfold ref04_Get.f at h
  split at h
  · rename_i hs; exact PRef04Get.removalistref04_Get.calls 300 a0 r1 r2 r3 r4 r5 r6 r7 w ((rget a0 hs).trans h)
  · simp at h
theorem u64_str (s : Nat) (hs : s < 18446744073709551616) : removalistref01_U64.f (s : Int) = some (strOfNums (be64 s)) := by
  have w1 : IntKind.u64.wrap (Int.tdiv (s : Int) 4294967296) % 4294967296 = ((s / 4294967296 : Nat) : Int) := by
    rw [Int.tdiv_eq_ediv_of_nonneg (by omega), u64w _ (by omega) (by omega)]
    omega
  have w2 : (s : Int) % 4294967296 = ((s % 4294967296 : Nat) : Int) := by omega
  unfold removalistref01_U64.f ref01_U32.f
  rw [w1, w2, if_pos (by omega), if_pos (by omega)]
  simp only [Option.bind_some]
  rw [if_pos (by rw [size_strOfNums, size_strOfNums]; show 4 + 4 ≤ _; omega)]
  congr 1
  refine bytesOf_inj _ _ ?_
  rw [bytesOf_append, bytesOf_strOfNums _ (bytesB_be32 _ (by omega) (by omega)), bytesOf_strOfNums _ (bytesB_be32 _ (by omega) (by omega)), bytesOf_strOfNums _ (be64_bytes s)]
  simp only [be32, be64, List.cons_append, List.nil_append, List.cons.injEq, and_true]
  refine ⟨?_, ?_, ?_, ?_, ?_, ?_, ?_, ?_⟩ <;> omega
theorem be32_be4 (a : Nat) : be32 (a : Int) = be4 a := by
  simp only [be32, be4, List.cons.injEq, and_true]
  refine ⟨?_, ?_, ?_, ?_⟩ <;> omega
theorem strOf_app (a b : List Int) (ha : bytesB a = true) (hb : bytesB b = true) : strOfNums a ++ strOfNums b = strOfNums (a ++ b) := by
  refine bytesOf_inj _ _ ?_
  rw [bytesOf_append, bytesOf_strOfNums a ha, bytesOf_strOfNums b hb, bytesOf_strOfNums _ (by rw [bytesB_append, ha, hb]; rfl)]
theorem rput_l0 (d : Nat) : ∀ (k : Nat) (x : ByteArray), x.size + d = 124 → removalistref04_Put.l0 (k + d + 1) x = some (x ++ strOfNums (List.replicate d 0) ++ strOfNums (be32 (crcM 0 (bytesOf x ++ List.replicate d 0))), 0) := by
  induction d with
  | zero =>
    intro k x hx
    rw [removalistref04_Put.l0_succ, if_neg (by omega)]
    unfold ref02_Sealed.f
    rw [if_pos (by omega)]
    have e : x ++ strOfNums (List.replicate 0 0) = x := by
      refine bytesOf_inj _ _ ?_
      rw [bytesOf_append, bytesOf_strOfNums _ (zeros_bytes 0)]
      simp
    rw [e, List.replicate_zero, List.append_nil]
    rfl
  | succ d ih =>
    intro k x hx
    rw [show k + (d + 1) + 1 = (k + d + 1) + 1 by omega, removalistref04_Put.l0_succ, if_pos (by omega), if_pos (by omega)]
    have hz : (⟨#[0]⟩ : ByteArray) = strOfNums (List.replicate 1 0) := rfl
    have hb1 := zeros_bytes 1
    have e1 : bytesOf (x ++ (⟨#[0]⟩ : ByteArray)) = bytesOf x ++ List.replicate 1 0 := by rw [bytesOf_append, hz, bytesOf_strOfNums _ hb1]
    have hs : (x ++ (⟨#[0]⟩ : ByteArray)).size = x.size + 1 := by rw [ByteArray.size_append]; rfl
    rw [ih k _ (by rw [hs]; omega), e1]
    have e2 : x ++ (⟨#[0]⟩ : ByteArray) ++ strOfNums (List.replicate d 0) = x ++ strOfNums (List.replicate (d + 1) 0) := by
      rw [hz]
      refine bytesOf_inj _ _ ?_
      rw [bytesOf_append, bytesOf_append, bytesOf_append, bytesOf_strOfNums _ hb1, bytesOf_strOfNums _ (zeros_bytes d), bytesOf_strOfNums _ (zeros_bytes (d + 1)), List.append_assoc, show d + 1 = 1 + d by omega, ← List.replicate_append_replicate]
    rw [e2, List.append_assoc, List.replicate_append_replicate, show 1 + d = d + 1 by omega]
theorem rput (k i c s a : Int) (t : ByteArray) (hs0 : 0 ≤ s) (hs1 : s < 18446744073709551616) (ha0 : 0 ≤ a) (ha1 : a < 4294967296) :
    removalistref04_Put.f 300 k i c s a t = some (if frameOk k i c t.size = true then (strOfNums (putM k i c s.toNat a.toNat (bytesOf t)), 0) else ((⟨#[]⟩ : ByteArray), 1)) := by
  have hl := bytesOf_length t
  have hB := bytesOf_range t
  have bad : removalistref04_Put.j0 300 true k i c s a t = some ((⟨#[]⟩ : ByteArray), 1) := rfl
  unfold removalistref04_Put.f
  rw [bad]
  by_cases hF : frameOk k i c t.size = true
  · rw [if_pos hF]
    obtain ⟨h1, h2, h3, h4, h5, h6, h7⟩ := (frameOk_iff _ _ _ _).1 hF
    rw [if_neg (by omega), if_neg (by omega), if_neg (by omega), if_neg (by omega), if_neg (by omega), if_neg (by omega), decide_eq_false (by omega)]
    obtain ⟨s, rfl⟩ := Int.eq_ofNat_of_zero_le hs0
    obtain ⟨a, rfl⟩ := Int.eq_ofNat_of_zero_le ha0
    rw [show (300 : Nat) = 299 + 1 from rfl, removalistref04_Put.j0_succ]
    rw [if_neg (by decide), u64_str s (by omega)]
    unfold ref01_U32.f
    rw [if_pos ⟨ha0, ha1⟩]
    simp only [Option.bind_some]
    rw [Int.emod_eq_of_lt (a := k) (by omega) (by omega), Int.emod_eq_of_lt (a := i) (by omega) (by omega), Int.emod_eq_of_lt (a := c) (by omega) (by omega), Int.emod_eq_of_lt (a := (t.size : Int)) (by omega) (by omega)]
    have hz4 : (be32 (a : Int)).length = 4 := rfl
    have hz8 : (be64 s).length = 8 := rfl
    rw [if_pos (by rw [size_strOfNums, size_strOfNums, hz8]; show 4 + 8 ≤ _; omega), if_pos (by rw [ByteArray.size_append, size_strOfNums, size_strOfNums, size_strOfNums, hz8, hz4]; show 4 + 8 + 4 ≤ _; omega),
      if_pos (by rw [ByteArray.size_append, ByteArray.size_append, size_strOfNums, size_strOfNums, size_strOfNums, hz8, hz4]; show 4 + 8 + 4 + _ ≤ _; omega)]
    have hh : bytesB [k, i, c, (t.size : Int)] = true := by
      rw [bytesB_iff]; intro x hx; simp only [List.mem_cons, List.not_mem_nil, or_false] at hx; omega
    have e0 : strOfNums [k, i, c, (t.size : Int)] ++ strOfNums (be64 s) ++ strOfNums (be32 (a : Int)) ++ t = strOfNums ([k, i, c, (t.size : Int)] ++ be64 s ++ be4 a ++ bytesOf t) := by
      conv => lhs; rhs; rw [← strOfNums_bytesOf t]
      rw [be32_be4, strOf_app _ _ hh (be64_bytes s), strOf_app _ _ (by rw [bytesB_append, hh, be64_bytes]; rfl) (be4_bytes a), strOf_app _ _ (by rw [bytesB_append, bytesB_append, hh, be64_bytes, be4_bytes]; rfl) hB]
    rw [e0]
    have hb0 : bytesB ([k, i, c, (t.size : Int)] ++ be64 s ++ be4 a ++ bytesOf t) = true := by rw [bytesB_append, bytesB_append, bytesB_append, hh, be64_bytes, be4_bytes, hB]; rfl
    have hsz : ([k, i, c, (t.size : Int)] ++ be64 s ++ be4 a ++ bytesOf t).length = 16 + t.size := by simp [be64, be4]; omega
    have hl0 := rput_l0 (108 - t.size) (298 - (108 - t.size)) (strOfNums ([k, i, c, (t.size : Int)] ++ be64 s ++ be4 a ++ bytesOf t)) (by rw [size_strOfNums, hsz]; omega)
    rw [show 298 - (108 - t.size) + (108 - t.size) + 1 = 299 by omega] at hl0
    rw [hl0, bytesOf_strOfNums _ hb0, strOf_app _ _ hb0 (zeros_bytes _)]
    have hfl : [k, i, c, (t.size : Int)] ++ be64 s ++ be4 a ++ bytesOf t ++ List.replicate (108 - t.size) 0 = frameL k i c s a (bytesOf t) := by
      unfold frameL; rw [hl]
    rw [hfl, Int.toNat_natCast, Int.toNat_natCast]
    have hfb := frameL_bytes k i c s a (bytesOf t) (by omega) (by omega) h3 h4 h5 h6 (by omega) hB
    have hcr := crcM_range 0 (frameL k i c s a (bytesOf t)) (by omega) (by omega) ((bytesB_iff _).1 hfb)
    rw [strOf_app _ _ hfb (bytesB_be32 _ hcr.1 hcr.2)]
    rfl
  · rw [if_neg hF]
    have hF' : ¬ (1 ≤ k ∧ k ≤ 4 ∧ 0 ≤ i ∧ i ≤ 255 ∧ 0 ≤ c ∧ c ≤ 255 ∧ t.size ≤ 108) := fun h => hF ((frameOk_iff _ _ _ _).2 h)
    by_cases q1 : k < 1
    · rw [if_pos q1]
    rw [if_neg q1]
    by_cases q2 : k > 4
    · rw [if_pos q2]
    rw [if_neg q2]
    by_cases q3 : i < 0
    · rw [if_pos q3]
    rw [if_neg q3]
    by_cases q4 : i > 255
    · rw [if_pos q4]
    rw [if_neg q4]
    by_cases q5 : c < 0
    · rw [if_pos q5]
    rw [if_neg q5]
    by_cases q6 : c > 255
    · rw [if_pos q6]
    rw [if_neg q6, decide_eq_true (by omega), bad]
/-- removalistref04.Put. -/
def ref04_Put.f (k i c s a : Int) (t : ByteArray) : Option (ByteArray × Int) :=
  if 0 ≤ s ∧ s < 18446744073709551616 ∧ 0 ≤ a ∧ a < 4294967296 then some (if frameOk k i c t.size = true then (strOfNums (putM k i c s.toNat a.toNat (bytesOf t)), 0) else ((⟨#[]⟩ : ByteArray), 1)) else none
theorem ref04_Put.calls (a0_0 : Int) (a0_1 : Int) (a0_2 : Int) (a0_3 : Int) (a0_4 : Int) (a0_5 : ByteArray) (r1 : ByteArray) (r2 : Int) (w : World) (h : ref04_Put.f a0_0 a0_1 a0_2 a0_3 a0_4 a0_5 = some (r1, r2)) :
    Calls Try.prog 24 #[.agg #[.int .i64 a0_0, .int .i64 a0_1, .int .i64 a0_2, .int .u64 a0_3, .int .u32 a0_4, .string a0_5]] w fun e w' => e = .returned (.tuple #[.string r1, .int .i64 r2]) ∧ Below w.heap.size w w' := by
  unfold ref04_Put.f at h
  split at h
  · rename_i hs; exact PRef04Put.removalistref04_Put.calls 300 _ _ _ _ _ _ _ _ w ((rput _ _ _ _ _ _ hs.1 hs.2.1 hs.2.2.1 hs.2.2.2).trans h)
  · simp at h
end Go.Proofs.Ytelhdgnolijpcaa.Hm
end
section
/- The Go function SectorGets of the package's law 4 returns true and leaves what was there: whatever bytes come in. -/
namespace Go.Proofs.Ytelhdgnolijpcaa.Hm
open Go.RowKit Go.Proofs.YtelhdgnolijpcaaW.PrintWords Go.Proofs.YtelhdgnolijpcaaW.PrintLast Go.Proofs.YtelhdgnolijpcaaW.PrintMore
set_option linter.unusedVariables false
set_option linter.unusedSimpArgs false
attribute [local go_sem high] eqF

theorem mk_run (W : World) (n : Nat) (h : n ≤ 100000) : (Instr.makeSlice 23 (.int .i64 (n : Int)) (.int .i64 (n : Int))).run Try.prog W = .ok (.slice (some ⟨W.heap.size, 0, none⟩) n n) (W.alloc (.cells (nums .u8 (List.replicate n 0)).toArray 5)) := by
  obtain ⟨i0, hi, hzz⟩ := Option.map_eq_some_iff.1 infoB
  simp only [Prod.mk.injEq] at hzz
  obtain ⟨hz0, hz1, hz2⟩ := hzz
  have hr := run_make (P := Try.prog) W 23 5 i0 (.int .u8 0) Try.underlying23 hi hz0 .i64 .i64 (n : Int) (n : Int) (by omega) (by omega) (by rw [hz2]; omega) (by omega)
  simp only [Int.toNat_natCast] at hr
  rw [hr, hz1, Nat.mul_one]
  have e : madeCells (Value.int .u8 0).cells n = (nums .u8 (List.replicate n 0)).toArray := by
    apply Array.ext'
    rw [show (Value.int .u8 0).cells = #[Value.int .u8 0] from rfl, toList_madeCells_one]
    simp [nums]
  rw [e]
theorem zeros_str (W : World) (n : Nat) (h : n ≤ 100000) (c : Nat) : (convert 23 9 (.slice (some ⟨W.heap.size, 0, none⟩) n c)).run Try.prog (W.alloc (.cells (nums .u8 (List.replicate n 0)).toArray 5)) = .ok (.string (strOfNums (List.replicate n 0))) (W.alloc (.cells (nums .u8 (List.replicate n 0)).toArray 5)) := by
  have h1 := C_of_block (List.replicate n 0) (blk_new W (.cells (nums .u8 (List.replicate n 0)).toArray 5)) rfl (by simp; omega)
  rw [List.length_replicate] at h1
  have h2 := Kd.C_string (c := c) Try.underlying23 Try.underlying5 Try.underlying9 h1
  exact h2
theorem str_append (a b : List Int) (ha : bytesB a = true) (hb : bytesB b = true) : strOfNums a ++ strOfNums b = strOfNums (a ++ b) := by
  apply bytesOf_inj
  rw [bytesOf_append, bytesOf_strOfNums a ha, bytesOf_strOfNums b hb, bytesOf_strOfNums (a ++ b) (by rw [bytesB_append, ha, hb]; rfl)]
theorem bytesB_zeros (n : Nat) : bytesB (List.replicate n 0) = true := by
  rw [bytesB_iff]
  intro x hx
  rw [List.mem_replicate] at hx
  omega
theorem bytesB_sealed (l : List Int) (h : bytesB l = true) : bytesB (l ++ be32 (crcM 0 l)) = true := by
  have hx := crcM_range 0 l (by omega) (by omega) ((bytesB_iff l).1 h)
  rw [bytesB_append, h, bytesB_be32 _ hx.1 hx.2]; rfl
theorem ref_sealed (l : List Int) (h : bytesB l = true) (hl : l.length ≤ 100000) : ref02_Sealed.f (strOfNums l) = some (strOfNums (l ++ be32 (crcM 0 l))) := by
  unfold ref02_Sealed.f
  rw [if_pos (by rw [size_strOfNums]; omega), bytesOf_strOfNums l h]
  have hx := crcM_range 0 l (by omega) (by omega) ((bytesB_iff l).1 h)
  rw [str_append l _ h (bytesB_be32 _ hx.1 hx.2)]
theorem extract_str (l : List Int) (h : bytesB l = true) (k : Nat) : (strOfNums l).extract 0 k = strOfNums (l.take k) := by
  have e := strOf_take (strOfNums l) 0 k
  rw [bytesOf_strOfNums l h, List.drop_zero] at e
  exact e.symm

set_option maxHeartbeats 4000000 in
set_option maxRecDepth 100000 in
theorem SectorGets_any (A : Option Addr) (c0 : Nat) (l : List Int) (b : Bool) (w : World) (hr : Kd.C (Kd.int .u8) w A l.length l) (hc : l.length ≤ c0) (hb : bytesB l = true) (hl : l.length ≤ 200) :
    Calls Try.prog 9 #[.slice A l.length c0, .bool b] w fun e w' => e = .returned (.bool true) ∧ Below w.heap.size w w' := by
  have HR := Aside0.mk hr
  have HBy := Aside0.mk hb
  have hd1 : decide ((200 : Int) < (l.length : Int)) = false := decide_eq_false (by omega)
  clear hr hb
  go_enter Try.func9, Try.ntmps9
  go_wp2_with fail
  (with_reducible refine (awake04.calls true _ rfl).mono ?_)
  rintro e w2 ⟨rfl, hb2⟩
  have HB2 := Aside0.mk hb2
  have hcv : (convert 23 9 (.slice A l.length c0)).run Try.prog w2 = .ok (.string (strOfNums l)) w2 := Kd.C_string Try.underlying23 Try.underlying5 Try.underlying9 (Kd.C_below HR.out hb2)
  clear hb2
  go_upto_if 22 with (fail)
  go_cut [6] (fun v6 w' => ∃ S : List Int, v6 = .string (strOfNums S) ∧ Aside0 (bytesB S = true) ∧ S.length ≤ 300 ∧ Aside0 (Below w.heap.size w w'))
  case first =>
    cases b with
    | false =>
      go_wp2
      go_meet
      exact ⟨l, rfl, HBy, by omega, HB2⟩
    | true =>
      by_cases h124 : l.length ≤ 124
      · have hd2 : decide ((124 : Int) < ((strOfNums l).size : Int)) = false := decide_eq_false (by rw [size_strOfNums]; omega)
        have hsz : (strOfNums l).size ≤ 124 := by rw [size_strOfNums]; exact h124
        have HQ : Aside0 ((strOfNums l).size = l.length) := ⟨size_strOfNums l⟩
        obtain ⟨z, hz⟩ : ∃ z, strOfNums l = z := ⟨_, rfl⟩
        rw [hz] at hd2 hsz HQ
        simp only [hz]
        have HZ := Aside0.mk hz
        clear hz
        go_wp2_with fail
        have hm := mk_run w2 (124 - z.size) (by omega)
        rw [show (((124 - z.size : Nat) : Nat) : Int) = 124 - (z.size : Int) by omega] at hm
        rw [hm]
        have hm2 := zeros_str w2 (124 - z.size) (by omega) (124 - z.size)
        have hys : (strOfNums (List.replicate (124 - z.size) 0)).size ≤ 124 := by rw [size_strOfNums, List.length_replicate]; omega
        obtain ⟨y, hy⟩ : ∃ y, strOfNums (List.replicate (124 - z.size) 0) = y := ⟨_, rfl⟩
        rw [hy] at hys hm2
        have HY := Aside0.mk hy
        obtain ⟨L, hL⟩ : ∃ L, l ++ List.replicate (124 - z.size) 0 = L := ⟨_, rfl⟩
        have hLb : bytesB L = true := by rw [← hL, bytesB_append, Bool.and_eq_true]; exact ⟨HBy.out, bytesB_zeros _⟩
        have hLl : L.length ≤ 250 := by rw [← hL]; simp; omega
        have HSE := Aside0.mk (ref_sealed L hLb (by omega))
        rw [← hL, ← str_append _ _ HBy.out (bytesB_zeros _), HZ.out, hy, hL] at HSE
        have HLB := Aside0.mk hLb
        clear hL hLb
        clear hm hy
        go_wp2_with fail
        (with_reducible refine (ref02_Sealed.calls (z ++ y) _ _ HSE.out).mono ?_)
        rintro e w3 ⟨rfl, hb3⟩
        have HB3 := Aside0.mk (below_step (below_alloc HB2.out _) hb3)
        clear hb3
        go_wp2
        go_meet
        exact ⟨_, rfl, ⟨bytesB_sealed _ HLB.out⟩, by simp [be32]; omega, HB3⟩
      · have hd2 : decide ((124 : Int) < ((strOfNums l).size : Int)) = true := decide_eq_true (by rw [size_strOfNums]; omega)
        have hsz : 124 < (strOfNums l).size := by rw [size_strOfNums]; omega
        have hex := extract_str l HBy.out 124
        obtain ⟨x, hx⟩ : ∃ x, strOfNums l = x := ⟨_, rfl⟩
        rw [hx] at hd2 hsz hex
        simp only [hx]
        obtain ⟨z, hz⟩ : ∃ z, strOfNums (l.take 124) = z := ⟨_, rfl⟩
        rw [hz] at hex
        have hzz : z.size ≤ 124 := by rw [← hz, size_strOfNums, List.length_take]; omega
        have HZ := Aside0.mk hz
        clear hz hx
        go_wp2_with fail
        have hm := mk_run w2 (124 - z.size) (by omega)
        rw [show (((124 - z.size : Nat) : Nat) : Int) = 124 - (z.size : Int) by omega] at hm
        rw [hm]
        have hm2 := zeros_str w2 (124 - z.size) (by omega) (124 - z.size)
        have hys : (strOfNums (List.replicate (124 - z.size) 0)).size ≤ 124 := by rw [size_strOfNums, List.length_replicate]; omega
        obtain ⟨y, hy⟩ : ∃ y, strOfNums (List.replicate (124 - z.size) 0) = y := ⟨_, rfl⟩
        rw [hy] at hys hm2
        have HY := Aside0.mk hy
        obtain ⟨L, hL⟩ : ∃ L, l.take 124 ++ List.replicate (124 - z.size) 0 = L := ⟨_, rfl⟩
        have hLb : bytesB L = true := by rw [← hL, bytesB_append, Bool.and_eq_true]; exact ⟨(bytesB_take _ _ HBy.out), bytesB_zeros _⟩
        have hLl : L.length ≤ 250 := by rw [← hL]; simp; omega
        have HSE := Aside0.mk (ref_sealed L hLb (by omega))
        rw [← hL, ← str_append _ _ (bytesB_take _ _ HBy.out) (bytesB_zeros _), HZ.out, hy, hL] at HSE
        have HLB := Aside0.mk hLb
        clear hL hLb
        clear hm hy
        go_wp2_with fail
        (with_reducible refine (ref02_Sealed.calls (z ++ y) _ _ HSE.out).mono ?_)
        rintro e w3 ⟨rfl, hb3⟩
        have HB3 := Aside0.mk (below_step (below_alloc HB2.out _) hb3)
        clear hb3
        go_wp2
        go_meet
        exact ⟨_, rfl, ⟨bytesB_sealed _ HLB.out⟩, by simp [be32]; omega, HB3⟩
  case rest =>
    obtain ⟨S, rfl, HS, hS, HBc⟩ := hcut
    obtain ⟨⟨rk, ri, rc, rs, ra, rb, re⟩, hG⟩ : ∃ r, getM S = r := ⟨_, rfl⟩
    have HF := Aside0.mk ((get_f S HS.out (by omega)).trans (by rw [hG]))
    have HFR : Aside0 (ref04_Get.f (strOfNums S) = some (rk, ri, rc, rs, ra, strOfNums rb, re)) := ⟨by
      unfold ref04_Get.f
      rw [if_pos (by rw [size_strOfNums]; omega), bytesOf_strOfNums S HS.out, hG]; rfl⟩
    have hbo : bytesOf (strOfNums S) = S := bytesOf_strOfNums S HS.out
    have hzs : (strOfNums S).size ≤ 300 := by rw [size_strOfNums]; exact hS
    have HG := Aside0.mk hG
    clear hG
    obtain ⟨z, hz⟩ : ∃ z, strOfNums S = z := ⟨_, rfl⟩
    rw [hz] at hbo hzs HFR
    simp only [hz]
    have HZ := Aside0.mk hz
    have HBO := Aside0.mk hbo
    clear hz hbo
    go_wp2_with (first | ((with_reducible refine gate_dst (N := 37) rfl ?_); refine V_conv_str ?hg (N' := 37) ?hd _ rfl z ?hx ?hl ?_; (case hd => rfl); (case hg => rfl); (case hx => rfl); (case hl => omega); intro v37 w3 hv hb3; rw [HBO.out] at hv; have HV := Aside0.mk hv; have HB3 := Aside0.mk (below_step HBc.out hb3); clear hv hb3; obtain ⟨A37, c37, e37, hc37, hF37⟩ := HV.out; subst e37) | fail)
    have HC3 := Aside0.mk (hF37 w3 (fun k _ _ => rfl))
    clear hF37 HV
    (with_reducible refine (sector_Get.calls A37 c37 S rk ri rc rs ra rb re w3 HC3.out hc37 HF.out).mono ?_)
    rintro e w4 ⟨v0, rfl, hro, hb4⟩
    obtain ⟨A40, c40, e40, hc40, hr40⟩ := Kd.R_reads hro
    subst e40
    have HC4 := Aside0.mk (Kd.C_below HC3.out hb4)
    have HR4 := Aside0.mk hr40
    have HB4 := Aside0.mk (below_step HB3.out hb4)
    clear hb4 hro hr40 HC3
    have hcv4 : (convert 23 9 (.slice A37 S.length c37)).run Try.prog (w4.alloc (.cells #[.int .i64 rk, .int .i64 ri, .int .i64 rc, .int .u64 rs, .int .u32 ra, .slice A40 rb.length c40] 42)) = .ok (.string z) (w4.alloc (.cells #[.int .i64 rk, .int .i64 ri, .int .i64 rc, .int .u64 rs, .int .u32 ra, .slice A40 rb.length c40] 42)) := by
      rw [← HZ.out]
      exact Kd.C_string Try.underlying23 Try.underlying5 Try.underlying9 (Kd.C_below HC4.out (below_alloc (Below.refl _ _) _))
    go_wp2_with fail
    (with_reducible refine (ref04_Get.calls z rk ri rc rs ra (strOfNums rb) re _ HFR.out).mono ?_)
    rintro e w5 ⟨rfl, hb5⟩
    have HX5 := Aside0.mk (blk_below (blk_new w4 (.cells #[.int .i64 rk, .int .i64 ri, .int .i64 rc, .int .u64 rs, .int .u32 ra, .slice A40 rb.length c40] 42)) hb5)
    have HB5 := Aside0.mk (below_step (below_alloc HB4.out _) hb5)
    have HC5 := Aside0.mk (Kd.C_below (Kd.C_below HC4.out (below_alloc (Below.refl _ _) _)) hb5)
    have HR5 := Aside0.mk (Kd.C_below (Kd.C_below HR4.out (below_alloc (Below.refl _ _) _)) hb5)
    clear hb5 hcv4
    go_upto_region 14 with fail
    have HZ6 := Aside0.mk (blk_new w5 (.cells #[.int .i64 rk, .int .i64 ri, .int .i64 rc, .int .u64 rs, .int .u32 ra, .string (strOfNums rb)] 49))
    have HX6 := Aside0.mk (blk_alloc HX5.out (.cells #[.int .i64 rk, .int .i64 ri, .int .i64 rc, .int .u64 rs, .int .u32 ra, .string (strOfNums rb)] 49))
    have HB6 := Aside0.mk (below_alloc HB5.out (.cells #[.int .i64 rk, .int .i64 ri, .int .i64 rc, .int .u64 rs, .int .u32 ra, .string (strOfNums rb)] 49))
    have HC6 := Aside0.mk (Kd.C_below HC5.out (below_alloc (Below.refl _ _) (.cells #[.int .i64 rk, .int .i64 ri, .int .i64 rc, .int .u64 rs, .int .u32 ra, .string (strOfNums rb)] 49)))
    have HR6 := Aside0.mk (Kd.C_below HR5.out (below_alloc (Below.refl _ _) (.cells #[.int .i64 rk, .int .i64 ri, .int .i64 rc, .int .u64 rs, .int .u32 ra, .string (strOfNums rb)] 49)))
    obtain ⟨w6, hw6⟩ : ∃ x, w5.alloc (.cells #[.int .i64 rk, .int .i64 ri, .int .i64 rc, .int .u64 rs, .int .u32 ra, .string (strOfNums rb)] 49) = x := ⟨_, rfl⟩
    simp only [hw6] at HZ6 HX6 HB6 HC6 HR6 ⊢
    clear hw6
    have hmk : ∀ W : World, Below w6.heap.size w6 W → (Below w6.heap.size w6 W ∧ W.cell? ⟨w4.heap.size, 0, none⟩ = some (.int .i64 rk) ∧ W.cell? ⟨w4.heap.size, 1, none⟩ = some (.int .i64 ri) ∧ W.cell? ⟨w4.heap.size, 2, none⟩ = some (.int .i64 rc) ∧ W.cell? ⟨w4.heap.size, 3, none⟩ = some (.int .u64 rs) ∧ W.cell? ⟨w4.heap.size, 4, none⟩ = some (.int .u32 ra) ∧ W.cell? ⟨w4.heap.size, 5, none⟩ = some (.slice A40 rb.length c40) ∧ W.cell? ⟨w5.heap.size, 0, none⟩ = some (.int .i64 rk) ∧ W.cell? ⟨w5.heap.size, 1, none⟩ = some (.int .i64 ri) ∧ W.cell? ⟨w5.heap.size, 2, none⟩ = some (.int .i64 rc) ∧ W.cell? ⟨w5.heap.size, 3, none⟩ = some (.int .u64 rs) ∧ W.cell? ⟨w5.heap.size, 4, none⟩ = some (.int .u32 ra) ∧ W.cell? ⟨w5.heap.size, 5, none⟩ = some (.string (strOfNums rb))) := fun W hb => ⟨hb, blk_cell (blk_below HX6.out hb) 0, blk_cell (blk_below HX6.out hb) 1, blk_cell (blk_below HX6.out hb) 2, blk_cell (blk_below HX6.out hb) 3, blk_cell (blk_below HX6.out hb) 4, blk_cell (blk_below HX6.out hb) 5, blk_cell (blk_below HZ6.out hb) 0, blk_cell (blk_below HZ6.out hb) 1, blk_cell (blk_below HZ6.out hb) 2, blk_cell (blk_below HZ6.out hb) 3, blk_cell (blk_below HZ6.out hb) 4, blk_cell (blk_below HZ6.out hb) 5⟩
    have HMK := Aside0.mk hmk
    clear hmk
    go_region_held3 (fun W => Below w6.heap.size w6 W ∧ W.cell? ⟨w4.heap.size, 0, none⟩ = some (.int .i64 rk) ∧ W.cell? ⟨w4.heap.size, 1, none⟩ = some (.int .i64 ri) ∧ W.cell? ⟨w4.heap.size, 2, none⟩ = some (.int .i64 rc) ∧ W.cell? ⟨w4.heap.size, 3, none⟩ = some (.int .u64 rs) ∧ W.cell? ⟨w4.heap.size, 4, none⟩ = some (.int .u32 ra) ∧ W.cell? ⟨w4.heap.size, 5, none⟩ = some (.slice A40 rb.length c40) ∧ W.cell? ⟨w5.heap.size, 0, none⟩ = some (.int .i64 rk) ∧ W.cell? ⟨w5.heap.size, 1, none⟩ = some (.int .i64 ri) ∧ W.cell? ⟨w5.heap.size, 2, none⟩ = some (.int .i64 rc) ∧ W.cell? ⟨w5.heap.size, 3, none⟩ = some (.int .u64 rs) ∧ W.cell? ⟨w5.heap.size, 4, none⟩ = some (.int .u32 ra) ∧ W.cell? ⟨w5.heap.size, 5, none⟩ = some (.string (strOfNums rb))) (first | exact HMK.out _ (below_drew1 (Below.refl _ _)) | exact HMK.out _ (below_step (And.left ‹_ ∧ _›) ‹Below (World.heap _).size _ _›))
      (first | (go_at_call 25; (with_reducible refine (frameOf_any _ _ _ _ _ _ _ _ _ (by exact Kd.C_below HR6.out (And.left ‹_ ∧ _›)) (by assumption)).mono ?_); rintro e w7 ⟨rfl, hb7⟩))
    have HS7 := Aside0.mk (And.left ‹_ ∧ _›)
    have HX7 := Aside0.mk (blk_below HX6.out HS7.out)
    have HB7 := Aside0.mk (below_step HB6.out HS7.out)
    have HC7 := Aside0.mk (Kd.C_below HC6.out HS7.out)
    have HR7 := Aside0.mk (Kd.C_below HR6.out HS7.out)
    clear HMK
    by_cases he : re = 0
    · subst he
      obtain ⟨f1, f2, f3, f4, f5, f6, f7⟩ := put_get S HS.out rk ri rc rs ra rb HG.out
      obtain ⟨ns, rfl⟩ := Int.eq_ofNat_of_zero_le f2
      obtain ⟨na, rfl⟩ := Int.eq_ofNat_of_zero_le f4
      rw [Int.toNat_natCast, Int.toNat_natCast] at f7
      have hP := put_f rk ri rc ns na rb (by omega) (by omega) f6
      rw [f1, if_pos rfl, f7] at hP
      have HP := Aside0.mk hP
      clear f1 f2 f3 f4 f5 f6 f7 hP
      have hx0 := blk_cell HX7.out 0; have hx1 := blk_cell HX7.out 1; have hx2 := blk_cell HX7.out 2; have hx3 := blk_cell HX7.out 3; have hx4 := blk_cell HX7.out 4; have hx5 := blk_cell HX7.out 5
      go_wp2_with fail
      (with_reducible refine (sector_Put.calls rk ri rc ns na A40 c40 rb S 0 w7 HR7.out hc40 HP.out).mono ?_)
      rintro e w8 ⟨v0, rfl, hro, hb8⟩
      obtain ⟨A60, c60, e60, hc60, hr60⟩ := Kd.R_reads hro
      subst e60
      have HB8 := Aside0.mk (below_step HB7.out hb8)
      have hv1 : (convert 23 9 (.slice A60 S.length c60)).run Try.prog w8 = .ok (.string z) w8 := by rw [← HZ.out]; exact Kd.C_string Try.underlying23 Try.underlying5 Try.underlying9 hr60
      have hv2 : (convert 23 9 (.slice A37 S.length c37)).run Try.prog w8 = .ok (.string z) w8 := by rw [← HZ.out]; exact Kd.C_string Try.underlying23 Try.underlying5 Try.underlying9 (Kd.C_below HC7.out hb8)
      clear hb8 hro hr60 hx0 hx1 hx2 hx3 hx4 hx5
      go_wp2
      go_ret
      exact ⟨rfl, HB8.out⟩
    · have hd9 : ((re : Int) != 0) = true := by simp [he]
      have HE := Aside0.mk he
      clear he
      go_wp2
      go_ret
      exact ⟨rfl, HB7.out⟩
set_option maxHeartbeats 1000000 in
set_option maxRecDepth 100000 in
theorem SectorGets_long (A : Option Addr) (c0 : Nat) (l : List Int) (b : Bool) (w : World) (hl : 200 < l.length) :
    Calls Try.prog 9 #[.slice A l.length c0, .bool b] w fun e w' => e = .returned (.bool true) ∧ Below w.heap.size w w' := by
  have hd1 : decide ((200 : Int) < (l.length : Int)) = true := decide_eq_true (by omega)
  go_enter Try.func9, Try.ntmps9
  go_wp2_with fail
  (with_reducible refine (awake04.calls true _ rfl).mono ?_)
  rintro e w2 ⟨rfl, hb2⟩
  have HB2 := Aside0.mk hb2
  clear hb2
  go_wp2
  go_ret
  exact ⟨rfl, HB2.out⟩
theorem SectorGets_walk (A : Option Addr) (cc : Nat) (l : List Int) (b : Bool) (W : World) (hr : Kd.C (Kd.int .u8) W A l.length l) (hcc : l.length ≤ cc) (ok : l.length ≤ maxLen ∧ ∀ x ∈ l, (Lit.int .u8 x).wf = true) :
    Calls Try.prog 9 #[.slice A l.length cc, .bool b] W fun e W' => e = .returned (.bool true) ∧ Below W.heap.size W W' := by
  by_cases hl : l.length ≤ 200
  · exact SectorGets_any A cc l b W hr hcc (bytesB_of_wf l ok.2) hl
  · exact SectorGets_long A cc l b W (by omega)
end Go.Proofs.Ytelhdgnolijpcaa.Hm
end
section
/- What a value that came in holds, kind by kind: an argument of any type of whole numbers, bools, strings, slices and structs is opened to a plain value; conditions: those that each theorem names. -/
namespace Go.Proofs.Ytelhdgnolijpcaa.Hm
open Go.RowKit Go.ChangeShapes Go.WideShapes Go.Deep Go.Proofs.YtelhdgnolijpcaaW.PrintWords Go.Proofs.YtelhdgnolijpcaaW.PrintLast Go.Proofs.YtelhdgnolijpcaaW.PrintMore
set_option linter.unusedVariables false
set_option linter.unusedSimpArgs false

/-- Whatever is read at type t is a value of the kind d, of which ok holds. -/
def Opens (P : Program) (t : TypeId) {α : Type} (d : Kd α) (ok : α → Prop) : Prop :=
  ∀ (H : Type) (enc : TypeId × Value → H) (w : World) (base : Nat) (spare : Nat → Bool) (held : Bool) (fuel : Nat) (cs : List Value) (x : DataW H × List MemPlace),
    DataW.trod enc P w base spare held fuel t cs = some x → ∃ a, d.K w a cs ∧ ok a
theorem opens_int {P : Program} {t : TypeId} {k : IntKind} (ht : P.underlying t = some (.int k)) : Opens P t (Kd.int k) (fun n => (Lit.int k n).wf = true) := by
  intro H enc w base spare held fuel cs x h
  obtain ⟨n, rfl, _, hw⟩ := DataW.trod_int ht h
  exact ⟨n, rfl, hw⟩
theorem opens_bool {P : Program} {t : TypeId} (ht : P.underlying t = some .bool) : Opens P t Kd.bool (fun _ => True) := by
  intro H enc w base spare held fuel cs x h
  obtain ⟨b, rfl, _⟩ := DataW.trod_bool ht h
  exact ⟨b, rfl, trivial⟩
theorem opens_string {P : Program} {t : TypeId} (ht : P.underlying t = some .string) : Opens P t Kd.string (fun s => s.size ≤ maxLen) := by
  intro H enc w base spare held fuel cs x h
  obtain ⟨s, rfl, _, hs⟩ := DataW.trod_string ht h
  exact ⟨s, rfl, hs⟩
theorem exists_list {α : Type} {p : Nat → α → Prop} (n : Nat) (h : ∀ i, i < n → ∃ x, p i x) : ∃ l : List α, l.length = n ∧ ∀ i x, l[i]? = some x → p i x := by
  induction n with
  | zero => exact ⟨[], rfl, fun i x hx => by simp at hx⟩
  | succ n ih =>
    obtain ⟨l, hl, hp⟩ := ih (fun i hi => h i (by omega))
    obtain ⟨y, hy⟩ := h n (by omega)
    refine ⟨l ++ [y], by simp [hl], fun i x hx => ?_⟩
    rcases Nat.lt_or_ge i n with hi | hi
    · rw [List.getElem?_append_left (by omega)] at hx
      exact hp i x hx
    · have hi2 : i = n := by
        have := (List.getElem?_eq_some_iff.1 hx).1
        rw [List.length_append, hl, List.length_singleton] at this
        omega
      subst hi2
      rw [List.getElem?_append_right (by omega), hl, Nat.sub_self] at hx
      obtain rfl : y = x := by simpa using hx
      exact hy
theorem opens_slice {P : Program} {t e : TypeId} {α : Type} {d : Kd α} {ok : α → Prop} (e' : Nat) (ht : P.underlying t = some (.slice e)) (hc : P.cellsOf e = d.sz) (h : Opens P e d ok) :
    Opens P t (Kd.slice e' d) (fun l => l.length ≤ maxLen ∧ ∀ x ∈ l, ok x) := by
  intro H enc w base spare held fuel cs x hx
  rcases open_slice ht hx with ⟨rfl, _⟩ | ⟨a, len, cap, m, n, D, Pl, rfl, _, hl, hm, hmm, _, hi⟩
  · refine ⟨[], ⟨none, 0, rfl, Nat.le_refl _, ⟨rfl, by simp, fun h0 => by simp at h0⟩⟩, by simp, fun x hx => by simp at hx⟩
  · have hlm : len ≤ m := by rw [hmm]; split <;> omega
    obtain ⟨l, hll, hp⟩ := exists_list (p := fun i y => ok y ∧ ∃ cs', d.K w y cs' ∧ w.cells? base (a.add (i * P.cellsOf e)) (P.cellsOf e) = some cs') len (fun i hil => by
      obtain ⟨cs', hcs, htr⟩ := hi i (by omega)
      obtain ⟨y, hy, hoky⟩ := h H enc w base spare held n cs' _ htr
      exact ⟨y, hoky, cs', hy, hcs⟩)
    refine ⟨l, ⟨some a, cap, by rw [hll], by omega, ⟨rfl, by rw [hll]; simp only [maxLen] at hm; omega, fun _ => ⟨a, rfl, fun j p hj => ?_⟩⟩⟩, by rw [hll]; omega, fun x hx => ?_⟩
    · obtain ⟨_, cs', hK, hcs⟩ := hp j p hj
      refine ⟨cs', d.K_len hK, hK, fun i u hu => ?_⟩
      obtain ⟨_, hcl, hat⟩ := World.cells?_some hcs
      have hiu := (List.getElem?_eq_some_iff.1 hu).1
      have := hat i (by omega)
      rw [Go.Deep.add_add, hc] at this
      rw [this, hu]
    · obtain ⟨i, hil, rfl⟩ := List.mem_iff_getElem.1 hx
      exact (hp i _ (List.getElem?_eq_getElem hil)).1
/-- The cells of fields, one behind the other. -/
def Fields (P : Program) (H : Type) (enc : TypeId × Value → H) (w : World) (base : Nat) (spare : Nat → Bool) (held : Bool) (n : Nat) : List TypeId → List Value → Prop
  | [], cs => cs = []
  | t :: ts, cs => ∃ c1 c2, cs = c1 ++ c2 ∧ (∃ y, DataW.trod enc P w base spare held n t c1 = some y) ∧ Fields P H enc w base spare held n ts c2
def laidFrom (P : Program) (total : Nat) : Nat → List Field → Bool
  | o, [] => decide (o = total)
  | o, f :: l => decide (f.offset = o) && laidFrom P total (o + P.cellsOf f.type) l
def OpensF (P : Program) (ts : List TypeId) {α : Type} (d : Kd α) (ok : α → Prop) : Prop :=
  ∀ (H : Type) (enc : TypeId × Value → H) (w : World) (base : Nat) (spare : Nat → Bool) (held : Bool) (n : Nat) (cs : List Value),
    Fields P H enc w base spare held n ts cs → ∃ a, d.K w a cs ∧ ok a
theorem opensF_one {P : Program} {t : TypeId} {α : Type} {d : Kd α} {ok : α → Prop} (h : Opens P t d ok) : OpensF P [t] d ok := by
  rintro H enc w base spare held n cs ⟨c1, c2, rfl, ⟨y, hy⟩, rfl⟩
  rw [List.append_nil]
  exact h H enc w base spare held n c1 y hy
theorem opensF_cons {P : Program} {t : TypeId} {ts : List TypeId} {α β : Type} {d : Kd α} {d' : Kd β} {ok : α → Prop} {ok' : β → Prop} (h : Opens P t d ok) (h' : OpensF P ts d' ok') :
    OpensF P (t :: ts) (Kd.pair d d') (fun x => ok x.1 ∧ ok' x.2) := by
  rintro H enc w base spare held n cs ⟨c1, c2, rfl, ⟨y, hy⟩, hf⟩
  obtain ⟨a, ha, hoa⟩ := h H enc w base spare held n c1 y hy
  obtain ⟨b, hb, hob⟩ := h' H enc w base spare held n c2 hf
  exact ⟨(a, b), ⟨c1, c2, rfl, ha, hb⟩, hoa, hob⟩
theorem fields_from {P : Program} {H : Type} {enc : TypeId × Value → H} {w : World} {base : Nat} {spare : Nat → Bool} {held : Bool} {n total : Nat} {cs : List Value} (hcs : cs.length = total) (l : List Field) :
    ∀ o, laidFrom P total o l = true → (∀ f ∈ l, ∃ y, DataW.trod enc P w base spare held n f.type ((cs.drop f.offset).take (P.cellsOf f.type)) = some y) → Fields P H enc w base spare held n (l.map (·.type)) (cs.drop o) := by
  induction l with
  | nil =>
    intro o ho _
    have : o = total := by simpa [laidFrom] using ho
    show cs.drop o = []
    exact List.drop_eq_nil_of_le (by omega)
  | cons f l ih =>
    intro o ho hf
    simp only [laidFrom, Bool.and_eq_true, decide_eq_true_eq] at ho
    obtain ⟨y, hy⟩ := hf f (by simp)
    refine ⟨(cs.drop o).take (P.cellsOf f.type), cs.drop (o + P.cellsOf f.type), ?_, ⟨y, by rw [← ho.1]; exact hy⟩, ih _ ho.2 (fun g hg => hf g (by simp [hg]))⟩
    rw [← List.drop_drop, List.take_append_drop]
theorem opens_struct {P : Program} {t : TypeId} {fs : Array Field} {α β : Type} {d : Kd α} {ok : α → Prop} (f : β → α) (g : α → β) (hfg : ∀ a, f (g a) = a) (ht : P.underlying t = some (.struct fs))
    (hl : laidFrom P (P.cellsOf t) 0 fs.toList = true) (h : OpensF P (fs.toList.map (·.type)) d ok) : Opens P t (Kd.iso d f) (fun b => ok (f b)) := by
  intro H enc w base spare held fuel cs x hx
  obtain ⟨xs, n, _, _, hcs, hxl, hat⟩ := DataW.trod_struct ht hx
  have hF := fields_from (P := P) (enc := enc) (w := w) (base := base) (spare := spare) (held := held) (n := n) hcs fs.toList 0 hl (fun q hq => by
    obtain ⟨i, hi, rfl⟩ := List.mem_iff_getElem.1 hq
    have hi' : i < fs.size := by simpa using hi
    have := hat i fs[i] (Array.getElem?_eq_getElem hi')
    rw [List.getElem?_eq_getElem (by omega)] at this
    exact ⟨_, by simpa using this⟩)
  obtain ⟨a, ha, hoa⟩ := h H enc w base spare held n _ hF
  rw [List.drop_zero] at ha
  exact ⟨g a, by show d.K w (f (g a)) cs; rw [hfg]; exact ha, by show ok (f (g a)); rw [hfg]; exact hoa⟩
end Go.Proofs.Ytelhdgnolijpcaa.Hm
end
section
/- The row of the statement SectorGets: it holds as given, out of the walk of its Go function; no condition. -/
namespace Go.Proofs.Ytelhdgnolijpcaa.sectorGets
open Go.ChangeShapes Go.WideShapes Go.ChangeAt Go.RowKit
open Go.ChangeMaps (open_string shut_string)
open Go.Proofs.YtelhdgnolijpcaaW.PrintWords
set_option linter.unusedVariables false
theorem own : ownKnob Try.prog.godebug = none := by kernel_rfl
theorem laidOut : laidOutB Try.prog = true := by kernel_rfl
set_option maxRecDepth 100000 in
theorem lifted (os : Os) (started : os.Started) (H : Type) (enc : TypeId × Value → H) :
    ReturnsInHanded {} Try.checked os 9 .any (Rows.sectorGetsSpec.pre6 enc Try.prog Try.f9 Rows.sectorGetsRow.domain false) (Rows.sectorGetsSpec.post enc Try.prog Try.f9 false true false false) := by
  refine returnsInHanded_of_change_sized (C := Try.checked) own started (by kernel_rfl) Try.func9
    (ChangeSpec.witness6 (enc := enc) (C := Try.checked) false ⟨#[], #[.slice none 0 0, .bool false], []⟩ 8 (by kernel_rfl) (by kernel_rfl) (by kernel_rfl) (by kernel_rfl)) ?_
  intro W base args ds gs before hval0 hW hcnd hsz0 _
  have hsz : (DataW.weightsEach Try.prog (Try.f9.params.toList ++ Rows.sectorGetsSpec.plain.varTypes Try.prog) (ds ++ gs)).all (· ≤ reachBytes) = true := hsz0
  have hval : ∀ (j : Nat) t v, Try.f9.params[j]? = some t → args[j]? = some v → Value.okWide Try.prog W .any base t v := hval0
  have hW' := hW
  obtain ⟨p, q, hA0, hV, rfl, hfz, hnd⟩ := hW
  have hA : DataW.TrodAll enc Try.prog W 0 (fun _ => true) true Try.f9.params.toList args.toList ds p := hA0
  rw [Try.params9] at hA hval hsz
  obtain ⟨v0, vs0, d0, ds0, p0, q0, hargs, rfl, rfl, h0, r0⟩ := trodAll_cons hA
  obtain ⟨v1, vs1, d1, ds1, p1, q1, rfl, rfl, rfl, h1, r1⟩ := trodAll_cons r0
  obtain ⟨rfl, rfl, rfl⟩ := trodAll_nil r1
  obtain rfl : args = #[v0, v1] := by cases args; simp_all
  obtain ⟨rfl, rfl⟩ := trodVars_none hV
  have k0 := h0
  have lt0 : ∀ x ∈ p0, x.block < W.heap.size := by obtain ⟨m, hm⟩ := k0; exact DataW.trod_lt m _ _ _ hm
  obtain ⟨A0, len0, c0, rfl⟩ := okWide_slice Try.underlying23 (hval 0 23 v0 rfl rfl)
  obtain ⟨fuel0, hf0⟩ := h0
  obtain ⟨l0, ⟨B0, b0, he0, hc0, hr0⟩, w0⟩ := (Hm.opens_slice 5 Try.underlying23 (by kernel_rfl) (Hm.opens_int Try.underlying5)) H enc W 0 _ true fuel0 _ _ hf0
  obtain ⟨rfl, rfl, rfl⟩ : A0 = B0 ∧ len0 = l0.length ∧ c0 = b0 := by simpa [Value.cells] using he0
  obtain ⟨a1, rfl, rfl, rfl⟩ := open_bool Try.underlying4 (hval 1 4 v1 rfl rfl) h1
  clear hA0 hval0 hsz0 hsz
  refine (Hm.SectorGets_walk A0 c0 l0 a1 W hr0 hc0 w0).mono fun e W' ⟨he, bel⟩ => ?_
  subst he
  exact ⟨_, rfl, _, _, _, [], _, [], hW', trodAll_mk1 (shut_bool Try.underlying4 _), (trodAll_cons_mk (Below.trod laidOut (by kernel_rfl) (of_decide_eq_true (by kernel_rfl)) k0 bel lt0) (trodAll_cons_mk (shut_bool Try.underlying4 _) trodAll_mk0)), rfl, bel.frame _, fun h => by cases h⟩
theorem over : Rows.sectorGetsRow.holds Try.pinned (OpenSpec.ofChange Rows.sectorGetsSpec) :=
  OpenClaim.holds_of_wide 9 Try.f9 rfl rfl rfl rfl rfl rfl rfl ⟨rfl, rfl, rfl, rfl, rfl⟩ rfl rfl rfl rfl rfl (by kernel_rfl) Try.func9 (by kernel_rfl)
    (of_decide_eq_true (by kernel_rfl)) (by unfold Func.isWrapper; first | (rw [if_pos (by decide +kernel)]; kernel_rfl) | (rw [if_neg (by decide +kernel)]; exact ⟨rfl, rfl⟩))
    (fun os started H enc _ => lifted os started H enc)
theorem proved : Rows.SectorGetsSaid := over
#print axioms proved
end Go.Proofs.Ytelhdgnolijpcaa.sectorGets
namespace Go.Proofs.Ytelhdgnolijpcaa
/-- The row, under a short name, for the claim. -/
theorem sectorGets_holds : Rows.SectorGetsSaid := sectorGets.proved
end Go.Proofs.Ytelhdgnolijpcaa
end
