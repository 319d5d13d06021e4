/- The Go functions slices.Equal (of bytes) and crc.Right return what plain Lean functions of lists compute; conditions: the numbers are bytes, the lengths fit. -/
import Derived.Test.YtelhdgnolijpcaaHcrcC
namespace Go.Proofs.Ytelhdgnolijpcaa.Hm
open Go.RowKit Go.Proofs.YtelhdgnolijpcaaW.PrintWords Go.Proofs.YtelhdgnolijpcaaW.PrintLast Go.Proofs.YtelhdgnolijpcaaW.PrintMore
set_option linter.unusedVariables false
set_option linter.unusedSimpArgs false

theorem rd_at (l : List Int) (k : Nat) (h : k < l.length) : rd l (k : Int) = l[k] := by simp [rd, h]
theorem eq_of_take (l m : List Int) (he : l.length = m.length) (h : l.take l.length = m.take l.length) : l = m := by
  rw [List.take_length] at h
  rw [h, he, List.take_length]
theorem take_snoc_eq (l m : List Int) (k : Nat) (h1 : k < l.length) (h2 : k < m.length) (h : l.take k = m.take k) (hr : rd l k = rd m k) : l.take (k + 1) = m.take (k + 1) := by
  rw [List.take_succ_eq_append_getElem h1, List.take_succ_eq_append_getElem h2, h, ← rd_at l k h1, ← rd_at m k h2, hr]
theorem ne_of_rd (l m : List Int) (k : Nat) (hr : ¬ rd l k = rd m k) : ¬ l = m := fun e => hr (by rw [e])

/-- slices.Equal of bytes. -/
def slices_Equal.f (l m : List Int) : Option Bool := some (decide (l = m))
set_option maxHeartbeats 1000000 in
theorem slices_Equal.calls (A0 : Option Addr) (c0 : Nat) (l0 : List Int) (A1 : Option Addr) (c1 : Nat) (l1 : List Int) (r : Bool) (w : World) (hr0 : Kd.C (Kd.int .u8) w A0 l0.length l0) (hc0 : l0.length ≤ c0)
    (hr1 : Kd.C (Kd.int .u8) w A1 l1.length l1) (hc1 : l1.length ≤ c1) (h : slices_Equal.f l0 l1 = some r) :
    Calls Try.prog 31 #[.slice A0 l0.length c0, .slice A1 l1.length c1] w fun e w' => e = .returned (.bool r) ∧ Drawn0 w w' := by
  unfold slices_Equal.f at h
  obtain rfl := Option.some.inj h
  clear h
  have HR0 := Aside0.mk hr0
  have HR1 := Aside0.mk hr1
  have hm := Kd.C_max hr0
  clear hr0 hr1
  by_cases he : l0.length = l1.length
  · have he0 : ((l0.length : Int) != (l1.length : Int)) = false := by simp [he]
    have he1 : (l0.length != l1.length) = false := by simp [he]
    have HE := Aside0.mk he
    clear he
    go_enter Try.func31, Try.ntmps31
    go_wp2
    go_loopg [13] l0.length (fun kq v13 w' => ∃ k : Nat, k + kq = l0.length ∧ v13 = .int .i64 k ∧ Aside0 (l0.take k = l1.take k) ∧ Drawn0 w w')
    case atStart => exact ⟨0, by omega, rfl, ⟨rfl⟩, Drawn0.refl _⟩
    case round =>
      obtain ⟨k, hk, rfl, HT, ⟨m1, rfl⟩⟩ := hrel
      by_cases hlt : k < l0.length
      · have hd : decide ((k : Int) < (l0.length : Int)) = true := decide_eq_true (by omega)
        have hlt1 : k < l1.length := by have := HE.out; omega
        obtain ⟨ad0, hA0, hcell0⟩ := Kd.at_int HR0.out (k : Int) (by omega) (by omega)
        obtain ⟨ad1, hA1, hcell1⟩ := Kd.at_int HR1.out (k : Int) (by omega) (by omega)
        subst hA0 hA1
        rw [Int.toNat_natCast] at hcell0 hcell1
        have p0 : (0 : Int) ≤ (k : Int) := by omega
        have p1 : (k : Int) < (l0.length : Int) := by omega
        have p2 : (k : Int) < (l1.length : Int) := by omega
        by_cases hq : rd l0 (k : Int) = rd l1 (k : Int)
        · have hq0 : (rd l0 (k : Int) != rd l1 (k : Int)) = false := by simp [hq]
          have HQ := Aside0.mk hq
          clear hq
          go_wp2
          go_quiet (fail)
          go_wp2
          go_roundg (l0.length - k - 1)
          case measure => omega
          case rel => exact ⟨k + 1, by omega, by go_num, ⟨take_snoc_eq _ _ _ hlt hlt1 HT.out HQ.out⟩, by repeat (first | exact Drawn0.refl _ | apply Drawn0.step)⟩
        · have hq0 : (rd l0 (k : Int) != rd l1 (k : Int)) = true := by simp [hq]
          have HQ := Aside0.mk hq
          clear hq
          go_wp2
          go_quiet (fail)
          go_wp2
          go_ret
          refine ⟨?_, by repeat (first | exact Drawn0.refl _ | apply Drawn0.step)⟩
          rw [decide_eq_false (ne_of_rd _ _ _ HQ.out)]
          rfl
      · have hd : decide ((k : Int) < (l0.length : Int)) = false := decide_eq_false (by omega)
        have hk' : k = l0.length := by omega
        subst hk'
        go_wp2
        go_ret
        refine ⟨?_, by repeat (first | exact Drawn0.refl _ | apply Drawn0.step)⟩
        rw [decide_eq_true (eq_of_take _ _ HE.out HT.out)]
        rfl
  · have he0 : ((l0.length : Int) != (l1.length : Int)) = true := by simp; omega
    have he1 : (l0.length != l1.length) = true := by simp [he]
    have HE := Aside0.mk (show ¬ l0 = l1 from fun e => he (by rw [e]))
    clear he
    go_enter Try.func31, Try.ntmps31
    go_wp2
    go_ret
    refine ⟨?_, by repeat (first | exact Drawn0.refl _ | apply Drawn0.step)⟩
    rw [decide_eq_false HE.out]
    rfl
end Go.Proofs.Ytelhdgnolijpcaa.Hm
