/- The Go function crc.Right returns what the plain Lean function rightB of a list computes; conditions: the numbers are bytes, the length fits. -/
import Derived.Test.YtelhdgnolijpcaaHcrcD
namespace Go.Proofs.Ytelhdgnolijpcaa.Hm
open Go.RowKit Go.Proofs.YtelhdgnolijpcaaW.PrintWords Go.Proofs.YtelhdgnolijpcaaW.PrintLast Go.Proofs.YtelhdgnolijpcaaW.PrintMore
set_option linter.unusedVariables false
set_option linter.unusedSimpArgs false

def rightB (l : List Int) : Bool := decide (4 ≤ l.length) && decide (l.take (l.length - 4) ++ be32 (crcM 0 (l.take (l.length - 4))) = l)
/-- crc.Right. -/
def crc_Right.f (l : List Int) : Option Bool := if bytesB l = true ∧ l.length ≤ 140737488355000 then some (rightB l) else none
theorem bytesB_take (l : List Int) (k : Nat) (h : bytesB l = true) : bytesB (l.take k) = true := (bytesB_iff _).2 fun x hx => (bytesB_iff l).1 h x (List.mem_of_mem_take hx)
theorem C_take {w : World} {A : Option Addr} {l : List Int} (h : Kd.C (Kd.int .u8) w A l.length l) (k : Nat) (hk : k ≤ l.length) : Kd.C (Kd.int .u8) w A (l.take k).length (l.take k) := by
  have h1 := Kd.C_of_reads (d := (0 : Int)) (h1 := fun _ => rfl) (ReadsInt.take_ (Kd.reads_of_C (d := (0 : Int)) h) k hk)
  rwa [show (l.take k).length = k by rw [List.length_take]; omega]
set_option maxHeartbeats 1000000 in
theorem crc_Right.calls (A0 : Option Addr) (c0 : Nat) (l0 : List Int) (r : Bool) (w : World) (hr0 : Kd.C (Kd.int .u8) w A0 l0.length l0) (hc0 : l0.length ≤ c0) (h : crc_Right.f l0 = some r) :
    Calls Try.prog 20 #[.slice A0 l0.length c0] w fun e w' => e = .returned (.bool r) ∧ Below w.heap.size w w' := by
  unfold crc_Right.f at h
  split at h
  · rename_i hc
    obtain rfl := Option.some.inj h
    obtain ⟨hb, hl⟩ := hc
    have HR := Aside0.mk hr0
    have HB0 := Aside0.mk hb
    clear hr0 h hb
    by_cases h4 : 4 ≤ l0.length
    · have hd : decide ((0 : Int) ≤ (l0.length : Int) - 4) = true := decide_eq_true (by omega)
      go_enter Try.func20, Try.ntmps20
      go_wp2_with fail
      obtain ⟨y, hY⟩ : ∃ y, l0.take (l0.length - 4) ++ be32 (crcM 0 (l0.take (l0.length - 4))) = y := ⟨_, rfl⟩
      have hlen : (l0.take (l0.length - 4)).length = l0.length - 4 := by rw [List.length_take]; omega
      have hs := crc_Sealed.calls A0 (l0.length - 4) (l0.take (l0.length - 4)) y w (C_take HR.out _ (by omega)) (by omega) (by unfold crc_Sealed.f; rw [if_pos ⟨bytesB_take _ _ HB0.out, by omega⟩, hY])
      have HY := Aside0.mk hY
      clear hY
      rw [hlen] at hs
      refine hs.mono ?_
      rintro e w1 ⟨v14, rfl, hro, hb1⟩
      obtain ⟨A14, c14, e14, hc14, hr14⟩ := Kd.R_reads hro
      subst e14
      have HR14 := Aside0.mk hr14
      have HB1 := Aside0.mk hb1
      clear hr14 hb1 hro hs hlen
      go_wp2_with fail
      refine (slices_Equal.calls A14 c14 y A0 c0 l0 _ w1 HR14.out hc14 (Kd.C_below HR.out HB1.out) hc0 rfl).mono ?_
      rintro e w2 ⟨rfl, hd2⟩
      have HB2 := Aside0.mk (below_then HB1.out HB1.out.size hd2.below)
      clear hd2
      go_wp2
      go_ret
      refine ⟨?_, HB2.out⟩
      rw [rightB, decide_eq_true h4, HY.out]
      rfl
    · have hd : decide ((0 : Int) ≤ (l0.length : Int) - 4) = false := decide_eq_false (by omega)
      go_enter Try.func20, Try.ntmps20
      go_wp2
      go_ret
      refine ⟨?_, Below.refl _ _⟩
      rw [rightB, decide_eq_false h4]
      rfl
  · cases h
end Go.Proofs.Ytelhdgnolijpcaa.Hm
