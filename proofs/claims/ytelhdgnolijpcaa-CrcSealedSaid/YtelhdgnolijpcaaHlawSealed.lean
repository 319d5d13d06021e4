/- The Go function CrcSealed of the package's law 2 returns true and leaves what was there: whatever bytes come in. -/
import Derived.Test.YtelhdgnolijpcaaHburst
import Derived.Test.YtelhdgnolijpcaaHawk02
namespace Go.Proofs.Ytelhdgnolijpcaa.Hm
open Go.RowKit Go.Proofs.YtelhdgnolijpcaaW.PrintWords Go.Proofs.YtelhdgnolijpcaaW.PrintLast Go.Proofs.YtelhdgnolijpcaaW.PrintMore
set_option linter.unusedVariables false
set_option linter.unusedSimpArgs false

theorem C_pre {w : World} {A : Option Addr} {l : List Int} (h : Kd.C (Kd.int .u8) w A l.length l) (p : List Int) (hp : l.take p.length = p) (hk : p.length ≤ l.length) : Kd.C (Kd.int .u8) w A p.length p := by
  have := C_take h p.length hk
  rwa [hp] at this
set_option maxHeartbeats 2000000 in
set_option maxRecDepth 100000 in
theorem CrcSealed_any (A0 : Option Addr) (c0 : Nat) (l0 : List Int) (w : World) (hr0 : Kd.C (Kd.int .u8) w A0 l0.length l0) (hc0 : l0.length ≤ c0) (hb : bytesB l0 = true) :
    Calls Try.prog 6 #[.slice A0 l0.length c0] w fun e w' => e = .returned (.bool true) ∧ Below w.heap.size w w' := by
  have HR := Aside0.mk hr0
  have HBy := Aside0.mk hb
  clear hr0 hb
  by_cases hlen : l0.length ≤ 300
  · have hd : decide ((300 : Int) < (l0.length : Int)) = false := decide_eq_false (by omega)
    obtain ⟨y, hY⟩ : ∃ y, l0 ++ be32 (crcM 0 l0) = y := ⟨_, rfl⟩
    obtain ⟨z, hZ⟩ : ∃ z, y ++ be32 (crcM 0 y) = z := ⟨_, rfl⟩
    have hyl : y.length = l0.length + 4 := by rw [← hY]; simp [be32]
    have hzl : z.length = y.length + 4 := by rw [← hZ]; simp [be32]
    have hyr : rightB y = true := by rw [← hY]; exact right_sealed l0
    have hzr : rightB z = true := by rw [← hZ]; exact right_sealed y
    have hyb : bytesB y = true := by
      have hx := crcM_range 0 l0 (by omega) (by omega) ((bytesB_iff l0).1 HBy.out)
      rw [← hY, bytesB_append, HBy.out, bytesB_be32 _ hx.1 hx.2]; rfl
    have hzb : bytesB z = true := by
      have hx := crcM_range 0 y (by omega) (by omega) ((bytesB_iff y).1 hyb)
      rw [← hZ, bytesB_append, hyb, bytesB_be32 _ hx.1 hx.2]; rfl
    have HS1 := Aside0.mk (show crc_Sealed.f l0 = some y by unfold crc_Sealed.f; rw [if_pos ⟨HBy.out, by omega⟩, hY])
    have HS2 := Aside0.mk (show crc_Sealed.f y = some z by unfold crc_Sealed.f; rw [if_pos ⟨hyb, by omega⟩, hZ])
    have HRY := Aside0.mk (show crc_Right.f y = some true by unfold crc_Right.f; rw [if_pos ⟨hyb, by omega⟩, hyr])
    have HRZ := Aside0.mk (show crc_Right.f z = some true by unfold crc_Right.f; rw [if_pos ⟨hzb, by omega⟩, hzr])
    have HTY := Aside0.mk (show z.take y.length = y by rw [← hZ]; exact List.take_left' rfl)
    have HTL := Aside0.mk (show z.take l0.length = l0 by rw [← hZ, ← hY, List.append_assoc]; exact List.take_left' rfl)
    have HYL := Aside0.mk hyl
    have HZL := Aside0.mk hzl
    have b1 : 4 ≤ y.length := by omega
    have b2 : y.length ≤ 304 := by omega
    have b3 : 8 ≤ z.length := by omega
    have b4 : z.length ≤ 308 := by omega
    clear hyl hzl hyr hzr hyb hzb hY hZ
    go_enter Try.func6, Try.ntmps6
    go_wp2_with fail
    refine (awake02.calls true w rfl).mono ?_
    rintro e w1 ⟨rfl, hb1⟩
    have HB1 := Aside0.mk hb1
    clear hb1
    go_wp2_with fail
    refine (crc_Sealed.calls A0 c0 l0 y w1 (Kd.C_below HR.out HB1.out) hc0 HS1.out).mono ?_
    rintro e w2 ⟨v15, rfl, hro, hb2⟩
    obtain ⟨A15, c15, e15, hc15, hr15⟩ := Kd.R_reads hro
    subst e15
    have HC15 := Aside0.mk hr15
    have HB2 := Aside0.mk (below_then HB1.out HB1.out.size hb2)
    clear hro hr15 hb2 HB1
    go_wp2_with fail
    refine (crc_Sealed.calls A15 c15 y z w2 HC15.out hc15 HS2.out).mono ?_
    rintro e w3 ⟨v16, rfl, hro, hb3⟩
    obtain ⟨A16, c16, e16, hc16, hr16⟩ := Kd.R_reads hro
    subst e16
    have HC16 := Aside0.mk hr16
    have HB3 := Aside0.mk (below_then HB2.out HB2.out.size hb3)
    clear hro hr16 hb3 HB2 HC15
    go_wp2_with fail
    refine (crc_Right.calls A16 c16 z true w3 HC16.out hc16 HRZ.out).mono ?_
    rintro e w4 ⟨rfl, hb4⟩
    have HC4 := Aside0.mk (Kd.C_below HC16.out hb4)
    have HB4 := Aside0.mk (below_then HB3.out HB3.out.size hb4)
    clear hb4 HB3 HC16
    have hdz : decide ((4 : Int) ≤ (z.length : Int)) = true := decide_eq_true (by omega)
    have hz4 : (z.length : Int) - 4 = (y.length : Int) := by have := HZL.out; omega
    go_wp2_with fail
    refine (crc_Right.calls A16 c16 y true w4 (C_pre HC4.out y HTY.out (by omega)) (by omega) HRY.out).mono ?_
    rintro e w5 ⟨rfl, hb5⟩
    have HC5 := Aside0.mk (Kd.C_below HC4.out hb5)
    have HB5 := Aside0.mk (below_then HB4.out HB4.out.size hb5)
    clear hb5 HB4 HC4
    have hcut : (0 : Int) ≤ (l0.length : Int) := by omega
    have hcut2 : (l0.length : Int) ≤ (z.length : Int) := by have := HZL.out; have := HYL.out; omega
    have hq : ((z.length : Int) == (l0.length : Int) + 8) = true := by have := HZL.out; have := HYL.out; simp; omega
    have hw5 : ∀ W : World, Below w5.heap.size w5 W → Kd.C (Kd.int .u8) W A16 l0.length l0 ∧ Kd.C (Kd.int .u8) W A0 l0.length l0 := fun W hb => ⟨Kd.C_below (C_pre HC5.out l0 HTL.out (by have := HZL.out; have := HYL.out; omega)) hb, Kd.C_below (Kd.C_below HR.out HB5.out) hb⟩
    have HW5 := Aside0.mk hw5
    clear hw5
    by_cases h5 : l0.length < 4
    · have hd5 : decide ((l0.length : Int) < 4) = true := decide_eq_true (by omega)
      have HRL := Aside0.mk (show crc_Right.f l0 = some false by unfold crc_Right.f rightB; rw [if_pos ⟨HBy.out, by omega⟩, decide_eq_false (by omega)]; rfl)
      have H5 := Aside0.mk h5
      clear h5
      go_wp2_with fail
      refine (crc_Right.calls A0 c0 l0 false w5 (HW5.out w5 (Below.refl _ _)).2 hc0 HRL.out).mono ?_
      rintro e w6 ⟨rfl, hb6⟩
      have HB6 := Aside0.mk (below_then HB5.out HB5.out.size hb6)
      have hv1 : ∀ nq : Nat, (convert 23 9 (.slice A16 l0.length c16)).run Try.prog (w6.drewN nq) = .ok (.string (strOfNums l0)) (w6.drewN nq) := fun nq => Kd.C_string Try.underlying23 Try.underlying5 Try.underlying9 (Kd.C_drewN (HW5.out w6 hb6).1 nq)
      have hv2 : ∀ nq : Nat, (convert 23 9 (.slice A0 l0.length c0)).run Try.prog (w6.drewN nq) = .ok (.string (strOfNums l0)) (w6.drewN nq) := fun nq => Kd.C_string Try.underlying23 Try.underlying5 Try.underlying9 (Kd.C_drewN (HW5.out w6 hb6).2 nq)
      clear hb6
      go_wp2
      go_quiet (fail)
      go_wp2
      go_ret
      exact ⟨by simp, pw_below_drewN HB6.out _⟩
    · have hd5 : decide ((l0.length : Int) < 4) = false := decide_eq_false (by omega)
      have H5 := Aside0.mk h5
      clear h5
      have hv1 : ∀ nq : Nat, (convert 23 9 (.slice A16 l0.length c16)).run Try.prog (w5.drewN nq) = .ok (.string (strOfNums l0)) (w5.drewN nq) := fun nq => Kd.C_string Try.underlying23 Try.underlying5 Try.underlying9 (Kd.C_drewN (HW5.out w5 (Below.refl _ _)).1 nq)
      have hv2 : ∀ nq : Nat, (convert 23 9 (.slice A0 l0.length c0)).run Try.prog (w5.drewN nq) = .ok (.string (strOfNums l0)) (w5.drewN nq) := fun nq => Kd.C_string Try.underlying23 Try.underlying5 Try.underlying9 (Kd.C_drewN (HW5.out w5 (Below.refl _ _)).2 nq)
      go_wp2
      go_quiet (fail)
      go_wp2
      go_ret
      exact ⟨by simp, pw_below_drewN HB5.out _⟩
  · have hd : decide ((300 : Int) < (l0.length : Int)) = true := decide_eq_true (by omega)
    go_enter Try.func6, Try.ntmps6
    go_wp2_with (go_at_call 13; refine (awake02.calls true _ rfl).mono ?_; rintro e w1 ⟨rfl, hb1⟩; have HB1 := Aside0.mk hb1; clear hb1)
    go_ret
    exact ⟨rfl, HB1.out⟩
theorem CrcSealed_walk (a0 : Option Addr) (len0 cap0 : Nat) (z0 : List Int) (w : World) (w0 : (a0 = none ∧ len0 = 0 ∧ cap0 = 0 ∧ z0 = []) ∨ ∃ x, a0 = some x ∧ len0 ≤ cap0 ∧ cap0 ≤ maxLen ∧ z0.length = cap0 ∧ (∀ i, i < z0.length → w.cell? (x.add i) = some (.int .u8 (z0.getD i 0))) ∧ ∀ n ∈ z0, (Lit.int .u8 n).wf = true) (y0 : len0 * 1 ≤ 140737488351232) :
    Calls Try.prog 6 #[.slice a0 len0 cap0] w fun e w' => e = .returned (.bool true) ∧ Below w.heap.size w w' := by
  obtain ⟨l0, rfl, hr0, hm0, hw0, hc0⟩ := ReadsInt.ofRowC w0
  exact CrcSealed_any a0 cap0 l0 w (Kd.C_of_reads (d := (0 : Int)) (h1 := fun _ => rfl) hr0) hc0 (bytesB_of_wf l0 hw0)
end Go.Proofs.Ytelhdgnolijpcaa.Hm
