/- The Go function CrcBurst of the package's law 2 returns true and leaves what was there: whatever bytes, place and burst come in. -/
import Derived.Test.YtelhdgnolijpcaaHburst
import Derived.Test.YtelhdgnolijpcaaHawk02
namespace Go.Proofs.Ytelhdgnolijpcaa.Hm
open Go.RowKit Go.Proofs.YtelhdgnolijpcaaW.PrintWords Go.Proofs.YtelhdgnolijpcaaW.PrintLast Go.Proofs.YtelhdgnolijpcaaW.PrintMore
set_option linter.unusedVariables false
set_option linter.unusedSimpArgs false

theorem and_one (m : Nat) (h : m < 4294967296) : Go.bits .and .u32 (m : Int) 1 = ((m % 2 : Nat) : Int) := by
  have h1 := u32_and_nat m 1 h (by omega)
  rw [show ((1 : Nat) : Int) = 1 from rfl, Nat.and_one_is_mod] at h1
  exact h1
theorem shr_bit (b i : Nat) (hb : b < 4294967296) : (Go.bits .and .u32 ((b : Int) / 2 ^ i) 1 == 1) = decide (b / 2 ^ i % 2 = 1) := by
  have e : (b : Int) / 2 ^ i = ((b / 2 ^ i : Nat) : Int) := by
    rw [Int.natCast_ediv, Int.natCast_pow]
    rfl
  have hlt : b / 2 ^ i < 4294967296 := Nat.lt_of_le_of_lt (Nat.div_le_self b _) hb
  rw [e, and_one _ hlt, Bool.eq_iff_iff, beq_iff_eq, decide_eq_true_iff]
  omega
set_option maxHeartbeats 2000000 in
set_option maxRecDepth 100000 in
theorem CrcBurst_any (A0 : Option Addr) (c0 : Nat) (l0 : List Int) (a1 a2 : Int) (w : World) (hr0 : Kd.C (Kd.int .u8) w A0 l0.length l0) (hc0 : l0.length ≤ c0) (hb : bytesB l0 = true) (h10 : 0 ≤ a1) (h11 : a1 < 65536) (h20 : 0 ≤ a2) (h21 : a2 < 4294967296) :
    Calls Try.prog 4 #[.slice A0 l0.length c0, .int .u16 a1, .int .u32 a2] w fun e w' => e = .returned (.bool true) ∧ Below w.heap.size w w' := by
  have HR := Aside0.mk hr0
  have HBy := Aside0.mk hb
  clear hr0 hb
  by_cases hlen : l0.length ≤ 300
  · have hd : decide ((300 : Int) < (l0.length : Int)) = false := decide_eq_false (by omega)
    obtain ⟨y, hY⟩ : ∃ y, l0 ++ be32 (crcM 0 l0) = y := ⟨_, rfl⟩
    have hyl : y.length = l0.length + 4 := by rw [← hY]; simp [be32]
    have hyr : rightB y = true := by rw [← hY]; exact right_sealed l0
    have hyb : bytesB y = true := by
      have hx := crcM_range 0 l0 (by omega) (by omega) ((bytesB_iff l0).1 HBy.out)
      rw [← hY, bytesB_append, HBy.out, bytesB_be32 _ hx.1 hx.2]; rfl
    have hs : crc_Sealed.f l0 = some y := by unfold crc_Sealed.f; rw [if_pos ⟨HBy.out, by omega⟩, hY]
    have hrt : crc_Right.f y = some true := by unfold crc_Right.f; rw [if_pos ⟨hyb, by omega⟩, hyr]
    have HYL := Aside0.mk hyl
    have hy4 : 4 ≤ y.length := by omega
    have hy304 : y.length ≤ 304 := by omega
    have HYB := Aside0.mk hyb
    have HYR := Aside0.mk hyr
    have HS := Aside0.mk hs
    have HRT := Aside0.mk hrt
    clear hyl hyb hyr hs hrt hY
    obtain ⟨b2, hb2⟩ := Int.eq_ofNat_of_zero_le h20
    subst hb2
    obtain ⟨b1, hb1⟩ := Int.eq_ofNat_of_zero_le h10
    subst hb1
    go_enter Try.func4, Try.ntmps4
    go_wp2_with fail
    refine (awake02.calls true w rfl).mono ?_
    rintro e w1 ⟨rfl, hb1⟩
    have HB1 := Aside0.mk hb1
    clear hb1
    go_wp2_with fail
    refine (crc_Sealed.calls A0 c0 l0 y w1 (Kd.C_below HR.out HB1.out) hc0 HS.out).mono ?_
    rintro e w2 ⟨v19, rfl, hro, hb2⟩
    obtain ⟨A19, c19, e19, hc19, hr19⟩ := Kd.R_reads hro
    subst e19
    have HRO := Aside0.mk (Kd.R_lower hro HB1.out.size)
    have HC := Aside0.mk hr19
    have HB2 := Aside0.mk (below_then HB1.out HB1.out.size hb2)
    clear hro hr19 hb2 HB1
    go_wp2_with fail
    refine (crc_Right.calls A19 c19 y true w2 HC.out hc19 HRT.out).mono ?_
    rintro e w3 ⟨rfl, hb3⟩
    have HRO3 := Aside0.mk (Kd.R_below HRO.out hb3)
    have HB3 := Aside0.mk (below_then HB2.out HB2.out.size hb3)
    clear hb3 HRO HB2 HC
    have hl0 : ((y.length : Int) != (l0.length : Int) + 4) = false := by have := HYL.out; simp; omega
    have hl1 : ((y.length : Int) == (l0.length : Int) + 4) = true := by have := HYL.out; simp; omega
    by_cases hz : b2 = 0
    · have hz0 : ((b2 : Int) == 0) = true := by simp [hz]
      go_wp2
      go_ret
      exact ⟨rfl, HB3.out⟩
    · have hz0 : ((b2 : Int) == 0) = false := by simp [hz]
      have hk0 : 0 ≤ (b1 : Int) % (8 * (y.length : Int) - 31) := Int.emod_nonneg _ (by omega)
      have hk1 : (b1 : Int) % (8 * (y.length : Int) - 31) < 8 * (y.length : Int) - 31 := Int.emod_lt_of_pos _ (by omega)
      obtain ⟨k, hk⟩ := Int.eq_ofNat_of_zero_le hk0
      rw [hk] at hk1
      have hk2 : k + 32 ≤ 8 * y.length := by omega
      clear hk0 hk1
      obtain ⟨g, cap, eA, hgb, hgl, _⟩ := Kd.R_form HRO3.out (by omega)
      injection eA with eA _ eC
      subst eA eC
      have HGB := Aside0.mk hgb
      clear hgb hgl
      go_wp2
      simp only [hk]
      have HK := Aside0.mk hk
      clear hk
      go_loopg [11] 32 (fun iq v11 w' => ∃ i : Nat, i + iq = 32 ∧ v11 = .int .i64 i ∧ Aside0 (Kd.R (Kd.int .u8) 5 w' w.heap.size (fun _ => True) (.slice (some ⟨g, 0, none⟩) y.length c19) (burstN y k b2 i)) ∧ Aside0 (Below w.heap.size w w'))
      case atStart => exact ⟨0, rfl, rfl, HRO3, HB3⟩
      case round =>
        obtain ⟨i, hi, rfl, HRi, HBi⟩ := hrel
        by_cases hi32 : i < 32
        · have hd32 : decide ((i : Int) < 32) = true := decide_eq_true (by omega)
          have hsb := shr_bit b2 i (by omega)
          by_cases hbit : b2 / 2 ^ i % 2 = 1
          · rw [decide_eq_true hbit] at hsb
            have HBIT := Aside0.mk hbit
            clear hbit
            have hzl : (burstN y k b2 i).length = y.length := burstN_length y k b2 i
            have hzb : bytesB (burstN y k b2 i) = true := burstN_bytes y k b2 i HYB.out (by omega)
            have hfl : burstN y k b2 (i + 1) = flip (burstN y k b2 i) (k + i) := by rw [burstN, if_pos HBIT.out]
            obtain ⟨z, hz⟩ : ∃ z, burstN y k b2 i = z := ⟨_, rfl⟩
            rw [hz] at hzl hzb hfl HRi
            have HZ := Aside0.mk hfl
            clear hfl hz
            obtain ⟨p, hp⟩ : ∃ p, k + i = p := ⟨_, rfl⟩
            have hp8 : p / 8 < z.length := by omega
            have hpr := rd_range z hzb (p / 8) hp8
            obtain ⟨hcl, hfr⟩ := Kd.R_celln 0 HRi.out ((p / 8 : Nat) : Int) (by omega) (by omega)
            have hpt := Kd.R_putg HRi.out ((p / 8 : Nat) : Int) (Go.bits .xor .u8 (rd z ((p / 8 : Nat) : Int)) (128 / 2 ^ (p % 8) : Nat))
            rw [Int.toNat_natCast] at hcl hfr hpt
            have HPT := Aside0.mk hpt.1
            have HP := Aside0.mk hp
            have HZB := Aside0.mk hzb
            obtain ⟨u, hu⟩ : ∃ u, rd z ((p / 8 : Nat) : Int) = u := ⟨_, rfl⟩
            have hu2 : rdOf 0 z ((p / 8 : Nat) : Int) = u := hu
            rw [hu2] at hcl
            rw [hu] at HPT hpr
            have HU := Aside0.mk hu
            clear hpt hzb hu hu2 HRi
            subst hp
            go_wp2
            go_roundg (31 - i)
            case measure => omega
            case rel =>
              refine ⟨i + 1, by omega, by go_num, ⟨?_⟩, ⟨?_⟩⟩
              · rw [HZ.out, flip, HU.out]
                exact HPT.out
              · exact HBi.out.setCell HGB.out _
          · rw [decide_eq_false hbit] at hsb
            have HBIT := Aside0.mk hbit
            clear hbit
            go_wp2
            go_roundg (31 - i)
            case measure => omega
            case rel =>
              refine ⟨i + 1, by omega, by go_num, ⟨?_⟩, HBi⟩
              unfold burstN
              rw [if_neg HBIT.out]
              exact HRi.out
        · have hi' : i = 32 := by omega
          subst hi'
          have hsp := burst_spoils y k b2 HYB.out hk2 (by omega) HYR.out
          rw [decide_eq_false hz] at hsp
          have hzl : (burstN y k b2 32).length = y.length := burstN_length y k b2 32
          have hzb : bytesB (burstN y k b2 32) = true := burstN_bytes y k b2 32 HYB.out hk2
          obtain ⟨z, hz'⟩ : ∃ z, burstN y k b2 32 = z := ⟨_, rfl⟩
          rw [hz'] at hsp hzl hzb HRi
          have hrt : crc_Right.f z = some false := by unfold crc_Right.f; rw [if_pos ⟨hzb, by omega⟩, hsp]
          have HRT2 := Aside0.mk hrt
          obtain ⟨_, hc2, hr2⟩ := Kd.R_reads' HRi.out
          rw [hzl] at hr2
          have HC2 := Aside0.mk hr2
          have HZL := Aside0.mk hzl
          clear hrt hsp hzb hz' hr2 hzl
          go_wp2_with fail
          have hcall := crc_Right.calls (some ⟨g, 0, none⟩) c19 z false wr (by rw [HZL.out]; exact HC2.out) (by rw [HZL.out]; exact hc2) HRT2.out
          refine hcall.mono ?_
          rintro e w4 ⟨rfl, hb4⟩
          have HB4 := Aside0.mk (below_then HBi.out HBi.out.size hb4)
          clear hb4 hcall
          go_wp2
          go_ret
          exact ⟨rfl, HB4.out⟩
  · have hd : decide ((300 : Int) < (l0.length : Int)) = true := decide_eq_true (by omega)
    go_enter Try.func4, Try.ntmps4
    go_wp2_with (go_at_call 13; refine (awake02.calls true _ rfl).mono ?_; rintro e w1 ⟨rfl, hb1⟩; have HB1 := Aside0.mk hb1; clear hb1)
    go_ret
    exact ⟨rfl, HB1.out⟩
theorem CrcBurst_walk (a0 : Option Addr) (len0 cap0 : Nat) (z0 : List Int) (a1 a2 : Int) (w : World) (w0 : (a0 = none ∧ len0 = 0 ∧ cap0 = 0 ∧ z0 = []) ∨ ∃ x, a0 = some x ∧ len0 ≤ cap0 ∧ cap0 ≤ maxLen ∧ z0.length = cap0 ∧ (∀ i, i < z0.length → w.cell? (x.add i) = some (.int .u8 (z0.getD i 0))) ∧ ∀ n ∈ z0, (Lit.int .u8 n).wf = true) (y0 : len0 * 1 ≤ 140737488351232) (w1 : (Lit.int .u16 a1).wf = true) (w2 : (Lit.int .u32 a2).wf = true) :
    Calls Try.prog 4 #[.slice a0 len0 cap0, .int .u16 a1, .int .u32 a2] w fun e w' => e = .returned (.bool true) ∧ Below w.heap.size w w' := by
  obtain ⟨l0, rfl, hr0, hm0, hw0, hc0⟩ := ReadsInt.ofRowC w0
  exact CrcBurst_any a0 cap0 l0 a1 a2 w (Kd.C_of_reads (d := (0 : Int)) (h1 := fun _ => rfl) hr0) hc0 (bytesB_of_wf l0 hw0) (u16_of_wf a1 w1).1 (u16_of_wf a1 w1).2 (u32_of_wf a2 w2).1 (u32_of_wf a2 w2).2
end Go.Proofs.Ytelhdgnolijpcaa.Hm
