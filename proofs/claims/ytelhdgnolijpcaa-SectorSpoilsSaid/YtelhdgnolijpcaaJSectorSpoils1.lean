/- Part 2 of the proof of the statement SectorSpoils: lemmas and walks of the Go functions that it reaches; the last theorem is the statement itself; conditions: those that each theorem names. -/
import Derived.Test.YtelhdgnolijpcaaJSectorSpoils0
import Derived.Test.YtelhdgnolijpcaaWMore
import Derived.Test.YtelhdgnolijpcaaProg
import Derived.Deep.Slices
import Derived.Deep.Fields
import Derived.ChangeArms
import Derived.WideShapes
import Derived.Test.YtelhdgnolijpcaaRows
import Derived.WalkKit
import Derived.ProofKit
import Derived.OpenShut
import Derived.ShutString
import Derived.ChangeOld
import Derived.Below
import Derived.Carry
import Derived.SizedLaws
section
/- The Go function SectorSpoils of the package's law 4 returns true and leaves what was there: whatever frame, place and burst come in. -/
namespace Go.Proofs.Ytelhdgnolijpcaa.Hm
open Go.RowKit Go.Proofs.YtelhdgnolijpcaaW.PrintWords Go.Proofs.YtelhdgnolijpcaaW.PrintLast Go.Proofs.YtelhdgnolijpcaaW.PrintMore
set_option linter.unusedVariables false
set_option linter.unusedSimpArgs false

theorem and_one4 (m : Nat) (h : m < 4294967296) : Go.bits .and .u32 (m : Int) 1 = ((m % 2 : Nat) : Int) := by
  have h1 := u32_and_nat m 1 h (by omega)
  rw [show ((1 : Nat) : Int) = 1 from rfl, Nat.and_one_is_mod] at h1
  exact h1
theorem shr_bit4 (b i : Nat) (hb : b < 4294967296) : (Go.bits .and .u32 ((b : Int) / 2 ^ i) 1 == 1) = decide (b / 2 ^ i % 2 = 1) := by
  have e : (b : Int) / 2 ^ i = ((b / 2 ^ i : Nat) : Int) := by
    rw [Int.natCast_ediv, Int.natCast_pow]
    rfl
  have hlt : b / 2 ^ i < 4294967296 := Nat.lt_of_le_of_lt (Nat.div_le_self b _) hb
  rw [e, and_one4 _ hlt, Bool.eq_iff_iff, beq_iff_eq, decide_eq_true_iff]
  omega
theorem burstN_zero (l : List Int) (k n : Nat) : burstN l k 0 n = l := by
  induction n with
  | zero => rfl
  | succ n ih =>
    unfold burstN
    rw [Nat.zero_div, if_neg (by decide)]
    exact ih
theorem get_spoiled (l : List Int) (hb : bytesB l = true) (hl : l.length = 128) (hr : rightB l = false) : sector_Get.f l = some (0, 0, 0, 0, 0, [], 14) := by
  rw [get_f l hb (by omega)]
  unfold getM
  rw [if_pos hl, hr, if_neg (by decide)]
set_option maxHeartbeats 2000000 in
set_option maxRecDepth 100000 in
theorem SectorSpoils_bad (k i c : Int) (s a : Nat) (A5 : Option Addr) (c5 : Nat) (l : List Int) (a1 a2 : Int) (w : World) (hr : Kd.C (Kd.int .u8) w A5 l.length l) (hc : l.length ≤ c5) (hs : s < 18446744073709551616) (ha : a < 4294967296) (hb : bytesB l = true) (hf : frameOk k i c l.length = false) :
    Calls Try.prog 10 #[.agg #[.int .i64 k, .int .i64 i, .int .i64 c, .int .u64 s, .int .u32 a, .slice A5 l.length c5], .int .u16 a1, .int .u32 a2] w fun e w' => e = .returned (.bool true) ∧ Below w.heap.size w w' := by
  have hu := Try.underlying42
  have HP := Aside0.mk (put_f k i c s a l hs ha hb)
  rw [hf, if_neg (by decide)] at HP
  have HR := Aside0.mk hr
  clear hr hb hf
  go_enter Try.func10, Try.ntmps10
  go_wp2_with (first | ((with_reducible refine gate_dst (N := 3) rfl ?_); refine box_event ?hg (N := 3) ?hd (cs := #[.int .i64 k, .int .i64 i, .int .i64 c, .int .u64 s, .int .u32 a, .slice A5 l.length c5]) (t := 42) ?hr ?_; (case hd => rfl); (case hg => rfl); (case hr => first | (go_simp; done) | (go_simp; rfl)); intro g1 hg1 w1 hbox hb1; have HB1 := Aside0.mk hb1; have HX := Aside0.mk hbox; clear hbox hb1 hg1) | fail)
  refine (awake04.calls true w1 rfl).mono ?_
  rintro e w2 ⟨rfl, hb2⟩
  have HB2 := Aside0.mk (below_then HB1.out HB1.out.size hb2)
  have HX2 := Aside0.mk (blk_below HX.out hb2)
  clear hb2 HB1 HX
  have hx0 := blk_cell HX2.out 0; have hx1 := blk_cell HX2.out 1; have hx2 := blk_cell HX2.out 2; have hx3 := blk_cell HX2.out 3; have hx4 := blk_cell HX2.out 4; have hx5 := blk_cell HX2.out 5
  go_wp2_with fail
  refine (sector_Put.calls k i c s a A5 c5 l [] 1 w2 (Kd.C_below HR.out HB2.out) hc HP.out).mono ?_
  rintro e w3 ⟨v0, rfl, hro, hb3⟩
  have HB3 := Aside0.mk (below_then HB2.out HB2.out.size hb3)
  clear hb3 hx0 hx1 hx2 hx3 hx4 hx5 hro
  go_wp2
  go_ret
  exact ⟨rfl, HB3.out⟩
set_option maxHeartbeats 4000000 in
set_option maxRecDepth 100000 in
theorem SectorSpoils_good (k i c : Int) (s a : Nat) (A5 : Option Addr) (c5 : Nat) (l : List Int) (b1 b2 : Nat) (w : World) (hr : Kd.C (Kd.int .u8) w A5 l.length l) (hc : l.length ≤ c5) (hs : s < 18446744073709551616) (ha : a < 4294967296) (hb : bytesB l = true) (hf : frameOk k i c l.length = true)
    (h11 : b1 < 65536) (h21 : b2 < 4294967296) :
    Calls Try.prog 10 #[.agg #[.int .i64 k, .int .i64 i, .int .i64 c, .int .u64 s, .int .u32 a, .slice A5 l.length c5], .int .u16 (b1 : Int), .int .u32 (b2 : Int)] w fun e w' => e = .returned (.bool true) ∧ Below w.heap.size w w' := by
  have hu := Try.underlying42
  obtain ⟨q1, q2, q3, q4, q5, q6, q7⟩ := (frameOk_iff _ _ _ _).1 hf
  obtain ⟨y, hY⟩ : ∃ y, putM k i c s a l = y := ⟨_, rfl⟩
  have HP := Aside0.mk (put_f k i c s a l hs ha hb)
  rw [hf, if_pos rfl, hY] at HP
  have hyl : y.length = 128 := by rw [← hY]; exact putM_length _ _ _ _ _ _ q7
  have hyr : rightB y = true := by rw [← hY]; exact right_sealed _
  have hyb : bytesB y = true := by rw [← hY]; exact putM_bytes k i c s a l hf hb
  have hG := get_putf k i c s a l hf hs ha hb
  rw [hY] at hG
  have HG := Aside0.mk hG
  have HYB := Aside0.mk hyb
  have HYR := Aside0.mk hyr
  have hy1 : y.length ≤ 128 := by omega
  have hy2 : 128 ≤ y.length := by omega
  have HR := Aside0.mk hr
  clear hr hb hf q1 q2 q3 q4 q5 q6 q7 hY hyr hyb hG hyl
  go_enter Try.func10, Try.ntmps10
  go_wp2_with (first | ((with_reducible refine gate_dst (N := 3) rfl ?_); refine box_event ?hg (N := 3) ?hd (cs := #[.int .i64 k, .int .i64 i, .int .i64 c, .int .u64 s, .int .u32 a, .slice A5 l.length c5]) (t := 42) ?hr ?_; (case hd => rfl); (case hg => rfl); (case hr => first | (go_simp; done) | (go_simp; rfl)); intro g1 hg1 w1 hbox hb1; have HB1 := Aside0.mk hb1; have HX := Aside0.mk hbox; clear hbox hb1 hg1) | fail)
  refine (awake04.calls true w1 rfl).mono ?_
  rintro e w2 ⟨rfl, hb2⟩
  have HB2 := Aside0.mk (below_then HB1.out HB1.out.size hb2)
  have HX2 := Aside0.mk (blk_below HX.out hb2)
  clear hb2 HB1 HX
  have hx0 := blk_cell HX2.out 0; have hx1 := blk_cell HX2.out 1; have hx2 := blk_cell HX2.out 2; have hx3 := blk_cell HX2.out 3; have hx4 := blk_cell HX2.out 4; have hx5 := blk_cell HX2.out 5
  go_wp2_with fail
  refine (sector_Put.calls k i c s a A5 c5 l y 0 w2 (Kd.C_below HR.out HB2.out) hc HP.out).mono ?_
  rintro e w3 ⟨v0, rfl, hro, hb3⟩
  obtain ⟨A19, c19, e19, hc19, hr19⟩ := Kd.R_reads hro
  subst e19
  have HRO3 := Aside0.mk (Kd.R_lower hro HB2.out.size)
  have HB3 := Aside0.mk (below_then HB2.out HB2.out.size hb3)
  clear hb3 hx0 hx1 hx2 hx3 hx4 hx5 hro hr19 HX2 HB2
  have hl0 : ((y.length : Int) != 128) = false := by simp; omega
  have hk0 : 0 ≤ (b1 : Int) % 993 := Int.emod_nonneg _ (by omega)
  have hk1 : (b1 : Int) % 993 < 993 := Int.emod_lt_of_pos _ (by omega)
  obtain ⟨kk, hk⟩ := Int.eq_ofNat_of_zero_le hk0
  rw [hk] at hk1
  have hk2 : kk + 32 ≤ 8 * y.length := by omega
  clear hk0 hk1
  obtain ⟨g, cap, eA, hgb, hgl, _⟩ := Kd.R_form HRO3.out (by omega)
  injection eA with eA _ eC
  subst eA eC
  have HGB := Aside0.mk hgb
  clear hgb hgl
  go_wp2
  simp only [hk]
  have HK := Aside0.mk hk
  clear hk
  go_loopg [11] 32 (fun iq v11 w' => ∃ i : Nat, i + iq = 32 ∧ v11 = .int .i64 i ∧ Aside0 (Kd.R (Kd.int .u8) 5 w' w.heap.size (fun _ => True) (.slice (some ⟨g, 0, none⟩) y.length c19) (burstN y kk b2 i)) ∧ Aside0 (Below w.heap.size w w'))
  case atStart => exact ⟨0, rfl, rfl, HRO3, HB3⟩
  case round =>
    obtain ⟨j, hj, rfl, HRi, HBi⟩ := hrel
    by_cases hi32 : j < 32
    · have hd32 : decide ((j : Int) < 32) = true := decide_eq_true (by omega)
      have hsb := shr_bit4 b2 j (by omega)
      by_cases hbit : b2 / 2 ^ j % 2 = 1
      · rw [decide_eq_true hbit] at hsb
        have HBIT := Aside0.mk hbit
        clear hbit
        have hzl : (burstN y kk b2 j).length = y.length := burstN_length y kk b2 j
        have hzb : bytesB (burstN y kk b2 j) = true := burstN_bytes y kk b2 j HYB.out (by omega)
        have hfl : burstN y kk b2 (j + 1) = flip (burstN y kk b2 j) (kk + j) := by rw [burstN, if_pos HBIT.out]
        obtain ⟨z, hz⟩ : ∃ z, burstN y kk b2 j = z := ⟨_, rfl⟩
        rw [hz] at hzl hzb hfl HRi
        have HZ := Aside0.mk hfl
        clear hfl hz
        obtain ⟨p, hp⟩ : ∃ p, kk + j = p := ⟨_, rfl⟩
        have hp8 : p / 8 < z.length := by omega
        have hpr := rd_range z hzb (p / 8) hp8
        obtain ⟨hcl, hfr⟩ := Kd.R_celln 0 HRi.out ((p / 8 : Nat) : Int) (by omega) (by omega)
        have hpt := Kd.R_putg HRi.out ((p / 8 : Nat) : Int) (Go.bits .xor .u8 (rd z ((p / 8 : Nat) : Int)) (128 / 2 ^ (p % 8) : Nat))
        rw [Int.toNat_natCast] at hcl hfr hpt
        have HPT := Aside0.mk hpt.1
        have HPP := Aside0.mk hp
        have HZB := Aside0.mk hzb
        obtain ⟨u, hu⟩ : ∃ u, rd z ((p / 8 : Nat) : Int) = u := ⟨_, rfl⟩
        have hu2 : rdOf 0 z ((p / 8 : Nat) : Int) = u := hu
        rw [hu2] at hcl
        rw [hu] at HPT hpr
        have HU := Aside0.mk hu
        clear hpt hzb hu hu2 HRi
        subst hp
        go_wp2
        go_roundg (31 - j)
        case measure => omega
        case rel =>
          refine ⟨j + 1, by omega, by go_num, ⟨?_⟩, ⟨?_⟩⟩
          · rw [HZ.out, flip, HU.out]
            exact HPT.out
          · exact HBi.out.setCell HGB.out _
      · rw [decide_eq_false hbit] at hsb
        have HBIT := Aside0.mk hbit
        clear hbit
        go_wp2
        go_roundg (31 - j)
        case measure => omega
        case rel =>
          refine ⟨j + 1, by omega, by go_num, ⟨?_⟩, HBi⟩
          unfold burstN
          rw [if_neg HBIT.out]
          exact HRi.out
    · have hj' : j = 32 := by omega
      subst hj'
      have hsp := burst_spoils y kk b2 HYB.out hk2 h21 HYR.out
      have hzl : (burstN y kk b2 32).length = y.length := burstN_length y kk b2 32
      have hzb : bytesB (burstN y kk b2 32) = true := burstN_bytes y kk b2 32 HYB.out hk2
      have hz0 : b2 = 0 → burstN y kk b2 32 = y := fun h => by rw [h]; exact burstN_zero y kk 32
      obtain ⟨z, hz'⟩ : ∃ z, burstN y kk b2 32 = z := ⟨_, rfl⟩
      rw [hz'] at hsp hzl hzb HRi hz0
      have hrt : crc_Right.f z = some (decide (b2 = 0)) := by unfold crc_Right.f; rw [if_pos ⟨hzb, by omega⟩, hsp]
      obtain ⟨_, hc2, hr2⟩ := Kd.R_reads' HRi.out
      rw [hzl] at hr2
      have HC2 := Aside0.mk hr2
      have HZL := Aside0.mk hzl
      clear hr2
      by_cases h0 : b2 = 0
      · have hzy := hz0 h0
        subst h0
        have HRT2 := Aside0.mk (hrt.trans (by rw [decide_eq_true rfl]))
        have HGZ := Aside0.mk (show sector_Get.f z = some (k, i, c, (s : Int), (a : Int), l, 0) by rw [hzy]; exact HG.out)
        clear hrt hsp hzb hz' hzl hz0 hzy
        go_wp2_with fail
        have hcall := sector_Get.calls (some ⟨g, 0, none⟩) c19 z k i c (s : Int) (a : Int) l 0 wr (by rw [HZL.out]; exact HC2.out) (by rw [HZL.out]; exact hc2) HGZ.out
        (with_reducible refine hcall.mono ?_)
        rintro e w4 ⟨v5, rfl, hro5, hb4⟩
        have HR4 := Aside0.mk (Kd.R_below HRi.out hb4)
        have HB4 := Aside0.mk (below_then HBi.out HBi.out.size hb4)
        obtain ⟨A6, c6, e6⟩ := Kd.R_slice hro5
        subst e6
        clear hb4 hcall HC2 hro5
        go_wp2_with fail
        have hcall2 := crc_Right.calls (some ⟨g, 0, none⟩) c19 z true (w4.alloc (Obj.cells #[.int .i64 k, .int .i64 i, .int .i64 c, .int .u64 s, .int .u32 a, .slice A6 l.length c6] 42)) (by have h := (Kd.R_reads' (Kd.R_below HR4.out (below_alloc (Below.refl _ _) (Obj.cells #[.int .i64 k, .int .i64 i, .int .i64 c, .int .u64 s, .int .u32 a, .slice A6 l.length c6] 42)))).2.2; exact h) (by rw [HZL.out]; exact hc2) HRT2.out
        (with_reducible refine hcall2.mono ?_)
        rintro e w6 ⟨rfl, hb6⟩
        have HB6 := Aside0.mk (below_then HB4.out HB4.out.size (below_then (below_alloc (Below.refl _ _) (Obj.cells #[.int .i64 k, .int .i64 i, .int .i64 c, .int .u64 s, .int .u32 a, .slice A6 l.length c6] 42)) (by simp) hb6))
        clear hb6 hcall2
        go_wp2
        go_ret
        exact ⟨rfl, HB6.out⟩
      · have hz1 : (((b2 : Int) == 0) = false) := by simp; omega
        have hz2 : (((b2 : Int) != 0) = true) := by simp; omega
        have HRT2 := Aside0.mk (hrt.trans (by rw [decide_eq_false h0]))
        have HGZ := Aside0.mk (get_spoiled z hzb (by omega) (by rw [hsp]; exact decide_eq_false h0))
        clear hrt hsp hzb hz' hzl hz0 h0
        go_wp2_with fail
        have hcall := sector_Get.calls (some ⟨g, 0, none⟩) c19 z 0 0 0 0 0 [] 14 wr (by rw [HZL.out]; exact HC2.out) (by rw [HZL.out]; exact hc2) HGZ.out
        (with_reducible refine hcall.mono ?_)
        rintro e w4 ⟨v5, rfl, hro5, hb4⟩
        have HR4 := Aside0.mk (Kd.R_below HRi.out hb4)
        have HB4 := Aside0.mk (below_then HBi.out HBi.out.size hb4)
        obtain ⟨A6, c6, e6⟩ := Kd.R_slice hro5
        subst e6
        simp only [List.length_nil]
        clear hb4 hcall HC2 hro5
        go_wp2_with fail
        have hcall2 := crc_Right.calls (some ⟨g, 0, none⟩) c19 z false (w4.alloc (Obj.cells #[.int .i64 0, .int .i64 0, .int .i64 0, .int .u64 0, .int .u32 0, .slice A6 0 c6] 42)) (by have h := (Kd.R_reads' (Kd.R_below HR4.out (below_alloc (Below.refl _ _) (Obj.cells #[.int .i64 0, .int .i64 0, .int .i64 0, .int .u64 0, .int .u32 0, .slice A6 0 c6] 42)))).2.2; exact h) (by rw [HZL.out]; exact hc2) HRT2.out
        (with_reducible refine hcall2.mono ?_)
        rintro e w6 ⟨rfl, hb6⟩
        have HB6 := Aside0.mk (below_then HB4.out HB4.out.size (below_then (below_alloc (Below.refl _ _) (Obj.cells #[.int .i64 0, .int .i64 0, .int .i64 0, .int .u64 0, .int .u32 0, .slice A6 0 c6] 42)) (by simp) hb6))
        clear hb6 hcall2
        go_wp2
        go_ret
        exact ⟨rfl, HB6.out⟩
theorem SectorSpoils_walk (k i c s a : Int) (A : Option Addr) (cc : Nat) (l : List Int) (a1 a2 : Int) (W : World) (hk : (Lit.int .i64 k).wf = true) (hi : (Lit.int .i64 i).wf = true) (hc : (Lit.int .i64 c).wf = true) (hs : (Lit.int .u64 s).wf = true) (ha : (Lit.int .u32 a).wf = true)
    (hr : Kd.C (Kd.int .u8) W A l.length l) (hcc : l.length ≤ cc) (ok : l.length ≤ maxLen ∧ ∀ x ∈ l, (Lit.int .u8 x).wf = true) (w1 : (Lit.int .u16 a1).wf = true) (w2 : (Lit.int .u32 a2).wf = true) :
    Calls Try.prog 10 #[.agg #[.int .i64 k, .int .i64 i, .int .i64 c, .int .u64 s, .int .u32 a, .slice A l.length cc], .int .u16 a1, .int .u32 a2] W fun e W' => e = .returned (.bool true) ∧ Below W.heap.size W W' := by
  have us := u64_of_wf s hs
  have ua := u32_of_wf a ha
  have u1 := u16_of_wf a1 w1
  have u2 := u32_of_wf a2 w2
  obtain ⟨s, rfl⟩ := Int.eq_ofNat_of_zero_le us.1
  obtain ⟨a, rfl⟩ := Int.eq_ofNat_of_zero_le ua.1
  obtain ⟨b1, rfl⟩ := Int.eq_ofNat_of_zero_le u1.1
  obtain ⟨b2, rfl⟩ := Int.eq_ofNat_of_zero_le u2.1
  cases hf : frameOk k i c l.length with
  | false => exact SectorSpoils_bad k i c s a A cc l _ _ W hr hcc (by omega) (by omega) (bytesB_of_wf l ok.2) hf
  | true => exact SectorSpoils_good k i c s a A cc l b1 b2 W hr hcc (by omega) (by omega) (bytesB_of_wf l ok.2) hf (by omega) (by omega)
end Go.Proofs.Ytelhdgnolijpcaa.Hm
end
section
/- What a value that came in holds, kind by kind: an argument of any type of whole numbers, bools, strings, slices and structs is opened to a plain value; conditions: those that each theorem names. -/
namespace Go.Proofs.Ytelhdgnolijpcaa.Hm
open Go.RowKit Go.ChangeShapes Go.WideShapes Go.Deep Go.Proofs.YtelhdgnolijpcaaW.PrintWords Go.Proofs.YtelhdgnolijpcaaW.PrintLast Go.Proofs.YtelhdgnolijpcaaW.PrintMore
set_option linter.unusedVariables false
set_option linter.unusedSimpArgs false

/-- Whatever is read at type t is a value of the kind d, of which ok holds. -/
def Opens (P : Program) (t : TypeId) {α : Type} (d : Kd α) (ok : α → Prop) : Prop :=
  ∀ (H : Type) (enc : TypeId × Value → H) (w : World) (base : Nat) (spare : Nat → Bool) (held : Bool) (fuel : Nat) (cs : List Value) (x : DataW H × List MemPlace),
    DataW.trod enc P w base spare held fuel t cs = some x → ∃ a, d.K w a cs ∧ ok a
theorem opens_int {P : Program} {t : TypeId} {k : IntKind} (ht : P.underlying t = some (.int k)) : Opens P t (Kd.int k) (fun n => (Lit.int k n).wf = true) := by
  intro H enc w base spare held fuel cs x h
  obtain ⟨n, rfl, _, hw⟩ := DataW.trod_int ht h
  exact ⟨n, rfl, hw⟩
theorem opens_bool {P : Program} {t : TypeId} (ht : P.underlying t = some .bool) : Opens P t Kd.bool (fun _ => True) := by
  intro H enc w base spare held fuel cs x h
  obtain ⟨b, rfl, _⟩ := DataW.trod_bool ht h
  exact ⟨b, rfl, trivial⟩
theorem opens_string {P : Program} {t : TypeId} (ht : P.underlying t = some .string) : Opens P t Kd.string (fun s => s.size ≤ maxLen) := by
  intro H enc w base spare held fuel cs x h
  obtain ⟨s, rfl, _, hs⟩ := DataW.trod_string ht h
  exact ⟨s, rfl, hs⟩
theorem exists_list {α : Type} {p : Nat → α → Prop} (n : Nat) (h : ∀ i, i < n → ∃ x, p i x) : ∃ l : List α, l.length = n ∧ ∀ i x, l[i]? = some x → p i x := by
  induction n with
  | zero => exact ⟨[], rfl, fun i x hx => by simp at hx⟩
  | succ n ih =>
    obtain ⟨l, hl, hp⟩ := ih (fun i hi => h i (by omega))
    obtain ⟨y, hy⟩ := h n (by omega)
    refine ⟨l ++ [y], by simp [hl], fun i x hx => ?_⟩
    rcases Nat.lt_or_ge i n with hi | hi
    · rw [List.getElem?_append_left (by omega)] at hx
      exact hp i x hx
    · have hi2 : i = n := by
        have := (List.getElem?_eq_some_iff.1 hx).1
        rw [List.length_append, hl, List.length_singleton] at this
        omega
      subst hi2
      rw [List.getElem?_append_right (by omega), hl, Nat.sub_self] at hx
      obtain rfl : y = x := by simpa using hx
      exact hy
theorem opens_slice {P : Program} {t e : TypeId} {α : Type} {d : Kd α} {ok : α → Prop} (e' : Nat) (ht : P.underlying t = some (.slice e)) (hc : P.cellsOf e = d.sz) (h : Opens P e d ok) :
    Opens P t (Kd.slice e' d) (fun l => l.length ≤ maxLen ∧ ∀ x ∈ l, ok x) := by
  intro H enc w base spare held fuel cs x hx
  rcases open_slice ht hx with ⟨rfl, _⟩ | ⟨a, len, cap, m, n, D, Pl, rfl, _, hl, hm, hmm, _, hi⟩
  · refine ⟨[], ⟨none, 0, rfl, Nat.le_refl _, ⟨rfl, by simp, fun h0 => by simp at h0⟩⟩, by simp, fun x hx => by simp at hx⟩
  · have hlm : len ≤ m := by rw [hmm]; split <;> omega
    obtain ⟨l, hll, hp⟩ := exists_list (p := fun i y => ok y ∧ ∃ cs', d.K w y cs' ∧ w.cells? base (a.add (i * P.cellsOf e)) (P.cellsOf e) = some cs') len (fun i hil => by
      obtain ⟨cs', hcs, htr⟩ := hi i (by omega)
      obtain ⟨y, hy, hoky⟩ := h H enc w base spare held n cs' _ htr
      exact ⟨y, hoky, cs', hy, hcs⟩)
    refine ⟨l, ⟨some a, cap, by rw [hll], by omega, ⟨rfl, by rw [hll]; simp only [maxLen] at hm; omega, fun _ => ⟨a, rfl, fun j p hj => ?_⟩⟩⟩, by rw [hll]; omega, fun x hx => ?_⟩
    · obtain ⟨_, cs', hK, hcs⟩ := hp j p hj
      refine ⟨cs', d.K_len hK, hK, fun i u hu => ?_⟩
      obtain ⟨_, hcl, hat⟩ := World.cells?_some hcs
      have hiu := (List.getElem?_eq_some_iff.1 hu).1
      have := hat i (by omega)
      rw [Go.Deep.add_add, hc] at this
      rw [this, hu]
    · obtain ⟨i, hil, rfl⟩ := List.mem_iff_getElem.1 hx
      exact (hp i _ (List.getElem?_eq_getElem hil)).1
/-- The cells of fields, one behind the other. -/
def Fields (P : Program) (H : Type) (enc : TypeId × Value → H) (w : World) (base : Nat) (spare : Nat → Bool) (held : Bool) (n : Nat) : List TypeId → List Value → Prop
  | [], cs => cs = []
  | t :: ts, cs => ∃ c1 c2, cs = c1 ++ c2 ∧ (∃ y, DataW.trod enc P w base spare held n t c1 = some y) ∧ Fields P H enc w base spare held n ts c2
def laidFrom (P : Program) (total : Nat) : Nat → List Field → Bool
  | o, [] => decide (o = total)
  | o, f :: l => decide (f.offset = o) && laidFrom P total (o + P.cellsOf f.type) l
def OpensF (P : Program) (ts : List TypeId) {α : Type} (d : Kd α) (ok : α → Prop) : Prop :=
  ∀ (H : Type) (enc : TypeId × Value → H) (w : World) (base : Nat) (spare : Nat → Bool) (held : Bool) (n : Nat) (cs : List Value),
    Fields P H enc w base spare held n ts cs → ∃ a, d.K w a cs ∧ ok a
theorem opensF_one {P : Program} {t : TypeId} {α : Type} {d : Kd α} {ok : α → Prop} (h : Opens P t d ok) : OpensF P [t] d ok := by
  rintro H enc w base spare held n cs ⟨c1, c2, rfl, ⟨y, hy⟩, rfl⟩
  rw [List.append_nil]
  exact h H enc w base spare held n c1 y hy
theorem opensF_cons {P : Program} {t : TypeId} {ts : List TypeId} {α β : Type} {d : Kd α} {d' : Kd β} {ok : α → Prop} {ok' : β → Prop} (h : Opens P t d ok) (h' : OpensF P ts d' ok') :
    OpensF P (t :: ts) (Kd.pair d d') (fun x => ok x.1 ∧ ok' x.2) := by
  rintro H enc w base spare held n cs ⟨c1, c2, rfl, ⟨y, hy⟩, hf⟩
  obtain ⟨a, ha, hoa⟩ := h H enc w base spare held n c1 y hy
  obtain ⟨b, hb, hob⟩ := h' H enc w base spare held n c2 hf
  exact ⟨(a, b), ⟨c1, c2, rfl, ha, hb⟩, hoa, hob⟩
theorem fields_from {P : Program} {H : Type} {enc : TypeId × Value → H} {w : World} {base : Nat} {spare : Nat → Bool} {held : Bool} {n total : Nat} {cs : List Value} (hcs : cs.length = total) (l : List Field) :
    ∀ o, laidFrom P total o l = true → (∀ f ∈ l, ∃ y, DataW.trod enc P w base spare held n f.type ((cs.drop f.offset).take (P.cellsOf f.type)) = some y) → Fields P H enc w base spare held n (l.map (·.type)) (cs.drop o) := by
  induction l with
  | nil =>
    intro o ho _
    have : o = total := by simpa [laidFrom] using ho
    show cs.drop o = []
    exact List.drop_eq_nil_of_le (by omega)
  | cons f l ih =>
    intro o ho hf
    simp only [laidFrom, Bool.and_eq_true, decide_eq_true_eq] at ho
    obtain ⟨y, hy⟩ := hf f (by simp)
    refine ⟨(cs.drop o).take (P.cellsOf f.type), cs.drop (o + P.cellsOf f.type), ?_, ⟨y, by rw [← ho.1]; exact hy⟩, ih _ ho.2 (fun g hg => hf g (by simp [hg]))⟩
    rw [← List.drop_drop, List.take_append_drop]
theorem opens_struct {P : Program} {t : TypeId} {fs : Array Field} {α β : Type} {d : Kd α} {ok : α → Prop} (f : β → α) (g : α → β) (hfg : ∀ a, f (g a) = a) (ht : P.underlying t = some (.struct fs))
    (hl : laidFrom P (P.cellsOf t) 0 fs.toList = true) (h : OpensF P (fs.toList.map (·.type)) d ok) : Opens P t (Kd.iso d f) (fun b => ok (f b)) := by
  intro H enc w base spare held fuel cs x hx
  obtain ⟨xs, n, _, _, hcs, hxl, hat⟩ := DataW.trod_struct ht hx
  have hF := fields_from (P := P) (enc := enc) (w := w) (base := base) (spare := spare) (held := held) (n := n) hcs fs.toList 0 hl (fun q hq => by
    obtain ⟨i, hi, rfl⟩ := List.mem_iff_getElem.1 hq
    have hi' : i < fs.size := by simpa using hi
    have := hat i fs[i] (Array.getElem?_eq_getElem hi')
    rw [List.getElem?_eq_getElem (by omega)] at this
    exact ⟨_, by simpa using this⟩)
  obtain ⟨a, ha, hoa⟩ := h H enc w base spare held n _ hF
  rw [List.drop_zero] at ha
  exact ⟨g a, by show d.K w (f (g a)) cs; rw [hfg]; exact ha, by show ok (f (g a)); rw [hfg]; exact hoa⟩
end Go.Proofs.Ytelhdgnolijpcaa.Hm
end
section
/- The row of the statement SectorSpoils: it holds as given, out of the walk of its Go function; no condition. -/
namespace Go.Proofs.Ytelhdgnolijpcaa.sectorSpoils
open Go.ChangeShapes Go.WideShapes Go.ChangeAt Go.RowKit
open Go.ChangeMaps (open_string shut_string)
open Go.Proofs.YtelhdgnolijpcaaW.PrintWords
set_option linter.unusedVariables false
theorem own : ownKnob Try.prog.godebug = none := by kernel_rfl
theorem laidOut : laidOutB Try.prog = true := by kernel_rfl
set_option maxRecDepth 100000 in
theorem lifted (os : Os) (started : os.Started) (H : Type) (enc : TypeId × Value → H) :
    ReturnsInHanded {} Try.checked os 10 .any (Rows.sectorSpoilsSpec.pre6 enc Try.prog Try.f10 Rows.sectorSpoilsRow.domain false) (Rows.sectorSpoilsSpec.post enc Try.prog Try.f10 false true false false) := by
  refine returnsInHanded_of_change_sized (C := Try.checked) own started (by kernel_rfl) Try.func10
    (ChangeSpec.witness6 (enc := enc) (C := Try.checked) false ⟨#[], #[.agg #[.int .i64 0, .int .i64 0, .int .i64 0, .int .u64 0, .int .u32 0, .slice none 0 0], .int .u16 0, .int .u32 0], []⟩ 8 (by kernel_rfl) (by kernel_rfl) (by kernel_rfl) (by kernel_rfl)) ?_
  intro W base args ds gs before hval0 hW hcnd hsz0 _
  have hsz : (DataW.weightsEach Try.prog (Try.f10.params.toList ++ Rows.sectorSpoilsSpec.plain.varTypes Try.prog) (ds ++ gs)).all (· ≤ reachBytes) = true := hsz0
  have hval : ∀ (j : Nat) t v, Try.f10.params[j]? = some t → args[j]? = some v → Value.okWide Try.prog W .any base t v := hval0
  have hW' := hW
  obtain ⟨p, q, hA0, hV, rfl, hfz, hnd⟩ := hW
  have hA : DataW.TrodAll enc Try.prog W 0 (fun _ => true) true Try.f10.params.toList args.toList ds p := hA0
  rw [Try.params10] at hA hval hsz
  obtain ⟨v0, vs0, d0, ds0, p0, q0, hargs, rfl, rfl, h0, r0⟩ := trodAll_cons hA
  obtain ⟨v1, vs1, d1, ds1, p1, q1, rfl, rfl, rfl, h1, r1⟩ := trodAll_cons r0
  obtain ⟨v2, vs2, d2, ds2, p2, q2, rfl, rfl, rfl, h2, r2⟩ := trodAll_cons r1
  obtain ⟨rfl, rfl, rfl⟩ := trodAll_nil r2
  obtain rfl : args = #[v0, v1, v2] := by cases args; simp_all
  obtain ⟨rfl, rfl⟩ := trodVars_none hV
  have k0 := h0
  have lt0 : ∀ x ∈ p0, x.block < W.heap.size := by obtain ⟨m, hm⟩ := k0; exact DataW.trod_lt m _ _ _ hm
  obtain ⟨q0, rfl, hq0⟩ := okWide_struct Try.underlying42 (hval 0 42 v0 rfl rfl)
  obtain ⟨fuel0, hf0⟩ := h0
  obtain ⟨⟨a0_0, ⟨a0_1, ⟨a0_2, ⟨a0_3, ⟨a0_4, l0_5⟩⟩⟩⟩⟩, hK0, ⟨w0_0, ⟨w0_1, ⟨w0_2, ⟨w0_3, ⟨w0_4, w0_5⟩⟩⟩⟩⟩⟩ := (Hm.opens_struct id id (fun _ => rfl) Try.underlying42 (by kernel_rfl) (Hm.opensF_cons (Hm.opens_int Try.underlying3) (Hm.opensF_cons (Hm.opens_int Try.underlying3) (Hm.opensF_cons (Hm.opens_int Try.underlying3) (Hm.opensF_cons (Hm.opens_int Try.underlying40) (Hm.opensF_cons (Hm.opens_int Try.underlying22) (Hm.opensF_one (Hm.opens_slice 5 Try.underlying23 (by kernel_rfl) (Hm.opens_int Try.underlying5))))))))) H enc W 0 _ true fuel0 _ _ hf0
  obtain ⟨e0, e1, he0, rfl, ⟨_, _, rfl, rfl, ⟨_, _, rfl, rfl, ⟨_, _, rfl, rfl, ⟨_, _, rfl, rfl, ⟨A0_5, c0_5, rfl, hc0_5, hr0_5⟩⟩⟩⟩⟩⟩ := hK0
  obtain rfl : q0 = #[.int .i64 a0_0, .int .i64 a0_1, .int .i64 a0_2, .int .u64 a0_3, .int .u32 a0_4, .slice A0_5 l0_5.length c0_5] := by apply Array.ext'; simpa [Value.cells] using he0
  obtain ⟨a1, rfl, rfl, rfl, w1⟩ := open_int Try.underlying34 (hval 1 34 v1 rfl rfl) h1
  obtain ⟨a2, rfl, rfl, rfl, w2⟩ := open_int Try.underlying22 (hval 2 22 v2 rfl rfl) h2
  clear hA0 hval0 hsz0 hsz
  refine (Hm.SectorSpoils_walk a0_0 a0_1 a0_2 a0_3 a0_4 A0_5 c0_5 l0_5 a1 a2 W w0_0 w0_1 w0_2 w0_3 w0_4 hr0_5 hc0_5 w0_5 w1 w2).mono fun e W' ⟨he, bel⟩ => ?_
  subst he
  exact ⟨_, rfl, _, _, _, [], _, [], hW', trodAll_mk1 (shut_bool Try.underlying4 _), (trodAll_cons_mk (Below.trod laidOut (by kernel_rfl) (of_decide_eq_true (by kernel_rfl)) k0 bel lt0) (trodAll_cons_mk (shut_int Try.underlying34 w1) (trodAll_cons_mk (shut_int Try.underlying22 w2) trodAll_mk0))), rfl, bel.frame _, fun h => by cases h⟩
theorem over : Rows.sectorSpoilsRow.holds Try.pinned (OpenSpec.ofChange Rows.sectorSpoilsSpec) :=
  OpenClaim.holds_of_wide 10 Try.f10 rfl rfl rfl rfl rfl rfl rfl ⟨rfl, rfl, rfl, rfl, rfl⟩ rfl rfl rfl rfl rfl (by kernel_rfl) Try.func10 (by kernel_rfl)
    (of_decide_eq_true (by kernel_rfl)) (by unfold Func.isWrapper; first | (rw [if_pos (by decide +kernel)]; kernel_rfl) | (rw [if_neg (by decide +kernel)]; exact ⟨rfl, rfl⟩))
    (fun os started H enc _ => lifted os started H enc)
theorem proved : Rows.SectorSpoilsSaid := over
#print axioms proved
end Go.Proofs.Ytelhdgnolijpcaa.sectorSpoils
namespace Go.Proofs.Ytelhdgnolijpcaa
/-- The row, under a short name, for the claim. -/
theorem sectorSpoils_holds : Rows.SectorSpoilsSaid := sectorSpoils.proved
end Go.Proofs.Ytelhdgnolijpcaa
end
