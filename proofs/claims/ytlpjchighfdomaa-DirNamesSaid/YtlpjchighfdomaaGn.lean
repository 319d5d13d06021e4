/- Chapter 8's law of names; conditions: those that each theorem names. -/
import Derived.Test.YtlpjchighfdomaaGm
namespace Go.Proofs.Ytlpjchighfdomaa.Hm
open Go.RowKit Go.Proofs.YtlpjchighfdomaaW.PrintWords Go.Proofs.YtlpjchighfdomaaW.PrintLast Go.Proofs.YtlpjchighfdomaaW.PrintMore
set_option linter.unusedVariables false
set_option linter.unusedSimpArgs false

theorem sepR_not (n : Nat) : (!sepR (n : Int)) = (((n : Int) != 0) && ((n : Int) != 47)) := by
  unfold sepR
  rw [Bool.eq_iff_iff]
  simp
  omega
theorem dot_iff (s : ByteArray) : (s.toList == [46]) = decide (bytesOf s = [46]) := by
  have h := toList_iff s ⟨#[46]⟩
  rw [show (⟨#[46]⟩ : ByteArray).toList = [46] from by decide +kernel, show bytesOf ⟨#[46]⟩ = [46] from by decide +kernel] at h
  rw [Bool.eq_iff_iff, beq_iff_eq, decide_eq_true_iff]
  exact h
theorem dots_iff (s : ByteArray) : (s.toList == [46, 46]) = decide (bytesOf s = [46, 46]) := by
  have h := toList_iff s ⟨#[46, 46]⟩
  rw [show (⟨#[46, 46]⟩ : ByteArray).toList = [46, 46] from by decide +kernel, show bytesOf ⟨#[46, 46]⟩ = [46, 46] from by decide +kernel] at h
  rw [Bool.eq_iff_iff, beq_iff_eq, decide_eq_true_iff]
  exact h
theorem nameE_M {s : ByteArray} {b1 b2 b3 b4 mk : Bool} (h1 : decide ((1 : Int) ≤ (s.size : Int)) = b1) (h2 : decide ((s.size : Int) ≤ 24) = b2) (h3 : (s.toList == [46]) = b3) (h4 : (s.toList == [46, 46]) = b4)
    (hm : (b1 && b2 && !b3 && !b4 && !sepB ((bytesOf s).take s.size)) = mk) : nameE (bytesOf s) = if mk = true then 0 else 67 := by
  have hb : nameB (bytesOf s) = mk := by
    rw [← hm, ← h1, ← h2, ← h3, ← h4, dot_iff, dots_iff, List.take_of_length_le (by rw [bytesOf_length]; exact Nat.le_refl _)]
    unfold nameB
    rw [bytesOf_length, Bool.eq_iff_iff]
    simp
    constructor
    · rintro ⟨a, b, c, d, e⟩; exact ⟨⟨⟨⟨by omega, by omega⟩, d⟩, e⟩, c⟩
    · rintro ⟨⟨⟨⟨a, b⟩, d⟩, e⟩, c⟩; exact ⟨by omega, by omega, c, d, e⟩
  unfold nameE
  rw [hb]
theorem addM_first (e : Ent) (hc : 0 < e.c) (hn : nameE (bytesOf e.s) = 0) : addM [] e = ([e], 0) := by
  unfold addM
  rw [if_neg (by simp [hn]), show idxE (fun x => x.s.toList == e.s.toList) [] = -1 from rfl, if_neg (show ¬ (0 : Int) ≤ -1 by decide), if_neg (by simp only [lastC, List.getLast?_nil]; omega)]
  rfl
theorem addM_bad (l : List Ent) (e : Ent) (hn : nameE (bytesOf e.s) = 67) : addM l e = ([], 67) := by
  unfold addM
  rw [hn, if_pos (by decide)]
set_option maxHeartbeats 4000000 in
set_option maxRecDepth 100000 in
theorem DirNames_any (s : ByteArray) (w : World) (hs : s.size ≤ 9223372036854775807) : Calls Try.prog 6 #[.string s] w fun e w' => e = .returned (.bool true) ∧ Below w.heap.size w w' := by
  by_cases h60 : 60 < s.size
  · have hd : decide ((60 : Int) < (s.size : Int)) = true := decide_eq_true (by omega)
    go_enter Try.func6, Try.ntmps6
    go_wp2_with fail
    (with_reducible refine (awake_any w).mono ?_)
    rintro e' w1 ⟨rfl, hb1⟩
    have HB1 := Aside0.mk hb1
    clear hb1
    go_wp2
    go_ret
    exact ⟨rfl, HB1.out⟩
  · have hd : decide ((60 : Int) < (s.size : Int)) = false := decide_eq_false (by omega)
    obtain ⟨b1, hb1⟩ : ∃ b, decide ((1 : Int) ≤ (s.size : Int)) = b := ⟨_, rfl⟩
    obtain ⟨b2, hb2⟩ : ∃ b, decide ((s.size : Int) ≤ 24) = b := ⟨_, rfl⟩
    obtain ⟨b3, hb3⟩ : ∃ b, (s.toList == [46]) = b := ⟨_, rfl⟩
    obtain ⟨b4, hb4⟩ : ∃ b, (s.toList == [46, 46]) = b := ⟨_, rfl⟩
    go_enter Try.func6, Try.ntmps6
    go_wp2_with fail
    (with_reducible refine (awake_any w).mono ?_)
    rintro e' w1 ⟨rfl, hb1⟩
    have HB1 := Aside0.mk hb1
    clear hb1
    go_wp2_with fail
    all_goals (
      go_loopg [4, 5] s.size (fun kq v4 v5 w' => ∃ k : Nat, k + kq = s.size ∧ v5 = .int .i64 k ∧ v4 = .bool (b1 && b2 && !b3 && !b4 && !sepB ((bytesOf s).take k)) ∧ w' = w1)
      case atStart => exact ⟨0, by omega, rfl, by simp_all [sepB], rfl⟩
      case round =>
        obtain ⟨k, hk, rfl, rfl, rfl⟩ := hrel
        obtain ⟨mk, hmk⟩ : ∃ b, (b1 && b2 && !b3 && !b4 && !sepB ((bytesOf s).take k)) = b := ⟨_, rfl⟩
        have HMK := Aside0.mk hmk
        simp only [hmk]
        by_cases hlt : k < s.size
        · have hd2 : decide ((k : Int) < (s.size : Int)) = true := decide_eq_true (by omega)
          have p0 : (0 : Int) ≤ (k : Int) := by omega
          have p1 : (k : Int) < (s.size : Int) := by omega
          clear hmk
          have HN : Aside0 ((b1 && b2 && !b3 && !b4 && !sepB ((bytesOf s).take (k + 1))) = (mk && !sepR ((s[k]'hlt).toNat : Int))) := ⟨by rw [sepB_take s k hlt, ← HMK.out, Bool.not_or]; simp only [Bool.and_assoc]⟩
          go_wp2_with fail
          all_goals (
            go_roundg (s.size - k - 1)
            case measure => omega
            case rel => exact ⟨k + 1, by omega, by go_num, by rw [HN.out, sepR_not]; simp [*], rfl⟩)
        · have hd2 : decide ((k : Int) < (s.size : Int)) = false := decide_eq_false (by omega)
          have hk' : k = s.size := by omega
          subst hk'
          have HNE := Aside0.mk (nameE_M hb1 hb2 hb3 hb4 hmk)
          clear hmk
          cases mk with
          | true =>
            have HNZ : Aside0 (nameE (bytesOf s) = 0) := ⟨HNE.out⟩
            go_wp2_with fail
            have ha := Add_any none 0 [] ⟨1, 0, 0, s⟩ [⟨1, 0, 0, s⟩] 0 wr (Kd.C_nil _ _) (Nat.le_refl _) (by decide) (addM_first _ (show (0 : Int) < 1 by decide) HNZ.out)
            dsimp only [List.length_nil] at ha
            (with_reducible refine ha.mono ?_)
            rintro e' w2 ⟨v2, rfl, hr2, hb2'⟩
            obtain ⟨A2, c2, e2⟩ := Kd.R_slice hr2
            subst e2
            have HB2 := Aside0.mk (below_step HB1.out hb2')
            clear hr2 hb2' ha
            go_wp2_with fail
            (with_reducible refine (Name_any s w2).mono ?_)
            rintro e' w3 ⟨rfl, hb3'⟩
            rw [HNZ.out]
            have HB3 := Aside0.mk (below_step HB2.out hb3')
            clear hb3'
            go_wp2
            go_ret
            exact ⟨rfl, HB3.out⟩
          | false =>
            have HNZ : Aside0 (nameE (bytesOf s) = 67) := ⟨HNE.out⟩
            go_wp2_with fail
            have ha := Add_any none 0 [] ⟨1, 0, 0, s⟩ [] 67 wr (Kd.C_nil _ _) (Nat.le_refl _) (by decide) (addM_bad [] _ HNZ.out)
            dsimp only [List.length_nil] at ha
            (with_reducible refine ha.mono ?_)
            rintro e' w2 ⟨v2, rfl, hr2, hb2'⟩
            obtain ⟨A2, c2, e2⟩ := Kd.R_slice hr2
            subst e2
            have HB2 := Aside0.mk (below_step HB1.out hb2')
            clear hr2 hb2' ha
            go_wp2_with fail
            (with_reducible refine (Name_any s w2).mono ?_)
            rintro e' w3 ⟨rfl, hb3'⟩
            rw [HNZ.out]
            have HB3 := Aside0.mk (below_step HB2.out hb3')
            clear hb3'
            go_wp2
            go_ret
            exact ⟨rfl, HB3.out⟩)
end Go.Proofs.Ytlpjchighfdomaa.Hm
