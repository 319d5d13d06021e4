/- The Go package dir: the entries behind a cookie; conditions: those that each theorem names. -/
import Derived.Test.YtlpjchighfdomaaGe
namespace Go.Proofs.Ytlpjchighfdomaa.Hm
open Go.RowKit Go.Proofs.YtlpjchighfdomaaW.PrintWords Go.Proofs.YtlpjchighfdomaaW.PrintLast Go.Proofs.YtlpjchighfdomaaW.PrintMore
set_option linter.unusedVariables false
set_option linter.unusedSimpArgs false

theorem idxE_cases (p : Ent → Bool) (l : List Ent) : idxE p l = -1 ∨ ∃ k : Nat, k < l.length ∧ idxE p l = k := by
  unfold idxE
  cases h : l.findIdx? p with
  | none => exact .inl rfl
  | some i => exact .inr ⟨i, by have := (List.findIdx?_eq_some_iff_getElem.1 h).1; exact this, rfl⟩
/-- Those behind a cookie, so many at most; and whether they are all. -/
def afterM (l : List Ent) (s m : Int) : List Ent × Bool :=
  if idxE (fun e => decide (s < e.c)) l < 0 then ([], true) else ((l.take ((idxE (fun e => decide (s < e.c)) l).toNat + min m.toNat (l.length - (idxE (fun e => decide (s < e.c)) l).toNat))).drop (idxE (fun e => decide (s < e.c)) l).toNat, decide ((idxE (fun e => decide (s < e.c)) l).toNat + min m.toNat (l.length - (idxE (fun e => decide (s < e.c)) l).toNat) = l.length))
set_option maxHeartbeats 4000000 in
set_option maxRecDepth 100000 in
theorem After_any (A : Option Addr) (c : Nat) (l : List Ent) (s m : Int) (w : World) (hr : kE.C w A l.length l) (hc : l.length ≤ c) (hl : l.length ≤ 4398046511000) (hm0 : -9223372036854775808 ≤ m) (hm1 : m ≤ 9223372036854775807) :
    Calls Try.prog 32 #[.slice A l.length c, .int .u64 s, .int .i64 m] w fun e' w' => ∃ v, e' = .returned (.tuple #[v, .bool (afterM l s m).2]) ∧ kE.R 41 w' w.heap.size (fun _ => True) v (afterM l s m).1 ∧ Below w.heap.size w w' := by
  have HR := Aside0.mk hr
  have hbx := blk_new w (.cells #[.int .u64 s] 36 (0, 0))
  have HBX := Aside0.mk hbx
  clear hr hbx
  obtain ⟨z, hz⟩ : ∃ z, idxE (fun e => decide (s < e.c)) l = z := ⟨_, rfl⟩
  unfold afterM
  rw [hz]
  have HZ := Aside0.mk hz
  rcases idxE_cases (fun e => decide (s < e.c)) l with h1 | ⟨k, hk, h1⟩
  · rw [h1] at hz
    subst hz
    rw [if_pos (by decide)]
    go_enter Try.func32, Try.ntmps32
    go_wp2_with fail
    (with_reducible refine (IndexPast_any A c l w.heap.size s _ (Kd.C_alloc HR.out _) hc HBX.out).mono ?_)
    rintro e' w1 ⟨rfl, hb1⟩
    rw [HZ.out]
    have HB1 := Aside0.mk (below_step (below_alloc (Below.refl _ _) _) hb1)
    clear hb1
    go_wp2
    go_ret2
    exact ⟨_, rfl, Kd.R_nil _ _ _ _ _, HB1.out⟩
  · rw [h1] at hz
    subst hz
    rw [if_neg (by omega), Int.toNat_natCast]
    clear h1
    obtain ⟨n, hn⟩ : ∃ n, min m.toNat (l.length - k) = n := ⟨_, rfl⟩
    rw [hn]
    obtain ⟨M, hM⟩ : ∃ M : Int, max m 0 = M := ⟨_, rfl⟩
    obtain ⟨D, hD⟩ : ∃ D : Int, IntKind.i64.wrap ((l.length : Int) - (k : Int)) = D := ⟨_, rfl⟩
    have hD' : D = ((l.length - k : Nat) : Int) := by rw [← hD, IntKind.wrap_i64]; omega
    have hmx : (if m < 0 then 0 else m) = M := by split <;> omega
    have hmn : (if D < M then D else M) = (n : Int) := by split <;> omega
    have hadd : IntKind.i64.wrap ((k : Int) + (n : Int)) = ((k + n : Nat) : Int) := by rw [IntKind.wrap_i64]; omega
    have hkn : k + n ≤ l.length := by omega
    have hle : ((l.take (k + n)).drop k).length = n := by rw [List.length_drop, List.length_take]; omega
    have HN := Aside0.mk hn
    have HKN := Aside0.mk hkn
    have HLE := Aside0.mk hle
    clear hD' hn hkn hle
    have p0 : (0 : Int) ≤ (k : Int) := by omega
    have p1 : (0 : Int) ≤ (k : Int) + (n : Int) := by omega
    have p2 : (k : Int) + (n : Int) ≤ (c : Int) := by have := HKN.out; omega
    have hk2 := cut_mid (P := Try.prog) 24 41 .i64 .i64 Try.underlying24 (by rfl) 4 rfl A l.length c (k : Int) ((k + n : Nat) : Int) (by omega) (by omega) (by have := HKN.out; omega) hc
    rw [Int.toNat_natCast, Int.toNat_natCast, Nat.add_sub_cancel_left, if_neg (show ¬ c = k by omega)] at hk2
    obtain ⟨b, hb⟩ : ∃ b, decide (k + n = l.length) = b := ⟨_, rfl⟩
    rw [hb]
    have hbe : ((k : Int) + (n : Int) == (l.length : Int)) = b := by
      rw [← hb]
      by_cases h : k + n = l.length
      · rw [decide_eq_true h, beq_iff_eq]; omega
      · rw [decide_eq_false h, beq_eq_false_iff_ne]; omega
    have HB' := Aside0.mk hb
    clear hb
    go_enter Try.func32, Try.ntmps32
    go_wp2_with fail
    (with_reducible refine (IndexPast_any A c l w.heap.size s _ (Kd.C_alloc HR.out _) hc HBX.out).mono ?_)
    rintro e' w1 ⟨rfl, hb1⟩
    rw [HZ.out]
    have HB1 := Aside0.mk (below_step (below_alloc (Below.refl _ _) _) hb1)
    clear hb1
    go_wp2_with fail
    have hcl := Kd.C_mid (c := c) (Kd.C_below HR.out HB1.out) (Nat.le_add_right k n) HKN.out hc
    rw [HLE.out, if_neg (show ¬ c = k by omega)] at hcl
    have hcl2 : kE.C w1 (A.map (·.add (k * 4))) ((l.take (k + n)).drop k).length ((l.take (k + n)).drop k) := by rw [HLE.out]; exact hcl
    have hcal := CloneE_any (A.map (·.add (k * 4))) (c - k) ((l.take (k + n)).drop k) w1 hcl2 (by rw [HLE.out]; have := HKN.out; omega) (by rw [HLE.out]; have := HKN.out; omega)
    rw [HLE.out] at hcal
    (with_reducible refine hcal.mono ?_)
    rintro e' w2 ⟨v2, rfl, hro, hb2⟩
    have HRO := Aside0.mk (Kd.R_lower hro HB1.out.size)
    have HB2 := Aside0.mk (below_step HB1.out hb2)
    clear hro hb2 hcl hcl2 hcal
    go_wp2
    go_ret2
    exact ⟨_, rfl, HRO.out, HB2.out⟩
end Go.Proofs.Ytlpjchighfdomaa.Hm
