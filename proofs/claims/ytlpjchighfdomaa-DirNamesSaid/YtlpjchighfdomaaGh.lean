/- The Go package dir: entries without a name; whether entries may be; conditions: those that each theorem names. -/
import Derived.Test.YtlpjchighfdomaaGg
namespace Go.Proofs.Ytlpjchighfdomaa.Hm
open Go.RowKit Go.Proofs.YtlpjchighfdomaaW.PrintWords Go.Proofs.YtlpjchighfdomaaW.PrintLast Go.Proofs.YtlpjchighfdomaaW.PrintMore
set_option linter.unusedVariables false
set_option linter.unusedSimpArgs false

/-- Without a name. -/
def removeM (l : List Ent) (s : ByteArray) : List Ent × Int :=
  if idxE (fun e => e.s.toList == s.toList) l < 0 then ([], 60) else (l.eraseIdx (idxE (fun e => e.s.toList == s.toList) l).toNat, 0)
set_option maxHeartbeats 1000000 in
set_option maxRecDepth 100000 in
theorem Remove_any (A : Option Addr) (c : Nat) (l : List Ent) (s : ByteArray) (w : World) (hr : kE.C w A l.length l) (hc : l.length ≤ c) (hl : l.length ≤ 4398046511000) :
    Calls Try.prog 30 #[.slice A l.length c, .string s] w fun e' w' => ∃ v, e' = .returned (.tuple #[v, .int .i64 (removeM l s).2]) ∧ kE.R 41 w' w.heap.size (fun _ => True) v (removeM l s).1 ∧ Below w.heap.size w w' := by
  have HR := Aside0.mk hr
  clear hr
  unfold removeM
  obtain ⟨z, hz⟩ : ∃ z, idxE (fun e => e.s.toList == s.toList) l = z := ⟨_, rfl⟩
  rw [hz]
  have HZ := Aside0.mk hz
  rcases idxE_cases (fun e => e.s.toList == s.toList) l with h1 | ⟨k, hk, h1⟩
  · rw [h1] at hz
    subst hz
    rw [if_pos (by decide)]
    go_enter Try.func30, Try.ntmps30
    go_wp2_with fail
    (with_reducible refine (Find_any A c l s w HR.out hc).mono ?_)
    rintro e' w1 ⟨rfl, hb1⟩
    rw [HZ.out]
    have HB1 := Aside0.mk hb1
    clear hb1
    go_wp2
    go_ret2
    exact ⟨_, rfl, Kd.R_nil _ _ _ _ _, HB1.out⟩
  · rw [h1] at hz
    subst hz
    rw [if_neg (by omega), Int.toNat_natCast]
    have p0 : (0 : Int) ≤ (k : Int) := by omega
    have p1 : decide ((k : Int) < 0) = false := decide_eq_false (by omega)
    have p2 : ¬ (k : Int) < 0 := by omega
    have p3 : IntKind.i64.wrap ((k : Int) + 1) = ((k + 1 : Nat) : Int) := by rw [IntKind.wrap_i64]; omega
    clear h1
    go_enter Try.func30, Try.ntmps30
    go_wp2_with fail
    (with_reducible refine (Find_any A c l s w HR.out hc).mono ?_)
    rintro e' w1 ⟨rfl, hb1⟩
    rw [HZ.out]
    have HB1 := Aside0.mk hb1
    have HR1 := Aside0.mk (Kd.C_below HR.out hb1)
    clear hb1
    go_wp2_with fail
    (with_reducible refine (CloneE_any A c l w1 HR1.out hc hl).mono ?_)
    rintro e' w2 ⟨v, rfl, hro, hb2⟩
    obtain ⟨g, cap, e1, -, -, -⟩ := Kd.R_form hro (by omega)
    subst e1
    have HRO := Aside0.mk (Kd.R_lower hro HB1.out.size)
    have HB2 := Aside0.mk (below_step HB1.out hb2)
    clear hro hb2
    go_wp2_with fail
    (with_reducible refine (Delete_any g cap k w.heap.size l.length (fun _ => True) l w2 HRO.out hk HB2.out.size hl).mono ?_)
    rintro e' w3 ⟨v3, rfl, hro, hb3⟩
    have HRO3 := Aside0.mk hro
    have HB3 := Aside0.mk (HB2.out.trans hb3)
    clear hro hb3
    go_wp2
    go_ret2
    exact ⟨_, rfl, HRO3.out, HB3.out⟩
end Go.Proofs.Ytlpjchighfdomaa.Hm
