/- Chapter 13: a file has as many links as names, pure; conditions: those that each theorem names. -/
import Derived.Test.YtanemmcddgkpdaaGreatJEt
import Derived.Test.YtanemmcddgkpdaaGreatJN8
namespace Go.Proofs.YtanemmcddgkpdaaGreat.Sx
open Go.RowKit Go.Proofs.YtanemmcddgkpdaaGreat.Hm Go.Proofs.YtanemmcddgkpdaaGreatW.PrintWords Go.Proofs.YtanemmcddgkpdaaGreatW.PrintLast Go.Proofs.YtanemmcddgkpdaaGreatW.PrintMore
set_option linter.unusedVariables false
set_option linter.unusedSimpArgs false

def sndB (t : Th) : Bool :=
  mayT t.l && (((List.range 24).all fun i => match t.l[i]? with
    | some s => (s.kind != 2 || ((getM s.d).2 == 0 && (entS s).all fun e => decide (0 ≤ e.i) && (decide (e.i ≤ 23) && ((atT t e.i.toNat).kind != 0 && (atT t e.i.toNat).gen == e.g)))) &&
      ((s.kind != 0 || (linksTo t.l 24).getD i 0 == 0) && ((s.kind == 0 || (linksTo t.l 24).getD i 0 == s.links) && (s.kind != 2 || (linksTo t.l 24).getD i 0 == 1)))
    | none => true) && decide ((usedT t.l : Int) ≤ t.room))
theorem SndT.of {t : Th} (h : sndB t = true) : SndT t := by
  unfold sndB at h
  simp only [Bool.and_eq_true, List.all_eq_true, List.mem_range, decide_eq_true_eq] at h
  obtain ⟨hm, hi, hr⟩ := h
  obtain ⟨hn, hok⟩ := mayT_ok hm
  have hi2 : ∀ (i : Nat) (s : Sl), t.l[i]? = some s → _ := fun i s hs => by
    have h9 := hi i (by have := (List.getElem?_eq_some_iff.1 hs).1; omega)
    rw [hs] at h9
    exact h9
  refine ⟨fun i s hs => (hok i s hs).symm, fun i s hs hk => ?_, fun i s hs => ?_, hr⟩
  · have h9 := hi2 i s hs
    simp only [Bool.and_eq_true, Bool.or_eq_true, bne_iff_ne, ne_eq, hk, not_true_eq_false, false_or, beq_iff_eq, List.all_eq_true, decide_eq_true_eq] at h9
    exact ⟨h9.1.1, fun e he => by obtain ⟨a, b, c, d⟩ := h9.1.2 e he; exact ⟨a, b, c, d⟩⟩
  · have h9 := hi2 i s hs
    simp only [Bool.and_eq_true, Bool.or_eq_true, bne_iff_ne, ne_eq, beq_iff_eq] at h9
    obtain ⟨-, h1, h2, h3⟩ := h9
    exact ⟨fun h => h1.resolve_left (fun h' => h' h), fun h => h2.resolve_left h, fun h => h3.resolve_left (fun h' => h' h)⟩
/-- A call that makes a link. -/
abbrev lc (i g : Int) (name : ByteArray) : Ca := ⟨0, 0, 13, i, g, ⟨#[]⟩, 0, 1, name, 0, 0, 0, 0, []⟩
theorem lc_wf {i g : Int} {name : ByteArray} (h1 : u32ok i) (h2 : u32ok g) : (lc i g name).wf :=
  ⟨u32_0, u32_0, ⟨by show (0:Int) ≤ 13; decide, by show (13:Int) < 4294967296; decide⟩, h1, h2, u32_0, ⟨by show (0:Int) ≤ 1; decide, by show (1:Int) < 4294967296; decide⟩, u64_0, u64_0, u32_0, u32_0, rfl⟩
def ln (i : Nat) : ByteArray := strOfNums [108, 97 + (i : Int)]
def rn : Nat → ByteArray
  | 0 => ⟨#[102]⟩
  | j + 1 => ln j
noncomputable def lm : Th × Re := doT (formT 30) (ca 6 0 1 ⟨#[102]⟩ 0 0 [])
noncomputable def lT : Nat → Th
  | 0 => lm.1
  | i + 1 => (doT (lT i) (lc 1 1 (ln i))).1
noncomputable def lR (n : Nat) : Nat → Th
  | 0 => lT n
  | j + 1 => (doT (lR n j) (ca 10 0 1 (rn j) 0 0 [])).1
noncomputable def lB (i : Nat) : Bool := ((doT (lT i) (lc 1 1 (ln i))).2.st == 0) && (((doT (lT i) (lc 1 1 (ln i))).2.ai == 1) && (((doT (lT i) (lc 1 1 (ln i))).2.ag == 1) && ((doT (lT i) (lc 1 1 (ln i))).2.al == (i : Int) + 2)))
noncomputable def rB (n j : Nat) : Bool := ((doT (lR n j) (ca 10 0 1 (rn j) 0 0 [])).2.st == 0) && (((doT (lR n j) (ca 10 0 1 (rn j) 0 0 [])).2.ai == 0) && ((doT (lR n j) (ca 10 0 1 (rn j) 0 0 [])).2.ag == 1))
noncomputable def gB (n k : Nat) : Bool := ((doT (lR n k) (ca 2 1 1 ⟨#[]⟩ 0 0 [])).2.st == (if k = n + 1 then 69 else 0)) && (((k == n + 1) || ((doT (lR n k) (ca 2 1 1 ⟨#[]⟩ 0 0 [])).2.al == (n : Int) + 1 - (k : Int))) && (((doT (lR n k) (lc 0 1 ⟨#[122]⟩)).2.st == 63) && sndB (lR n k)))
noncomputable def okL (n : Nat) : Bool := (List.range (n + 1)).all (rB n) && (List.range (n + 2)).all (gB n)
theorem lB_all : (List.range 7).all lB = true := by kernel_rfl
theorem okL_0 : okL 0 = true := by kernel_rfl
theorem okL_1 : okL 1 = true := by kernel_rfl
theorem okL_2 : okL 2 = true := by kernel_rfl
theorem okL_3 : okL 3 = true := by kernel_rfl
theorem okL_4 : okL 4 = true := by kernel_rfl
theorem okL_5 : okL 5 = true := by kernel_rfl
theorem okL_6 : okL 6 = true := by kernel_rfl
theorem okL_7 : okL 7 = true := by kernel_rfl
theorem lm_ai : lm.2.ai = 1 := by kernel_rfl
theorem lm_ag : lm.2.ag = 1 := by kernel_rfl
theorem lT_zero : lT 0 = lm.1 := rfl
theorem lT_succ (i : Nat) : lT (i + 1) = (doT (lT i) (lc 1 1 (ln i))).1 := rfl
theorem lR_zero (n : Nat) : lR n 0 = lT n := rfl
theorem lR_succ (n j : Nat) : lR n (j + 1) = (doT (lR n j) (ca 10 0 1 (rn j) 0 0 [])).1 := rfl
theorem okL_all {n : Nat} (hn : n < 8) : okL n = true := by
  have h : n = 0 ∨ n = 1 ∨ n = 2 ∨ n = 3 ∨ n = 4 ∨ n = 5 ∨ n = 6 ∨ n = 7 := by omega
  rcases h with h | h | h | h | h | h | h | h
  · rw [h]; exact okL_0
  · rw [h]; exact okL_1
  · rw [h]; exact okL_2
  · rw [h]; exact okL_3
  · rw [h]; exact okL_4
  · rw [h]; exact okL_5
  · rw [h]; exact okL_6
  · rw [h]; exact okL_7
theorem lB_st {i : Nat} (hi : i < 7) : (doT (lT i) (lc 1 1 (ln i))).2.st = 0 ∧ (doT (lT i) (lc 1 1 (ln i))).2.ai = 1 ∧ (doT (lT i) (lc 1 1 (ln i))).2.ag = 1 ∧ (doT (lT i) (lc 1 1 (ln i))).2.al = (i : Int) + 2 := by
  have h := List.all_eq_true.1 lB_all i (List.mem_range.2 hi)
  unfold lB at h
  simp only [Bool.and_eq_true, beq_iff_eq] at h
  exact h
theorem rB_st {n j : Nat} (hn : n < 8) (hj : j ≤ n) : (doT (lR n j) (ca 10 0 1 (rn j) 0 0 [])).2.st = 0 ∧ (doT (lR n j) (ca 10 0 1 (rn j) 0 0 [])).2.ai = 0 ∧ (doT (lR n j) (ca 10 0 1 (rn j) 0 0 [])).2.ag = 1 := by
  have h := okL_all hn
  unfold okL at h
  rw [Bool.and_eq_true] at h
  have h2 := List.all_eq_true.1 h.1 j (List.mem_range.2 (by omega))
  unfold rB at h2
  simp only [Bool.and_eq_true, beq_iff_eq] at h2
  exact h2
theorem gB_st {n k : Nat} (hn : n < 8) (hk : k ≤ n + 1) : (doT (lR n k) (ca 2 1 1 ⟨#[]⟩ 0 0 [])).2.st = (if k = n + 1 then 69 else 0) ∧ (k = n + 1 ∨ (doT (lR n k) (ca 2 1 1 ⟨#[]⟩ 0 0 [])).2.al = (n : Int) + 1 - (k : Int)) ∧ (doT (lR n k) (lc 0 1 ⟨#[122]⟩)).2.st = 63 ∧ SndT (lR n k) := by
  have h := okL_all hn
  unfold okL at h
  rw [Bool.and_eq_true] at h
  have h2 := List.all_eq_true.1 h.2 k (List.mem_range.2 (by omega))
  unfold gB at h2
  simp only [Bool.and_eq_true, Bool.or_eq_true, beq_iff_eq] at h2
  exact ⟨h2.1, h2.2.1, h2.2.2.1, SndT.of h2.2.2.2⟩
end Go.Proofs.YtanemmcddgkpdaaGreat.Sx
