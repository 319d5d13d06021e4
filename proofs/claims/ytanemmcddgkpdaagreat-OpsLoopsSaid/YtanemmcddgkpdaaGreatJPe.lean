/- Chapter 13: a directory never comes below itself, pure; conditions: those that each theorem names. -/
import Derived.Test.YtanemmcddgkpdaaGreatJEu
import Derived.Test.YtanemmcddgkpdaaGreatJYv
namespace Go.Proofs.YtanemmcddgkpdaaGreat.Sx
open Go.RowKit Go.Proofs.YtanemmcddgkpdaaGreat.Hm Go.Proofs.YtanemmcddgkpdaaGreatW.PrintWords Go.Proofs.YtanemmcddgkpdaaGreatW.PrintLast Go.Proofs.YtanemmcddgkpdaaGreatW.PrintMore
set_option linter.unusedVariables false
set_option linter.unusedSimpArgs false
/-- Rename, with what is told of below laid in. -/
def renameB (bl : Bool) (t : Th) (r : Re) (c : Ca) : Ex (Th × Re) := do
  let fr ← folderE t c.ai c.ag
  let to' ← folderE t c.ti c.tg
  namedE c.name
  namedE c.toName
  let k ← childE t fr c.name
  match foundS (atT t to') c.toName with
  | some e =>
    let old ← thingE t e.i e.g
    if old = k then pure (t, tellS (atT t k) r)
    else
      if (atT t k).kind = 2 then
        needE ((atT t old).kind == 2) 62
        needE ((entS (atT t old)).length == 0) 68
      else needE ((atT t old).kind != 2) 63
      needE ((atT t k).kind != 2 || !bl) 64
      let t1 ← leaveE t to' c.toName
      let t2 ← leaveE (setT t1 old (unlinkS (atT t1 old))) fr c.name
      let t3 ← enterE t2 to' c.toName (atT t2 k).ino (atT t2 k).gen
      let t4 ← touchE t3 [fr, to', k, old]
      pure (t4, tellS (atT t4 k) r)
  | none =>
    needE ((atT t k).kind != 2 || !bl) 64
    let t2 ← leaveE t fr c.name
    let t3 ← enterE t2 to' c.toName (atT t2 k).ino (atT t2 k).gen
    let t4 ← touchE t3 [fr, to', k]
    pure (t4, tellS (atT t4 k) r)
theorem renameE_B {t : Th} {r : Re} {c : Ca} {fr to' k : Nat} {bl : Bool} (h1 : folderE t c.ai c.ag = .ok fr) (h2 : folderE t c.ti c.tg = .ok to') (h3 : childE t fr c.name = .ok k) (hb : belowB t k to' = bl) : renameE t r c = renameB bl t r c := by
  unfold renameE renameB
  simp only [h1, h2, okE]
  cases namedE c.name with
  | error e => rfl
  | ok u =>
    simp only [okE]
    cases namedE c.toName with
    | error e => rfl
    | ok u =>
      simp only [okE, h3, hb]
      cases foundS (atT t to') c.toName <;> rfl
def doR (bl : Bool) (t : Th) (c : Ca) : Th × Re :=
  if mayT t.l = true then
    match renameB bl t (toldR c) c with
    | .ok p => p
    | .error e => (t, { toldR c with st := e })
  else (t, { toldR c with st := 64 })
theorem doT_R {t : Th} {c : Ca} {bl : Bool} (h : c.op = 12) (hr : renameE t (toldR c) c = renameB bl t (toldR c) c) : doT t c = doR bl t c := by
  have hE : opE t (toldR c) c = renameB bl t (toldR c) c := by
    rw [← hr]
    unfold opE
    simp only [h]
    rfl
  unfold doT doR
  rw [hE, h]
  rfl
def foB (x : Ex Nat) (k : Nat) : Bool := match x with
  | .ok j => j == k
  | .error _ => false
theorem foB_ok {x : Ex Nat} {k : Nat} (h : foB x k = true) : x = .ok k := by
  cases x with
  | error e => cases h
  | ok j => rw [show j = k from eq_of_beq h]
/-- Directories in one another: so many. -/
noncomputable def pT : Nat → Th
  | 0 => formT 40
  | i + 1 => (doT (pT i) (ca 7 (i : Int) 1 ⟨#[100]⟩ 0 0 [])).1
abbrev rnC (a b : Nat) : Ca := ⟨0, 0, 12, (a : Int), 1, ⟨#[100]⟩, (b : Int), 1, ⟨#[101]⟩, 0, 0, 0, 0, []⟩
noncomputable def pB (i : Nat) : Bool := ((doT (pT i) (ca 7 (i : Int) 1 ⟨#[100]⟩ 0 0 [])).2.st == 0) && (((doT (pT i) (ca 7 (i : Int) 1 ⟨#[100]⟩ 0 0 [])).2.ai == (i : Int) + 1) && ((doT (pT i) (ca 7 (i : Int) 1 ⟨#[100]⟩ 0 0 [])).2.ag == 1))
noncomputable def gB2 (t : Th) (a b n : Nat) : Bool := match decide (a < b) with
  | true => pathB t (a + 1) ((List.range (b - a - 1)).map fun j => j + a + 2) b && (((doR true t (rnC a b)).2.st == 64) && ((doR true t (rnC a b)).1.ch == t.ch))
  | false => closedB t ((List.range (n - a)).map fun j => j + a + 1) && (((List.range (n - a)).map fun j => j + a + 1).contains (a + 1) && (!(((List.range (n - a)).map fun j => j + a + 1).contains b) && (((doR false t (rnC a b)).2.st == 0) &&
      (((doT (doR false t (rnC a b)).1 (ca 1 (b : Int) 1 ⟨#[101]⟩ 0 0 [])).2.ai == (a : Int) + 1) && (((doT (doR false t (rnC a b)).1 (ca 1 (b : Int) 1 ⟨#[101]⟩ 0 0 [])).2.ag == 1) && sndB (doR false t (rnC a b)).1)))))
noncomputable def oB (n a b : Nat) : Bool := foB (folderE (pT n) (a : Int) 1) a && (foB (folderE (pT n) (b : Int) 1) b && (foB (childE (pT n) a ⟨#[100]⟩) (a + 1) && gB2 (pT n) a b n))
noncomputable def oN (n : Nat) : Bool := (List.range n).all fun a => (List.range (n + 1)).all fun b => oB n a b
theorem pB_all : (List.range 8).all pB = true := by kernel_rfl
theorem oN_1 : oN 1 = true := by kernel_rfl
theorem oN_2 : oN 2 = true := by kernel_rfl
theorem oN_3 : oN 3 = true := by kernel_rfl
theorem oN_4 : oN 4 = true := by kernel_rfl
theorem oN_5 : oN 5 = true := by kernel_rfl
theorem oN_6 : oN 6 = true := by kernel_rfl
theorem oN_7 : oN 7 = true := by kernel_rfl
theorem oN_8 : oN 8 = true := by kernel_rfl
theorem oN_all {n : Nat} (h1 : 1 ≤ n) (h8 : n ≤ 8) : oN n = true := by
  have h : n = 1 ∨ n = 2 ∨ n = 3 ∨ n = 4 ∨ n = 5 ∨ n = 6 ∨ n = 7 ∨ n = 8 := by omega
  rcases h with rfl | rfl | rfl | rfl | rfl | rfl | rfl | rfl
  · exact oN_1
  · exact oN_2
  · exact oN_3
  · exact oN_4
  · exact oN_5
  · exact oN_6
  · exact oN_7
  · exact oN_8
theorem oB_get {n a b : Nat} (h1 : 1 ≤ n) (h8 : n ≤ 8) (ha : a < n) (hb : b ≤ n) : oB n a b = true := List.all_eq_true.1 (List.all_eq_true.1 (oN_all h1 h8) a (List.mem_range.2 ha)) b (List.mem_range.2 (by omega))
/-- What the rename comes to. -/
theorem ren_st {n a b : Nat} (h1 : 1 ≤ n) (h8 : n ≤ 8) (ha : a < n) (hb : b ≤ n) :
    (a < b → (doT (pT n) (rnC a b)).2.st = 64 ∧ (doT (pT n) (rnC a b)).1.ch = (pT n).ch) ∧
    (¬ a < b → (doT (pT n) (rnC a b)).2.st = 0 ∧ (doT (doT (pT n) (rnC a b)).1 (ca 1 (b : Int) 1 ⟨#[101]⟩ 0 0 [])).2.ai = (a : Int) + 1 ∧ (doT (doT (pT n) (rnC a b)).1 (ca 1 (b : Int) 1 ⟨#[101]⟩ 0 0 [])).2.ag = 1 ∧ SndT (doT (pT n) (rnC a b)).1) := by
  have h := oB_get h1 h8 ha hb
  unfold oB at h
  rw [Bool.and_eq_true, Bool.and_eq_true, Bool.and_eq_true] at h
  obtain ⟨e1, e2, e3, hg⟩ := h
  have f1 := foB_ok e1
  have f2 := foB_ok e2
  have f3 := foB_ok e3
  have key : ∀ bl, belowB (pT n) (a + 1) b = bl → doT (pT n) (rnC a b) = doR bl (pT n) (rnC a b) := fun bl hbl => doT_R rfl (renameE_B (t := pT n) (r := toldR (rnC a b)) (c := rnC a b) f1 f2 f3 hbl)
  unfold gB2 at hg
  refine ⟨fun hlt => ?_, fun hlt => ?_⟩
  · rw [decide_eq_true hlt] at hg
    dsimp only at hg
    rw [Bool.and_eq_true, Bool.and_eq_true, beq_iff_eq, beq_iff_eq] at hg
    rw [key true (below_yes _ hg.1)]
    exact hg.2
  · rw [decide_eq_false hlt] at hg
    dsimp only at hg
    rw [Bool.and_eq_true, Bool.and_eq_true, Bool.and_eq_true, Bool.and_eq_true, Bool.and_eq_true, Bool.and_eq_true, beq_iff_eq, beq_iff_eq, beq_iff_eq] at hg
    obtain ⟨g1, g2, g3, g4, g5, g6, g7⟩ := hg
    rw [key false (below_not _ g1 g2 (by simpa using g3))]
    exact ⟨g4, g5, g6, SndT.of g7⟩
theorem pB_st {i : Nat} (h : i < 8) : (doT (pT i) (ca 7 (i : Int) 1 ⟨#[100]⟩ 0 0 [])).2.st = 0 ∧ (doT (pT i) (ca 7 (i : Int) 1 ⟨#[100]⟩ 0 0 [])).2.ai = (i : Int) + 1 ∧ (doT (pT i) (ca 7 (i : Int) 1 ⟨#[100]⟩ 0 0 [])).2.ag = 1 := by
  have h2 := List.all_eq_true.1 pB_all i (List.mem_range.2 h)
  unfold pB at h2
  rw [Bool.and_eq_true, Bool.and_eq_true, beq_iff_eq, beq_iff_eq, beq_iff_eq] at h2
  exact h2
end Go.Proofs.YtanemmcddgkpdaaGreat.Sx
