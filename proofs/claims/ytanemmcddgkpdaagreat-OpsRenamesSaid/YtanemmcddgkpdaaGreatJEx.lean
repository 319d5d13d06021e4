/- Chapter 13: a thing that is renamed, pure; conditions: those that each theorem names. -/
import Derived.Test.YtanemmcddgkpdaaGreatJN9
import Derived.Test.YtanemmcddgkpdaaGreatJN8
namespace Go.Proofs.YtanemmcddgkpdaaGreat.Sx
open Go.RowKit Go.Proofs.YtanemmcddgkpdaaGreat.Hm Go.Proofs.YtanemmcddgkpdaaGreatW.PrintWords Go.Proofs.YtanemmcddgkpdaaGreatW.PrintLast Go.Proofs.YtanemmcddgkpdaaGreatW.PrintMore
set_option linter.unusedVariables false
set_option linter.unusedSimpArgs false

/-- A call that renames, in the root. -/
abbrev rc (x y : ByteArray) : Ca := ⟨0, 0, 12, 0, 1, x, 0, 1, y, 0, 0, 0, 0, []⟩
theorem rc_wf {x y : ByteArray} : (rc x y).wf :=
  ⟨u32_0, u32_0, ⟨by show (0:Int) ≤ 12; decide, by show (12:Int) < 4294967296; decide⟩, u32_0, ⟨by show (0:Int) ≤ 1; decide, by show (1:Int) < 4294967296; decide⟩, u32_0, ⟨by show (0:Int) ≤ 1; decide, by show (1:Int) < 4294967296; decide⟩, u64_0, u64_0, u32_0, u32_0, rfl⟩
noncomputable def r1 (a : Nat) : Th × Re := doT (formT 20) (ca 6 0 1 (nm a) 0 0 [])
noncomputable def r2 (a : Nat) : Th × Re := doT (r1 a).1 (ca 5 1 1 ⟨#[]⟩ 0 0 [111, 110, 101])
noncomputable def r3 (a b : Nat) : Th × Re := doT (r2 a).1 (ca 6 0 1 (nm b) 0 0 [])
noncomputable def r3T (a b : Nat) : Bool → Th
  | true => (r3 a b).1
  | false => (r2 a).1
noncomputable def r4 (a b : Nat) (bt : Bool) : Th × Re := doT (r3T a b bt) (rc (nm a) (nm b))
/-- Is what a call renames no directory? -/
noncomputable def filB (t : Th) (c : Ca) : Bool := match folderE t c.ai c.ag with
  | .ok fr => match childE t fr c.name with
    | .ok k => (atT t k).kind != 2
    | .error _ => true
  | .error _ => true
theorem filB_ok {t : Th} {c : Ca} (h : filB t c = true) : ∀ fr k, folderE t c.ai c.ag = .ok fr → childE t fr c.name = .ok k → (atT t k).kind ≠ 2 := by
  intro fr k h1 h2
  unfold filB at h
  rw [h1] at h
  dsimp only at h
  rw [h2] at h
  simpa using h
noncomputable def chR (a b : Nat) (bt : Bool) : Bool :=
  ((r1 a).2.ai == 1) && (((r1 a).2.ag == 1) && (((!bt) || (((r3 a b).2.ai == 2) && ((r3 a b).2.ag == 1))) && (filB (r3T a b bt) (rc (nm a) (nm b)) && (((r4 a b bt).2.st == 0) &&
  (((doT (r4 a b bt).1 (ca 1 0 1 (nm b) 0 0 [])).2.st == 0) && (((doT (r4 a b bt).1 (ca 1 0 1 (nm b) 0 0 [])).2.ai == 1) && (((doT (r4 a b bt).1 (ca 1 0 1 (nm b) 0 0 [])).2.ag == 1) &&
  ((((doT (r4 a b bt).1 (ca 1 0 1 (nm a) 0 0 [])).2.st == 0) == (a == b)) && (((doT (r4 a b bt).1 (ca 4 1 1 ⟨#[]⟩ 9 0 [])).2.d == [111, 110, 101]) && ((!bt) || ((doT (r4 a b bt).1 (ca 2 2 1 ⟨#[]⟩ 0 0 [])).2.st == 69)))))))))))
noncomputable def okR : Bool := (List.range 4).all fun a => (List.range 4).all fun b => chR a b false && (a == b || chR a b true)
theorem okR_ok : okR = true := by kernel_rfl
def nmB : Bool := (List.range 4).all fun a => (List.range 4).all fun b => ((nm a).toList == (nm b).toList) == (a == b)
theorem nmB_ok : nmB = true := by kernel_rfl
theorem nm_eq {a b : Nat} (ha : a < 4) (hb : b < 4) : ((nm a).toList == (nm b).toList) = (a == b) := by
  have h := List.all_eq_true.1 (List.all_eq_true.1 nmB_ok a (List.mem_range.2 ha)) b (List.mem_range.2 hb)
  simpa using h
theorem chR_all {a b : Nat} {bt : Bool} (ha : a < 4) (hb : b < 4) (h : bt = true → a ≠ b) : chR a b bt = true := by
  have h9 := List.all_eq_true.1 (List.all_eq_true.1 okR_ok a (List.mem_range.2 ha)) b (List.mem_range.2 hb)
  rw [Bool.and_eq_true, Bool.or_eq_true] at h9
  cases bt with
  | false => exact h9.1
  | true => exact h9.2.resolve_left (fun h' => h rfl (by simpa using h'))
theorem chR_st {a b : Nat} {bt : Bool} (h : chR a b bt = true) : (r1 a).2.ai = 1 ∧ (r1 a).2.ag = 1 ∧ (bt = true → (r3 a b).2.ai = 2 ∧ (r3 a b).2.ag = 1) ∧ filB (r3T a b bt) (rc (nm a) (nm b)) = true ∧ (r4 a b bt).2.st = 0 ∧
    (doT (r4 a b bt).1 (ca 1 0 1 (nm b) 0 0 [])).2.st = 0 ∧ (doT (r4 a b bt).1 (ca 1 0 1 (nm b) 0 0 [])).2.ai = 1 ∧ (doT (r4 a b bt).1 (ca 1 0 1 (nm b) 0 0 [])).2.ag = 1 ∧
    ((doT (r4 a b bt).1 (ca 1 0 1 (nm a) 0 0 [])).2.st == 0) = (a == b) ∧ (doT (r4 a b bt).1 (ca 4 1 1 ⟨#[]⟩ 9 0 [])).2.d = [111, 110, 101] ∧ (bt = true → (doT (r4 a b bt).1 (ca 2 2 1 ⟨#[]⟩ 0 0 [])).2.st = 69) := by
  unfold chR at h
  simp only [Bool.and_eq_true, Bool.or_eq_true, Bool.not_eq_true', beq_iff_eq] at h
  obtain ⟨h1, h2, h3, h4, h5, h6, h7, h8, h9, h10, h11⟩ := h
  refine ⟨h1, h2, fun hb => h3.resolve_left (by rw [hb]; simp), h4, h5, h6, h7, h8, h9, h10, fun hb => h11.resolve_left (by rw [hb]; simp)⟩
theorem r4_def (a b : Nat) (bt : Bool) : r4 a b bt = doT (r3T a b bt) (rc (nm a) (nm b)) := rfl
theorem r3T_t (a b : Nat) : r3T a b true = (r3 a b).1 := rfl
theorem r3T_f (a b : Nat) : r3T a b false = (r2 a).1 := rfl
end Go.Proofs.YtanemmcddgkpdaaGreat.Sx
