/- Chapter 13: what lies below a directory, pure; conditions: those that each theorem names. -/
import Derived.Test.YtanemmcddgkpdaaGreatJN4
namespace Go.Proofs.YtanemmcddgkpdaaGreat.Hm
open Go.RowKit Go.Proofs.YtanemmcddgkpdaaGreatW.PrintWords Go.Proofs.YtanemmcddgkpdaaGreatW.PrintLast Go.Proofs.YtanemmcddgkpdaaGreatW.PrintMore
set_option linter.unusedVariables false
set_option linter.unusedSimpArgs false
theorem folderE_ok {t : Th} {i g : Int} {a : Nat} (h : folderE t i g = .ok a) : i < 24 ∧ i.toNat = a ∧ (atT t a).kind = 2 ∧ (atT t a).gen = g := by
  unfold folderE thingE at h
  cases h1 : decide (i < 24) with
  | false => rw [h1] at h; cases h
  | true =>
    rw [h1, needT, okE] at h
    cases h2 : ((atT t i.toNat).kind != 0 && (atT t i.toNat).gen == g) with
    | false => rw [h2] at h; cases h
    | true =>
      rw [h2, needT, okE, puE, okE] at h
      cases h3 : ((atT t i.toNat).kind == 2) with
      | false => rw [h3] at h; cases h
      | true =>
        rw [h3, needT, okE, puE] at h
        injection h with h
        subst h
        rw [Bool.and_eq_true] at h2
        exact ⟨of_decide_eq_true h1, rfl, by simpa using h3, by simpa using h2.2⟩
theorem folderE_of {t : Th} {i g : Int} {a : Nat} (h1 : i < 24) (h2 : i.toNat = a) (h3 : (atT t a).kind = 2) (h4 : (atT t a).gen = g) : folderE t i g = .ok a := by
  subst h2
  unfold folderE thingE
  rw [decide_eq_true h1, needT, okE, h3, h4]
  rw [show ((2 : Int) != 0 && g == g) = true by simp, needT, okE, puE, okE, h3, show ((2 : Int) == 2) = true from rfl, needT, okE, puE]
/-- The handles of a directory's entries. -/
def kidsH (s : Sl) : List (Int × Int) := (entS s).map fun e => (e.i, e.g)
/-- How many directories weren't seen yet. -/
def newN (t : Th) (seen : List (Int × Int)) : Nat := (List.range 24).countP fun a : Nat => !decide (((a : Int), (atT t a).gen) ∈ seen)
theorem countP_lt {α : Type} {p q : α → Bool} {x : α} (h : ∀ y, q y = true → p y = true) (hp : p x = true) (hq : q x = false) : ∀ {l : List α}, x ∈ l → l.countP q + 1 ≤ l.countP p
  | [], hx => by simp at hx
  | y :: l, hx => by
    rcases List.mem_cons.1 hx with rfl | hx
    · rw [List.countP_cons_of_pos hp, List.countP_cons_of_neg (by rw [hq]; exact Bool.false_ne_true)]
      have := List.countP_mono_left (l := l) (p := q) (q := p) (fun y _ => h y)
      omega
    · have ih := countP_lt h hp hq hx
      by_cases h1 : q y = true
      · rw [List.countP_cons_of_pos h1, List.countP_cons_of_pos (h y h1)]; omega
      · rw [List.countP_cons_of_neg h1]
        by_cases h2 : p y = true
        · rw [List.countP_cons_of_pos h2]; omega
        · rw [List.countP_cons_of_neg h2]; exact ih
theorem newN_le (t : Th) (seen : List (Int × Int)) (p : Int × Int) : newN t (seen ++ [p]) ≤ newN t seen := by
  unfold newN
  refine List.countP_mono_left (fun a _ h => ?_)
  simp only [Bool.not_eq_true', decide_eq_false_iff_not] at h ⊢
  exact fun h1 => h (List.mem_append_left _ h1)
theorem newN_lt {t : Th} {seen : List (Int × Int)} {i g : Int} {a : Nat} (h0 : 0 ≤ i) (h : folderE t i g = .ok a) (hn : (i, g) ∉ seen) : newN t (seen ++ [(i, g)]) + 1 ≤ newN t seen := by
  obtain ⟨h1, h2, h3, h4⟩ := folderE_ok h
  have hi : i = (a : Int) := by omega
  unfold newN
  refine countP_lt (x := a) (fun y hy => ?_) ?_ ?_ (List.mem_range.2 (by omega))
  · simp only [Bool.not_eq_true', decide_eq_false_iff_not] at hy ⊢
    exact fun h1 => hy (List.mem_append_left _ h1)
  · simp only [Bool.not_eq_true', decide_eq_false_iff_not]
    rw [h4, ← hi]; exact hn
  · simp only [Bool.not_eq_false', decide_eq_true_eq]
    rw [h4, ← hi]; exact List.mem_append_right _ (List.mem_singleton.2 rfl)
theorem newN_24 (t : Th) (seen : List (Int × Int)) : newN t seen ≤ 24 := by unfold newN; exact Nat.le_trans List.countP_le_length (by simp)
/-- What is so while what lies below a directory is looked for. -/
structure BI (t : Th) (k : Nat) (h : Int × Int) (i : Nat) (row seen : List (Int × Int)) : Prop where
  le : i ≤ row.length
  top : ((k : Int), (atT t k).gen) ∈ row
  re : ∀ p ∈ row, ∀ a, folderE t p.1 p.2 = .ok a → Reach t k a
  sn : ∀ j : Nat, j < i → ∀ p, row[j]? = some p → p ≠ h ∧ (p ∈ seen ∨ ¬ p.1 < 24)
  kd : ∀ p ∈ seen, ∀ a, folderE t p.1 p.2 = .ok a → ∀ q ∈ kidsH (atT t a), q ∈ row
  ok : ∀ p ∈ row, u32ok p.1 ∧ u32ok p.2
  sz : row.length + 768 * newN t seen ≤ 1 + 768 * 24
theorem BI.start {t : Th} {k : Nat} {h : Int × Int} (hk : k < 24) (hd : (atT t k).kind = 2) (hg : u32ok (atT t k).gen) : BI t k h 0 [((k : Int), (atT t k).gen)] [] := by
  refine ⟨Nat.zero_le _, List.mem_singleton.2 rfl, fun p hp a ha => ?_, fun j hj => absurd hj (Nat.not_lt_zero _), fun p hp => by simp at hp, fun p hp => ?_, ?_⟩
  · rw [List.mem_singleton.1 hp] at ha
    obtain ⟨-, h2, -, -⟩ := folderE_ok ha
    have : a = k := by
      have h3 : ((k : Int)).toNat = a := h2
      omega
    rw [this]
    exact Reach.here
  · rw [List.mem_singleton.1 hp]
    exact ⟨⟨by show (0:Int) ≤ (k : Int); omega, by show (k : Int) < 4294967296; omega⟩, hg⟩
  · have := newN_24 t []
    show 1 + 768 * _ ≤ _
    omega
theorem BI.found {t : Th} {k i to' : Nat} {h : Int × Int} {row seen : List (Int × Int)} (hI : BI t k h i row seen) (hi : row[i]? = some h) (hf : folderE t h.1 h.2 = .ok to') : Reach t k to' := hI.re h (List.mem_of_getElem? hi) to' hf
/-- A place passed over. -/
theorem BI.skip {t : Th} {k i : Nat} {h p : Int × Int} {row seen : List (Int × Int)} (hI : BI t k h i row seen) (hi : row[i]? = some p) (hn : p ≠ h) (hs : p ∈ seen ∨ ¬ p.1 < 24) : BI t k h (i + 1) row seen := by
  have hl := (List.getElem?_eq_some_iff.1 hi).1
  refine ⟨hl, hI.top, hI.re, fun j hj q hq => ?_, hI.kd, hI.ok, hI.sz⟩
  by_cases hji : j = i
  · subst hji
    rw [hi] at hq
    injection hq with hq
    subst hq
    exact ⟨hn, hs⟩
  · exact hI.sn j (by omega) q hq
/-- One that is no directory, seen. -/
theorem BI.leaf {t : Th} {k i : Nat} {h p : Int × Int} {row seen : List (Int × Int)} (hI : BI t k h i row seen) (hi : row[i]? = some p) (hn : p ≠ h) (hf : ∀ a, folderE t p.1 p.2 ≠ .ok a) : BI t k h (i + 1) row (seen ++ [p]) := by
  have hl := (List.getElem?_eq_some_iff.1 hi).1
  refine ⟨hl, hI.top, hI.re, fun j hj q hq => ?_, fun q hq a ha => ?_, hI.ok, ?_⟩
  · by_cases hji : j = i
    · subst hji
      rw [hi] at hq
      injection hq with hq
      subst hq
      exact ⟨hn, Or.inl (List.mem_append_right _ (List.mem_singleton.2 rfl))⟩
    · obtain ⟨h1, h2⟩ := hI.sn j (by omega) q hq
      exact ⟨h1, h2.imp (fun h => List.mem_append_left _ h) id⟩
  · rcases List.mem_append.1 hq with h1 | h1
    · exact hI.kd q h1 a ha
    · rw [List.mem_singleton.1 h1] at ha
      exact absurd ha (hf a)
  · have := newN_le t seen p
    have := hI.sz
    omega
/-- A directory, seen: its entries' handles are laid behind. -/
theorem BI.step {t : Th} {k i a : Nat} {h p : Int × Int} {row seen : List (Int × Int)} (hI : BI t k h i row seen) (hi : row[i]? = some p) (hn : p ≠ h) (hf : folderE t p.1 p.2 = .ok a) (hs : p ∉ seen) (hl : (entS (atT t a)).length ≤ 768) (hw : ∀ e ∈ entS (atT t a), e.wf) :
    BI t k h (i + 1) (row ++ kidsH (atT t a)) (seen ++ [p]) ∧ newN t (seen ++ [p]) + 1 ≤ newN t seen := by
  have hlt := (List.getElem?_eq_some_iff.1 hi).1
  have hpr := List.mem_of_getElem? hi
  have hnew : newN t (seen ++ [p]) + 1 ≤ newN t seen := newN_lt (hI.ok p hpr).1.1 hf hs
  have hra := hI.re p hpr a hf
  obtain ⟨-, -, hk2, -⟩ := folderE_ok hf
  refine ⟨⟨by rw [List.length_append]; omega, List.mem_append_left _ hI.top, fun q hq b hb => ?_, fun j hj q hq => ?_, fun q hq b hb x hx => ?_, fun q hq => ?_, ?_⟩, hnew⟩
  · rcases List.mem_append.1 hq with h1 | h1
    · exact hI.re q h1 b hb
    · obtain ⟨e, he, rfl⟩ := List.mem_map.1 h1
      exact Reach.step hra hk2 he hb
  · rw [List.getElem?_append_left (by omega)] at hq
    by_cases hji : j = i
    · subst hji
      rw [hi] at hq
      injection hq with hq
      subst hq
      exact ⟨hn, Or.inl (List.mem_append_right _ (List.mem_singleton.2 rfl))⟩
    · obtain ⟨h1, h2⟩ := hI.sn j (by omega) q hq
      exact ⟨h1, h2.imp (fun h => List.mem_append_left _ h) id⟩
  · rcases List.mem_append.1 hq with h1 | h1
    · exact List.mem_append_left _ (hI.kd q h1 b hb x hx)
    · rw [List.mem_singleton.1 h1] at hb
      rw [hf] at hb
      injection hb with hb
      subst hb
      exact List.mem_append_right _ hx
  · rcases List.mem_append.1 hq with h1 | h1
    · exact hI.ok q h1
    · obtain ⟨e, he, rfl⟩ := List.mem_map.1 h1
      obtain ⟨w1, w2, w3, w4, w5, w6⟩ := hw e he
      exact ⟨⟨w3, w4⟩, ⟨w5, w6⟩⟩
  · have := hI.sz
    rw [List.length_append]
    unfold kidsH
    rw [List.length_map]
    omega
theorem BI.done {t : Th} {k to' : Nat} {h : Int × Int} {row seen : List (Int × Int)} (hI : BI t k h row.length row seen) (hk : k < 24) (hd : (atT t k).kind = 2) (hf : folderE t h.1 h.2 = .ok to') (hh : u32ok h.1 ∧ u32ok h.2) : ¬ Reach t k to' := by
  have key : ∀ a, Reach t k a → ∃ p ∈ row, folderE t p.1 p.2 = .ok a := by
    intro a ha
    induction ha with
    | here => exact ⟨_, hI.top, folderE_of (by show (k : Int) < 24; omega) (by show ((k : Int)).toNat = k; omega) hd rfl⟩
    | step hr h2 he hb ih =>
      obtain ⟨p, hp, hpa⟩ := ih
      obtain ⟨j, hj, hjp⟩ := List.mem_iff_getElem.1 hp
      obtain ⟨-, h4⟩ := hI.sn j hj p (by rw [List.getElem?_eq_getElem hj, hjp])
      have h5 := (folderE_ok hpa).1
      have h6 : p ∈ seen := h4.resolve_right (fun h => h h5)
      exact ⟨_, hI.kd p h6 _ hpa _ (List.mem_map.2 ⟨_, he, rfl⟩), hb⟩
  intro hr
  obtain ⟨p, hp, hpa⟩ := key to' hr
  obtain ⟨j, hj, hjp⟩ := List.mem_iff_getElem.1 hp
  obtain ⟨h3, -⟩ := hI.sn j hj p (by rw [List.getElem?_eq_getElem hj, hjp])
  refine h3 ?_
  obtain ⟨a1, a2, -, a4⟩ := folderE_ok hpa
  obtain ⟨b1, b2, -, b4⟩ := folderE_ok hf
  have c1 := (hI.ok p hp).1.1
  have c2 := hh.1.1
  exact Prod.ext (by omega) (by rw [← a4, ← b4])
theorem belowB_t {t : Th} {k d : Nat} (h : Reach t k d) : belowB t k d = true := by unfold belowB; exact @decide_eq_true _ (Classical.propDecidable _) h
theorem belowB_f {t : Th} {k d : Nat} (h : ¬ Reach t k d) : belowB t k d = false := by unfold belowB; exact @decide_eq_false _ (Classical.propDecidable _) h
/-! ### reckoned -/
/-- A row of directories that is closed: what lies below each is in it. -/
def closedB (t : Th) (S : List Nat) : Bool := S.all fun a => (atT t a).kind != 2 || (entS (atT t a)).all fun e => match folderE t e.i e.g with
  | .ok b => S.contains b
  | .error _ => true
theorem below_not {t : Th} {k d : Nat} (S : List Nat) (h1 : closedB t S = true) (h2 : S.contains k = true) (h3 : S.contains d = false) : belowB t k d = false := by
  refine belowB_f (fun hr => ?_)
  have key : ∀ a, Reach t k a → a ∈ S := by
    intro a ha
    induction ha with
    | here => simpa using h2
    | step hr hk he hb ih =>
      have h4 := List.all_eq_true.1 h1 _ ih
      rw [hk] at h4
      rw [show ((2 : Int) != 2) = false from rfl, Bool.false_or] at h4
      have h5 := List.all_eq_true.1 h4 _ he
      rw [hb] at h5
      simpa using h5
  have := key d hr
  rw [List.contains_iff_mem.2 this] at h3
  cases h3
/-- A way down. -/
def pathB (t : Th) : Nat → List Nat → Nat → Bool
  | a, [], d => a == d
  | a, b :: r, d => (atT t a).kind == 2 && ((entS (atT t a)).any fun e => match folderE t e.i e.g with
    | .ok x => x == b
    | .error _ => false) && pathB t b r d
theorem path_reach {t : Th} {k d : Nat} : ∀ {r : List Nat} {a : Nat}, Reach t k a → pathB t a r d = true → Reach t k d
  | [], a, ha, h => by
    unfold pathB at h
    rw [← eq_of_beq h]
    exact ha
  | b :: r, a, ha, h => by
    unfold pathB at h
    rw [Bool.and_eq_true, Bool.and_eq_true] at h
    obtain ⟨⟨h1, h2⟩, h3⟩ := h
    obtain ⟨e, he, h4⟩ := List.any_eq_true.1 h2
    split at h4
    · rename_i x hx
      have h5 : x = b := eq_of_beq h4
      exact path_reach (Reach.step ha (by simpa using h1) he (h5 ▸ hx)) h3
    · cases h4
theorem below_yes {t : Th} {k d : Nat} (r : List Nat) (h : pathB t k r d = true) : belowB t k d = true := belowB_t (path_reach Reach.here h)
end Go.Proofs.YtanemmcddgkpdaaGreat.Hm
