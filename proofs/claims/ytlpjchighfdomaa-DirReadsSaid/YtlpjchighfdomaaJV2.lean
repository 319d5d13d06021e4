/- Chapter 8's entries under names of one letter: what adding and removing does; conditions: those that each theorem names. -/
import Derived.Test.YtlpjchighfdomaaJV
namespace Go.Proofs.Ytlpjchighfdomaa.Hm
open Go.RowKit Go.Proofs.YtlpjchighfdomaaW.PrintWords Go.Proofs.YtlpjchighfdomaaW.PrintLast Go.Proofs.YtlpjchighfdomaaW.PrintMore
set_option linter.unusedVariables false
set_option linter.unusedSimpArgs false

/-- Bools for the numbers below n: is each one among these? -/
def inK (n : Nat) (ks : List Nat) : List Value := (List.range n).map fun (k : Nat) => .bool (decide (k ∈ ks))
theorem inK_len (n : Nat) (ks : List Nat) : (inK n ks).length = n := by simp [inK]
theorem inK_get {n : Nat} {ks : List Nat} {k : Nat} (h : k < n) : (inK n ks)[k]? = some (.bool (decide (k ∈ ks))) := by simp [inK, h]
theorem inK_nil (n : Nat) : inK n [] = List.replicate n (.bool false) := by
  unfold inK
  apply List.ext_getElem?
  intro j
  rcases Nat.lt_or_ge j n with hj | hj <;> simp [hj, List.getElem?_replicate]
theorem inK_put {n : Nat} {ks ks' : List Nat} {k : Nat} {b : Bool} (h : k < n) (hk : decide (k ∈ ks') = b) (ho : ∀ j, j ≠ k → (j ∈ ks' ↔ j ∈ ks)) : (inK n ks).set k (.bool b) = inK n ks' := by
  apply List.ext_getElem?
  intro j
  rcases Nat.lt_or_ge j n with hj | hj
  · rw [inK_get hj, List.getElem?_set]
    by_cases hkj : k = j
    · subst hkj
      rw [if_pos rfl, if_pos (by rw [inK_len]; exact hj), hk]
    · rw [if_neg hkj, inK_get hj]
      congr 2
      exact decide_eq_decide.2 (ho j (Ne.symm hkj)).symm
  · rw [List.getElem?_eq_none (by rw [List.length_set, inK_len]; exact hj), List.getElem?_eq_none (by rw [inK_len]; exact hj)]
/-- The entry under a letter. -/
def entL (k : Nat) : Ent := ⟨(k : Int) + 5, 0, 0, strOfNums [97 + (k : Int)]⟩
theorem entL_bytes {k : Nat} (h : k < 100) : bytesOf (entL k).s = [97 + (k : Int)] := bytes1 (by omega) (by omega)
theorem entL_name {k : Nat} (h : k < 100) : nameE (bytesOf (entL k).s) = 0 := by rw [entL_bytes h]; exact name1 (by omega) (by omega)
theorem entL_wf {k : Nat} (h : k < 100) : (entL k).wf := ⟨by show 0 ≤ (k : Int) + 5; omega, by show (k : Int) + 5 < _; omega, by show (0 : Int) ≤ 0; omega, by show (0 : Int) < _; omega, by show (0 : Int) ≤ 0; omega, by show (0 : Int) < _; omega⟩
theorem entL_in {ks : List Nat} (hk : ∀ k ∈ ks, k < 100) {g : Nat} (hg : g < 100) : bytesOf (entL g).s ∈ namesOf (ks.map entL) ↔ g ∈ ks := by
  unfold namesOf
  rw [entL_bytes hg, List.map_map, List.mem_map]
  constructor
  · rintro ⟨k, h1, h2⟩
    rw [Function.comp, entL_bytes (hk k h1)] at h2
    have : k = g := by simp at h2; omega
    exact this ▸ h1
  · intro h
    exact ⟨g, h, by rw [Function.comp, entL_bytes hg]⟩
theorem entL_last (n : Nat) : lastC ((List.range n).map entL) < (n : Int) + 5 := by
  cases n with
  | zero => simp [lastC]
  | succ n => rw [List.range_succ, List.map_append]; show lastC (_ ++ [entL n]) < _; rw [lastC_snoc]; show (n : Int) + 5 < _; omega
theorem entL_add {n : Nat} (h : n < 100) : addM ((List.range n).map entL) (entL n) = ((List.range (n + 1)).map entL, 0) := by
  rw [addM_new (entL_name h) (by rw [entL_in (fun k hk => by have := List.mem_range.1 hk; omega) h]; simp) (by show _ < (n : Int) + 5; exact entL_last n), List.range_succ, List.map_append]
  rfl
theorem entL_gone {ks : List Nat} (hk : ∀ k ∈ ks, k < 100) {g : Nat} (hg : g < 100) (h : g ∉ ks) : removeM (ks.map entL) (entL g).s = ([], 60) := by
  unfold removeM
  rw [find_none (by rw [entL_in hk hg]; exact h), if_pos (by decide)]
theorem erase_at {ks : List Nat} (hn : ks.Nodup) : ∀ {j g : Nat}, ks[j]? = some g → ks.erase g = ks.eraseIdx j := by
  induction ks with
  | nil => intro j g h; simp at h
  | cons x ks ih =>
    intro j g h
    cases j with
    | zero =>
      obtain rfl : x = g := by simpa using h
      simp
    | succ j =>
      have h' : ks[j]? = some g := by simpa using h
      have hx : x ≠ g := fun e => (List.nodup_cons.1 hn).1 (e ▸ List.mem_of_getElem? h')
      rw [List.erase_cons_tail (by simpa using hx), ih (List.nodup_cons.1 hn).2 h', List.eraseIdx_cons_succ]
theorem map_eraseIdx {α β : Type} (f : α → β) : ∀ (l : List α) (j : Nat), (l.map f).eraseIdx j = (l.eraseIdx j).map f
  | [], j => by simp
  | x :: l, 0 => by simp
  | x :: l, j + 1 => by simp [map_eraseIdx f l j]
theorem entL_remove {ks : List Nat} (hk : ∀ k ∈ ks, k < 100) (hn : ks.Nodup) {g : Nat} (hg : g < 100) (h : g ∈ ks) : removeM (ks.map entL) (entL g).s = ((ks.erase g).map entL, 0) := by
  obtain ⟨j, e, h1, h2, h3, -⟩ := idxN_some ((entL_in hk hg).2 h)
  unfold removeM
  rw [idxE_N, h3, if_neg (by omega), Int.toNat_natCast, map_eraseIdx]
  rw [List.getElem?_map] at h1
  obtain ⟨k, h4, rfl⟩ := Option.map_eq_some_iff.1 h1
  rw [entL_bytes (hk k (List.mem_of_getElem? h4)), entL_bytes hg] at h2
  have hkg : k = g := by simp at h2; omega
  subst hkg
  rw [erase_at hn h4]
/-- The letters below i come first. -/
theorem part_in {p q : List Nat} {i : Nat} (hs : (p ++ q).Pairwise (· < ·)) (hp : ∀ k ∈ p, k < i) (hq : ∀ k ∈ q, i ≤ k) (h : i ∈ p ++ q) : ∃ q', q = i :: q' ∧ (∀ k ∈ p ++ [i], k < i + 1) ∧ (∀ k ∈ q', i + 1 ≤ k) := by
  rcases List.mem_append.1 h with h | h
  · have := hp i h; omega
  · cases q with
    | nil => simp at h
    | cons x q' =>
      have hs2 := (List.pairwise_append.1 hs).2.1
      have hx := hq x List.mem_cons_self
      have hxi : x = i := by
        rcases List.mem_cons.1 h with h | h
        · exact h.symm
        · have := List.rel_of_pairwise_cons hs2 h
          omega
      subst hxi
      refine ⟨q', rfl, fun k hk => ?_, fun k hk => ?_⟩
      · rcases List.mem_append.1 hk with hk | hk
        · have := hp k hk; omega
        · rw [List.mem_singleton.1 hk]; omega
      · exact List.rel_of_pairwise_cons hs2 hk
theorem part_out {p q : List Nat} {i : Nat} (hp : ∀ k ∈ p, k < i) (hq : ∀ k ∈ q, i ≤ k) (h : i ∉ p ++ q) : (∀ k ∈ p, k < i + 1) ∧ (∀ k ∈ q, i + 1 ≤ k) := by
  refine ⟨fun k hk => by have := hp k hk; omega, fun k hk => ?_⟩
  have h1 := hq k hk
  have h2 : k ≠ i := fun e => h (List.mem_append.2 (.inr (e ▸ hk)))
  omega
end Go.Proofs.Ytlpjchighfdomaa.Hm
