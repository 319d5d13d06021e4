/- Chapter 08: entries read a few at a time, pure; conditions: those that each theorem names. -/
import Derived.Test.YtanemmcddgkpdaaGreatJU
import Derived.Test.YtanemmcddgkpdaaGreatJD
import Derived.Test.YtanemmcddgkpdaaGreatJE
namespace Go.Proofs.YtanemmcddgkpdaaGreat.Hm
open Go.RowKit Go.Proofs.YtanemmcddgkpdaaGreatW.PrintWords Go.Proofs.YtanemmcddgkpdaaGreatW.PrintLast Go.Proofs.YtanemmcddgkpdaaGreatW.PrintMore
set_option linter.unusedVariables false
set_option linter.unusedSimpArgs false
theorem addM_last {l : List Ent} {e : Ent} (h : (addM l e).2 = 0) : lastC l < e.c := by
  unfold addM at h
  split at h
  · rename_i h1
    exact absurd h h1
  · split at h
    · exact absurd h (by decide)
    · split at h
      · exact absurd h (by decide)
      · omega
theorem asc_take {l : List Ent} (h : mayOk l) : ∀ n, n ≤ l.length → ∀ x ∈ l.take n, x.c ≤ lastC (l.take n) := by
  intro n
  induction n with
  | zero => intro _ x hx; simp at hx
  | succ n ih =>
    intro hn x hx
    obtain ⟨y, hy⟩ : ∃ y, l[n]? = some y := ⟨_, List.getElem?_eq_getElem (by omega)⟩
    rw [lastC_take l n y hy]
    have h2 := addM_last (h n y hy)
    obtain ⟨hlt, hv⟩ := List.getElem?_eq_some_iff.1 hy
    rw [List.take_succ_eq_append_getElem hlt, hv] at hx
    rcases List.mem_append.1 hx with hx | hx
    · have := ih (by omega) x hx
      omega
    · have := List.mem_singleton.1 hx
      rw [this]
      exact Int.le_refl _
theorem idx_pages {l : List Ent} (h : mayOk l) {n : Nat} (hn : n ≤ l.length) : idxE (fun e => decide (lastC (l.take n) < e.c)) l = if n < l.length then (n : Int) else -1 := by
  by_cases hlt : n < l.length
  · rw [if_pos hlt]
    obtain ⟨y, hy⟩ : ∃ y, l[n]? = some y := ⟨_, List.getElem?_eq_getElem hlt⟩
    exact idxE_hit _ l n y hy (decide_eq_true (addM_last (h n y hy))) (fun x hx => decide_eq_false (by have := asc_take h n hn x hx; omega))
  · rw [if_neg hlt]
    have e : l.take n = l := List.take_of_length_le (by omega)
    have h2 := asc_take h n hn
    rw [e] at h2 ⊢
    exact idxE_none _ l (fun x hx => decide_eq_false (by have := h2 x hx; omega))
theorem after_pages {l : List Ent} (h : mayOk l) {n : Nat} (hn : n ≤ l.length) (q : Nat) :
    afterM l (lastC (l.take n)) q = if n < l.length then ((l.take (n + min q (l.length - n))).drop n, decide (n + min q (l.length - n) = l.length)) else ([], true) := by
  unfold afterM
  rw [idx_pages h hn]
  by_cases hlt : n < l.length
  · rw [if_pos hlt, if_pos hlt, if_neg (by omega)]
    simp only [Int.toNat_natCast]
  · rw [if_neg hlt, if_neg hlt, if_pos (by decide)]
end Go.Proofs.YtanemmcddgkpdaaGreat.Hm
