/- Chapter 8's entries by their names: what adding and removing does; conditions: those that each theorem names. -/
import Derived.Test.YtpbhanpblmoepaaDoorJU
namespace Go.Proofs.YtpbhanpblmoepaaDoor.Hm
open Go.RowKit Go.Proofs.YtpbhanpblmoepaaDoorW.PrintWords Go.Proofs.YtpbhanpblmoepaaDoorW.PrintLast Go.Proofs.YtpbhanpblmoepaaDoorW.PrintMore
set_option linter.unusedVariables false
set_option linter.unusedSimpArgs false

theorem bytesB_at {b : List Int} (hb : bytesB b = true) {i : Nat} {x : Int} (h : b[i]? = some x) : 0 ≤ x ∧ x < 256 := (bytesB_iff b).1 hb x (List.mem_of_getElem? h)
def namesOf (l : List Ent) : List (List Int) := l.map fun e => bytesOf e.s
theorem namesOf_snoc (l : List Ent) (e : Ent) : namesOf (l ++ [e]) = namesOf l ++ [bytesOf e.s] := by simp [namesOf]
theorem namesOf_length (l : List Ent) : (namesOf l).length = l.length := by simp [namesOf]
theorem idxN_none {l : List Ent} {s : List Int} (h : s ∉ namesOf l) : idxN l s = -1 := by
  refine idxE_none _ _ (fun x hx => ?_)
  rw [beq_eq_false_iff_ne]
  intro e
  exact h (by rw [← e]; exact List.mem_map_of_mem hx)
theorem idxN_some {l : List Ent} {s : List Int} (h : s ∈ namesOf l) : ∃ (k : Nat) (e : Ent), l[k]? = some e ∧ bytesOf e.s = s ∧ idxN l s = k ∧ s ∉ namesOf (l.take k) := by
  unfold idxN idxE
  obtain ⟨e, he, hs⟩ := List.mem_map.1 h
  cases hf : l.findIdx? (fun e => bytesOf e.s == s) with
  | none =>
    rw [List.findIdx?_eq_none_iff] at hf
    have := hf e he
    simp [hs] at this
  | some k =>
    rw [List.findIdx?_eq_some_iff_getElem] at hf
    obtain ⟨hlt, h1, h2⟩ := hf
    refine ⟨k, l[k], List.getElem?_eq_getElem hlt, by simpa using h1, rfl, fun hm => ?_⟩
    obtain ⟨x, hx, hxs⟩ := List.mem_map.1 hm
    obtain ⟨j, hj, rfl⟩ := List.mem_iff_getElem.1 hx
    have hj' : j < k := by have := hj; rw [List.length_take] at this; omega
    have := h2 j hj'
    rw [List.getElem_take] at hxs
    simp [hxs] at this
theorem addM_new {l : List Ent} {e : Ent} (hn : nameE (bytesOf e.s) = 0) (hi : bytesOf e.s ∉ namesOf l) (hc : lastC l < e.c) : addM l e = (l ++ [e], 0) := by
  rw [addM_N]
  unfold addN
  rw [if_neg (by simp [hn]), idxN_none hi, if_neg (by decide), if_neg (by omega)]
theorem addM_old {l : List Ent} {e : Ent} (hn : nameE (bytesOf e.s) = 0) (hi : bytesOf e.s ∈ namesOf l) : addM l e = ([], 61) := by
  obtain ⟨k, x, -, -, hk, -⟩ := idxN_some hi
  rw [addM_N]
  unfold addN
  rw [if_neg (by simp [hn]), hk, if_pos (by omega)]
theorem find_new {l : List Ent} {e : Ent} {s : ByteArray} (hs : bytesOf e.s = bytesOf s) (hi : bytesOf s ∉ namesOf l) : idxE (fun x => x.s.toList == s.toList) (l ++ [e]) = l.length := by
  rw [idxE_N]
  obtain ⟨k, x, h1, h2, h3, h4⟩ := idxN_some (l := l ++ [e]) (s := bytesOf s) (by rw [namesOf_snoc, hs]; simp)
  rw [h3]
  have hk := (List.getElem?_eq_some_iff.1 h1).1
  rw [List.length_append, List.length_singleton] at hk
  rcases Nat.lt_or_ge k l.length with h | h
  · rw [List.getElem?_append_left h] at h1
    exact absurd (by rw [← h2]; exact List.mem_map_of_mem (List.mem_of_getElem? h1)) hi
  · have : k = l.length := by omega
    rw [this]
theorem find_none {l : List Ent} {s : ByteArray} (hi : bytesOf s ∉ namesOf l) : idxE (fun x => x.s.toList == s.toList) l = -1 := by rw [idxE_N, idxN_none hi]
theorem lastC_snoc (l : List Ent) (e : Ent) : lastC (l ++ [e]) = e.c := by simp [lastC]
theorem name1 {x : Int} (h0 : 47 < x) (h1 : x < 256) : nameE [x] = 0 := by
  unfold nameE nameB
  rw [if_pos]
  simp only [List.length_singleton, Bool.and_eq_true, decide_eq_true_eq, Bool.not_eq_true', ne_eq, List.cons.injEq, and_true]
  refine ⟨by decide, by decide, ?_, by omega, by simp⟩
  unfold sepB
  simp [sepR]
  omega
theorem mayOk_putM {l : List Ent} (h : mayOk l) : putM l = (l.flatMap encE, 0) := by
  unfold putM
  rw [if_pos ((mayB_iff l).2 h)]
theorem bytes1 {x : Int} (h0 : 0 ≤ x) (h1 : x < 256) : bytesOf (strOfNums [x]) = [x] := bytesOf_strOfNums _ (by simp [bytesB]; omega)
theorem bytes2 {x y : Int} (h0 : 0 ≤ x) (h1 : x < 256) (h2 : 0 ≤ y) (h3 : y < 256) : bytesOf (strOfNums [x, y]) = [x, y] := bytesOf_strOfNums _ (by simp [bytesB]; omega)
theorem bytesB_encE {e : Ent} (hw : e.wf) (hs : (bytesOf e.s).length ≤ 24) : bytesB (encE e) = true := by
  unfold encE opq
  obtain ⟨h0, h1, h2, h3, h4, h5⟩ := hw
  simp only [bytesB_append, bytesOf_range, bytesB_zeros, bytesB_be64 _ h0 h1, bytesB_be32 _ h2 h3, bytesB_be32 _ h4 h5]
  rw [bytesB_be32 _ (by omega) (by omega)]
  rfl
theorem bytesB_flatE {l : List Ent} (hw : ∀ e ∈ l, e.wf) (hs : ∀ e ∈ l, (bytesOf e.s).length ≤ 24) : bytesB (l.flatMap encE) = true := by
  rw [bytesB_iff]
  intro x hx
  obtain ⟨e, he, hx⟩ := List.mem_flatMap.1 hx
  exact (bytesB_iff _).1 (bytesB_encE (hw e he) (hs e he)) x hx
end Go.Proofs.YtpbhanpblmoepaaDoor.Hm
