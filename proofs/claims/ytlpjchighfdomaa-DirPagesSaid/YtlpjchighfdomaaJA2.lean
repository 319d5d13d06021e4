/- What a value that came in holds, with the reach: a slice's elements take no more bytes than a process has; conditions: those that each theorem names. -/
import Derived.Test.YtlpjchighfdomaaJA
import Derived.SizedLaws
namespace Go.Proofs.Ytlpjchighfdomaa.Hm
open Go.RowKit Go.ChangeShapes Go.WideShapes Go.Deep Go.Proofs.YtlpjchighfdomaaW.PrintWords Go.Proofs.YtlpjchighfdomaaW.PrintLast Go.Proofs.YtlpjchighfdomaaW.PrintMore
set_option linter.unusedVariables false
set_option linter.unusedSimpArgs false

/-- As Opens, where what was read is within the reach. -/
def OpensS (P : Program) (t : TypeId) {α : Type} (d : Kd α) (ok : α → Prop) : Prop :=
  ∀ (H : Type) (enc : TypeId × Value → H) (w : World) (base : Nat) (spare : Nat → Bool) (held : Bool) (fuel : Nat) (cs : List Value) (x : DataW H × List MemPlace),
    DataW.trod enc P w base spare held fuel t cs = some x → (∀ n ∈ x.1.weights P t, n ≤ reachBytes) → ∃ a, d.K w a cs ∧ ok a
theorem OpensS.of {P : Program} {t : TypeId} {α : Type} {d : Kd α} {ok : α → Prop} (h : Opens P t d ok) : OpensS P t d ok :=
  fun H enc w base spare held fuel cs x hx _ => h H enc w base spare held fuel cs x hx
theorem weightsAll_mem {H : Type} {P : Program} {e : TypeId} {l : List (DataW H)} {d : DataW H} (hd : d ∈ l) {n : Nat} (hn : n ∈ d.weights P e) : n ∈ DataW.weightsAll P e l := by
  induction l with
  | nil => cases hd
  | cons a l ih =>
    unfold DataW.weightsAll
    rcases List.mem_cons.1 hd with rfl | h
    · exact List.mem_append.2 (.inl hn)
    · exact List.mem_append.2 (.inr (ih h))
theorem opensS_slice {P : Program} {t e : TypeId} {α : Type} {d : Kd α} {ok : α → Prop} (e' : Nat) (ht : P.underlying t = some (.slice e)) (hc : P.cellsOf e = d.sz) (h : OpensS P e d ok) :
    OpensS P t (Kd.slice e' d) (fun l => l.length ≤ maxLen ∧ l.length * P.bytesOf e ≤ reachBytes ∧ ∀ x ∈ l, ok x) := by
  intro H enc w base spare held fuel cs x hx hwt
  rcases open_slice ht hx with ⟨rfl, _⟩ | ⟨a, len, cap, m, n, D, Pl, rfl, _, hl, hm, hmm, rfl, hi⟩
  · refine ⟨[], ⟨none, 0, rfl, Nat.le_refl _, ⟨rfl, by simp, fun h0 => by simp at h0⟩⟩, by simp, by simp, fun x hx => by simp at hx⟩
  · have hlm : len ≤ m := by rw [hmm]; split <;> omega
    have hw0 : ∀ n' ∈ (len + (m - len)) * P.bytesOf e :: (DataW.weightsAll P e ((List.range len).map D) ++ DataW.weightsAll P e ((List.range (m - len)).map fun j => D (len + j))), n' ≤ reachBytes := by
      intro n' hn'
      refine hwt n' ?_
      unfold DataW.weights
      rw [ht]
      simpa using hn'
    have hlb : len * P.bytesOf e ≤ reachBytes := Nat.le_trans (Nat.mul_le_mul_right _ (Nat.le_add_right _ _)) (hw0 _ List.mem_cons_self)
    obtain ⟨l, hll, hp⟩ := exists_list (p := fun i y => ok y ∧ ∃ cs', d.K w y cs' ∧ w.cells? base (a.add (i * P.cellsOf e)) (P.cellsOf e) = some cs') len (fun i hil => by
      obtain ⟨cs', hcs, htr⟩ := hi i (by omega)
      obtain ⟨y, hy, hoky⟩ := h H enc w base spare held n cs' _ htr (fun n' hn' => hw0 n' (List.mem_cons_of_mem _ (List.mem_append.2 (.inl (weightsAll_mem (List.mem_map.2 ⟨i, List.mem_range.2 hil, rfl⟩) hn')))))
      exact ⟨y, hoky, cs', hy, hcs⟩)
    refine ⟨l, ⟨some a, cap, by rw [hll], by omega, ⟨rfl, by rw [hll]; simp only [maxLen] at hm; omega, fun _ => ⟨a, rfl, fun j p hj => ?_⟩⟩⟩, by rw [hll]; omega, by rw [hll]; exact hlb, fun x hx => ?_⟩
    · obtain ⟨_, cs', hK, hcs⟩ := hp j p hj
      refine ⟨cs', d.K_len hK, hK, fun i u hu => ?_⟩
      obtain ⟨_, hcl, hat⟩ := World.cells?_some hcs
      have hiu := (List.getElem?_eq_some_iff.1 hu).1
      have := hat i (by omega)
      rw [Go.Deep.add_add, hc] at this
      rw [this, hu]
    · obtain ⟨i, hil, rfl⟩ := List.mem_iff_getElem.1 hx
      exact (hp i _ (List.getElem?_eq_getElem hil)).1
end Go.Proofs.Ytlpjchighfdomaa.Hm
