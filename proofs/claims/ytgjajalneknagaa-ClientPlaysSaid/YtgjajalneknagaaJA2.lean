/- What a value that came in holds, with the reach: a slice's elements take no more bytes than a process has; conditions: those that each theorem names. -/
import Derived.Test.YtgjajalneknagaaJA
import Derived.SizedLaws
namespace Go.Proofs.Ytgjajalneknagaa.Hm
open Go.RowKit Go.ChangeShapes Go.WideShapes Go.Deep Go.Proofs.YtgjajalneknagaaW.PrintWords Go.Proofs.YtgjajalneknagaaW.PrintLast Go.Proofs.YtgjajalneknagaaW.PrintMore
set_option linter.unusedVariables false
set_option linter.unusedSimpArgs false

/-- As Opens, where what was read is within the reach. -/
def OpensS (P : Program) (t : TypeId) {α : Type} (d : Kd α) (ok : α → Prop) : Prop :=
  ∀ (H : Type) (enc : TypeId × Value → H) (w : World) (base : Nat) (spare : Nat → Bool) (held : Bool) (fuel : Nat) (cs : List Value) (x : DataW H × List MemPlace),
    DataW.trod enc P w base spare held fuel t cs = some x → (∀ n ∈ x.1.weights P t, n ≤ reachBytes) → ∃ a, d.K w a cs ∧ ok a
theorem OpensS.of {P : Program} {t : TypeId} {α : Type} {d : Kd α} {ok : α → Prop} (h : Opens P t d ok) : OpensS P t d ok :=
  fun H enc w base spare held fuel cs x hx _ => h H enc w base spare held fuel cs x hx
theorem weightsAll_mem {H : Type} {P : Program} {e : TypeId} {l : List (DataW H)} {d : DataW H} (hd : d ∈ l) {n : Nat} (hn : n ∈ d.weights P e) : n ∈ DataW.weightsAll P e l := by
  induction l with
  | nil => cases hd
  | cons a l ih =>
    unfold DataW.weightsAll
    rcases List.mem_cons.1 hd with rfl | h
    · exact List.mem_append.2 (.inl hn)
    · exact List.mem_append.2 (.inr (ih h))
theorem opensS_slice {P : Program} {t e : TypeId} {α : Type} {d : Kd α} {ok : α → Prop} (e' : Nat) (ht : P.underlying t = some (.slice e)) (hc : P.cellsOf e = d.sz) (h : OpensS P e d ok) :
    OpensS P t (Kd.slice e' d) (fun l => l.length ≤ maxLen ∧ l.length * P.bytesOf e ≤ reachBytes ∧ ∀ x ∈ l, ok x) := by
  intro H enc w base spare held fuel cs x hx hwt
  rcases open_slice ht hx with ⟨rfl, _⟩ | ⟨a, len, cap, m, n, D, Pl, rfl, _, hl, hm, hmm, rfl, hi⟩
  · refine ⟨[], ⟨none, 0, rfl, Nat.le_refl _, ⟨rfl, by simp, fun h0 => by simp at h0⟩⟩, by simp, by simp, fun x hx => by simp at hx⟩
  · have hlm : len ≤ m := by rw [hmm]; split <;> omega
    have hw0 : ∀ n' ∈ (len + (m - len)) * P.bytesOf e :: (DataW.weightsAll P e ((List.range len).map D) ++ DataW.weightsAll P e ((List.range (m - len)).map fun j => D (len + j))), n' ≤ reachBytes := by
      intro n' hn'
      refine hwt n' ?_
      unfold DataW.weights
      rw [ht]
      simpa using hn'
    have hlb : len * P.bytesOf e ≤ reachBytes := Nat.le_trans (Nat.mul_le_mul_right _ (Nat.le_add_right _ _)) (hw0 _ List.mem_cons_self)
    obtain ⟨l, hll, hp⟩ := exists_list (p := fun i y => ok y ∧ ∃ cs', d.K w y cs' ∧ w.cells? base (a.add (i * P.cellsOf e)) (P.cellsOf e) = some cs') len (fun i hil => by
      obtain ⟨cs', hcs, htr⟩ := hi i (by omega)
      obtain ⟨y, hy, hoky⟩ := h H enc w base spare held n cs' _ htr (fun n' hn' => hw0 n' (List.mem_cons_of_mem _ (List.mem_append.2 (.inl (weightsAll_mem (List.mem_map.2 ⟨i, List.mem_range.2 hil, rfl⟩) hn')))))
      exact ⟨y, hoky, cs', hy, hcs⟩)
    refine ⟨l, ⟨some a, cap, by rw [hll], by omega, ⟨rfl, by rw [hll]; simp only [maxLen] at hm; omega, fun _ => ⟨a, rfl, fun j p hj => ?_⟩⟩⟩, by rw [hll]; omega, by rw [hll]; exact hlb, fun x hx => ?_⟩
    · obtain ⟨_, cs', hK, hcs⟩ := hp j p hj
      refine ⟨cs', d.K_len hK, hK, fun i u hu => ?_⟩
      obtain ⟨_, hcl, hat⟩ := World.cells?_some hcs
      have hiu := (List.getElem?_eq_some_iff.1 hu).1
      have := hat i (by omega)
      rw [Go.Deep.add_add, hc] at this
      rw [this, hu]
    · obtain ⟨i, hil, rfl⟩ := List.mem_iff_getElem.1 hx
      exact (hp i _ (List.getElem?_eq_getElem hil)).1
/-- The cells of fields, one behind the other, each within the reach. -/
def FieldsS (P : Program) (H : Type) (enc : TypeId × Value → H) (w : World) (base : Nat) (spare : Nat → Bool) (held : Bool) (n : Nat) : List TypeId → List Value → Prop
  | [], cs => cs = []
  | t :: ts, cs => ∃ c1 c2, cs = c1 ++ c2 ∧ (∃ y, DataW.trod enc P w base spare held n t c1 = some y ∧ ∀ n' ∈ y.1.weights P t, n' ≤ reachBytes) ∧ FieldsS P H enc w base spare held n ts c2
def OpensFS (P : Program) (ts : List TypeId) {α : Type} (d : Kd α) (ok : α → Prop) : Prop :=
  ∀ (H : Type) (enc : TypeId × Value → H) (w : World) (base : Nat) (spare : Nat → Bool) (held : Bool) (n : Nat) (cs : List Value),
    FieldsS P H enc w base spare held n ts cs → ∃ a, d.K w a cs ∧ ok a
theorem opensFS_one {P : Program} {t : TypeId} {α : Type} {d : Kd α} {ok : α → Prop} (h : OpensS P t d ok) : OpensFS P [t] d ok := by
  rintro H enc w base spare held n cs ⟨c1, c2, rfl, ⟨y, hy, hw⟩, rfl⟩
  rw [List.append_nil]
  exact h H enc w base spare held n c1 y hy hw
theorem opensFS_cons {P : Program} {t : TypeId} {ts : List TypeId} {α β : Type} {d : Kd α} {d' : Kd β} {ok : α → Prop} {ok' : β → Prop} (h : OpensS P t d ok) (h' : OpensFS P ts d' ok') :
    OpensFS P (t :: ts) (Kd.pair d d') (fun x => ok x.1 ∧ ok' x.2) := by
  rintro H enc w base spare held n cs ⟨c1, c2, rfl, ⟨y, hy, hw⟩, hf⟩
  obtain ⟨a, ha, hoa⟩ := h H enc w base spare held n c1 y hy hw
  obtain ⟨b, hb, hob⟩ := h' H enc w base spare held n c2 hf
  exact ⟨(a, b), ⟨c1, c2, rfl, ha, hb⟩, hoa, hob⟩
theorem fieldsS_from {P : Program} {H : Type} {enc : TypeId × Value → H} {w : World} {base : Nat} {spare : Nat → Bool} {held : Bool} {n total : Nat} {cs : List Value} (hcs : cs.length = total) (l : List Field) :
    ∀ o, laidFrom P total o l = true → (∀ f ∈ l, ∃ y, DataW.trod enc P w base spare held n f.type ((cs.drop f.offset).take (P.cellsOf f.type)) = some y ∧ ∀ n' ∈ y.1.weights P f.type, n' ≤ reachBytes) → FieldsS P H enc w base spare held n (l.map (·.type)) (cs.drop o) := by
  induction l with
  | nil =>
    intro o ho _
    have : o = total := by simpa [laidFrom] using ho
    show cs.drop o = []
    exact List.drop_eq_nil_of_le (by omega)
  | cons f l ih =>
    intro o ho hf
    simp only [laidFrom, Bool.and_eq_true, decide_eq_true_eq] at ho
    obtain ⟨y, hy, hw⟩ := hf f (by simp)
    refine ⟨(cs.drop o).take (P.cellsOf f.type), cs.drop (o + P.cellsOf f.type), ?_, ⟨y, by rw [← ho.1]; exact hy, hw⟩, ih _ ho.2 (fun g hg => hf g (by simp [hg]))⟩
    rw [← List.drop_drop, List.take_append_drop]
theorem opensS_struct {P : Program} {t : TypeId} {fs : Array Field} {α β : Type} {d : Kd α} {ok : α → Prop} (f : β → α) (g : α → β) (hfg : ∀ a, f (g a) = a) (ht : P.underlying t = some (.struct fs))
    (hl : laidFrom P (P.cellsOf t) 0 fs.toList = true) (h : OpensFS P (fs.toList.map (·.type)) d ok) : OpensS P t (Kd.iso d f) (fun b => ok (f b)) := by
  intro H enc w base spare held fuel cs x hx hwt
  obtain ⟨xs, n, _, rfl, hcs, hxl, hat⟩ := DataW.trod_struct ht hx
  have hwe : ∀ n' ∈ DataW.weightsEach P (fs.toList.map (·.type)) (xs.map (·.1)), n' ≤ reachBytes := by
    intro n' hn'
    refine hwt n' ?_
    unfold DataW.weights
    rw [ht]
    exact hn'
  have hF := fieldsS_from (P := P) (enc := enc) (w := w) (base := base) (spare := spare) (held := held) (n := n) hcs fs.toList 0 hl (fun q hq => by
    obtain ⟨i, hi, rfl⟩ := List.mem_iff_getElem.1 hq
    have hi' : i < fs.size := by simpa using hi
    have h9 := hat i fs[i] (Array.getElem?_eq_getElem hi')
    rw [List.getElem?_eq_getElem (by omega)] at h9
    refine ⟨_, by simpa using h9, fun n' hn' => hwe n' ?_⟩
    refine DataW.weights_mem_each (t := fs.toList[i].type) (d := (xs[i]'(by omega)).1) (j := i) ?_ ?_ n' hn'
    · simp [List.getElem?_map, Array.getElem?_eq_getElem hi']
    · simp [List.getElem?_map, List.getElem?_eq_getElem (show i < xs.length by omega)])
  obtain ⟨a, ha, hoa⟩ := h H enc w base spare held n _ hF
  rw [List.drop_zero] at ha
  exact ⟨g a, by show d.K w (f (g a)) cs; rw [hfg]; exact ha, by show ok (f (g a)); rw [hfg]; exact hoa⟩
end Go.Proofs.Ytgjajalneknagaa.Hm
