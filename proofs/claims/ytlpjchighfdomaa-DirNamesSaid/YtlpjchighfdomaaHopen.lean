/- What a value that came in holds, kind by kind: an argument of any type of whole numbers, bools, strings, slices and structs is opened to a plain value; conditions: those that each theorem names. -/
import Derived.Test.YtlpjchighfdomaaWMore
import Derived.Test.YtlpjchighfdomaaProg
import Derived.Deep.Slices
import Derived.Deep.Fields
import Derived.ChangeArms
import Derived.WideShapes
namespace Go.Proofs.Ytlpjchighfdomaa.Hm
open Go.RowKit Go.ChangeShapes Go.WideShapes Go.Deep Go.Proofs.YtlpjchighfdomaaW.PrintWords Go.Proofs.YtlpjchighfdomaaW.PrintLast Go.Proofs.YtlpjchighfdomaaW.PrintMore
set_option linter.unusedVariables false
set_option linter.unusedSimpArgs false

/-- Whatever is read at type t is a value of the kind d, of which ok holds. -/
def Opens (P : Program) (t : TypeId) {α : Type} (d : Kd α) (ok : α → Prop) : Prop :=
  ∀ (H : Type) (enc : TypeId × Value → H) (w : World) (base : Nat) (spare : Nat → Bool) (held : Bool) (fuel : Nat) (cs : List Value) (x : DataW H × List MemPlace),
    DataW.trod enc P w base spare held fuel t cs = some x → ∃ a, d.K w a cs ∧ ok a
theorem opens_int {P : Program} {t : TypeId} {k : IntKind} (ht : P.underlying t = some (.int k)) : Opens P t (Kd.int k) (fun n => (Lit.int k n).wf = true) := by
  intro H enc w base spare held fuel cs x h
  obtain ⟨n, rfl, _, hw⟩ := DataW.trod_int ht h
  exact ⟨n, rfl, hw⟩
theorem opens_bool {P : Program} {t : TypeId} (ht : P.underlying t = some .bool) : Opens P t Kd.bool (fun _ => True) := by
  intro H enc w base spare held fuel cs x h
  obtain ⟨b, rfl, _⟩ := DataW.trod_bool ht h
  exact ⟨b, rfl, trivial⟩
theorem opens_string {P : Program} {t : TypeId} (ht : P.underlying t = some .string) : Opens P t Kd.string (fun s => s.size ≤ maxLen) := by
  intro H enc w base spare held fuel cs x h
  obtain ⟨s, rfl, _, hs⟩ := DataW.trod_string ht h
  exact ⟨s, rfl, hs⟩
theorem exists_list {α : Type} {p : Nat → α → Prop} (n : Nat) (h : ∀ i, i < n → ∃ x, p i x) : ∃ l : List α, l.length = n ∧ ∀ i x, l[i]? = some x → p i x := by
  induction n with
  | zero => exact ⟨[], rfl, fun i x hx => by simp at hx⟩
  | succ n ih =>
    obtain ⟨l, hl, hp⟩ := ih (fun i hi => h i (by omega))
    obtain ⟨y, hy⟩ := h n (by omega)
    refine ⟨l ++ [y], by simp [hl], fun i x hx => ?_⟩
    rcases Nat.lt_or_ge i n with hi | hi
    · rw [List.getElem?_append_left (by omega)] at hx
      exact hp i x hx
    · have hi2 : i = n := by
        have := (List.getElem?_eq_some_iff.1 hx).1
        rw [List.length_append, hl, List.length_singleton] at this
        omega
      subst hi2
      rw [List.getElem?_append_right (by omega), hl, Nat.sub_self] at hx
      obtain rfl : y = x := by simpa using hx
      exact hy
theorem opens_slice {P : Program} {t e : TypeId} {α : Type} {d : Kd α} {ok : α → Prop} (e' : Nat) (ht : P.underlying t = some (.slice e)) (hc : P.cellsOf e = d.sz) (h : Opens P e d ok) :
    Opens P t (Kd.slice e' d) (fun l => l.length ≤ maxLen ∧ ∀ x ∈ l, ok x) := by
  intro H enc w base spare held fuel cs x hx
  rcases open_slice ht hx with ⟨rfl, _⟩ | ⟨a, len, cap, m, n, D, Pl, rfl, _, hl, hm, hmm, _, hi⟩
  · refine ⟨[], ⟨none, 0, rfl, Nat.le_refl _, ⟨rfl, by simp, fun h0 => by simp at h0⟩⟩, by simp, fun x hx => by simp at hx⟩
  · have hlm : len ≤ m := by rw [hmm]; split <;> omega
    obtain ⟨l, hll, hp⟩ := exists_list (p := fun i y => ok y ∧ ∃ cs', d.K w y cs' ∧ w.cells? base (a.add (i * P.cellsOf e)) (P.cellsOf e) = some cs') len (fun i hil => by
      obtain ⟨cs', hcs, htr⟩ := hi i (by omega)
      obtain ⟨y, hy, hoky⟩ := h H enc w base spare held n cs' _ htr
      exact ⟨y, hoky, cs', hy, hcs⟩)
    refine ⟨l, ⟨some a, cap, by rw [hll], by omega, ⟨rfl, by rw [hll]; simp only [maxLen] at hm; omega, fun _ => ⟨a, rfl, fun j p hj => ?_⟩⟩⟩, by rw [hll]; omega, fun x hx => ?_⟩
    · obtain ⟨_, cs', hK, hcs⟩ := hp j p hj
      refine ⟨cs', d.K_len hK, hK, fun i u hu => ?_⟩
      obtain ⟨_, hcl, hat⟩ := World.cells?_some hcs
      have hiu := (List.getElem?_eq_some_iff.1 hu).1
      have := hat i (by omega)
      rw [Go.Deep.add_add, hc] at this
      rw [this, hu]
    · obtain ⟨i, hil, rfl⟩ := List.mem_iff_getElem.1 hx
      exact (hp i _ (List.getElem?_eq_getElem hil)).1
/-- The cells of fields, one behind the other. -/
def Fields (P : Program) (H : Type) (enc : TypeId × Value → H) (w : World) (base : Nat) (spare : Nat → Bool) (held : Bool) (n : Nat) : List TypeId → List Value → Prop
  | [], cs => cs = []
  | t :: ts, cs => ∃ c1 c2, cs = c1 ++ c2 ∧ (∃ y, DataW.trod enc P w base spare held n t c1 = some y) ∧ Fields P H enc w base spare held n ts c2
def laidFrom (P : Program) (total : Nat) : Nat → List Field → Bool
  | o, [] => decide (o = total)
  | o, f :: l => decide (f.offset = o) && laidFrom P total (o + P.cellsOf f.type) l
def OpensF (P : Program) (ts : List TypeId) {α : Type} (d : Kd α) (ok : α → Prop) : Prop :=
  ∀ (H : Type) (enc : TypeId × Value → H) (w : World) (base : Nat) (spare : Nat → Bool) (held : Bool) (n : Nat) (cs : List Value),
    Fields P H enc w base spare held n ts cs → ∃ a, d.K w a cs ∧ ok a
theorem opensF_one {P : Program} {t : TypeId} {α : Type} {d : Kd α} {ok : α → Prop} (h : Opens P t d ok) : OpensF P [t] d ok := by
  rintro H enc w base spare held n cs ⟨c1, c2, rfl, ⟨y, hy⟩, rfl⟩
  rw [List.append_nil]
  exact h H enc w base spare held n c1 y hy
theorem opensF_cons {P : Program} {t : TypeId} {ts : List TypeId} {α β : Type} {d : Kd α} {d' : Kd β} {ok : α → Prop} {ok' : β → Prop} (h : Opens P t d ok) (h' : OpensF P ts d' ok') :
    OpensF P (t :: ts) (Kd.pair d d') (fun x => ok x.1 ∧ ok' x.2) := by
  rintro H enc w base spare held n cs ⟨c1, c2, rfl, ⟨y, hy⟩, hf⟩
  obtain ⟨a, ha, hoa⟩ := h H enc w base spare held n c1 y hy
  obtain ⟨b, hb, hob⟩ := h' H enc w base spare held n c2 hf
  exact ⟨(a, b), ⟨c1, c2, rfl, ha, hb⟩, hoa, hob⟩
theorem fields_from {P : Program} {H : Type} {enc : TypeId × Value → H} {w : World} {base : Nat} {spare : Nat → Bool} {held : Bool} {n total : Nat} {cs : List Value} (hcs : cs.length = total) (l : List Field) :
    ∀ o, laidFrom P total o l = true → (∀ f ∈ l, ∃ y, DataW.trod enc P w base spare held n f.type ((cs.drop f.offset).take (P.cellsOf f.type)) = some y) → Fields P H enc w base spare held n (l.map (·.type)) (cs.drop o) := by
  induction l with
  | nil =>
    intro o ho _
    have : o = total := by simpa [laidFrom] using ho
    show cs.drop o = []
    exact List.drop_eq_nil_of_le (by omega)
  | cons f l ih =>
    intro o ho hf
    simp only [laidFrom, Bool.and_eq_true, decide_eq_true_eq] at ho
    obtain ⟨y, hy⟩ := hf f (by simp)
    refine ⟨(cs.drop o).take (P.cellsOf f.type), cs.drop (o + P.cellsOf f.type), ?_, ⟨y, by rw [← ho.1]; exact hy⟩, ih _ ho.2 (fun g hg => hf g (by simp [hg]))⟩
    rw [← List.drop_drop, List.take_append_drop]
theorem opens_struct {P : Program} {t : TypeId} {fs : Array Field} {α β : Type} {d : Kd α} {ok : α → Prop} (f : β → α) (g : α → β) (hfg : ∀ a, f (g a) = a) (ht : P.underlying t = some (.struct fs))
    (hl : laidFrom P (P.cellsOf t) 0 fs.toList = true) (h : OpensF P (fs.toList.map (·.type)) d ok) : Opens P t (Kd.iso d f) (fun b => ok (f b)) := by
  intro H enc w base spare held fuel cs x hx
  obtain ⟨xs, n, _, _, hcs, hxl, hat⟩ := DataW.trod_struct ht hx
  have hF := fields_from (P := P) (enc := enc) (w := w) (base := base) (spare := spare) (held := held) (n := n) hcs fs.toList 0 hl (fun q hq => by
    obtain ⟨i, hi, rfl⟩ := List.mem_iff_getElem.1 hq
    have hi' : i < fs.size := by simpa using hi
    have := hat i fs[i] (Array.getElem?_eq_getElem hi')
    rw [List.getElem?_eq_getElem (by omega)] at this
    exact ⟨_, by simpa using this⟩)
  obtain ⟨a, ha, hoa⟩ := h H enc w base spare held n _ hF
  rw [List.drop_zero] at ha
  exact ⟨g a, by show d.K w (f (g a)) cs; rw [hfg]; exact ha, by show ok (f (g a)); rw [hfg]; exact hoa⟩
end Go.Proofs.Ytlpjchighfdomaa.Hm
