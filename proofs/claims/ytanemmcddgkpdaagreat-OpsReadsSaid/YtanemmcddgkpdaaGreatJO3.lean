/- Part O3 of the lemmas and walks of the Go functions that these statements reach; conditions: those that each theorem names. -/
import Derived.Test.YtanemmcddgkpdaaGreatJN4
import Derived.Test.YtanemmcddgkpdaaGreatJX8
import Derived.WideKeyRuns
import Derived.Test.YtanemmcddgkpdaaGreatJN0
import Derived.Test.YtanemmcddgkpdaaGreatJN6
section
/- Chapter 13: what lies below a directory, pure; conditions: those that each theorem names. -/
namespace Go.Proofs.YtanemmcddgkpdaaGreat.Hm
open Go.RowKit Go.Proofs.YtanemmcddgkpdaaGreatW.PrintWords Go.Proofs.YtanemmcddgkpdaaGreatW.PrintLast Go.Proofs.YtanemmcddgkpdaaGreatW.PrintMore
set_option linter.unusedVariables false
set_option linter.unusedSimpArgs false
theorem folderE_ok {t : Th} {i g : Int} {a : Nat} (h : folderE t i g = .ok a) : i < 24 ∧ i.toNat = a ∧ (atT t a).kind = 2 ∧ (atT t a).gen = g := by
  unfold folderE thingE at h
  cases h1 : decide (i < 24) with
  | false => rw [h1] at h; cases h
  | true =>
    rw [h1, needT, okE] at h
    cases h2 : ((atT t i.toNat).kind != 0 && (atT t i.toNat).gen == g) with
    | false => rw [h2] at h; cases h
    | true =>
      rw [h2, needT, okE, puE, okE] at h
      cases h3 : ((atT t i.toNat).kind == 2) with
      | false => rw [h3] at h; cases h
      | true =>
        rw [h3, needT, okE, puE] at h
        injection h with h
        subst h
        rw [Bool.and_eq_true] at h2
        exact ⟨of_decide_eq_true h1, rfl, by simpa using h3, by simpa using h2.2⟩
theorem folderE_of {t : Th} {i g : Int} {a : Nat} (h1 : i < 24) (h2 : i.toNat = a) (h3 : (atT t a).kind = 2) (h4 : (atT t a).gen = g) : folderE t i g = .ok a := by
  subst h2
  unfold folderE thingE
  rw [decide_eq_true h1, needT, okE, h3, h4]
  rw [show ((2 : Int) != 0 && g == g) = true by simp, needT, okE, puE, okE, h3, show ((2 : Int) == 2) = true from rfl, needT, okE, puE]
/-- The handles of a directory's entries. -/
def kidsH (s : Sl) : List (Int × Int) := (entS s).map fun e => (e.i, e.g)
/-- How many directories weren't seen yet. -/
def newN (t : Th) (seen : List (Int × Int)) : Nat := (List.range 24).countP fun a : Nat => !decide (((a : Int), (atT t a).gen) ∈ seen)
theorem countP_lt {α : Type} {p q : α → Bool} {x : α} (h : ∀ y, q y = true → p y = true) (hp : p x = true) (hq : q x = false) : ∀ {l : List α}, x ∈ l → l.countP q + 1 ≤ l.countP p
  | [], hx => by simp at hx
  | y :: l, hx => by
    rcases List.mem_cons.1 hx with rfl | hx
    · rw [List.countP_cons_of_pos hp, List.countP_cons_of_neg (by rw [hq]; exact Bool.false_ne_true)]
      have := List.countP_mono_left (l := l) (p := q) (q := p) (fun y _ => h y)
      omega
    · have ih := countP_lt h hp hq hx
      by_cases h1 : q y = true
      · rw [List.countP_cons_of_pos h1, List.countP_cons_of_pos (h y h1)]; omega
      · rw [List.countP_cons_of_neg h1]
        by_cases h2 : p y = true
        · rw [List.countP_cons_of_pos h2]; omega
        · rw [List.countP_cons_of_neg h2]; exact ih
theorem newN_le (t : Th) (seen : List (Int × Int)) (p : Int × Int) : newN t (seen ++ [p]) ≤ newN t seen := by
  unfold newN
  refine List.countP_mono_left (fun a _ h => ?_)
  simp only [Bool.not_eq_true', decide_eq_false_iff_not] at h ⊢
  exact fun h1 => h (List.mem_append_left _ h1)
theorem newN_lt {t : Th} {seen : List (Int × Int)} {i g : Int} {a : Nat} (h0 : 0 ≤ i) (h : folderE t i g = .ok a) (hn : (i, g) ∉ seen) : newN t (seen ++ [(i, g)]) + 1 ≤ newN t seen := by
  obtain ⟨h1, h2, h3, h4⟩ := folderE_ok h
  have hi : i = (a : Int) := by omega
  unfold newN
  refine countP_lt (x := a) (fun y hy => ?_) ?_ ?_ (List.mem_range.2 (by omega))
  · simp only [Bool.not_eq_true', decide_eq_false_iff_not] at hy ⊢
    exact fun h1 => hy (List.mem_append_left _ h1)
  · simp only [Bool.not_eq_true', decide_eq_false_iff_not]
    rw [h4, ← hi]; exact hn
  · simp only [Bool.not_eq_false', decide_eq_true_eq]
    rw [h4, ← hi]; exact List.mem_append_right _ (List.mem_singleton.2 rfl)
theorem newN_24 (t : Th) (seen : List (Int × Int)) : newN t seen ≤ 24 := by unfold newN; exact Nat.le_trans List.countP_le_length (by simp)
/-- What is so while what lies below a directory is looked for. -/
structure BI (t : Th) (k : Nat) (h : Int × Int) (i : Nat) (row seen : List (Int × Int)) : Prop where
  le : i ≤ row.length
  top : ((k : Int), (atT t k).gen) ∈ row
  re : ∀ p ∈ row, ∀ a, folderE t p.1 p.2 = .ok a → Reach t k a
  sn : ∀ j : Nat, j < i → ∀ p, row[j]? = some p → p ≠ h ∧ (p ∈ seen ∨ ¬ p.1 < 24)
  kd : ∀ p ∈ seen, ∀ a, folderE t p.1 p.2 = .ok a → ∀ q ∈ kidsH (atT t a), q ∈ row
  ok : ∀ p ∈ row, u32ok p.1 ∧ u32ok p.2
  sz : row.length + 768 * newN t seen ≤ 1 + 768 * 24
theorem BI.start {t : Th} {k : Nat} {h : Int × Int} (hk : k < 24) (hd : (atT t k).kind = 2) (hg : u32ok (atT t k).gen) : BI t k h 0 [((k : Int), (atT t k).gen)] [] := by
  refine ⟨Nat.zero_le _, List.mem_singleton.2 rfl, fun p hp a ha => ?_, fun j hj => absurd hj (Nat.not_lt_zero _), fun p hp => by simp at hp, fun p hp => ?_, ?_⟩
  · rw [List.mem_singleton.1 hp] at ha
    obtain ⟨-, h2, -, -⟩ := folderE_ok ha
    have : a = k := by
      have h3 : ((k : Int)).toNat = a := h2
      omega
    rw [this]
    exact Reach.here
  · rw [List.mem_singleton.1 hp]
    exact ⟨⟨by show (0:Int) ≤ (k : Int); omega, by show (k : Int) < 4294967296; omega⟩, hg⟩
  · have := newN_24 t []
    show 1 + 768 * _ ≤ _
    omega
theorem BI.found {t : Th} {k i to' : Nat} {h : Int × Int} {row seen : List (Int × Int)} (hI : BI t k h i row seen) (hi : row[i]? = some h) (hf : folderE t h.1 h.2 = .ok to') : Reach t k to' := hI.re h (List.mem_of_getElem? hi) to' hf
/-- A place passed over. -/
theorem BI.skip {t : Th} {k i : Nat} {h p : Int × Int} {row seen : List (Int × Int)} (hI : BI t k h i row seen) (hi : row[i]? = some p) (hn : p ≠ h) (hs : p ∈ seen ∨ ¬ p.1 < 24) : BI t k h (i + 1) row seen := by
  have hl := (List.getElem?_eq_some_iff.1 hi).1
  refine ⟨hl, hI.top, hI.re, fun j hj q hq => ?_, hI.kd, hI.ok, hI.sz⟩
  by_cases hji : j = i
  · subst hji
    rw [hi] at hq
    injection hq with hq
    subst hq
    exact ⟨hn, hs⟩
  · exact hI.sn j (by omega) q hq
/-- One that is no directory, seen. -/
theorem BI.leaf {t : Th} {k i : Nat} {h p : Int × Int} {row seen : List (Int × Int)} (hI : BI t k h i row seen) (hi : row[i]? = some p) (hn : p ≠ h) (hf : ∀ a, folderE t p.1 p.2 ≠ .ok a) : BI t k h (i + 1) row (seen ++ [p]) := by
  have hl := (List.getElem?_eq_some_iff.1 hi).1
  refine ⟨hl, hI.top, hI.re, fun j hj q hq => ?_, fun q hq a ha => ?_, hI.ok, ?_⟩
  · by_cases hji : j = i
    · subst hji
      rw [hi] at hq
      injection hq with hq
      subst hq
      exact ⟨hn, Or.inl (List.mem_append_right _ (List.mem_singleton.2 rfl))⟩
    · obtain ⟨h1, h2⟩ := hI.sn j (by omega) q hq
      exact ⟨h1, h2.imp (fun h => List.mem_append_left _ h) id⟩
  · rcases List.mem_append.1 hq with h1 | h1
    · exact hI.kd q h1 a ha
    · rw [List.mem_singleton.1 h1] at ha
      exact absurd ha (hf a)
  · have := newN_le t seen p
    have := hI.sz
    omega
/-- A directory, seen: its entries' handles are laid behind. -/
theorem BI.step {t : Th} {k i a : Nat} {h p : Int × Int} {row seen : List (Int × Int)} (hI : BI t k h i row seen) (hi : row[i]? = some p) (hn : p ≠ h) (hf : folderE t p.1 p.2 = .ok a) (hs : p ∉ seen) (hl : (entS (atT t a)).length ≤ 768) (hw : ∀ e ∈ entS (atT t a), e.wf) :
    BI t k h (i + 1) (row ++ kidsH (atT t a)) (seen ++ [p]) ∧ newN t (seen ++ [p]) + 1 ≤ newN t seen := by
  have hlt := (List.getElem?_eq_some_iff.1 hi).1
  have hpr := List.mem_of_getElem? hi
  have hnew : newN t (seen ++ [p]) + 1 ≤ newN t seen := newN_lt (hI.ok p hpr).1.1 hf hs
  have hra := hI.re p hpr a hf
  obtain ⟨-, -, hk2, -⟩ := folderE_ok hf
  refine ⟨⟨by rw [List.length_append]; omega, List.mem_append_left _ hI.top, fun q hq b hb => ?_, fun j hj q hq => ?_, fun q hq b hb x hx => ?_, fun q hq => ?_, ?_⟩, hnew⟩
  · rcases List.mem_append.1 hq with h1 | h1
    · exact hI.re q h1 b hb
    · obtain ⟨e, he, rfl⟩ := List.mem_map.1 h1
      exact Reach.step hra hk2 he hb
  · rw [List.getElem?_append_left (by omega)] at hq
    by_cases hji : j = i
    · subst hji
      rw [hi] at hq
      injection hq with hq
      subst hq
      exact ⟨hn, Or.inl (List.mem_append_right _ (List.mem_singleton.2 rfl))⟩
    · obtain ⟨h1, h2⟩ := hI.sn j (by omega) q hq
      exact ⟨h1, h2.imp (fun h => List.mem_append_left _ h) id⟩
  · rcases List.mem_append.1 hq with h1 | h1
    · exact List.mem_append_left _ (hI.kd q h1 b hb x hx)
    · rw [List.mem_singleton.1 h1] at hb
      rw [hf] at hb
      injection hb with hb
      subst hb
      exact List.mem_append_right _ hx
  · rcases List.mem_append.1 hq with h1 | h1
    · exact hI.ok q h1
    · obtain ⟨e, he, rfl⟩ := List.mem_map.1 h1
      obtain ⟨w1, w2, w3, w4, w5, w6⟩ := hw e he
      exact ⟨⟨w3, w4⟩, ⟨w5, w6⟩⟩
  · have := hI.sz
    rw [List.length_append]
    unfold kidsH
    rw [List.length_map]
    omega
theorem BI.done {t : Th} {k to' : Nat} {h : Int × Int} {row seen : List (Int × Int)} (hI : BI t k h row.length row seen) (hk : k < 24) (hd : (atT t k).kind = 2) (hf : folderE t h.1 h.2 = .ok to') (hh : u32ok h.1 ∧ u32ok h.2) : ¬ Reach t k to' := by
  have key : ∀ a, Reach t k a → ∃ p ∈ row, folderE t p.1 p.2 = .ok a := by
    intro a ha
    induction ha with
    | here => exact ⟨_, hI.top, folderE_of (by show (k : Int) < 24; omega) (by show ((k : Int)).toNat = k; omega) hd rfl⟩
    | step hr h2 he hb ih =>
      obtain ⟨p, hp, hpa⟩ := ih
      obtain ⟨j, hj, hjp⟩ := List.mem_iff_getElem.1 hp
      obtain ⟨-, h4⟩ := hI.sn j hj p (by rw [List.getElem?_eq_getElem hj, hjp])
      have h5 := (folderE_ok hpa).1
      have h6 : p ∈ seen := h4.resolve_right (fun h => h h5)
      exact ⟨_, hI.kd p h6 _ hpa _ (List.mem_map.2 ⟨_, he, rfl⟩), hb⟩
  intro hr
  obtain ⟨p, hp, hpa⟩ := key to' hr
  obtain ⟨j, hj, hjp⟩ := List.mem_iff_getElem.1 hp
  obtain ⟨h3, -⟩ := hI.sn j hj p (by rw [List.getElem?_eq_getElem hj, hjp])
  refine h3 ?_
  obtain ⟨a1, a2, -, a4⟩ := folderE_ok hpa
  obtain ⟨b1, b2, -, b4⟩ := folderE_ok hf
  have c1 := (hI.ok p hp).1.1
  have c2 := hh.1.1
  exact Prod.ext (by omega) (by rw [← a4, ← b4])
theorem belowB_t {t : Th} {k d : Nat} (h : Reach t k d) : belowB t k d = true := by unfold belowB; exact @decide_eq_true _ (Classical.propDecidable _) h
theorem belowB_f {t : Th} {k d : Nat} (h : ¬ Reach t k d) : belowB t k d = false := by unfold belowB; exact @decide_eq_false _ (Classical.propDecidable _) h
/-! ### reckoned -/
end Go.Proofs.YtanemmcddgkpdaaGreat.Hm
end
section
/- Go code walked by what is known of slots and memory: maps whose keys are pairs of numbers, that hold true alone; conditions: those that each theorem names. -/
namespace Go.Proofs.YtanemmcddgkpdaaGreat.Sx
open Go.RowKit Go.Proofs.YtanemmcddgkpdaaGreat.Hm Go.Proofs.YtanemmcddgkpdaaGreatW.PrintWords Go.Proofs.YtanemmcddgkpdaaGreatW.PrintLast Go.Proofs.YtanemmcddgkpdaaGreatW.PrintMore
set_option linter.unusedVariables false
set_option linter.unusedSimpArgs false
/-- A pair of numbers, as a value. -/
def hkV (p : Int × Int) : Value := .agg #[.int .u32 p.1, .int .u32 p.2]
/-- A map of the call's own: pairs, each with true. -/
def hmapR (b : Nat) (l : List (Int × Int)) : Res where
  P := fun w S => S b ∧ ∃ es n, w.heap[b]? = some (.map es n) ∧ es.toList.map (fun e => (e.key, e.val)) = l.map (fun p => (hkV p, .bool true))
  mono := fun h hs => ⟨hs _ h.1, h.2⟩
  loc := fun h _ hs => by
    obtain ⟨h1, es, n, h2, h3⟩ := h
    exact ⟨h1, es, n, (hs _ h1 (by
      have := (Array.getElem?_eq_some_iff.1 h2).1
      exact this)).trans h2, h3⟩
/-- A type of pairs of numbers. -/
class PairT (P : Program) (kt : TypeId) : Prop where
  eq : ∀ p q w, (Op.equal kt (hkV p) (hkV q)).run P w = .ok (decide (p = q)) w
  chk : ∀ e p w, (Instr.checkKey e 10000 kt (hkV p)).run P w = .ok () w
  wide : (match P.underlying kt with | some (.array _ _) | some (.struct _) => true | _ => false) = true
section
variable {P : Program}
theorem run_ask {kt : TypeId} (he : ∀ p q w, (Op.equal kt (hkV p) (hkV q)).run P w = .ok (decide (p = q)) w) (p : Int × Int) : ∀ (es : List MapEntry) (l : List (Int × Int)) (i : Nat), es.map (fun e => (e.key, e.val)) = l.map (fun q => (hkV q, .bool true)) →
    ∃ r, (∀ w, (Instr.findAsking kt (hkV p) es i).run P w = .ok r w) ∧ (p ∈ l → ∃ j, r = some (j, .bool true)) ∧ (p ∉ l → r = none)
  | [], [], i, _ => ⟨none, fun w => rfl, fun h => by simp at h, fun _ => rfl⟩
  | [], _ :: _, i, h => by simp at h
  | _ :: _, [], i, h => by simp at h
  | e :: es, q :: l, i, h => by
    simp only [List.map_cons, List.cons.injEq, Prod.mk.injEq] at h
    obtain ⟨⟨h1, h2⟩, h3⟩ := h
    obtain ⟨r, hr, hr1, hr2⟩ := run_ask he p es l (i + 1) h3
    by_cases hpq : p = q
    · refine ⟨some (i, .bool true), fun w => ?_, fun _ => ⟨i, rfl⟩, fun hn => absurd (by rw [hpq]; exact List.mem_cons_self) hn⟩
      unfold Instr.findAsking
      rw [h1]
      simp only [Sem.run_bind, he, Result.andThen_ok, decide_eq_true hpq, if_true, h2, Sem.run_pure]
    · refine ⟨r, fun w => ?_, fun hm => ?_, fun hn => hr2 (fun hm => hn (List.mem_cons_of_mem _ hm))⟩
      · unfold Instr.findAsking
        rw [h1]
        simp only [Sem.run_bind, he, Result.andThen_ok, decide_eq_false hpq, Bool.false_eq_true, if_false, hr]
      · rcases List.mem_cons.1 hm with h4 | h4
        · exact absurd h4 hpq
        · exact hr1 h4
theorem run_find {kt : TypeId} [hP : PairT P kt] (p : Int × Int) {es : List MapEntry} {l : List (Int × Int)} (h : es.map (fun e => (e.key, e.val)) = l.map (fun q => (hkV q, .bool true))) :
    ∃ r, (∀ w, (Instr.findKey kt (hkV p) es).run P w = .ok r w) ∧ (p ∈ l → ∃ j, r = some (j, .bool true)) ∧ (p ∉ l → r = none) := by
  obtain ⟨r, h1, h2, h3⟩ := run_ask hP.eq p es l 0 h
  exact ⟨r, fun w => by rw [run_findKey_eq w hP.wide]; exact h1 w, h2, h3⟩
end
section
variable {P : Program} {fn : Func} {K : Ending → List Thing → Prop} {N : Nat} {k k' : List It} {a : Fr} {M M0 R : List Thing} {ops : Array Oper} {rest : List Oper} {T : List (Nat × TI)}
variable {d id : Nat} {op : Op} {ty : TypeId} {pos : String} {af : Array Edge} {ds : List Nat} {fuel : Nat} {l : Array Bool}
theorem SXL.mkPairs {t : Nat} (hd : Nat.blt d N = true) (hK : ∀ b, SXL P fn K N k ops rest ((d, .map (some b)) :: a) (.own (some ⟨b, 0, none⟩) (hmapR b []) :: M)) : SXL P fn K N k ops (⟨some d, .makeMap t none, ty, pos, af, none⟩ :: rest) a M :=
  SXL.step rfl (fun act w st => by
    have hr : (execOp act.eval ⟨some d, .makeMap t none, ty, pos, af, none⟩).run P w = .ok (.value (.map (some w.heap.size))) (w.alloc (.map #[] 0)) := by
      simp only [execOp, Instr.makeMap, Option.map_none, Sem.run_bind, Sem.run_pure, Result.andThen_ok, run_newObj]
      rfl
    unfold Oper.wp
    rw [hr]
    refine hK w.heap.size _ _ (st.put hd (st.holds.new (below_alloc (Below.refl _ _) _) _ (S := fun k => k = w.heap.size) ⟨rfl, #[], 0, by rw [heap_alloc_new], rfl⟩ (fun k hk => by rw [World.size_alloc]; omega))))
theorem SXL.hasPair [hT : TOk P T] {t kt et b : Nat} {m x : Operand} {p : Int × Int} {es : List (Int × Int)} {te : TI} [hP : PairT P kt] (hm : evalO a m = some (.map (some b))) (hk : evalO a x = some (.agg #[.int .u32 p.1, .int .u32 p.2])) (hat : At (some ⟨b, 0, none⟩) M (hmapR b es) R) (hu : P.underlying t = some (.map kt et)) (he : lookT T et = some te) (hz : te.zero = .bool false)
    (hd : Nat.blt d N = true) (hK : SXL P fn K N k ops rest ((d, .bool (decide (p ∈ es))) :: a) M) : SXL P fn K N k ops (⟨some d, .lookup t m x false, ty, pos, af, none⟩ :: rest) a M :=
  SXL.val hd (fun act w st => by
    obtain ⟨S0, _, hS0⟩ := (st.holds.at_ hat).head
    obtain ⟨_, es', n, hg, he'⟩ := hS0
    have hz := (tok (P := P) he).zero w
    obtain ⟨r, h1, h2, h3⟩ := run_find (P := P) (kt := kt) p he'
    have hc := hP.chk es'.isEmpty p w
    have h1' := h1 w
    unfold hkV at h1' hc
    simp only [execOp, evalO_ok st.fits hm, evalO_ok st.fits hk, Instr.lookup, Sem.run_bind, run_underlying hu, Result.andThen_ok, Go.MapKept.run_getObj_map hg, Sem.run_pure, hc, h1']
    by_cases hp : p ∈ es
    · obtain ⟨j, rfl⟩ := h2 hp
      simp [decide_eq_true hp]
    · obtain rfl := h3 hp
      simp_all) hK
theorem SXL.putPair {t kt et b : Nat} {m x y : Operand} {p : Int × Int} {es : List (Int × Int)} [hP : PairT P kt] (hm : evalO a m = some (.map (some b))) (hk : evalO a x = some (.agg #[.int .u32 p.1, .int .u32 p.2])) (hx : evalO a y = some (.bool true)) (hat : At (some ⟨b, 0, none⟩) M (hmapR b es) R) (hu : P.underlying t = some (.map kt et)) (hn : p ∉ es)
    (hK : SXL P fn K N k ops rest a (.own (some ⟨b, 0, none⟩) (hmapR b (es ++ [p])) :: R)) : SXL P fn K N k ops (⟨none, .mapUpdate t m x y, ty, pos, af, none⟩ :: rest) a M :=
  SXL.step rfl (fun act w st => by
    have hb := st.holds.at_ hat
    obtain ⟨S0, _, hS0⟩ := hb.head
    obtain ⟨_, es', n, hg, he'⟩ := hS0
    obtain ⟨r, h1, h2, h3⟩ := run_find (P := P) (kt := kt) p he'
    obtain rfl := h3 hn
    have hc := hP.chk false p w
    have h1' := h1 w
    unfold hkV at h1' hc
    have hr : (execOp act.eval ⟨none, .mapUpdate t m x y, ty, pos, af, none⟩).run P w = .ok .skip { w with heap := w.heap.setIfInBounds b (.map (es'.push ⟨.agg #[.int .u32 p.1, .int .u32 p.2], .bool true, n⟩) (n + 1)) } := by
      simp only [execOp, evalO_ok st.fits hm, evalO_ok st.fits hk, evalO_ok st.fits hx, Instr.mapUpdate, Sem.run_bind, run_underlying hu, Result.andThen_ok, Go.MapKept.run_getObj_map hg, hc, h1', Go.MapKept.run_setObj_map _ hg, Sem.run_pure]
    unfold Oper.wp
    rw [hr]
    have hlt : b < w.heap.size := by
      rcases Nat.lt_or_ge b w.heap.size with h | h
      · exact h
      · rw [Array.getElem?_eq_none h] at hg; cases hg
    refine hK _ _ (st.keep (hb.act (fun S hS hr => ⟨⟨rfl, rfl, rfl⟩, by simp, fun k hk hn => ?_, S, fun k hk => ⟨.inl hk, by simpa using hS k hk⟩, hr.1, es'.push ⟨.agg #[.int .u32 p.1, .int .u32 p.2], .bool true, n⟩, n + 1, ?_, ?_⟩)))
    · have hne : ¬ b = k := fun e => hn (e ▸ hr.1)
      simp [Array.getElem?_setIfInBounds, hne]
    · simp [Array.getElem?_setIfInBounds, hlt]
    · simp [he', hkV])
end
section
variable {P : Program} {T : List (Nat × TI)}
theorem PairT.mk' [hT : TOk P T] {kt : Nat} {f0 f1 : Field} {ti : TI} (hE : EqT P kt) (hu : P.underlying kt = some (.struct #[f0, f1])) (hl : lookT T kt = some ti) (hs : ti.desc = .struct #[f0, f1]) (hf : ti.flds = [(0, 1, false), (1, 1, false)])
    (ht0 : P.underlying f0.type = some (.int .u32)) (ht1 : P.underlying f1.type = some (.int .u32)) (hq : ∀ p q : Int × Int, eqFs T [f0, f1] [(0, 1, false), (1, 1, false)] [.int .u32 p.1, .int .u32 p.2] [.int .u32 q.1, .int .u32 q.2] = some (p.1 == q.1 && p.2 == q.2)) : PairT P kt := by
  have hnm := hE.names
  rw [fields_of hu] at hnm
  have hfl := (tok (P := P) hl).flds _ hs
  rw [hf] at hfl
  obtain ⟨o0, s0, g0, o1, s1, g1, -⟩ := hfl
  have hn0 : ¬ (f0.name = "_") ∧ ¬ (f1.name = "_") := by simpa using hnm
  have hd0 : ∀ w, (underlying f0.type).run P w = .ok (.int .u32) w := run_underlying ht0
  have hd1 : ∀ w, (underlying f1.type).run P w = .ok (.int .u32) w := run_underlying ht1
  have p0 : ∀ (x : Int × Int) (w : World), (part f0.type #[.int .u32 x.1, .int .u32 x.2] f0.offset).run P w = .ok (.int .u32 x.1) w := fun x w => by rw [o0]; exact part_ok (g := false) (s := 1) s0 g0 rfl w
  have p1 : ∀ (x : Int × Int) (w : World), (part f1.type #[.int .u32 x.1, .int .u32 x.2] f1.offset).run P w = .ok (.int .u32 x.2) w := fun x w => by rw [o1]; exact part_ok (g := false) (s := 1) s1 g1 rfl w
  refine ⟨fun p q w => ?_, fun e p w => ?_, by rw [hu]⟩
  · have h2 : eqFs T #[f0, f1].toList ti.flds (#[.int .u32 p.1, .int .u32 p.2] : Array Value).toList (#[.int .u32 q.1, .int .u32 q.2] : Array Value).toList = some (p.1 == q.1 && p.2 == q.2) := by
      rw [hf]
      exact hq p q
    have h3 := eqFs_ok (P := P) (T := T) 9998 w ((tok (P := P) hl).flds _ hs) hnm h2
    have h4 := eqA_of hu hE.held h3
    have h5 : (p.1 == q.1 && p.2 == q.2) = decide (p = q) := by
      rw [Bool.eq_iff_iff, Bool.and_eq_true, beq_iff_eq, beq_iff_eq, decide_eq_true_eq, Prod.ext_iff]
    rw [h5] at h4
    unfold Op.equal hkV
    exact h4
  · unfold hkV
    rw [show (10000 : Nat) = 9999 + 1 from rfl]
    unfold Instr.checkKey
    simp only [Sem.run_bind, run_underlying hu, Result.andThen_ok]
    have c0 : ∀ (z : Int) (w : World), (Instr.checkKey e 9999 f0.type (.int .u32 z)).run P w = .ok () w := fun z w => by
      rw [show (9999 : Nat) = 9998 + 1 from rfl]
      unfold Instr.checkKey
      simp only [Sem.run_bind, hd0, Result.andThen_ok, Sem.run_pure]
    have c1 : ∀ (z : Int) (w : World), (Instr.checkKey e 9999 f1.type (.int .u32 z)).run P w = .ok () w := fun z w => by
      rw [show (9999 : Nat) = 9998 + 1 from rfl]
      unfold Instr.checkKey
      simp only [Sem.run_bind, hd1, Result.andThen_ok, Sem.run_pure]
    simp [hn0.1, hn0.2, Sem.run_bind, p0, p1, c0, c1, Result.andThen_ok, Sem.run_pure]
end
end Go.Proofs.YtanemmcddgkpdaaGreat.Sx
end
section
/- Rows of handles, and of yes and no, by their cells; conditions: those that each theorem names. -/
namespace Go.Proofs.YtanemmcddgkpdaaGreat.Sx
open Go.RowKit Go.Proofs.YtanemmcddgkpdaaGreat.Hm Go.Proofs.YtanemmcddgkpdaaGreatW.PrintWords Go.Proofs.YtanemmcddgkpdaaGreatW.PrintLast Go.Proofs.YtanemmcddgkpdaaGreatW.PrintMore
set_option linter.unusedVariables false
set_option linter.unusedSimpArgs false
attribute [local irreducible] SX SXL SXA St callK Post Evals
/-- A handle's cells. -/
def hX (p : Int × Int) : CellsN 2 := ⟨[.int .u32 p.1, .int .u32 p.2], rfl, fun u hu => by
  rcases List.mem_cons.1 hu with rfl | hu
  · rfl
  · obtain rfl := List.mem_singleton.1 hu; rfl⟩
def bX (v : Bool) : CellsN 1 := ⟨[.bool v], rfl, fun u hu => by obtain rfl := List.mem_singleton.1 hu; rfl⟩
theorem infoH : ((Tryz.prog).info? 35).map (fun i => (i.zero, i.size, i.bytes)) = some (some (.agg #[.int .u32 0, .int .u32 0]), 2, 8) := by kernel_rfl
instance rowHd : RowT Tryz.prog (cellsK 2) 36 35 8 := ⟨Tryz.underlying36, ⟨_, infoH, rfl⟩, by decide, by decide⟩
instance eqH13 : EqT Tryz.prog 35 := ⟨by kernel_rfl, by kernel_rfl, by kernel_rfl⟩
end Go.Proofs.YtanemmcddgkpdaaGreat.Sx
end
section
/- Chapter 13: is a handle a directory's, or one's below it, walked; conditions: those that each theorem names. -/
namespace Go.Proofs.YtanemmcddgkpdaaGreat.Sx
open Go.RowKit Go.Proofs.YtanemmcddgkpdaaGreat.Hm Go.Proofs.YtanemmcddgkpdaaGreatW.PrintWords Go.Proofs.YtanemmcddgkpdaaGreatW.PrintLast Go.Proofs.YtanemmcddgkpdaaGreatW.PrintMore
set_option linter.unusedVariables false
set_option linter.unusedSimpArgs false
attribute [local irreducible] SX SXL SXA St callK Post Evals
set_option maxRecDepth 20000 in
instance pairH : PairT Tryz.prog 35 := PairT.mk' (T := te) eqH13 Tryz.underlying35 rfl rfl rfl Tryz.underlying33 Tryz.underlying33 (fun _ _ => rfl)
section
variable {F R : List Thing} {K : Ending → List Thing → Prop} {b pw cap cc cd ce k to' : Nat} {Ac Ad Ae : Option Addr} {c : Ca} {r : Re} {s : Sl} {x : Pl} {hi hg : Int}
set_option maxRecDepth 20000 in
set_option maxHeartbeats 8000000 in
theorem below_S (t : Th) (ps : List Pl) (hm : t.mid) (hps : ps.length = 24) (hcap : 24 ≤ cap) (hat : At (some ⟨pw, 0, none⟩) F (wkM pw b cap t c Ac cc r Ad cd Ae ce) R) (hr : Ro (cellsK 9) (some ⟨b, 0, none⟩) F (slZ t.l ps)) (hd : Has (datR t.l ps) F)
    (hs : t.l[k]? = some s) (hx : ps[k]? = some x) (hdir : s.kind = 2) (hno : s.ino = (k : Int)) (hh : u32ok hi ∧ u32ok hg) (hf : folderE t hi hg = .ok to') (h : K (.returned (.bool (belowB t k to'))) F) :
    Fn (Tryz.prog) 81 [.pointer (some ⟨pw, 0, none⟩), .pointer (some ⟨b, k * 9, none⟩), .agg #[.int .u32 hi, .int .u32 hg]] F K := by
  unfold wkM wkC at hat
  haveI gs1 : GetIs t.l k s := ⟨hs⟩
  haveI gs2 : GetIs ps k x := ⟨hx⟩
  have hk24 : k < 24 := by have := (List.getElem?_eq_some_iff.1 hs).1; rw [hm.n] at this; exact this
  have hsm := hm.at hs
  have ha : atT t k = s := atT_get hs
  have hI0 : BI t k (hi, hg) 0 [((k : Int), (atT t k).gen)] [] := BI.start hk24 (by rw [ha]; exact hdir) (by rw [ha]; exact hsm.w.gen)
  refine Fn.enter Tryz.call81 Tryz.func81 rfl rfl rfl ?_
  repeat (first|refine Qe ?_|refine Qf ?_|fail)
  refine SXL.box rfl rfl rfl (fun q => ?_)
  repeat (first|refine Qa ?_|refine Qd ?_|refine Qe ?_|refine Qf ?_|fail)
  refine SXL.mkPairs rfl (fun gm => ?_)
  repeat (first|refine Qa ?_|refine Qd ?_|refine Qe ?_|refine Qf ?_|refine Qy ?_|fail)
  refine SXL.call rfl rfl rfl ?_
  refine (Handle_S (s := s) (A := x.1) (c := x.2) (callK.ret ?_))
  rw [hno]
  skip
  refine SXL.lit rfl rfl (fun g => ?_)
  refine SXL.ownLit (cellsK 2) g [hX ((k : Int), s.gen)] inferInstance (fun w ok => (Reps.none _ _).snoc (Flat.inM (d := cellsK 2) w 0 ok (hX ((k : Int), s.gen))) rfl) (by simp) ?_
  rw [ha] at hI0
  repeat (first|refine Qa ?_|refine Qd ?_|refine Qe ?_|refine Qf ?_|refine Qh ?_|fail)
  refine SX.loop (fun z a M => ∃ (i : Nat) (row seen : List (Int × Int)) (A8 : Option Addr) (c8 : Nat), BI t k (hi, hg) i row seen ∧ z = 1000 * newN t seen + (row.length - i) ∧ (row.map hX).length ≤ c8 ∧ a = [(0, .pointer (some ⟨pw, 0, none⟩)), (5, .pointer (some ⟨q, 0, none⟩)), (7, .map (some gm)), (8, .slice A8 ((row).map hX).length c8), (9, .int .i64 i)] ∧ (.own A8 (rowR (cellsK 2) 35 (.slice A8 ((row).map hX).length c8) ((row).map hX)) :: .own (some ⟨gm, 0, none⟩) (hmapR gm seen) :: .own (some ⟨q, 0, none⟩) (cellsR q [.int .u32 hi, .int .u32 hg] 35) :: F) = M)
    _ ⟨0, [((k : Int), s.gen)], [], some ⟨g, 0, none⟩, 1, hI0, rfl, by simp, rfl, rfl⟩ (by repeat (first | exact trivial | refine ⟨rfl, ?_⟩)) (by rw [List.map_cons, List.map_nil]; infer_instance) ?_
  clear hI0
  rintro z _ _ ⟨i, row, seen, A8, c8, hI, hz, hc8, rfl, rfl⟩
  have hsz := hI.sz
  have hrl : row.length ≤ 18433 := by omega
  have hml : (row.map hX).length = row.length := List.length_map ..
  repeat (first|refine Qa ?_|refine Qd ?_|refine Qe ?_|refine Qf ?_|fail)
  refine SX.condp rfl (fun hil => ?_) (fun hil => ?_)
  rotate_left
  · have hie : i = row.length := by have := hI.le; omega
    subst hie
    have hnr := hI.done hk24 (by rw [ha]; exact hdir) hf hh
    rw [belowB_f hnr] at h
    repeat (first|refine Qa ?_|refine Qd ?_|refine Qe ?_|refine Qf ?_|refine Qj ?_|fail)
    refine SX.ret (M' := F) rfl (Evals.tmp rfl Evals.nil) ?_ inferInstance
    exact h
  have hil2 : i < row.length := by omega
  obtain ⟨p, hp⟩ : ∃ p, row[i]? = some p := ⟨_, List.getElem?_eq_getElem hil2⟩
  have hpo := hI.ok p (List.mem_of_getElem? hp)
  have hpx : (row.map hX)[i]? = some (hX p) := by rw [List.getElem?_map, hp]; rfl
  refine SX.addrOwn (A := A8) (cellsK 2) inferInstance (by omega) (fun b8 e8 => ?_)
  subst e8
  repeat (first|refine Qf ?_|refine Qg ?_|refine Qh ?_|fail)
  refine SXA.begin (.own (some ⟨b8, 0, none⟩) (rowR (cellsK 2) 35 (.slice (some ⟨b8, 0, none⟩) ((row).map hX).length c8) ((row).map hX)) :: .own (some ⟨gm, 0, none⟩) (hmapR gm seen) :: .own (some ⟨q, 0, none⟩) (cellsR q [.int .u32 hi, .int .u32 hg] 35) :: F) [] ?_
  refine Qr 0 ?_
  refine Qr 1 ?_
  refine SXA.idx 2 rfl (by decide +kernel) rfl rfl rfl rfl rfl rfl (by omega) (by omega) rfl inferInstance ?_
  refine SXA.loadRow 3 (cellsK 2) rfl (by decide +kernel) rfl rfl rfl inferInstance (by rw [Int.toNat_natCast]; exact hpx) rfl rfl inferInstance ?_
  refine Qt 4 ?_
  refine Qw 5 ?_
  refine SXL.eqAgg rfl rfl eqH13 rfl rfl rfl rfl ?_
  refine SXL.nil (SXA.next inferInstance ?_)
  refine Qv ?_
  refine SX.cond rfl (fun he => ?_) (fun he => ?_)
  · have hpe : p = (hi, hg) := by rw [Bool.and_eq_true, beq_iff_eq, beq_iff_eq] at he; exact Prod.ext he.1 he.2
    rw [belowB_t (hI.found (by rw [hp, hpe]) hf)] at h
    repeat (first|refine Qa ?_|refine Qd ?_|refine Qe ?_|refine Qf ?_|fail)
    refine SX.ret (M' := F) rfl (Evals.tmp rfl Evals.nil) ?_ inferInstance
    exact h
  have hpe : p ≠ (hi, hg) := fun e => by rw [e] at he; simp at he
  repeat (first|refine Qa ?_|refine Qe ?_|refine Qf ?_|refine Qg ?_|fail)
  refine SXL.idx rfl rfl rfl rfl rfl (by omega) (by omega) rfl ?_
  skip
  refine SXL.loadRow (cellsK 2) rfl rfl inferInstance (by rw [Int.toNat_natCast]; exact hpx) rfl rfl ?_
  skip
  refine SXL.hasPair (p := p) rfl rfl inferInstance Tryz.underlying173 rfl rfl rfl ?_
  repeat (first|refine Qa ?_|fail)
  by_cases hin : p ∈ seen
  · refine SXL.know 37 true rfl (decide_eq_true hin) ?_
    repeat (first|refine Qa ?_|refine Qd ?_|refine Qe ?_|refine Qj ?_|refine Qk ?_|refine Qn ?_|fail)
    refine SX.same 9 (.int .i64 ((i + 1 : Nat) : Int)) rfl (by simp (disch := omega) only [IntWalk.i64_in, IntWalk.u8_in, IntWalk.u32_in, IntWalk.u64_in, IntWalk.rem_in, Int.natCast_add, Int.natCast_one]) ?_
    refine SX.again (1000 * newN t seen + (row.length - (i + 1))) (by omega) ⟨i + 1, row, seen, some ⟨b8, 0, none⟩, c8, hI.skip hp hpe (Or.inl hin), rfl, hc8, rfl, rfl⟩ (by repeat (first | exact trivial | refine ⟨rfl, ?_⟩)) inferInstance
  refine SXL.know 37 false rfl (decide_eq_false hin) ?_
  repeat (first|refine Qa ?_|refine Qm ?_|fail)
  refine SXL.idx rfl rfl rfl rfl rfl (by omega) (by omega) rfl ?_
  repeat (first|refine Qa ?_|refine Qm ?_|fail)
  refine SXL.loadRow1 (cellsK 2) rfl rfl inferInstance (by rw [Int.toNat_natCast]; exact hpx) rfl rfl ?_
  repeat (first|refine Qa ?_|refine Qd ?_|refine Qm ?_|fail)
  refine SX.condp rfl (fun h24 => ?_) (fun h24 => ?_)
  · repeat (first|refine Qa ?_|refine Qd ?_|refine Qe ?_|refine Qj ?_|fail)
    refine SX.same 9 (.int .i64 ((i + 1 : Nat) : Int)) rfl (by simp (disch := omega) only [IntWalk.i64_in, IntWalk.u8_in, IntWalk.u32_in, IntWalk.u64_in, IntWalk.rem_in, Int.natCast_add, Int.natCast_one]) ?_
    refine SX.again (1000 * newN t seen + (row.length - (i + 1))) (by omega) ⟨i + 1, row, seen, some ⟨b8, 0, none⟩, c8, hI.skip hp hpe (Or.inr (by omega)), rfl, hc8, rfl, rfl⟩ (by repeat (first | exact trivial | refine ⟨rfl, ?_⟩)) inferInstance
  have hp24 : p.1 < 24 := by omega
  have hp0 := hpo.1.1
  repeat (first|refine Qa ?_|refine Qe ?_|refine Qf ?_|refine Qg ?_|fail)
  refine SXL.idx rfl rfl rfl rfl rfl (by omega) (by omega) rfl ?_
  skip
  refine SXL.loadRow (cellsK 2) rfl rfl inferInstance (by rw [Int.toNat_natCast]; exact hpx) rfl rfl ?_
  refine SXL.putPair (p := p) rfl rfl rfl inferInstance Tryz.underlying173 hin ?_
  repeat (first|refine Qd ?_|refine Qf ?_|fail)
  obtain ⟨s', hs'⟩ : ∃ s', t.l[p.1.toNat]? = some s' := ⟨_, List.getElem?_eq_getElem (by rw [hm.n]; omega)⟩
  obtain ⟨x', hx'⟩ : ∃ x', ps[p.1.toNat]? = some x' := ⟨_, List.getElem?_eq_getElem (by omega)⟩
  haveI gs3 : GetIs t.l p.1.toNat s' := ⟨hs'⟩
  haveI gs4 : GetIs ps p.1.toNat x' := ⟨hx'⟩
  have ha' : atT t p.1.toNat = s' := atT_get hs'
  have hsm' := hm.at hs'
  refine SXA.begin (.own (some ⟨b8, 0, none⟩) (rowR (cellsK 2) 35 (.slice (some ⟨b8, 0, none⟩) ((row).map hX).length c8) ((row).map hX)) :: .own (some ⟨gm, 0, none⟩) (hmapR gm (seen ++ [p])) :: .own (some ⟨q, 0, none⟩) (cellsR q [.int .u32 hi, .int .u32 hg] 35) :: F) [] ?_
  refine Qr 0 ?_
  refine Qr 1 ?_
  refine Qr 2 ?_
  refine Qr 3 ?_
  refine Qt 4 ?_
  refine Qr 5 ?_
  refine Qr 6 ?_
  refine SXA.idx 7 rfl (by decide +kernel) rfl rfl rfl rfl rfl rfl (by omega) (by omega) rfl inferInstance ?_
  refine Qr 8 ?_
  refine SXA.loadRow1 9 (cellsK 2) rfl (by decide +kernel) rfl rfl rfl inferInstance (by rw [Int.toNat_natCast]; exact hpx) rfl rfl inferInstance ?_
  refine SXA.idx 10 rfl (by decide +kernel) rfl rfl rfl rfl rfl rfl (by omega) (by omega) rfl inferInstance ?_
  refine Qr 11 ?_
  refine Qv ?_
  refine SX.same 10 (.pointer (some ⟨b, p.1.toNat * 9, none⟩)) rfl (by simp) ?_
  repeat (first|refine Qf ?_|fail)
  refine SXA.begin (.own (some ⟨b8, 0, none⟩) (rowR (cellsK 2) 35 (.slice (some ⟨b8, 0, none⟩) ((row).map hX).length c8) ((row).map hX)) :: .own (some ⟨gm, 0, none⟩) (hmapR gm (seen ++ [p])) :: .own (some ⟨q, 0, none⟩) (cellsR q [.int .u32 hi, .int .u32 hg] 35) :: F) [] ?_
  refine Qr 0 ?_
  refine Qr 1 ?_
  refine Qr 2 ?_
  refine Qxa 3 ?_
  refine Qr 4 ?_
  refine Qr 5 ?_
  by_cases hkd : s'.kind = 2
  rotate_left
  · refine SXA.know 66 true rfl (by simpa using hkd) ?_
    refine Qs 6 ?_
    refine Qs 7 ?_
    refine Qs 8 ?_
    refine Qs 9 ?_
    refine Qs 10 ?_
    refine Qs 11 ?_
    refine Qs 12 ?_
    refine Qs 13 ?_
    refine Qs 14 ?_
    refine Qs 15 ?_
    refine Qr 16 ?_
    refine Qv ?_
    repeat (first|refine Qa ?_|refine Qd ?_|refine Qe ?_|refine Qj ?_|refine Qk ?_|fail)
    have hn9 := newN_le t seen p
    refine SX.same 9 (.int .i64 ((i + 1 : Nat) : Int)) rfl (by simp (disch := omega) only [IntWalk.i64_in, IntWalk.u8_in, IntWalk.u32_in, IntWalk.u64_in, IntWalk.rem_in, Int.natCast_add, Int.natCast_one]) ?_
    refine SX.again (1000 * newN t (seen ++ [p]) + (row.length - (i + 1))) (by omega) ⟨i + 1, row, (seen ++ [p]), some ⟨b8, 0, none⟩, c8, hI.leaf hp hpe (fun a ha9 => hkd (by have h9 := folderE_ok ha9; rw [← h9.2.1, ha'] at h9; exact h9.2.2.1)), rfl, hc8, rfl, rfl⟩ (by repeat (first | exact trivial | refine ⟨rfl, ?_⟩)) inferInstance
  refine SXA.know 66 false rfl (by simpa using hkd) ?_
  refine Qr 6 ?_
  refine Qr 7 ?_
  refine Qr 8 ?_
  refine Qxa 9 ?_
  refine Qr 10 ?_
  refine Qr 11 ?_
  refine SXA.idx 12 rfl (by decide +kernel) rfl rfl rfl rfl rfl rfl (by omega) (by omega) rfl inferInstance ?_
  refine Qr 13 ?_
  refine SXA.loadRow1 14 (cellsK 2) rfl (by decide +kernel) rfl rfl rfl inferInstance (by rw [Int.toNat_natCast]; exact hpx) rfl rfl inferInstance ?_
  refine Qr 15 ?_
  refine Qr 16 ?_
  refine Qv ?_
  by_cases hgn : s'.gen = p.2
  rotate_left
  · refine SX.know 77 true rfl (by simpa using hgn) ?_
    repeat (first|refine Qa ?_|refine Qd ?_|refine Qe ?_|refine Qj ?_|refine Qk ?_|fail)
    have hn9 := newN_le t seen p
    refine SX.same 9 (.int .i64 ((i + 1 : Nat) : Int)) rfl (by simp (disch := omega) only [IntWalk.i64_in, IntWalk.u8_in, IntWalk.u32_in, IntWalk.u64_in, IntWalk.rem_in, Int.natCast_add, Int.natCast_one]) ?_
    refine SX.again (1000 * newN t (seen ++ [p]) + (row.length - (i + 1))) (by omega) ⟨i + 1, row, (seen ++ [p]), some ⟨b8, 0, none⟩, c8, hI.leaf hp hpe (fun a ha9 => hgn (by have h9 := folderE_ok ha9; rw [← h9.2.1, ha'] at h9; exact h9.2.2.2)), rfl, hc8, rfl, rfl⟩ (by repeat (first | exact trivial | refine ⟨rfl, ?_⟩)) inferInstance
  refine SX.know 77 false rfl (by simpa using hgn) ?_
  have hfp : folderE t p.1 p.2 = .ok p.1.toNat := folderE_of hp24 rfl (by rw [ha']; exact hkd) (by rw [ha']; exact hgn)
  have hsl' := hsm'.l
  have heo := entS_ok hsm'.w
  obtain ⟨hI2, hn9⟩ := hI.step hp hpe hfp hin (by rw [ha']; omega) (by rw [ha']; exact heo.1)
  rw [ha'] at hI2
  repeat (first|refine Qa ?_|refine Qe ?_|refine Qf ?_|refine Qg ?_|refine Ql ?_|fail)
  refine SXL.call rfl rfl rfl ?_
  refine (entries_S (ts := t.l) (ps := ps) inferInstance inferInstance hs' hx' hsm'.w.d (by omega) (fun A' c' hc' => callK.ret ?_))
  repeat (first|refine Qa ?_|refine Qd ?_|refine Qh ?_|fail)
  refine SX.loop (fun z a M => ∃ (j : Nat) (A8 : Option Addr) (c8 : Nat), j + z = (entS s').length ∧ ((row ++ (kidsH s').take j).map hX).length ≤ c8 ∧ a = [(0, .pointer (some ⟨pw, 0, none⟩)), (5, .pointer (some ⟨q, 0, none⟩)), (7, .map (some gm)), (8, .slice A8 ((row ++ (kidsH s').take j).map hX).length c8), (9, .int .i64 i), (79, .slice A' (entS s').length c'), (80, .int .i64 (entS s').length), (81, .int .i64 j)] ∧ (.own A8 (rowR (cellsK 2) 35 (.slice A8 ((row ++ (kidsH s').take j).map hX).length c8) ((row ++ (kidsH s').take j).map hX)) :: .own A' (rowR kE 87 (.slice A' (entS s').length c') (entS s')) :: .own (some ⟨gm, 0, none⟩) (hmapR gm (seen ++ [p])) :: .own (some ⟨q, 0, none⟩) (cellsR q [.int .u32 hi, .int .u32 hg] 35) :: F) = M)
    (entS s').length ⟨0, some ⟨b8, 0, none⟩, c8, by omega, by rw [List.take_zero, List.append_nil]; exact hc8, by rw [List.take_zero, List.append_nil], rfl⟩ (by repeat (first | exact trivial | refine ⟨rfl, ?_⟩)) (by rw [List.take_zero, List.append_nil]; infer_instance) ?_
  rintro z2 _ _ ⟨j, A9, c9, hj, hc9, rfl, rfl⟩
  repeat (first|refine Qa ?_|refine Qd ?_|refine Qe ?_|refine Qf ?_|fail)
  refine SX.condp rfl (fun hjl => ?_) (fun hjl => ?_)
  rotate_left
  · have hje : (kidsH s').take j = kidsH s' := List.take_of_length_le (by unfold kidsH; rw [List.length_map]; omega)
    rw [hje] at hc9 ⊢
    have hkl : (kidsH s').length = (entS s').length := by unfold kidsH; rw [List.length_map]
    repeat (first|refine Qa ?_|refine Qd ?_|refine Qe ?_|refine Qi ?_|refine Qj ?_|fail)
    refine SX.same 9 (.int .i64 ((i + 1 : Nat) : Int)) rfl (by simp (disch := omega) only [IntWalk.i64_in, IntWalk.u8_in, IntWalk.u32_in, IntWalk.u64_in, IntWalk.rem_in, Int.natCast_add, Int.natCast_one]) ?_
    refine SX.again (1000 * newN t (seen ++ [p]) + ((row ++ kidsH s').length - (i + 1))) (by rw [List.length_append]; omega) ⟨i + 1, row ++ kidsH s', seen ++ [p], A9, c9, hI2, rfl, hc9, rfl, rfl⟩ (by repeat (first | exact trivial | refine ⟨rfl, ?_⟩)) inferInstance
  obtain ⟨e, he⟩ : ∃ e, (entS s')[j]? = some e := ⟨_, List.getElem?_eq_getElem (by omega)⟩
  have hke : (kidsH s')[j]? = some (e.i, e.g) := by unfold kidsH; rw [List.getElem?_map, he]; rfl
  have hlen : (row ++ (kidsH s').take j).length ≤ 19500 := by rw [List.length_append, List.length_take]; have : (kidsH s').length = (entS s').length := by { unfold kidsH; rw [List.length_map] }; omega
  refine SX.addrOwn (A := A') kE inferInstance (by omega) (fun b4 e4 => ?_)
  subst e4
  repeat (first|refine Qe ?_|refine Qf ?_|refine Qg ?_|refine Qh ?_|fail)
  refine SXL.idx rfl rfl rfl rfl rfl (by omega) (by omega) rfl ?_
  skip
  refine SXL.loadRow kE rfl rfl inferInstance (by rw [Int.toNat_natCast]; exact he) rfl rfl ?_
  refine SXL.alloc rfl rfl (fun z9 => ?_)
  repeat (first|refine Qa ?_|refine Qb ?_|refine Qc ?_|refine Qd ?_|refine Qe ?_|fail)
  refine SXL.lit rfl rfl (fun g9 => ?_)
  refine SXL.litRow (cellsK 2) g9 [hX (e.i, e.g)] inferInstance rfl (fun x => x.2.1) (by simp) ?_
  refine SXL.appendW (cellsK 2) rfl rfl inferInstance inferInstance rfl inferInstance (by rw [List.length_map]; show (_ + 1 + (_ + 1) / 4 + 192) * 8 ≤ _; omega) rfl (fun A9' c9' hc9' => ?_)
  have e9 : (row ++ (kidsH s').take j).map hX ++ [hX (e.i, e.g)] = (row ++ (kidsH s').take (j + 1)).map hX := by
    obtain ⟨hil9, hv9⟩ := List.getElem?_eq_some_iff.1 hke
    rw [List.take_succ_eq_append_getElem hil9, hv9, ← List.append_assoc, List.map_append (l₂ := [(e.i, e.g)])]
    rfl
  rw [e9] at hc9' ⊢
  repeat (first|refine Qa ?_|refine Qd ?_|refine Qe ?_|refine Qi ?_|fail)
  refine SX.same 81 (.int .i64 ((j + 1 : Nat) : Int)) rfl (by simp (disch := omega) only [IntWalk.i64_in, IntWalk.u8_in, IntWalk.u32_in, IntWalk.u64_in, IntWalk.rem_in, Int.natCast_add, Int.natCast_one]) ?_
  refine SX.again (z2 - 1) (by omega) ⟨j + 1, A9', c9', by omega, hc9', rfl, rfl⟩ (by repeat (first | exact trivial | refine ⟨rfl, ?_⟩)) inferInstance
end
end Go.Proofs.YtanemmcddgkpdaaGreat.Sx
end
section
/- Chapter 13: rename, walked; conditions: those that each theorem names. -/
namespace Go.Proofs.YtanemmcddgkpdaaGreat.Sx
open Go.RowKit Go.Proofs.YtanemmcddgkpdaaGreat.Hm Go.Proofs.YtanemmcddgkpdaaGreatW.PrintWords Go.Proofs.YtanemmcddgkpdaaGreatW.PrintLast Go.Proofs.YtanemmcddgkpdaaGreatW.PrintMore
set_option linter.unusedVariables false
set_option linter.unusedSimpArgs false
attribute [local irreducible] SX SXL SXA St callK Post Evals
theorem mayT_get {l : List Sl} {k : Nat} {s : Sl} (h : mayT l = true) (hk : l[k]? = some s) : s.ino = k ∧ okB s = true := by
  unfold mayT at h
  rw [Bool.and_eq_true] at h
  have h2 := List.all_eq_true.1 h.2 k (List.mem_range.2 (List.getElem?_eq_some_iff.1 hk).1)
  rw [hk] at h2
  dsimp only at h2
  rw [Bool.and_eq_true] at h2
  exact ⟨of_decide_eq_true h2.1, h2.2⟩
set_option maxRecDepth 20000 in
set_option maxHeartbeats 4000000 in
theorem rename_M {t : Th} {r : Re} {c : Ca} (hmay : mayT t.l = true) : OpA Tryz.prog 44 renameE t r c := by
  intro R K b pw cap cc Ac ps hps hcap hm hcw hcl hcc hd hro hrd hre h1 h2
  haveI n1 : IsNil r.d := ⟨hrd⟩
  haveI n2 : IsNil r.e := ⟨hre⟩
  refine Fn.enter Tryz.call44 Tryz.func44 rfl rfl rfl ?_
  repeat (first|refine Qf ?_|fail)
  refine SXA.begin (.own (some ⟨pw, 0, none⟩) (wkM pw b cap t c Ac cc r none 0 none 0) :: .own (some ⟨b, 0, none⟩) (thR b 24 cap t.l ps) :: R) [] ?_
  unfold wkM wkC
  refine Qr 0 ?_
  refine Qr 1 ?_
  refine Qr 2 ?_
  refine Qr 3 ?_
  refine Qr 4 ?_
  refine Qt 5 ?_
  refine Qr 7 ?_
  refine Qr 8 ?_
  refine Qr 9 ?_
  refine Qr 10 ?_
  refine Qr 11 ?_
  refine Qt 12 ?_
  refine Qw 6 ?_
  refine SXL.call rfl rfl rfl ?_
  refine (folder_P t ps (c := c) (r := r) hm hps hcap inferInstance inferInstance hcw.ai.1 (fun fr sf xf hfr hsf hxf haf hsfm hf24 g1 g2 => callK.ret ?_) (fun e he => callK.panic (h2 e _ (by unfold renameE; simp only [he, erE]) inferInstance)))
  refine SXL.nil (SXA.next inferInstance ?_)
  refine Qw 13 ?_
  refine SXL.call rfl rfl rfl ?_
  refine (folder_P t ps (c := c) (r := r) hm hps hcap inferInstance inferInstance hcw.ti.1 (fun to' st xt hto hst hxt hat hstm ht24 g3 g4 => callK.ret ?_) (fun e he => callK.panic (h2 e _ (by unfold renameE; simp only [hfr, okE, he, erE]) inferInstance)))
  refine SXL.nil (SXA.next inferInstance ?_)
  refine Qr 14 ?_
  refine Qr 15 ?_
  refine Qv ?_
  have hstl := hstm.l
  repeat (first|refine Qa ?_|refine Qb ?_|refine Qe ?_|refine Qf ?_|fail)
  refine SXL.call rfl rfl rfl ?_
  refine (named_S (fun hn => callK.ret ?_) (fun e he => callK.panic (h2 e _ (by unfold renameE; simp only [hfr, hto, okE, he, erE]) inferInstance)))
  repeat (first|refine Qa ?_|refine Qb ?_|refine Qd ?_|refine Qe ?_|refine Qf ?_|fail)
  refine SXL.call rfl rfl rfl ?_
  refine (named_S (fun hn2 => callK.ret ?_) (fun e he => callK.panic (h2 e _ (by unfold renameE; simp only [hfr, hto, hn, okE, he, erE]) inferInstance)))
  repeat (first|refine Qa ?_|refine Qb ?_|refine Qd ?_|refine Qe ?_|refine Qf ?_|fail)
  refine SXL.call rfl rfl rfl ?_
  refine (child_P t ps (c := c) (r := r) hm hps hcap inferInstance inferInstance inferInstance hsf hxf (fun k s x hk hs hx ha hsm hk24 g5 g6 => callK.ret ?_) (fun e he => callK.panic (h2 e _ (by unfold renameE; simp only [hfr, hto, hn, hn2, okE, he, erE]) inferInstance)))
  have hno := (mayT_get hmay hs).1
  repeat (first|refine Qa ?_|refine Qd ?_|refine Qe ?_|refine Qf ?_|fail)
  refine SXL.lit rfl rfl (fun gg => ?_)
  repeat (first|refine Qa ?_|refine Qb ?_|refine Qd ?_|refine Qe ?_|refine Qf ?_|fail)
  refine SXL.call rfl rfl rfl ?_
  refine (found_S (ts := t.l) (ps := ps) (name := c.toName) inferInstance inferInstance hst hxt hstm.w.d (by omega) (fun hf => callK.ret ?_) (fun e hf => callK.ret ?_))
  · skip
    repeat (first|refine Qa ?_|fail)
    refine SXL.alloc rfl rfl (fun z => ?_)
    repeat (first|refine Qa ?_|refine Qc ?_|fail)
    refine Qd ?_
    repeat (first|refine Qf ?_|fail)
    refine Qe ?_
    repeat (first|refine Qa ?_|fail)
    refine Qd ?_
    repeat (first|refine Qf ?_|fail)
    refine Qe ?_
    repeat (first|refine Qa ?_|fail)
    refine Qd ?_
    repeat (first|refine Qf ?_|refine Qg ?_|refine Ql ?_|fail)
    refine SX.cut (fun a' M' => ((s.kind != 2 || !belowB t k to') = true) ∧ a' = [(0, .pointer (some ⟨pw, 0, none⟩)), (2, .pointer (some ⟨b, fr * 9, none⟩)), (3, .pointer (some ⟨b, to' * 9, none⟩)), (4, .pointer (some ⟨b, k * 9, none⟩)), (5, .slice (some ⟨gg, 0, none⟩) 3 3), (7, .bool false), (8, .pointer none)] ∧ (.own (some ⟨gg, 0, none⟩) (cellsR gg [.pointer (some ⟨b, fr * 9, none⟩), .pointer (some ⟨b, to' * 9, none⟩), .pointer (some ⟨b, k * 9, none⟩)] 116) :: .own (some ⟨pw, 0, none⟩) (wkM pw b cap t c Ac cc r none 0 none 0) :: .own (some ⟨b, 0, none⟩) (thR b 24 cap t.l ps) :: R) = M') ?_ ?_
    · by_cases hkd : s.kind = 2
      · have hkb : (s.kind != 2) = false := by simpa using hkd
        repeat (first|refine Qa ?_|refine Qe ?_|refine Qx ?_|fail)
        refine SXL.know 97 false rfl hkb ?_
        repeat (first|refine Qa ?_|refine Qb ?_|refine Qm ?_|fail)
        refine SXL.call rfl rfl rfl ?_
        refine below_S t ps (c := c) (r := r) hm hps hcap inferInstance inferInstance inferInstance hs hx hkd hno ⟨hcw.ti, hcw.tg⟩ hto (callK.ret ?_)
        repeat (first|refine Qa ?_|refine Qm ?_|fail)
        refine SXL.call rfl rfl rfl ?_
        refine (need_S (F' := R) inferInstance (fun hg => callK.ret ?_) (fun hg => callK.panic (h2 64 _ (by unfold renameE; simp only [hfr, hto, hn, hn2, hk, okE, hf, hat, ha]; rw [hkb, show (!belowB t k to') = false from hg]; rfl) inferInstance)))
        repeat (first|refine Qd ?_|fail)
        refine SX.meet ⟨by rw [hkb]; exact hg, rfl, rfl⟩ (by repeat (first | exact trivial | refine ⟨rfl, ?_⟩)) inferInstance
      · have hkb : (s.kind != 2) = true := by simpa using hkd
        repeat (first|refine Qa ?_|refine Qe ?_|refine Qx ?_|fail)
        refine SXL.know 97 true rfl hkb ?_
        repeat (first|refine Qa ?_|refine Qn ?_|fail)
        refine SXL.call rfl rfl rfl ?_
        refine (need_S (F' := R) inferInstance (fun hg => callK.ret ?_) (fun hg => by cases hg))
        repeat (first|refine Qd ?_|fail)
        refine SX.meet ⟨by rw [hkb]; rfl, rfl, rfl⟩ (by repeat (first | exact trivial | refine ⟨rfl, ?_⟩)) inferInstance
    rintro _ _ ⟨hkb, rfl, rfl⟩
    have hE : renameE t r c = (leaveE t fr c.name >>= fun t2 => enterE t2 to' c.toName (atT t2 k).ino (atT t2 k).gen >>= fun t3 => touchE t3 [fr, to', k] >>= fun t4 => pure (t4, tellS (atT t4 k) r)) := by
      unfold renameE
      simp only [hfr, hto, hn, hn2, hk, okE, hf, hat, ha, hkb, needT]
    rw [hE] at h2
    simp only [hE] at h1
    obtain ⟨sf0, hsf0⟩ : ∃ sf, t.l[fr]? = some sf := ⟨_, List.getElem?_eq_getElem (by rw [hm.n]; exact hf24)⟩
    obtain ⟨xf0, hxf0⟩ : ∃ xf, ps[fr]? = some xf := ⟨_, List.getElem?_eq_getElem (by omega)⟩
    rw [leaveE_at (atT_get hsf0)] at h2
    simp only [leaveE_at (atT_get hsf0)] at h1
    repeat (first|refine Qa ?_|refine Qb ?_|refine Qd ?_|refine Qe ?_|refine Qf ?_|refine Qg ?_|refine Ql ?_|fail)
    refine SXL.call rfl rfl rfl ?_
    refine (Fn.sub (leave_S (R := .own (some ⟨pw, 0, none⟩) (wkM pw b cap t c Ac cc r none 0 none 0) :: .own (some ⟨gg, 0, none⟩) (cellsR gg [.pointer (some ⟨b, fr * 9, none⟩), .pointer (some ⟨b, to' * 9, none⟩), .pointer (some ⟨b, k * 9, none⟩)] 116) :: .per (datR t.l ps) :: R) (ts := t.l) (ps := ps) (m := 24) (cap := cap) (b := b) inferInstance hsf0 hxf0 (hm.at hsf0) (fun s2 x2 he2 => callK.ret ?_) (fun e M' he hM' => callK.panic (h2 e M' (by rw [he]; rfl) (hM'.trans inferInstance)))) inferInstance)
    have hs2m : s2.mid := (leaveS_ok (hm.at hsf0) he2).1
    have hE2 : ∀ (G : Th → Ex (Th × Re)), (Except.map (setT t fr) (Except.ok s2 : Ex Sl) >>= G) = G (setT t fr s2) := fun G => rfl
    rw [he2, hE2] at h2
    simp only [he2, hE2] at h1
    have hm2 : (setT t fr s2).mid := hm.set hs2m
    have hp2 : (ps.set fr x2).length = 24 := by rw [List.length_set]; exact hps
    obtain ⟨sk, hsk⟩ : ∃ sk, (t.l.set fr s2)[k]? = some sk := ⟨_, List.getElem?_eq_getElem (by rw [List.length_set, hm.n]; exact hk24)⟩
    obtain ⟨xk, hxk⟩ : ∃ xk, (ps.set fr x2)[k]? = some xk := ⟨_, List.getElem?_eq_getElem (by omega)⟩
    obtain ⟨st2, hst2⟩ : ∃ sk, (t.l.set fr s2)[to']? = some sk := ⟨_, List.getElem?_eq_getElem (by rw [List.length_set, hm.n]; exact ht24)⟩
    obtain ⟨xt2, hxt2⟩ : ∃ xk, (ps.set fr x2)[to']? = some xk := ⟨_, List.getElem?_eq_getElem (by omega)⟩
    haveI gk1 : GetIs (t.l.set fr s2) k sk := ⟨hsk⟩
    haveI gk2 : GetIs (ps.set fr x2) k xk := ⟨hxk⟩
    have hskm := hm2.at hsk
    have hak : atT (setT t fr s2) k = sk := atT_get hsk
    rw [hak, enterE_at (show atT (setT t fr s2) to' = st2 from atT_get hst2)] at h2
    simp only [hak, enterE_at (show atT (setT t fr s2) to' = st2 from atT_get hst2)] at h1
    repeat (first|refine Qd ?_|refine Qf ?_|fail)
    refine SXA.begin (.own (some ⟨pw, 0, none⟩) (wkM pw b cap t c Ac cc r none 0 none 0) :: .own (some ⟨b, 0, none⟩) (thR b 24 cap (t.l.set fr s2) (ps.set fr x2)) :: .own (some ⟨gg, 0, none⟩) (cellsR gg [.pointer (some ⟨b, fr * 9, none⟩), .pointer (some ⟨b, to' * 9, none⟩), .pointer (some ⟨b, k * 9, none⟩)] 116) :: .per (datR (t.l.set fr s2) (ps.set fr x2)) :: R) [10] ?_
    unfold wkM wkC
    refine Qr 0 ?_
    refine Qr 1 ?_
    refine Qr 2 ?_
    refine Qr 3 ?_
    refine Qr 4 ?_
    refine Qt 5 ?_
    refine Qr 6 ?_
    refine Qr 7 ?_
    refine Qya 8 ?_
    refine Qw 9 ?_
    refine SXL.call rfl rfl rfl ?_
    refine (Handle_S (s := sk) (A := xk.1) (c := xk.2) (callK.ret ?_))
    refine SXL.nil (SXA.next inferInstance ?_)
    refine Qw 10 ?_
    refine SXL.call rfl rfl rfl ?_
    refine (Fn.sub (enter_S (R := .own (some ⟨pw, 0, none⟩) (wkM pw b cap t c Ac cc r none 0 none 0) :: .own (some ⟨gg, 0, none⟩) (cellsR gg [.pointer (some ⟨b, fr * 9, none⟩), .pointer (some ⟨b, to' * 9, none⟩), .pointer (some ⟨b, k * 9, none⟩)] 116) :: .per (datR (t.l.set fr s2) (ps.set fr x2)) :: R) (ts := t.l.set fr s2) (ps := ps.set fr x2) (m := 24) (cap := cap) (b := b) inferInstance hst2 hxt2 (hm2.at hst2) hskm.w.ino hskm.w.gen (fun s3 x3 he3 => callK.ret ?_) (fun e M' he hM' => callK.panic (h2 e M' (by rw [he]; rfl) (hM'.trans inferInstance)))) inferInstance)
    have hE3 : ∀ (G : Th → Ex (Th × Re)), (Except.map (setT (setT t fr s2) to') (Except.ok s3 : Ex Sl) >>= G) = G (setT (setT t fr s2) to' s3) := fun G => rfl
    rw [he3, hE3] at h2
    simp only [he3, hE3] at h1
    have hs3m : s3.mid := (enterS_ok (hm2.at hst2) hskm.w.ino hskm.w.gen he3).1
    have hm3 : (setT (setT t fr s2) to' s3).mid := hm2.set hs3m
    obtain ⟨ps3, hps3⟩ : ∃ p : List Pl, p = (ps.set fr x2).set to' x3 := ⟨_, rfl⟩
    have hp3 : ps3.length = 24 := by rw [hps3, List.length_set]; exact hp2
    rw [← hps3]
    refine SXL.nil (SXA.nextLast rfl ?_)
    refine Qv ?_
    repeat (first|refine Qa ?_|refine Qe ?_|refine Qf ?_|fail)
    refine SXL.call rfl rfl rfl ?_
    refine (change_P3 (setT (setT t fr s2) to' s3) ps3 (c := c) (r := r) hm3 hp3 hcap inferInstance inferInstance inferInstance hf24 ht24 hk24 (fun t' ht hm' hdd => callK.ret ?_) (fun e he => callK.panic (h2 e _ (by rw [he]; rfl) inferInstance)))
    refine SXL.derive (datR ((t.l.set fr s2).set to' s3) ps3) (datR t'.l ps3) (datR_d hdd) ?_
    have hs'' := at_some (t := t') (k := k) (by have := hm'.n; omega)
    obtain ⟨x4, hx4⟩ : ∃ x4, ps3[k]? = some x4 := ⟨_, List.getElem?_eq_getElem (by omega)⟩
    repeat (first|refine Qa ?_|refine Qd ?_|refine Qe ?_|fail)
    refine SXL.call rfl rfl rfl ?_
    refine (tell_P t' ps3 (c := c) (r := r) inferInstance inferInstance hs'' hx4 (hm'.at hs'') (callK.ret ?_))
    repeat (first|refine Qd ?_|fail)
    refine SX.fin (M' := (.own (some ⟨pw, 0, none⟩) (wkM pw b cap t' c Ac cc (tellS (atT t' k) r) none 0 none 0) :: .own (some ⟨b, 0, none⟩) (thR b 24 cap t'.l ps3) :: .per (datR t'.l ps3) :: .per (roR (Kd.int .u8) none (tellS (atT t' k) r).d) :: .per (roR kE none (tellS (atT t' k) r).e) :: R)) rfl Evals.nil ?_ inferInstance
    exact h1 t' (tellS (atT t' k) r) ps3 none 0 none 0 (by rw [ht]; rfl) (by rw [hrd]; exact Nat.le_refl _) (by rw [hre]; exact Nat.le_refl _) hp3 hm'
  · skip
    have hei : 0 ≤ e.i := by
      obtain ⟨_, _, h, _⟩ := (entS_ok hstm.w).1 e (foundS_mem hf)
      exact h
    repeat (first|refine Qa ?_|fail)
    refine SXL.alloc rfl rfl (fun z => ?_)
    repeat (first|refine Qa ?_|refine Qb ?_|refine Qc ?_|refine Qd ?_|refine Qe ?_|refine Qf ?_|refine Qk ?_|fail)
    refine SXL.call rfl rfl rfl ?_
    refine (thing_P t ps (c := c) (r := r) hm hps hcap inferInstance inferInstance hei (fun old so xo hold hso hxo hao hsom ho24 g7 g8 => callK.ret ?_) (fun e' he => callK.panic (h2 e' _ (by unfold renameE; simp only [hfr, hto, hn, hn2, hk, okE, hf, hat, he, erE]) inferInstance)))
    repeat (first|refine Qa ?_|fail)
    refine Qd ?_
    refine SX.cut (fun a' M' => old ≠ k ∧ ((s.kind = 2 ∧ (so.kind == 2) = true ∧ ((entS so).length == 0) = true) ∨ (s.kind ≠ 2 ∧ (so.kind != 2) = true)) ∧ a' = [(0, .pointer (some ⟨pw, 0, none⟩)), (2, .pointer (some ⟨b, fr * 9, none⟩)), (3, .pointer (some ⟨b, to' * 9, none⟩)), (4, .pointer (some ⟨b, k * 9, none⟩)), (5, .slice (some ⟨gg, 0, none⟩) 3 3), (7, .bool true), (8, .pointer (some ⟨b, old * 9, none⟩))] ∧ (.own (some ⟨gg, 0, none⟩) (cellsR gg [.pointer (some ⟨b, fr * 9, none⟩), .pointer (some ⟨b, to' * 9, none⟩), .pointer (some ⟨b, k * 9, none⟩)] 116) :: .own (some ⟨pw, 0, none⟩) (wkM pw b cap t c Ac cc r none 0 none 0) :: .own (some ⟨b, 0, none⟩) (thR b 24 cap t.l ps) :: R) = M') ?_ ?_
    · repeat (first|refine Qa ?_|refine Qe ?_|refine Qf ?_|refine Qh ?_|fail)
      refine SXL.eqPtr rfl rfl Tryz.underlying116 rfl rfl rfl ?_
      repeat (first|refine Qa ?_|refine Qd ?_|fail)
      refine SX.condp rfl (fun hok => ?_) (fun hok => ?_)
      · have hok' : old = k := by omega
        repeat (first|refine Qa ?_|refine Qe ?_|refine Qf ?_|fail)
        refine SXL.call rfl rfl rfl ?_
        refine (tell_P t ps (c := c) (r := r) inferInstance inferInstance hs hx hsm (callK.ret ?_))
        repeat (first|refine Qd ?_|fail)
        refine SX.ret (M' := .own (some ⟨pw, 0, none⟩) (wkM pw b cap t c Ac cc (tellS s r) none 0 none 0) :: .own (some ⟨b, 0, none⟩) (thR b 24 cap t.l ps) :: .per (datR t.l ps) :: .per (roR (Kd.int .u8) none (tellS s r).d) :: .per (roR kE none (tellS s r).e) :: R) rfl Evals.nil ?_ inferInstance
        exact h1 t (tellS s r) ps none 0 none 0 (by unfold renameE; simp only [hfr, hto, hn, hn2, hk, okE, hf, hat, hold, if_pos hok', ha, puE]) (by rw [hrd]; exact Nat.le_refl _) (by rw [hre]; exact Nat.le_refl _) hps hm
      have hne : ¬ old = k := by omega
      have hsol := hsom.l
      by_cases hkd : s.kind = 2
      · repeat (first|refine Qa ?_|refine Qd ?_|refine Qe ?_|refine Qf ?_|refine Qx ?_|fail)
        refine SX.know 75 true rfl (by simpa using hkd) ?_
        repeat (first|refine Qa ?_|refine Qe ?_|refine Qf ?_|refine Qk ?_|refine Qx ?_|fail)
        refine SXL.call rfl rfl rfl ?_
        refine (need_S (F' := R) inferInstance (fun hg => callK.ret ?_) (fun hg => callK.panic (h2 62 _ (by unfold renameE; simp only [hfr, hto, hn, hn2, hk, okE, hf, hat, hold, if_neg hne, ha, if_pos hkd, hao]; rw [show (so.kind == 2) = false from hg]; rfl) inferInstance)))
        have hob : (so.kind == 2) = true := hg
        repeat (first|refine Qa ?_|refine Qd ?_|refine Qe ?_|fail)
        refine SXL.call rfl rfl rfl ?_
        refine (entries_S (ts := t.l) (ps := ps) inferInstance inferInstance hso hxo hsom.w.d (by omega) (fun A' c' hc' => callK.ret ?_))
        repeat (first|refine Qa ?_|fail)
        have hlb : decide (((entS so).length : Int) = 0) = ((entS so).length == 0) := by rw [Bool.eq_iff_iff, decide_eq_true_eq, beq_iff_eq]; omega
        refine SXL.call rfl rfl rfl ?_
        refine (need_S (F' := R) inferInstance (fun hg2 => callK.ret ?_) (fun hg2 => callK.panic (h2 68 _ (by unfold renameE; simp only [hfr, hto, hn, hn2, hk, okE, hf, hat, hold, if_neg hne, ha, if_pos hkd, hao, hob, needT]; rw [show ((entS so).length == 0) = false from by rw [← hlb]; exact hg2]; rfl) inferInstance)))
        repeat (first|refine Qd ?_|refine Qi ?_|fail)
        refine SX.meet ⟨hne, Or.inl ⟨hkd, hob, by rw [← hlb]; exact hg2⟩, rfl, rfl⟩ (by repeat (first | exact trivial | refine ⟨rfl, ?_⟩)) inferInstance
      · repeat (first|refine Qa ?_|refine Qd ?_|refine Qe ?_|refine Qf ?_|refine Qx ?_|fail)
        refine SX.know 75 false rfl (by simpa using hkd) ?_
        repeat (first|refine Qa ?_|refine Qe ?_|refine Ql ?_|refine Qx ?_|fail)
        refine SXL.call rfl rfl rfl ?_
        refine (need_S (F' := R) inferInstance (fun hg => callK.ret ?_) (fun hg => callK.panic (h2 63 _ (by unfold renameE; simp only [hfr, hto, hn, hn2, hk, okE, hf, hat, hold, if_neg hne, ha, if_neg hkd, hao]; rw [show (so.kind != 2) = false from hg]; rfl) inferInstance)))
        repeat (first|refine Qd ?_|refine Qi ?_|fail)
        refine SX.meet ⟨hne, Or.inr ⟨hkd, hg⟩, rfl, rfl⟩ (by repeat (first | exact trivial | refine ⟨rfl, ?_⟩)) inferInstance
    rintro _ _ ⟨hne, hsw, rfl, rfl⟩
    repeat (first|refine Qf ?_|fail)
    refine SX.cut (fun a' M' => ((s.kind != 2 || !belowB t k to') = true) ∧ a' = [(0, .pointer (some ⟨pw, 0, none⟩)), (2, .pointer (some ⟨b, fr * 9, none⟩)), (3, .pointer (some ⟨b, to' * 9, none⟩)), (4, .pointer (some ⟨b, k * 9, none⟩)), (5, .slice (some ⟨gg, 0, none⟩) 3 3), (7, .bool true), (8, .pointer (some ⟨b, old * 9, none⟩))] ∧ (.own (some ⟨gg, 0, none⟩) (cellsR gg [.pointer (some ⟨b, fr * 9, none⟩), .pointer (some ⟨b, to' * 9, none⟩), .pointer (some ⟨b, k * 9, none⟩)] 116) :: .own (some ⟨pw, 0, none⟩) (wkM pw b cap t c Ac cc r none 0 none 0) :: .own (some ⟨b, 0, none⟩) (thR b 24 cap t.l ps) :: R) = M') ?_ ?_
    · by_cases hkd : s.kind = 2
      · have hkb : (s.kind != 2) = false := by simpa using hkd
        repeat (first|refine Qa ?_|refine Qe ?_|refine Qx ?_|fail)
        refine SXL.know 97 false rfl hkb ?_
        repeat (first|refine Qa ?_|refine Qb ?_|refine Qm ?_|fail)
        refine SXL.call rfl rfl rfl ?_
        refine below_S t ps (c := c) (r := r) hm hps hcap inferInstance inferInstance inferInstance hs hx hkd hno ⟨hcw.ti, hcw.tg⟩ hto (callK.ret ?_)
        repeat (first|refine Qa ?_|refine Qm ?_|fail)
        refine SXL.call rfl rfl rfl ?_
        refine (need_S (F' := R) inferInstance (fun hg => callK.ret ?_) (fun hg => callK.panic (h2 64 _ (by unfold renameE; rcases hsw with ⟨hkd, ho1, ho2⟩ | ⟨hkd, ho1⟩ <;> first | (simp only [hfr, hto, hn, hn2, hk, okE, hf, hat, hold, if_neg hne, ha, if_pos hkd, hao, ho1, ho2, needT]; rw [hkb, show (!belowB t k to') = false from hg]; rfl) | (simp only [hfr, hto, hn, hn2, hk, okE, hf, hat, hold, if_neg hne, ha, if_neg hkd, hao, ho1, needT]; rw [hkb, show (!belowB t k to') = false from hg]; rfl)) inferInstance)))
        repeat (first|refine Qd ?_|fail)
        refine SX.meet ⟨by rw [hkb]; exact hg, rfl, rfl⟩ (by repeat (first | exact trivial | refine ⟨rfl, ?_⟩)) inferInstance
      · have hkb : (s.kind != 2) = true := by simpa using hkd
        repeat (first|refine Qa ?_|refine Qe ?_|refine Qx ?_|fail)
        refine SXL.know 97 true rfl hkb ?_
        repeat (first|refine Qa ?_|refine Qn ?_|fail)
        refine SXL.call rfl rfl rfl ?_
        refine (need_S (F' := R) inferInstance (fun hg => callK.ret ?_) (fun hg => by cases hg))
        repeat (first|refine Qd ?_|fail)
        refine SX.meet ⟨by rw [hkb]; rfl, rfl, rfl⟩ (by repeat (first | exact trivial | refine ⟨rfl, ?_⟩)) inferInstance
    rintro _ _ ⟨hkb, rfl, rfl⟩
    have hE0 : renameE t r c = (leaveE t to' c.toName >>= fun t1 => leaveE (setT t1 old (unlinkS (atT t1 old))) fr c.name >>= fun t2 => enterE t2 to' c.toName (atT t2 k).ino (atT t2 k).gen >>= fun t3 => touchE t3 [fr, to', k, old] >>= fun t4 => pure (t4, tellS (atT t4 k) r)) := by
      unfold renameE
      rcases hsw with ⟨hkd, ho1, ho2⟩ | ⟨hkd, ho1⟩
      · simp only [hfr, hto, hn, hn2, hk, okE, hf, hat, hold, if_neg hne, ha, if_pos hkd, hao, ho1, ho2, needT, hkb]
      · simp only [hfr, hto, hn, hn2, hk, okE, hf, hat, hold, if_neg hne, ha, if_neg hkd, hao, ho1, needT, hkb]
    rw [hE0, leaveE_at hat] at h2
    simp only [hE0, leaveE_at hat] at h1
    repeat (first|refine Qa ?_|refine Qb ?_|refine Qd ?_|refine Qe ?_|refine Qf ?_|refine Qk ?_|fail)
    refine SXL.call rfl rfl rfl ?_
    refine (Fn.sub (leave_S (R := .own (some ⟨pw, 0, none⟩) (wkM pw b cap t c Ac cc r none 0 none 0) :: .own (some ⟨gg, 0, none⟩) (cellsR gg [.pointer (some ⟨b, fr * 9, none⟩), .pointer (some ⟨b, to' * 9, none⟩), .pointer (some ⟨b, k * 9, none⟩)] 116) :: R) (ts := t.l) (ps := ps) (m := 24) (cap := cap) (b := b) inferInstance hst hxt hstm (fun s1 x1 he1 => callK.ret ?_) (fun e M' he hM' => callK.panic (h2 e M' (by rw [he]; rfl) (hM'.trans inferInstance)))) inferInstance)
    have hs1m : s1.mid := (leaveS_ok hstm he1).1
    have hEm : ∀ (G : Th → Ex (Th × Re)), (Except.map (setT t to') (Except.ok s1 : Ex Sl) >>= G) = G (setT t to' s1) := fun G => rfl
    have hmA : (setT t to' s1).mid := hm.set hs1m
    have hpA : (ps.set to' x1).length = 24 := by rw [List.length_set]; exact hps
    obtain ⟨so1, hso1⟩ : ∃ sk, (t.l.set to' s1)[old]? = some sk := ⟨_, List.getElem?_eq_getElem (by rw [List.length_set, hm.n]; exact ho24)⟩
    obtain ⟨xo1, hxo1⟩ : ∃ xk, (ps.set to' x1)[old]? = some xk := ⟨_, List.getElem?_eq_getElem (by omega)⟩
    have hao1 : atT (setT t to' s1) old = so1 := atT_get hso1
    repeat (first|refine Qa ?_|refine Qd ?_|refine Qe ?_|refine Qf ?_|fail)
    refine SXL.call rfl rfl rfl ?_
    refine (Fn.sub (unlink_S (R := .own (some ⟨pw, 0, none⟩) (wkM pw b cap t c Ac cc r none 0 none 0) :: .own (some ⟨gg, 0, none⟩) (cellsR gg [.pointer (some ⟨b, fr * 9, none⟩), .pointer (some ⟨b, to' * 9, none⟩), .pointer (some ⟨b, k * 9, none⟩)] 116) :: .per (datR (t.l.set to' s1) (ps.set to' x1)) :: R) (ts := t.l.set to' s1) (ps := ps.set to' x1) (m := 24) (cap := cap) (b := b) inferInstance hso1 hxo1 (fun x2 => callK.ret ?_)) inferInstance)
    obtain ⟨t1, ht1⟩ : ∃ t1 : Th, t1 = setT (setT t to' s1) old (unlinkS so1) := ⟨_, rfl⟩
    obtain ⟨ps1, hps1⟩ : ∃ p : List Pl, p = (ps.set to' x1).set old x2 := ⟨_, rfl⟩
    have hm1 : t1.mid := by rw [ht1]; exact hmA.set (unlinkS_mid (hmA.at hso1))
    have hp1 : ps1.length = 24 := by rw [hps1, List.length_set]; exact hpA
    rw [he1, hEm, hao1, ← ht1] at h2
    simp only [he1, hEm, hao1, ← ht1] at h1
    have q1 : (t.l.set to' s1).set old (unlinkS so1) = t1.l := by rw [ht1]
    have q2 : t.ch = t1.ch := by rw [ht1]
    have q3 : t.room = t1.room := by rw [ht1]
    unfold wkM wkC
    rw [q1, ← hps1, q2, q3]
    repeat (first|refine Qa ?_|refine Qd ?_|refine Qe ?_|fail)
    refine SXL.lit rfl rfl (fun g1 => ?_)
    refine SXL.litRow (cellsK 1) g1 [ptX b old] inferInstance rfl (fun x => x.2.1) (by simp) ?_
    refine SXL.ownLit (cellsK 1) gg [ptX b fr, ptX b to', ptX b k] inferInstance (fun w ok => (((Reps.none _ _).snoc (Flat.inM (d := cellsK 1) w 0 ok (ptX b fr)) rfl).snoc (Flat.inM (d := cellsK 1) w 0 ok (ptX b to')) rfl).snoc (Flat.inM (d := cellsK 1) w 0 ok (ptX b k)) rfl) (by simp) ?_
    skip
    refine SXL.appendW (cellsK 1) rfl rfl inferInstance inferInstance rfl inferInstance (by simp) rfl (fun A' cp hcp => ?_)
    have eap : ([ptX b fr, ptX b to', ptX b k] ++ [ptX b old] : List (CellsN 1)) = [ptX b fr, ptX b to', ptX b k, ptX b old] := rfl
    rw [eap] at hcp ⊢
    refine SXL.addrOwn (A := A') (cellsK 1) inferInstance (by simp) (fun g4 e4 => ?_)
    subst e4
    refine SXL.keepRow (some ⟨g4, 0, none⟩) inferInstance ?_
    refine SXL.same 122 (.slice (some ⟨g4, 0, none⟩) 4 cp) rfl rfl ?_
    repeat (first|refine Qa ?_|refine Qb ?_|refine Qd ?_|refine Qe ?_|refine Qf ?_|fail)
    obtain ⟨sf0, hsf0⟩ : ∃ sf, t1.l[fr]? = some sf := ⟨_, List.getElem?_eq_getElem (by rw [hm1.n]; exact hf24)⟩
    obtain ⟨xf0, hxf0⟩ : ∃ xf, ps1[fr]? = some xf := ⟨_, List.getElem?_eq_getElem (by omega)⟩
    rw [leaveE_at (atT_get hsf0)] at h2
    simp only [leaveE_at (atT_get hsf0)] at h1
    skip
    refine SXL.call rfl rfl rfl ?_
    refine (Fn.sub (leave_S (R := .own (some ⟨pw, 0, none⟩) (wkM pw b cap t1 c Ac cc r none 0 none 0) :: .per (roR (cellsK 1) (some ⟨g4, 0, none⟩) [ptX b fr, ptX b to', ptX b k, ptX b old]) :: .per (datR t1.l ps1) :: R) (ts := t1.l) (ps := ps1) (m := 24) (cap := cap) (b := b) inferInstance hsf0 hxf0 (hm1.at hsf0) (fun s2 x2 he2 => callK.ret ?_) (fun e M' he hM' => callK.panic (h2 e M' (by rw [he]; rfl) (hM'.trans inferInstance)))) inferInstance)
    have hs2m : s2.mid := (leaveS_ok (hm1.at hsf0) he2).1
    have hE2 : ∀ (G : Th → Ex (Th × Re)), (Except.map (setT t1 fr) (Except.ok s2 : Ex Sl) >>= G) = G (setT t1 fr s2) := fun G => rfl
    rw [he2, hE2] at h2
    simp only [he2, hE2] at h1
    have hm2 : (setT t1 fr s2).mid := hm1.set hs2m
    have hp2 : (ps1.set fr x2).length = 24 := by rw [List.length_set]; exact hp1
    obtain ⟨sk, hsk⟩ : ∃ sk, (t1.l.set fr s2)[k]? = some sk := ⟨_, List.getElem?_eq_getElem (by rw [List.length_set, hm1.n]; exact hk24)⟩
    obtain ⟨xk, hxk⟩ : ∃ xk, (ps1.set fr x2)[k]? = some xk := ⟨_, List.getElem?_eq_getElem (by omega)⟩
    obtain ⟨st2, hst2⟩ : ∃ sk, (t1.l.set fr s2)[to']? = some sk := ⟨_, List.getElem?_eq_getElem (by rw [List.length_set, hm1.n]; exact ht24)⟩
    obtain ⟨xt2, hxt2⟩ : ∃ xk, (ps1.set fr x2)[to']? = some xk := ⟨_, List.getElem?_eq_getElem (by omega)⟩
    haveI gk1 : GetIs (t1.l.set fr s2) k sk := ⟨hsk⟩
    haveI gk2 : GetIs (ps1.set fr x2) k xk := ⟨hxk⟩
    have hskm := hm2.at hsk
    have hak : atT (setT t1 fr s2) k = sk := atT_get hsk
    rw [hak, enterE_at (show atT (setT t1 fr s2) to' = st2 from atT_get hst2)] at h2
    simp only [hak, enterE_at (show atT (setT t1 fr s2) to' = st2 from atT_get hst2)] at h1
    repeat (first|refine Qd ?_|refine Qf ?_|fail)
    refine SXA.begin (.own (some ⟨pw, 0, none⟩) (wkM pw b cap t1 c Ac cc r none 0 none 0) :: .own (some ⟨b, 0, none⟩) (thR b 24 cap (t1.l.set fr s2) (ps1.set fr x2)) :: .per (roR (cellsK 1) (some ⟨g4, 0, none⟩) [ptX b fr, ptX b to', ptX b k, ptX b old]) :: .per (datR (t1.l.set fr s2) (ps1.set fr x2)) :: R) [10] ?_
    unfold wkM wkC
    refine Qr 0 ?_
    refine Qr 1 ?_
    refine Qr 2 ?_
    refine Qr 3 ?_
    refine Qr 4 ?_
    refine Qt 5 ?_
    refine Qr 6 ?_
    refine Qr 7 ?_
    refine Qya 8 ?_
    refine Qw 9 ?_
    refine SXL.call rfl rfl rfl ?_
    refine (Handle_S (s := sk) (A := xk.1) (c := xk.2) (callK.ret ?_))
    refine SXL.nil (SXA.next inferInstance ?_)
    refine Qw 10 ?_
    refine SXL.call rfl rfl rfl ?_
    refine (Fn.sub (enter_S (R := .own (some ⟨pw, 0, none⟩) (wkM pw b cap t1 c Ac cc r none 0 none 0) :: .per (roR (cellsK 1) (some ⟨g4, 0, none⟩) [ptX b fr, ptX b to', ptX b k, ptX b old]) :: .per (datR (t1.l.set fr s2) (ps1.set fr x2)) :: R) (ts := t1.l.set fr s2) (ps := ps1.set fr x2) (m := 24) (cap := cap) (b := b) inferInstance hst2 hxt2 (hm2.at hst2) hskm.w.ino hskm.w.gen (fun s3 x3 he3 => callK.ret ?_) (fun e M' he hM' => callK.panic (h2 e M' (by rw [he]; rfl) (hM'.trans inferInstance)))) inferInstance)
    have hE3 : ∀ (G : Th → Ex (Th × Re)), (Except.map (setT (setT t1 fr s2) to') (Except.ok s3 : Ex Sl) >>= G) = G (setT (setT t1 fr s2) to' s3) := fun G => rfl
    rw [he3, hE3] at h2
    simp only [he3, hE3] at h1
    have hs3m : s3.mid := (enterS_ok (hm2.at hst2) hskm.w.ino hskm.w.gen he3).1
    have hm3 : (setT (setT t1 fr s2) to' s3).mid := hm2.set hs3m
    obtain ⟨ps3, hps3⟩ : ∃ p : List Pl, p = (ps1.set fr x2).set to' x3 := ⟨_, rfl⟩
    have hp3 : ps3.length = 24 := by rw [hps3, List.length_set]; exact hp2
    rw [← hps3]
    refine SXL.nil (SXA.nextLast rfl ?_)
    refine Qv ?_
    repeat (first|refine Qa ?_|refine Qe ?_|refine Qf ?_|fail)
    refine SXL.call rfl rfl rfl ?_
    refine (Fn.sub (change4R_P (R := .per (roR (cellsK 1) (some ⟨g4, 0, none⟩) [ptX b fr, ptX b to', ptX b k, ptX b old]) :: .per (datR ((t1.l.set fr s2).set to' s3) ps3) :: R) (Ac := Ac) (cc := cc) (Ad := none) (cd := 0) (Ae := none) (ce := 0) (pw := pw) (b := b) (cap := cap) (setT (setT t1 fr s2) to' s3) ps3 (c := c) (r := r) hm3 hp3 hcap hf24 ht24 hk24 ho24 (by simpa using hcp) inferInstance (fun t' ht hm' hdd => callK.ret ?_) (fun e he => callK.panic (h2 e _ (by rw [he]; rfl) inferInstance))) inferInstance)
    refine SXL.derive (datR ((t1.l.set fr s2).set to' s3) ps3) (datR t'.l ps3) (datR_d hdd) ?_
    have hs'' := at_some (t := t') (k := k) (by have := hm'.n; omega)
    obtain ⟨x4, hx4⟩ : ∃ x4, ps3[k]? = some x4 := ⟨_, List.getElem?_eq_getElem (by omega)⟩
    repeat (first|refine Qa ?_|refine Qd ?_|refine Qe ?_|fail)
    refine SXL.call rfl rfl rfl ?_
    refine (tell_P t' ps3 (c := c) (r := r) inferInstance inferInstance hs'' hx4 (hm'.at hs'') (callK.ret ?_))
    repeat (first|refine Qd ?_|fail)
    refine SX.fin (M' := (.own (some ⟨pw, 0, none⟩) (wkM pw b cap t' c Ac cc (tellS (atT t' k) r) none 0 none 0) :: .own (some ⟨b, 0, none⟩) (thR b 24 cap t'.l ps3) :: .per (datR t'.l ps3) :: .per (roR (Kd.int .u8) none (tellS (atT t' k) r).d) :: .per (roR kE none (tellS (atT t' k) r).e) :: R)) rfl Evals.nil ?_ inferInstance
    exact h1 t' (tellS (atT t' k) r) ps3 none 0 none 0 (by rw [ht]; rfl) (by rw [hrd]; exact Nat.le_refl _) (by rw [hre]; exact Nat.le_refl _) hp3 hm'
end Go.Proofs.YtanemmcddgkpdaaGreat.Sx
end
section
/- Chapter 13: every op's walk, where things may be; conditions: those that each theorem names. -/
namespace Go.Proofs.YtanemmcddgkpdaaGreat.Sx
open Go.RowKit Go.Proofs.YtanemmcddgkpdaaGreat.Hm Go.Proofs.YtanemmcddgkpdaaGreatW.PrintWords Go.Proofs.YtanemmcddgkpdaaGreatW.PrintLast Go.Proofs.YtanemmcddgkpdaaGreatW.PrintMore
set_option linter.unusedVariables false
set_option linter.unusedSimpArgs false
attribute [local irreducible] SX SXL SXA St callK Post Evals
theorem opT_all {t : Th} {c : Ca} (h1 : 1 ≤ c.op) (h2 : c.op ≤ 16) (hmay : mayT t.l = true) : OpT t c := by
  have h : c.op = 1 ∨ c.op = 2 ∨ c.op = 3 ∨ c.op = 4 ∨ c.op = 5 ∨ c.op = 6 ∨ c.op = 7 ∨ c.op = 8 ∨ c.op = 9 ∨ c.op = 10 ∨ c.op = 11 ∨ c.op = 12 ∨ c.op = 13 ∨ c.op = 14 ∨ c.op = 15 ∨ c.op = 16 := by omega
  rcases h with h | h | h | h | h | h | h | h | h | h | h | h | h | h | h | h
  · refine ⟨lookupE, ?_, by unfold opE; simp only [h]; rfl⟩
    rw [h]
    exact (lookup_S.at_ t (toldC c) c)
  · refine ⟨getattrE, ?_, by unfold opE; simp only [h]; rfl⟩
    rw [h]
    exact (getattr_S.at_ t (toldC c) c)
  · refine ⟨setattrE, ?_, by unfold opE; simp only [h]; rfl⟩
    rw [h]
    exact (setattr_S.at_ t (toldC c) c)
  · refine ⟨readE, ?_, by unfold opE; simp only [h]; rfl⟩
    rw [h]
    exact (read_S.at_ t (toldC c) c)
  · refine ⟨writeE, ?_, by unfold opE; simp only [h]; rfl⟩
    rw [h]
    exact (write_S.at_ t (toldC c) c)
  · refine ⟨createE, ?_, by unfold opE; simp only [h]; rfl⟩
    rw [h]
    exact (create_S.at_ t (toldC c) c)
  · refine ⟨mkdirE, ?_, by unfold opE; simp only [h]; rfl⟩
    rw [h]
    exact (mkdir_S.at_ t (toldC c) c)
  · refine ⟨symlinkE, ?_, by unfold opE; simp only [h]; rfl⟩
    rw [h]
    exact (symlink_S.at_ t (toldC c) c)
  · refine ⟨readlinkE, ?_, by unfold opE; simp only [h]; rfl⟩
    rw [h]
    exact (readlink_S.at_ t (toldC c) c)
  · refine ⟨removeE, ?_, by unfold opE; simp only [h]; rfl⟩
    rw [h]
    exact (remove_S.at_ t (toldC c) c)
  · refine ⟨rmdirE, ?_, by unfold opE; simp only [h]; rfl⟩
    rw [h]
    exact (rmdir_S.at_ t (toldC c) c)
  · refine ⟨renameE, ?_, by unfold opE; simp only [h]; rfl⟩
    rw [h]
    exact (rename_M hmay)
  · refine ⟨linkE, ?_, by unfold opE; simp only [h]; rfl⟩
    rw [h]
    exact (link_S.at_ t (toldC c) c)
  · refine ⟨readdirE, ?_, by unfold opE; simp only [h]; rfl⟩
    rw [h]
    exact (readdir_S.at_ t (toldC c) c)
  · refine ⟨fsstatE, ?_, by unfold opE; simp only [h]; rfl⟩
    rw [h]
    exact (fsstat_S.at_ t (toldC c) c)
  · refine ⟨commitE, ?_, by unfold opE; simp only [h]; rfl⟩
    rw [h]
    exact (commit_S.at_ t (toldC c) c)
end Go.Proofs.YtanemmcddgkpdaaGreat.Sx
end
