/- Go code walked by what is known of slots and memory: maps whose keys are pairs of numbers, that hold true alone; conditions: those that each theorem names. -/
import Derived.Test.YtanemmcddgkpdaaGreatJX8
import Derived.WideKeyRuns
namespace Go.Proofs.YtanemmcddgkpdaaGreat.Sx
open Go.RowKit Go.Proofs.YtanemmcddgkpdaaGreat.Hm Go.Proofs.YtanemmcddgkpdaaGreatW.PrintWords Go.Proofs.YtanemmcddgkpdaaGreatW.PrintLast Go.Proofs.YtanemmcddgkpdaaGreatW.PrintMore
set_option linter.unusedVariables false
set_option linter.unusedSimpArgs false
/-- A pair of numbers, as a value. -/
def hkV (p : Int × Int) : Value := .agg #[.int .u32 p.1, .int .u32 p.2]
/-- A map of the call's own: pairs, each with true. -/
def hmapR (b : Nat) (l : List (Int × Int)) : Res where
  P := fun w S => S b ∧ ∃ es n, w.heap[b]? = some (.map es n) ∧ es.toList.map (fun e => (e.key, e.val)) = l.map (fun p => (hkV p, .bool true))
  mono := fun h hs => ⟨hs _ h.1, h.2⟩
  loc := fun h _ hs => by
    obtain ⟨h1, es, n, h2, h3⟩ := h
    exact ⟨h1, es, n, (hs _ h1 (by
      have := (Array.getElem?_eq_some_iff.1 h2).1
      exact this)).trans h2, h3⟩
/-- A type of pairs of numbers. -/
class PairT (P : Program) (kt : TypeId) : Prop where
  eq : ∀ p q w, (Op.equal kt (hkV p) (hkV q)).run P w = .ok (decide (p = q)) w
  chk : ∀ e p w, (Instr.checkKey e 10000 kt (hkV p)).run P w = .ok () w
  wide : (match P.underlying kt with | some (.array _ _) | some (.struct _) => true | _ => false) = true
section
variable {P : Program}
theorem run_ask {kt : TypeId} (he : ∀ p q w, (Op.equal kt (hkV p) (hkV q)).run P w = .ok (decide (p = q)) w) (p : Int × Int) : ∀ (es : List MapEntry) (l : List (Int × Int)) (i : Nat), es.map (fun e => (e.key, e.val)) = l.map (fun q => (hkV q, .bool true)) →
    ∃ r, (∀ w, (Instr.findAsking kt (hkV p) es i).run P w = .ok r w) ∧ (p ∈ l → ∃ j, r = some (j, .bool true)) ∧ (p ∉ l → r = none)
  | [], [], i, _ => ⟨none, fun w => rfl, fun h => by simp at h, fun _ => rfl⟩
  | [], _ :: _, i, h => by simp at h
  | _ :: _, [], i, h => by simp at h
  | e :: es, q :: l, i, h => by
    simp only [List.map_cons, List.cons.injEq, Prod.mk.injEq] at h
    obtain ⟨⟨h1, h2⟩, h3⟩ := h
    obtain ⟨r, hr, hr1, hr2⟩ := run_ask he p es l (i + 1) h3
    by_cases hpq : p = q
    · refine ⟨some (i, .bool true), fun w => ?_, fun _ => ⟨i, rfl⟩, fun hn => absurd (by rw [hpq]; exact List.mem_cons_self) hn⟩
      unfold Instr.findAsking
      rw [h1]
      simp only [Sem.run_bind, he, Result.andThen_ok, decide_eq_true hpq, if_true, h2, Sem.run_pure]
    · refine ⟨r, fun w => ?_, fun hm => ?_, fun hn => hr2 (fun hm => hn (List.mem_cons_of_mem _ hm))⟩
      · unfold Instr.findAsking
        rw [h1]
        simp only [Sem.run_bind, he, Result.andThen_ok, decide_eq_false hpq, Bool.false_eq_true, if_false, hr]
      · rcases List.mem_cons.1 hm with h4 | h4
        · exact absurd h4 hpq
        · exact hr1 h4
theorem run_find {kt : TypeId} [hP : PairT P kt] (p : Int × Int) {es : List MapEntry} {l : List (Int × Int)} (h : es.map (fun e => (e.key, e.val)) = l.map (fun q => (hkV q, .bool true))) :
    ∃ r, (∀ w, (Instr.findKey kt (hkV p) es).run P w = .ok r w) ∧ (p ∈ l → ∃ j, r = some (j, .bool true)) ∧ (p ∉ l → r = none) := by
  obtain ⟨r, h1, h2, h3⟩ := run_ask hP.eq p es l 0 h
  exact ⟨r, fun w => by rw [run_findKey_eq w hP.wide]; exact h1 w, h2, h3⟩
end
section
variable {P : Program} {fn : Func} {K : Ending → List Thing → Prop} {N : Nat} {k k' : List It} {a : Fr} {M M0 R : List Thing} {ops : Array Oper} {rest : List Oper} {T : List (Nat × TI)}
variable {d id : Nat} {op : Op} {ty : TypeId} {pos : String} {af : Array Edge} {ds : List Nat} {fuel : Nat} {l : Array Bool}
theorem SXL.mkPairs {t : Nat} (hd : Nat.blt d N = true) (hK : ∀ b, SXL P fn K N k ops rest ((d, .map (some b)) :: a) (.own (some ⟨b, 0, none⟩) (hmapR b []) :: M)) : SXL P fn K N k ops (⟨some d, .makeMap t none, ty, pos, af, none⟩ :: rest) a M :=
  SXL.step rfl (fun act w st => by
    have hr : (execOp act.eval ⟨some d, .makeMap t none, ty, pos, af, none⟩).run P w = .ok (.value (.map (some w.heap.size))) (w.alloc (.map #[] 0)) := by
      simp only [execOp, Instr.makeMap, Option.map_none, Sem.run_bind, Sem.run_pure, Result.andThen_ok, run_newObj]
      rfl
    unfold Oper.wp
    rw [hr]
    refine hK w.heap.size _ _ (st.put hd (st.holds.new (below_alloc (Below.refl _ _) _) _ (S := fun k => k = w.heap.size) ⟨rfl, #[], 0, by rw [heap_alloc_new], rfl⟩ (fun k hk => by rw [World.size_alloc]; omega))))
theorem SXL.hasPair [hT : TOk P T] {t kt et b : Nat} {m x : Operand} {p : Int × Int} {es : List (Int × Int)} {te : TI} [hP : PairT P kt] (hm : evalO a m = some (.map (some b))) (hk : evalO a x = some (.agg #[.int .u32 p.1, .int .u32 p.2])) (hat : At (some ⟨b, 0, none⟩) M (hmapR b es) R) (hu : P.underlying t = some (.map kt et)) (he : lookT T et = some te) (hz : te.zero = .bool false)
    (hd : Nat.blt d N = true) (hK : SXL P fn K N k ops rest ((d, .bool (decide (p ∈ es))) :: a) M) : SXL P fn K N k ops (⟨some d, .lookup t m x false, ty, pos, af, none⟩ :: rest) a M :=
  SXL.val hd (fun act w st => by
    obtain ⟨S0, _, hS0⟩ := (st.holds.at_ hat).head
    obtain ⟨_, es', n, hg, he'⟩ := hS0
    have hz := (tok (P := P) he).zero w
    obtain ⟨r, h1, h2, h3⟩ := run_find (P := P) (kt := kt) p he'
    have hc := hP.chk es'.isEmpty p w
    have h1' := h1 w
    unfold hkV at h1' hc
    simp only [execOp, evalO_ok st.fits hm, evalO_ok st.fits hk, Instr.lookup, Sem.run_bind, run_underlying hu, Result.andThen_ok, Go.MapKept.run_getObj_map hg, Sem.run_pure, hc, h1']
    by_cases hp : p ∈ es
    · obtain ⟨j, rfl⟩ := h2 hp
      simp [decide_eq_true hp]
    · obtain rfl := h3 hp
      simp_all) hK
theorem SXL.putPair {t kt et b : Nat} {m x y : Operand} {p : Int × Int} {es : List (Int × Int)} [hP : PairT P kt] (hm : evalO a m = some (.map (some b))) (hk : evalO a x = some (.agg #[.int .u32 p.1, .int .u32 p.2])) (hx : evalO a y = some (.bool true)) (hat : At (some ⟨b, 0, none⟩) M (hmapR b es) R) (hu : P.underlying t = some (.map kt et)) (hn : p ∉ es)
    (hK : SXL P fn K N k ops rest a (.own (some ⟨b, 0, none⟩) (hmapR b (es ++ [p])) :: R)) : SXL P fn K N k ops (⟨none, .mapUpdate t m x y, ty, pos, af, none⟩ :: rest) a M :=
  SXL.step rfl (fun act w st => by
    have hb := st.holds.at_ hat
    obtain ⟨S0, _, hS0⟩ := hb.head
    obtain ⟨_, es', n, hg, he'⟩ := hS0
    obtain ⟨r, h1, h2, h3⟩ := run_find (P := P) (kt := kt) p he'
    obtain rfl := h3 hn
    have hc := hP.chk false p w
    have h1' := h1 w
    unfold hkV at h1' hc
    have hr : (execOp act.eval ⟨none, .mapUpdate t m x y, ty, pos, af, none⟩).run P w = .ok .skip { w with heap := w.heap.setIfInBounds b (.map (es'.push ⟨.agg #[.int .u32 p.1, .int .u32 p.2], .bool true, n⟩) (n + 1)) } := by
      simp only [execOp, evalO_ok st.fits hm, evalO_ok st.fits hk, evalO_ok st.fits hx, Instr.mapUpdate, Sem.run_bind, run_underlying hu, Result.andThen_ok, Go.MapKept.run_getObj_map hg, hc, h1', Go.MapKept.run_setObj_map _ hg, Sem.run_pure]
    unfold Oper.wp
    rw [hr]
    have hlt : b < w.heap.size := by
      rcases Nat.lt_or_ge b w.heap.size with h | h
      · exact h
      · rw [Array.getElem?_eq_none h] at hg; cases hg
    refine hK _ _ (st.keep (hb.act (fun S hS hr => ⟨⟨rfl, rfl, rfl⟩, by simp, fun k hk hn => ?_, S, fun k hk => ⟨.inl hk, by simpa using hS k hk⟩, hr.1, es'.push ⟨.agg #[.int .u32 p.1, .int .u32 p.2], .bool true, n⟩, n + 1, ?_, ?_⟩)))
    · have hne : ¬ b = k := fun e => hn (e ▸ hr.1)
      simp [Array.getElem?_setIfInBounds, hne]
    · simp [Array.getElem?_setIfInBounds, hlt]
    · simp [he', hkV])
end
section
variable {P : Program} {T : List (Nat × TI)}
theorem PairT.mk' [hT : TOk P T] {kt : Nat} {f0 f1 : Field} {ti : TI} (hE : EqT P kt) (hu : P.underlying kt = some (.struct #[f0, f1])) (hl : lookT T kt = some ti) (hs : ti.desc = .struct #[f0, f1]) (hf : ti.flds = [(0, 1, false), (1, 1, false)])
    (ht0 : P.underlying f0.type = some (.int .u32)) (ht1 : P.underlying f1.type = some (.int .u32)) (hq : ∀ p q : Int × Int, eqFs T [f0, f1] [(0, 1, false), (1, 1, false)] [.int .u32 p.1, .int .u32 p.2] [.int .u32 q.1, .int .u32 q.2] = some (p.1 == q.1 && p.2 == q.2)) : PairT P kt := by
  have hnm := hE.names
  rw [fields_of hu] at hnm
  have hfl := (tok (P := P) hl).flds _ hs
  rw [hf] at hfl
  obtain ⟨o0, s0, g0, o1, s1, g1, -⟩ := hfl
  have hn0 : ¬ (f0.name = "_") ∧ ¬ (f1.name = "_") := by simpa using hnm
  have hd0 : ∀ w, (underlying f0.type).run P w = .ok (.int .u32) w := run_underlying ht0
  have hd1 : ∀ w, (underlying f1.type).run P w = .ok (.int .u32) w := run_underlying ht1
  have p0 : ∀ (x : Int × Int) (w : World), (part f0.type #[.int .u32 x.1, .int .u32 x.2] f0.offset).run P w = .ok (.int .u32 x.1) w := fun x w => by rw [o0]; exact part_ok (g := false) (s := 1) s0 g0 rfl w
  have p1 : ∀ (x : Int × Int) (w : World), (part f1.type #[.int .u32 x.1, .int .u32 x.2] f1.offset).run P w = .ok (.int .u32 x.2) w := fun x w => by rw [o1]; exact part_ok (g := false) (s := 1) s1 g1 rfl w
  refine ⟨fun p q w => ?_, fun e p w => ?_, by rw [hu]⟩
  · have h2 : eqFs T #[f0, f1].toList ti.flds (#[.int .u32 p.1, .int .u32 p.2] : Array Value).toList (#[.int .u32 q.1, .int .u32 q.2] : Array Value).toList = some (p.1 == q.1 && p.2 == q.2) := by
      rw [hf]
      exact hq p q
    have h3 := eqFs_ok (P := P) (T := T) 9998 w ((tok (P := P) hl).flds _ hs) hnm h2
    have h4 := eqA_of hu hE.held h3
    have h5 : (p.1 == q.1 && p.2 == q.2) = decide (p = q) := by
      rw [Bool.eq_iff_iff, Bool.and_eq_true, beq_iff_eq, beq_iff_eq, decide_eq_true_eq, Prod.ext_iff]
    rw [h5] at h4
    unfold Op.equal hkV
    exact h4
  · unfold hkV
    rw [show (10000 : Nat) = 9999 + 1 from rfl]
    unfold Instr.checkKey
    simp only [Sem.run_bind, run_underlying hu, Result.andThen_ok]
    have c0 : ∀ (z : Int) (w : World), (Instr.checkKey e 9999 f0.type (.int .u32 z)).run P w = .ok () w := fun z w => by
      rw [show (9999 : Nat) = 9998 + 1 from rfl]
      unfold Instr.checkKey
      simp only [Sem.run_bind, hd0, Result.andThen_ok, Sem.run_pure]
    have c1 : ∀ (z : Int) (w : World), (Instr.checkKey e 9999 f1.type (.int .u32 z)).run P w = .ok () w := fun z w => by
      rw [show (9999 : Nat) = 9998 + 1 from rfl]
      unfold Instr.checkKey
      simp only [Sem.run_bind, hd1, Result.andThen_ok, Sem.run_pure]
    simp [hn0.1, hn0.2, Sem.run_bind, p0, p1, c0, c1, Result.andThen_ok, Sem.run_pure]
end
end Go.Proofs.YtanemmcddgkpdaaGreat.Sx
