/- Part X8 of the lemmas and walks of the Go functions that these statements reach; conditions: those that each theorem names. -/
import Derived.Test.YtanemmcddgkpdaaGreatJX2
import Derived.MapKept
import Derived.Test.YtanemmcddgkpdaaGreatJX1
import Derived.Test.YtanemmcddgkpdaaGreatJX7
section
/- Go code walked by what is known of slots and memory: maps with whole numbers as keys; conditions: those that each theorem names. -/
namespace Go.Proofs.YtanemmcddgkpdaaGreat.Sx
open Go.RowKit Go.Proofs.YtanemmcddgkpdaaGreat.Hm Go.Proofs.YtanemmcddgkpdaaGreatW.PrintWords Go.Proofs.YtanemmcddgkpdaaGreatW.PrintLast Go.Proofs.YtanemmcddgkpdaaGreatW.PrintMore
set_option linter.unusedVariables false
set_option linter.unusedSimpArgs false
/-- A map of the call's own. -/
def mapR (b : Nat) (es : List MapEntry) (n : Nat) : Res where
  P := fun w S => S b ∧ w.heap[b]? = some (.map es.toArray n)
  mono := fun h hs => ⟨hs _ h.1, h.2⟩
  loc := fun h _ hs => ⟨h.1, (hs _ h.1 (by
    have := (Array.getElem?_eq_some_iff.1 h.2).1
    exact this)).trans h.2⟩
section
variable {P : Program} {fn : Func} {K : Ending → List Thing → Prop} {N : Nat} {k k' : List It} {a : Fr} {M M0 R : List Thing} {ops : Array Oper} {rest : List Oper} {T : List (Nat × TI)}
variable {d id : Nat} {op : Op} {ty : TypeId} {pos : String} {af : Array Edge} {ds : List Nat} {fuel : Nat} {l : Array Bool}
theorem SXL.mkMap {t : Nat} (hd : Nat.blt d N = true) (hK : ∀ b, SXL P fn K N k ops rest ((d, .map (some b)) :: a) (.own (some ⟨b, 0, none⟩) (mapR b [] 0) :: M)) : SXL P fn K N k ops (⟨some d, .makeMap t none, ty, pos, af, none⟩ :: rest) a M :=
  SXL.step rfl (fun act w st => by
    have hr : (execOp act.eval ⟨some d, .makeMap t none, ty, pos, af, none⟩).run P w = .ok (.value (.map (some w.heap.size))) (w.alloc (.map #[] 0)) := by
      simp only [execOp, Instr.makeMap, Option.map_none, Sem.run_bind, Sem.run_pure, Result.andThen_ok, run_newObj]
      rfl
    unfold Oper.wp
    rw [hr]
    refine hK w.heap.size _ _ (st.put hd (st.holds.new (below_alloc (Below.refl _ _) _) _ (S := fun k => k = w.heap.size) ⟨rfl, by rw [heap_alloc_new]⟩ (fun k hk => by rw [World.size_alloc]; omega))))
theorem run_checkKey_int {e : Bool} {kt : TypeId} {ik ik' : IntKind} {z : Int} (hkt : P.underlying kt = some (.int ik)) (w : World) : (Instr.checkKey e 10000 kt (.int ik' z)).run P w = .ok () w := by
  rw [show (10000 : Nat) = 9999 + 1 from rfl]
  unfold Instr.checkKey
  simp only [Sem.run_bind, run_underlying hkt, Result.andThen_ok, Sem.run_pure]
theorem run_findKey_int {kt : TypeId} {ik : IntKind} {z : Int} {es : List MapEntry} {r : Option (Nat × Value)} (hkt : P.underlying kt = some (.int ik)) (hf : Instr.findNow (.int ik) (.int ik z) es 0 = some r) (w : World) : (Instr.findKey kt (.int ik z) es).run P w = .ok r w := by
  unfold Instr.findKey
  simp only [Sem.run_bind, run_underlying hkt, Result.andThen_ok, hf, Sem.run_pure]
theorem SXL.insert {t kt et b n : Nat} {m x y : Operand} {ik : IntKind} {z : Int} {v : Value} {es : List MapEntry} (hm : evalO a m = some (.map (some b))) (hk : evalO a x = some (.int ik z)) (hx : evalO a y = some v) (hat : At (some ⟨b, 0, none⟩) M (mapR b es n) R) (hu : P.underlying t = some (.map kt et)) (hkt : P.underlying kt = some (.int ik))
    (hf : Instr.findNow (.int ik) (.int ik z) es 0 = some none) (hK : SXL P fn K N k ops rest a (.own (some ⟨b, 0, none⟩) (mapR b (es ++ [⟨.int ik z, v, n⟩]) (n + 1)) :: R)) : SXL P fn K N k ops (⟨none, .insert t m x y, ty, pos, af, none⟩ :: rest) a M :=
  SXL.step rfl (fun act w st => by
    have hb := st.holds.at_ hat
    obtain ⟨S0, _, hS0⟩ := hb.head
    have hg : w.heap[b]? = some (.map es.toArray n) := hS0.2
    have hr : (execOp act.eval ⟨none, .insert t m x y, ty, pos, af, none⟩).run P w = .ok .skip { w with heap := w.heap.setIfInBounds b (.map (es.toArray.push ⟨.int ik z, v, n⟩) (n + 1)) } := by
      simp only [execOp, evalO_ok st.fits hm, evalO_ok st.fits hk, evalO_ok st.fits hx, Instr.mapUpdate, Sem.run_bind, run_underlying hu, Result.andThen_ok, Go.MapKept.run_getObj_map hg, run_checkKey_int hkt, run_findKey_int hkt hf, Go.MapKept.run_setObj_map _ hg, Sem.run_pure]
    unfold Oper.wp
    rw [hr]
    have hlt : b < w.heap.size := by
      rcases Nat.lt_or_ge b w.heap.size with h | h
      · exact h
      · rw [Array.getElem?_eq_none h] at hg; cases hg
    refine hK _ _ (st.keep (hb.act (fun S hS hr => ⟨⟨rfl, rfl, rfl⟩, by simp, fun k hk hn => ?_, S, fun k hk => ⟨.inl hk, by simpa using hS k hk⟩, hr.1, ?_⟩)))
    · have hne : ¬ b = k := fun e => hn (e ▸ hr.1)
      simp [Array.getElem?_setIfInBounds, hne]
    · simp [Array.getElem?_setIfInBounds, hlt])
theorem SXL.lookup [hT : TOk P T] {t kt et b n : Nat} {m x : Operand} {z : Int} {es : List MapEntry} {te : TI} {r : Option (Nat × Value)} {bb : Bool} {vv : Value} (hm : evalO a m = some (.map (some b))) (hk : evalO a x = some (.int .u32 z)) (hat : At (some ⟨b, 0, none⟩) M (mapR b es n) R) (hu : P.underlying t = some (.map kt et)) (hkt : P.underlying kt = some (.int .u32)) (he : lookT T et = some te)
    (hv : (match r with | some p => p.2 | none => te.zero) = vv) (hb : r.isSome = bb) (hf : Instr.findNow (.int .u32) (.int .u32 z) es 0 = some r) (hd : Nat.blt d N = true) (hK : SXL P fn K N k ops rest ((d, .tuple #[vv, .bool bb]) :: a) M) : SXL P fn K N k ops (⟨some d, .lookup t m x true, ty, pos, af, none⟩ :: rest) a M :=
  SXL.val hd (fun act w st => by
    subst hb
    subst hv
    obtain ⟨S0, _, hS0⟩ := (st.holds.at_ hat).head
    have hg : w.heap[b]? = some (.map es.toArray n) := hS0.2
    have hz := (tok (P := P) he).zero w
    simp only [execOp, evalO_ok st.fits hm, evalO_ok st.fits hk, Instr.lookup, Sem.run_bind, run_underlying hu, Result.andThen_ok, Go.MapKept.run_getObj_map hg, Sem.run_pure, run_checkKey_int hkt, run_findKey_int hkt hf]
    cases r with
    | none => simp [hz]
    | some p => simp) hK
end
end Go.Proofs.YtanemmcddgkpdaaGreat.Sx
end
section
/- Chapter 16: words of a move, messages: what may be, their bytes; conditions: those that each theorem names. -/
namespace Go.Proofs.YtanemmcddgkpdaaGreat.Hm
open Go.RowKit Go.Proofs.YtanemmcddgkpdaaGreatW.PrintWords Go.Proofs.YtanemmcddgkpdaaGreatW.PrintLast Go.Proofs.YtanemmcddgkpdaaGreatW.PrintMore
set_option linter.unusedVariables false
set_option linter.unusedSimpArgs false
structure Ctl where
  k : Int
  ep : Int
  sq : Int
  pl : Int
  d : List Int
structure Ctl.wf (c : Ctl) : Prop where
  k : u32ok c.k
  ep : u64ok c.ep
  sq : u64ok c.sq
  pl : u32ok c.pl
  d : bytesB c.d = true
/-! ### messages -/
structure Msg where
  k : Int
  c : Ca
  r : Re
  t : Ctl
structure Msg.wf (m : Msg) : Prop where
  k : u32ok m.k
  c : m.c.wf
  r : m.r.wf
  t : m.t.wf
end Go.Proofs.YtanemmcddgkpdaaGreat.Hm
end
section
/- Chapter 16: messages: what is put is got; conditions: those that each theorem names. -/
namespace Go.Proofs.YtanemmcddgkpdaaGreat.Hm
open Go.RowKit Go.Proofs.YtanemmcddgkpdaaGreatW.PrintWords Go.Proofs.YtanemmcddgkpdaaGreatW.PrintLast Go.Proofs.YtanemmcddgkpdaaGreatW.PrintMore
set_option linter.unusedVariables false
set_option linter.unusedSimpArgs false
end Go.Proofs.YtanemmcddgkpdaaGreat.Hm
end
