/- Part X8 of the lemmas and walks of the Go functions that these statements reach; conditions: those that each theorem names. -/
import Derived.Test.YtgjajalneknagaaJX2
import Derived.MapKept
import Derived.Test.YtgjajalneknagaaJX1
import Derived.Test.YtgjajalneknagaaJX7
section
/- Go code walked by what is known of slots and memory: maps with whole numbers as keys; conditions: those that each theorem names. -/
namespace Go.Proofs.Ytgjajalneknagaa.Sx
open Go.RowKit Go.Proofs.Ytgjajalneknagaa.Hm Go.Proofs.YtgjajalneknagaaW.PrintWords Go.Proofs.YtgjajalneknagaaW.PrintLast Go.Proofs.YtgjajalneknagaaW.PrintMore
set_option linter.unusedVariables false
set_option linter.unusedSimpArgs false

/-- A map of the call's own. -/
def mapR (b : Nat) (es : List MapEntry) (n : Nat) : Res where
  P := fun w S => S b ∧ w.heap[b]? = some (.map es.toArray n)
  mono := fun h hs => ⟨hs _ h.1, h.2⟩
  loc := fun h _ hs => ⟨h.1, (hs _ h.1 (by
    have := (Array.getElem?_eq_some_iff.1 h.2).1
    exact this)).trans h.2⟩
section
variable {P : Program} {fn : Func} {K : Ending → List Thing → Prop} {N : Nat} {k k' : List It} {a : Fr} {M M0 R : List Thing} {ops : Array Oper} {rest : List Oper} {T : List (Nat × TI)}
variable {d id : Nat} {op : Op} {ty : TypeId} {pos : String} {af : Array Edge} {ds : List Nat} {fuel : Nat} {l : Array Bool}
theorem SXL.mkMap {t : Nat} (hd : Nat.blt d N = true) (hK : ∀ b, SXL P fn K N k ops rest ((d, .map (some b)) :: a) (.own (some ⟨b, 0, none⟩) (mapR b [] 0) :: M)) : SXL P fn K N k ops (⟨some d, .makeMap t none, ty, pos, af, none⟩ :: rest) a M :=
  SXL.step rfl (fun act w st => by
    have hr : (execOp act.eval ⟨some d, .makeMap t none, ty, pos, af, none⟩).run P w = .ok (.value (.map (some w.heap.size))) (w.alloc (.map #[] 0)) := by
      simp only [execOp, Instr.makeMap, Option.map_none, Sem.run_bind, Sem.run_pure, Result.andThen_ok, run_newObj]
      rfl
    unfold Oper.wp
    rw [hr]
    refine hK w.heap.size _ _ (st.put hd (st.holds.new (below_alloc (Below.refl _ _) _) _ (S := fun k => k = w.heap.size) ⟨rfl, by rw [heap_alloc_new]⟩ (fun k hk => by rw [World.size_alloc]; omega))))
theorem run_checkKey_int {e : Bool} {kt : TypeId} {ik ik' : IntKind} {z : Int} (hkt : P.underlying kt = some (.int ik)) (w : World) : (Instr.checkKey e 10000 kt (.int ik' z)).run P w = .ok () w := by
  rw [show (10000 : Nat) = 9999 + 1 from rfl]
  unfold Instr.checkKey
  simp only [Sem.run_bind, run_underlying hkt, Result.andThen_ok, Sem.run_pure]
theorem run_findKey_int {kt : TypeId} {ik : IntKind} {z : Int} {es : List MapEntry} {r : Option (Nat × Value)} (hkt : P.underlying kt = some (.int ik)) (hf : Instr.findNow (.int ik) (.int ik z) es 0 = some r) (w : World) : (Instr.findKey kt (.int ik z) es).run P w = .ok r w := by
  unfold Instr.findKey
  simp only [Sem.run_bind, run_underlying hkt, Result.andThen_ok, hf, Sem.run_pure]
theorem SXL.insert {t kt et b n : Nat} {m x y : Operand} {ik : IntKind} {z : Int} {v : Value} {es : List MapEntry} (hm : evalO a m = some (.map (some b))) (hk : evalO a x = some (.int ik z)) (hx : evalO a y = some v) (hat : At (some ⟨b, 0, none⟩) M (mapR b es n) R) (hu : P.underlying t = some (.map kt et)) (hkt : P.underlying kt = some (.int ik))
    (hf : Instr.findNow (.int ik) (.int ik z) es 0 = some none) (hK : SXL P fn K N k ops rest a (.own (some ⟨b, 0, none⟩) (mapR b (es ++ [⟨.int ik z, v, n⟩]) (n + 1)) :: R)) : SXL P fn K N k ops (⟨none, .insert t m x y, ty, pos, af, none⟩ :: rest) a M :=
  SXL.step rfl (fun act w st => by
    have hb := st.holds.at_ hat
    obtain ⟨S0, _, hS0⟩ := hb.head
    have hg : w.heap[b]? = some (.map es.toArray n) := hS0.2
    have hr : (execOp act.eval ⟨none, .insert t m x y, ty, pos, af, none⟩).run P w = .ok .skip { w with heap := w.heap.setIfInBounds b (.map (es.toArray.push ⟨.int ik z, v, n⟩) (n + 1)) } := by
      simp only [execOp, evalO_ok st.fits hm, evalO_ok st.fits hk, evalO_ok st.fits hx, Instr.mapUpdate, Sem.run_bind, run_underlying hu, Result.andThen_ok, Go.MapKept.run_getObj_map hg, run_checkKey_int hkt, run_findKey_int hkt hf, Go.MapKept.run_setObj_map _ hg, Sem.run_pure]
    unfold Oper.wp
    rw [hr]
    have hlt : b < w.heap.size := by
      rcases Nat.lt_or_ge b w.heap.size with h | h
      · exact h
      · rw [Array.getElem?_eq_none h] at hg; cases hg
    refine hK _ _ (st.keep (hb.act (fun S hS hr => ⟨⟨rfl, rfl, rfl⟩, by simp, fun k hk hn => ?_, S, fun k hk => ⟨.inl hk, by simpa using hS k hk⟩, hr.1, ?_⟩)))
    · have hne : ¬ b = k := fun e => hn (e ▸ hr.1)
      simp [Array.getElem?_setIfInBounds, hne]
    · simp [Array.getElem?_setIfInBounds, hlt])
theorem SXL.lookup [hT : TOk P T] {t kt et b n : Nat} {m x : Operand} {z : Int} {es : List MapEntry} {te : TI} {r : Option (Nat × Value)} {bb : Bool} {vv : Value} (hm : evalO a m = some (.map (some b))) (hk : evalO a x = some (.int .u32 z)) (hat : At (some ⟨b, 0, none⟩) M (mapR b es n) R) (hu : P.underlying t = some (.map kt et)) (hkt : P.underlying kt = some (.int .u32)) (he : lookT T et = some te)
    (hv : (match r with | some p => p.2 | none => te.zero) = vv) (hb : r.isSome = bb) (hf : Instr.findNow (.int .u32) (.int .u32 z) es 0 = some r) (hd : Nat.blt d N = true) (hK : SXL P fn K N k ops rest ((d, .tuple #[vv, .bool bb]) :: a) M) : SXL P fn K N k ops (⟨some d, .lookup t m x true, ty, pos, af, none⟩ :: rest) a M :=
  SXL.val hd (fun act w st => by
    subst hb
    subst hv
    obtain ⟨S0, _, hS0⟩ := (st.holds.at_ hat).head
    have hg : w.heap[b]? = some (.map es.toArray n) := hS0.2
    have hz := (tok (P := P) he).zero w
    simp only [execOp, evalO_ok st.fits hm, evalO_ok st.fits hk, Instr.lookup, Sem.run_bind, run_underlying hu, Result.andThen_ok, Go.MapKept.run_getObj_map hg, Sem.run_pure, run_checkKey_int hkt, run_findKey_int hkt hf]
    cases r with
    | none => simp [hz]
    | some p => simp) hK
end
end Go.Proofs.Ytgjajalneknagaa.Sx
end
section
/- Chapter 16: words of a move, messages: what may be, their bytes; conditions: those that each theorem names. -/
namespace Go.Proofs.Ytgjajalneknagaa.Hm
open Go.RowKit Go.Proofs.YtgjajalneknagaaW.PrintWords Go.Proofs.YtgjajalneknagaaW.PrintLast Go.Proofs.YtgjajalneknagaaW.PrintMore
set_option linter.unusedVariables false
set_option linter.unusedSimpArgs false

structure Ctl where
  k : Int
  ep : Int
  sq : Int
  pl : Int
  d : List Int
def Ctl0 : Ctl := ⟨0, 0, 0, 0, []⟩
structure Ctl.wf (c : Ctl) : Prop where
  k : u32ok c.k
  ep : u64ok c.ep
  sq : u64ok c.sq
  pl : u32ok c.pl
  d : bytesB c.d = true
def ctC (s : Ctl) (A : Option Addr) (c : Nat) : List Value := [.int .u32 s.k, .int .u64 s.ep, .int .u64 s.sq, .int .u32 s.pl, .slice A s.d.length c]
def wordB (k : Int) : Bool := decide (1 ≤ k) && decide (k ≤ 7)
def okCt (s : Ctl) : Bool := wordB s.k && decide (s.d.length ≤ 1024)
def ctF : List Fk := [.w, .d, .d, .w, .o 1024]
def ctV (s : Ctl) : List Fv := [.i s.k, .i s.ep, .i s.sq, .i s.pl, .b s.d]
def ctOf : List Fv → Ctl
  | [.i a0, .i a1, .i a2, .i a3, .b d] => ⟨a0, a1, a2, a3, d⟩
  | _ => Ctl0
def encCt (s : Ctl) : List Int := encFs ctF (ctV s)
def putCt (s : Ctl) : List Int × Int := if okCt s = true then (encCt s, 0) else ([], 1)
def getCt (xs : List Int) : Ctl × Int := if (getFs ctF xs).2 ≠ 0 then (Ctl0, (getFs ctF xs).2) else if wordB (ctOf (getFs ctF xs).1).k = true then (ctOf (getFs ctF xs).1, 0) else (Ctl0, 11)
theorem okCt_fs {s : Ctl} (hw : s.wf) (h : okCt s = true) : okFs ctF (ctV s) := by
  unfold okCt at h
  simp only [Bool.and_eq_true, decide_eq_true_eq] at h
  exact ⟨hw.k, hw.ep, hw.sq, hw.pl, ⟨h.2, by decide, hw.d⟩, trivial⟩
theorem okFs_ct {vs : List Fv} (h : okFs ctF vs) : vs = ctV (ctOf vs) ∧ (ctOf vs).wf ∧ (ctOf vs).d.length ≤ 1024 := by
  obtain _ | ⟨v0, _ | ⟨v1, _ | ⟨v2, _ | ⟨v3, _ | ⟨v4, _ | ⟨v5, vs⟩⟩⟩⟩⟩⟩ := vs <;> simp only [ctF, okFs, and_false, false_and] at h
  obtain ⟨h0, h1, h2, h3, h4, -⟩ := h
  cases v0 <;> simp only [okF] at h0
  cases v1 <;> simp only [okF] at h1
  cases v2 <;> simp only [okF] at h2
  cases v3 <;> simp only [okF] at h3
  cases v4 <;> simp only [okF] at h4
  exact ⟨rfl, ⟨h0, h1, h2, h3, h4.2.2⟩, h4.1⟩
theorem getCt_ok {b : List Int} {s : Ctl} (hb : bytesB b = true) (h : getCt b = (s, 0)) : putCt s = (b, 0) ∧ s.wf ∧ okCt s = true := by
  unfold getCt at h
  obtain ⟨⟨vs, n⟩, hg⟩ : ∃ r, getFs ctF b = r := ⟨_, rfl⟩
  rw [hg] at h
  dsimp only at h
  by_cases hn : n = 0
  · subst hn
    rw [if_neg (by simp)] at h
    obtain ⟨q, hk⟩ := getFs_ok hb (by decide) hg
    obtain ⟨e1, e2, e3⟩ := okFs_ct hk
    by_cases hkn : wordB (ctOf vs).k = true
    · rw [if_pos hkn] at h
      simp only [Prod.mk.injEq, and_true] at h
      subst h
      have hok : okCt (ctOf vs) = true := by
        unfold okCt
        simp only [Bool.and_eq_true, decide_eq_true_eq]
        exact ⟨hkn, e3⟩
      refine ⟨?_, e2, hok⟩
      unfold putCt
      rw [if_pos hok]
      unfold encCt
      rw [← e1, ← q]
    · rw [if_neg hkn] at h
      simp at h
  · rw [if_pos hn] at h
    simp only [Prod.mk.injEq] at h
    exact absurd h.2 hn
theorem getCt_wf {b : List Int} {s : Ctl} {n : Int} (hb : bytesB b = true) (h : getCt b = (s, n)) : s.wf ∧ s.d.length ≤ 1024 ∧ (n ≠ 0 → s = Ctl0) := by
  by_cases hn : n = 0
  · subst hn
    obtain ⟨-, h1, h2⟩ := getCt_ok hb h
    unfold okCt at h2
    simp only [Bool.and_eq_true, decide_eq_true_eq] at h2
    exact ⟨h1, h2.2, fun h => absurd rfl h⟩
  · have h0 : s = Ctl0 := by
      unfold getCt at h
      split at h
      · simp only [Prod.mk.injEq] at h; exact h.1.symm
      · split at h
        · simp only [Prod.mk.injEq] at h; exact absurd h.2.symm hn
        · simp only [Prod.mk.injEq] at h; exact h.1.symm
    subst h0
    exact ⟨⟨⟨by decide, by decide⟩, ⟨by decide, by decide⟩, ⟨by decide, by decide⟩, ⟨by decide, by decide⟩, rfl⟩, by decide, fun _ => rfl⟩
/-! ### messages -/
structure Msg where
  k : Int
  c : Ca
  r : Re
  t : Ctl
def Msg0 : Msg := ⟨0, Ca0, Re0, Ctl0⟩
structure Msg.wf (m : Msg) : Prop where
  k : u32ok m.k
  c : m.c.wf
  r : m.r.wf
  t : m.t.wf
def msC (m : Msg) (A : Option Addr) (a : Nat) (B : Option Addr) (b : Nat) (C : Option Addr) (c : Nat) (D : Option Addr) (d : Nat) : List Value := [.int .u32 m.k,
  .int .u32 m.c.client, .int .u32 m.c.xid, .int .u32 m.c.op, .int .u32 m.c.ai, .int .u32 m.c.ag, .string m.c.name, .int .u32 m.c.ti, .int .u32 m.c.tg, .string m.c.toName, .int .u64 m.c.off, .int .u64 m.c.verf, .int .u32 m.c.cnt, .int .u32 m.c.mode, .slice A m.c.d.length a,
  .int .u32 m.r.client, .int .u32 m.r.xid, .int .i64 m.r.st, .int .u32 m.r.ai, .int .u32 m.r.ag, .int .u32 m.r.ak, .int .u32 m.r.am, .int .u32 m.r.al, .int .u32 m.r.sz, .int .u64 m.r.ac, .slice B m.r.d.length b, .slice C m.r.e.length c, .bool m.r.eof, .int .u64 m.r.verf, .int .u32 m.r.free,
  .int .u32 m.t.k, .int .u64 m.t.ep, .int .u64 m.t.sq, .int .u32 m.t.pl, .slice D m.t.d.length d]
def innM (m : Msg) : List Int × Int := if m.k = 1 then putCa m.c else if m.k = 2 then putRe m.r else if m.k = 3 then putCt m.t else ([], 1)
def encMs (k : Int) (b : List Int) : List Int := sealM (be32 k ++ opq b)
def putMs (m : Msg) : List Int × Int := if (innM m).2 ≠ 0 then ([], (innM m).2) else (encMs m.k (innM m).1, 0)
end Go.Proofs.Ytgjajalneknagaa.Hm
end
section
/- Chapter 16: messages: what is put is got; conditions: those that each theorem names. -/
namespace Go.Proofs.Ytgjajalneknagaa.Hm
open Go.RowKit Go.Proofs.YtgjajalneknagaaW.PrintWords Go.Proofs.YtgjajalneknagaaW.PrintLast Go.Proofs.YtgjajalneknagaaW.PrintMore
set_option linter.unusedVariables false
set_option linter.unusedSimpArgs false

theorem encLenO (l : List Int) : (opq l).length ≤ l.length + 8 := by unfold opq; simp [be32]; omega
theorem encCa_le {s : Ca} (h : okCa s = true) : (encCa s).length ≤ 4096 := by
  unfold okCa at h
  simp only [Bool.and_eq_true, decide_eq_true_eq] at h
  have h1 := encLenO (bytesOf s.name)
  have h2 := encLenO (bytesOf s.toName)
  have h3 := encLenO s.d
  rw [bytesOf_length] at h1 h2
  unfold encCa caF caV
  simp only [encFs, encF, List.length_append, List.length_nil, show ∀ x, (be32 x).length = 4 from fun _ => rfl, show ∀ x, (be64 x).length = 8 from fun _ => rfl]
  omega
theorem encRe_le {s : Re} (h : okRe s = true) (hp : (putM s.e).2 = 0) : (encRe s).length ≤ 4096 := by
  obtain ⟨-, hq, hl⟩ := putM_0 hp
  have hf := flat_len48 hl
  unfold okRe at h
  simp only [Bool.and_eq_true, decide_eq_true_eq] at h
  have h1 := encLenO s.d
  have h2 := encLenO (s.e.flatMap encE)
  unfold encRe reF reV
  rw [hq]
  simp only [encFs, encF, List.length_append, List.length_nil, show ∀ x, (be32 x).length = 4 from fun _ => rfl, show ∀ x, (be64 x).length = 8 from fun _ => rfl]
  omega
theorem encCt_le {s : Ctl} (h : okCt s = true) : (encCt s).length ≤ 4096 := by
  unfold okCt at h
  simp only [Bool.and_eq_true, decide_eq_true_eq] at h
  have h3 := encLenO s.d
  unfold encCt ctF ctV
  simp only [encFs, encF, List.length_append, List.length_nil, show ∀ x, (be32 x).length = 4 from fun _ => rfl, show ∀ x, (be64 x).length = 8 from fun _ => rfl]
  omega
theorem innM_ok {m : Msg} (hw : m.wf) {r : List Int} {n : Int} (h : innM m = (r, n)) : n = 0 → bytesB r = true ∧ r.length ≤ 4096 := by
  rintro rfl
  unfold innM at h
  split at h
  · unfold putCa at h
    split at h
    · rename_i hk
      simp only [Prod.mk.injEq, and_true] at h
      subst h
      exact ⟨encFs_bytes (okCa_fs hw.c hk), encCa_le hk⟩
    · simp at h
  · split at h
    · unfold putRe at h
      split at h
      · rename_i hk
        split at h
        · rename_i hn
          simp only [Prod.mk.injEq] at h
          exact absurd h.2 hn
        · rename_i hn
          simp only [Prod.mk.injEq, and_true] at h
          subst h
          have hn' := Decidable.not_not.1 hn
          exact ⟨encFs_bytes (okRe_fs hw.r hk hn'), encRe_le hk hn'⟩
      · simp at h
    · split at h
      · unfold putCt at h
        split at h
        · rename_i hk
          simp only [Prod.mk.injEq, and_true] at h
          subst h
          exact ⟨encFs_bytes (okCt_fs hw.t hk), encCt_le hk⟩
        · simp at h
      · simp at h
end Go.Proofs.Ytgjajalneknagaa.Hm
end
