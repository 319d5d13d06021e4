/- Part X8 of the lemmas and walks of the Go functions that these statements reach; conditions: those that each theorem names. -/
import Derived.Test.YtpbhanpblmoepaaGreatJX2
import Derived.MapKept
import Derived.Test.YtpbhanpblmoepaaGreatJX1
import Derived.Test.YtpbhanpblmoepaaGreatJX7
section
/- Go code walked by what is known of slots and memory: maps with whole numbers as keys; conditions: those that each theorem names. -/
namespace Go.Proofs.YtpbhanpblmoepaaGreat.Sx
open Go.RowKit Go.Proofs.YtpbhanpblmoepaaGreat.Hm Go.Proofs.YtpbhanpblmoepaaGreatW.PrintWords Go.Proofs.YtpbhanpblmoepaaGreatW.PrintLast Go.Proofs.YtpbhanpblmoepaaGreatW.PrintMore
set_option linter.unusedVariables false
set_option linter.unusedSimpArgs false

/-- A map of the call's own. -/
def mapR (b : Nat) (es : List MapEntry) (n : Nat) : Res where
  P := fun w S => S b ∧ w.heap[b]? = some (.map es.toArray n)
  mono := fun h hs => ⟨hs _ h.1, h.2⟩
  loc := fun h _ hs => ⟨h.1, (hs _ h.1 (by
    have := (Array.getElem?_eq_some_iff.1 h.2).1
    exact this)).trans h.2⟩
section
variable {P : Program} {fn : Func} {K : Ending → List Thing → Prop} {N : Nat} {k k' : List It} {a : Fr} {M M0 R : List Thing} {ops : Array Oper} {rest : List Oper} {T : List (Nat × TI)}
variable {d id : Nat} {op : Op} {ty : TypeId} {pos : String} {af : Array Edge} {ds : List Nat} {fuel : Nat} {l : Array Bool}
theorem SXL.mkMap {t : Nat} (hd : Nat.blt d N = true) (hK : ∀ b, SXL P fn K N k ops rest ((d, .map (some b)) :: a) (.own (some ⟨b, 0, none⟩) (mapR b [] 0) :: M)) : SXL P fn K N k ops (⟨some d, .makeMap t none, ty, pos, af, none⟩ :: rest) a M :=
  SXL.step rfl (fun act w st => by
    have hr : (execOp act.eval ⟨some d, .makeMap t none, ty, pos, af, none⟩).run P w = .ok (.value (.map (some w.heap.size))) (w.alloc (.map #[] 0)) := by
      simp only [execOp, Instr.makeMap, Option.map_none, Sem.run_bind, Sem.run_pure, Result.andThen_ok, run_newObj]
      rfl
    unfold Oper.wp
    rw [hr]
    refine hK w.heap.size _ _ (st.put hd (st.holds.new (below_alloc (Below.refl _ _) _) _ (S := fun k => k = w.heap.size) ⟨rfl, by rw [heap_alloc_new]⟩ (fun k hk => by rw [World.size_alloc]; omega))))
theorem run_checkKey_int {e : Bool} {kt : TypeId} {ik ik' : IntKind} {z : Int} (hkt : P.underlying kt = some (.int ik)) (w : World) : (Instr.checkKey e 10000 kt (.int ik' z)).run P w = .ok () w := by
  rw [show (10000 : Nat) = 9999 + 1 from rfl]
  unfold Instr.checkKey
  simp only [Sem.run_bind, run_underlying hkt, Result.andThen_ok, Sem.run_pure]
theorem run_findKey_int {kt : TypeId} {ik : IntKind} {z : Int} {es : List MapEntry} {r : Option (Nat × Value)} (hkt : P.underlying kt = some (.int ik)) (hf : Instr.findNow (.int ik) (.int ik z) es 0 = some r) (w : World) : (Instr.findKey kt (.int ik z) es).run P w = .ok r w := by
  unfold Instr.findKey
  simp only [Sem.run_bind, run_underlying hkt, Result.andThen_ok, hf, Sem.run_pure]
theorem SXL.insert {t kt et b n : Nat} {m x y : Operand} {ik : IntKind} {z : Int} {v : Value} {es : List MapEntry} (hm : evalO a m = some (.map (some b))) (hk : evalO a x = some (.int ik z)) (hx : evalO a y = some v) (hat : At (some ⟨b, 0, none⟩) M (mapR b es n) R) (hu : P.underlying t = some (.map kt et)) (hkt : P.underlying kt = some (.int ik))
    (hf : Instr.findNow (.int ik) (.int ik z) es 0 = some none) (hK : SXL P fn K N k ops rest a (.own (some ⟨b, 0, none⟩) (mapR b (es ++ [⟨.int ik z, v, n⟩]) (n + 1)) :: R)) : SXL P fn K N k ops (⟨none, .insert t m x y, ty, pos, af, none⟩ :: rest) a M :=
  SXL.step rfl (fun act w st => by
    have hb := st.holds.at_ hat
    obtain ⟨S0, _, hS0⟩ := hb.head
    have hg : w.heap[b]? = some (.map es.toArray n) := hS0.2
    have hr : (execOp act.eval ⟨none, .insert t m x y, ty, pos, af, none⟩).run P w = .ok .skip { w with heap := w.heap.setIfInBounds b (.map (es.toArray.push ⟨.int ik z, v, n⟩) (n + 1)) } := by
      simp only [execOp, evalO_ok st.fits hm, evalO_ok st.fits hk, evalO_ok st.fits hx, Instr.mapUpdate, Sem.run_bind, run_underlying hu, Result.andThen_ok, Go.MapKept.run_getObj_map hg, run_checkKey_int hkt, run_findKey_int hkt hf, Go.MapKept.run_setObj_map _ hg, Sem.run_pure]
    unfold Oper.wp
    rw [hr]
    have hlt : b < w.heap.size := by
      rcases Nat.lt_or_ge b w.heap.size with h | h
      · exact h
      · rw [Array.getElem?_eq_none h] at hg; cases hg
    refine hK _ _ (st.keep (hb.act (fun S hS hr => ⟨⟨rfl, rfl, rfl⟩, by simp, fun k hk hn => ?_, S, fun k hk => ⟨.inl hk, by simpa using hS k hk⟩, hr.1, ?_⟩)))
    · have hne : ¬ b = k := fun e => hn (e ▸ hr.1)
      simp [Array.getElem?_setIfInBounds, hne]
    · simp [Array.getElem?_setIfInBounds, hlt])
theorem SXL.lookup [hT : TOk P T] {t kt et b n : Nat} {m x : Operand} {z : Int} {es : List MapEntry} {te : TI} {r : Option (Nat × Value)} {bb : Bool} {vv : Value} (hm : evalO a m = some (.map (some b))) (hk : evalO a x = some (.int .u32 z)) (hat : At (some ⟨b, 0, none⟩) M (mapR b es n) R) (hu : P.underlying t = some (.map kt et)) (hkt : P.underlying kt = some (.int .u32)) (he : lookT T et = some te)
    (hv : (match r with | some p => p.2 | none => te.zero) = vv) (hb : r.isSome = bb) (hf : Instr.findNow (.int .u32) (.int .u32 z) es 0 = some r) (hd : Nat.blt d N = true) (hK : SXL P fn K N k ops rest ((d, .tuple #[vv, .bool bb]) :: a) M) : SXL P fn K N k ops (⟨some d, .lookup t m x true, ty, pos, af, none⟩ :: rest) a M :=
  SXL.val hd (fun act w st => by
    subst hb
    subst hv
    obtain ⟨S0, _, hS0⟩ := (st.holds.at_ hat).head
    have hg : w.heap[b]? = some (.map es.toArray n) := hS0.2
    have hz := (tok (P := P) he).zero w
    simp only [execOp, evalO_ok st.fits hm, evalO_ok st.fits hk, Instr.lookup, Sem.run_bind, run_underlying hu, Result.andThen_ok, Go.MapKept.run_getObj_map hg, Sem.run_pure, run_checkKey_int hkt, run_findKey_int hkt hf]
    cases r with
    | none => simp [hz]
    | some p => simp) hK
end
end Go.Proofs.YtpbhanpblmoepaaGreat.Sx
end
section
/- Chapter 16: words of a move, messages: what may be, their bytes; conditions: those that each theorem names. -/
namespace Go.Proofs.YtpbhanpblmoepaaGreat.Hm
open Go.RowKit Go.Proofs.YtpbhanpblmoepaaGreatW.PrintWords Go.Proofs.YtpbhanpblmoepaaGreatW.PrintLast Go.Proofs.YtpbhanpblmoepaaGreatW.PrintMore
set_option linter.unusedVariables false
set_option linter.unusedSimpArgs false

structure Ctl where
  k : Int
  ep : Int
  sq : Int
  pl : Int
  d : List Int
def Ctl0 : Ctl := ⟨0, 0, 0, 0, []⟩
structure Ctl.wf (c : Ctl) : Prop where
  k : u32ok c.k
  ep : u64ok c.ep
  sq : u64ok c.sq
  pl : u32ok c.pl
  d : bytesB c.d = true
def ctC (s : Ctl) (A : Option Addr) (c : Nat) : List Value := [.int .u32 s.k, .int .u64 s.ep, .int .u64 s.sq, .int .u32 s.pl, .slice A s.d.length c]
def wordB (k : Int) : Bool := decide (1 ≤ k) && decide (k ≤ 7)
def okCt (s : Ctl) : Bool := wordB s.k && decide (s.d.length ≤ 1024)
def ctF : List Fk := [.w, .d, .d, .w, .o 1024]
def ctV (s : Ctl) : List Fv := [.i s.k, .i s.ep, .i s.sq, .i s.pl, .b s.d]
def ctOf : List Fv → Ctl
  | [.i a0, .i a1, .i a2, .i a3, .b d] => ⟨a0, a1, a2, a3, d⟩
  | _ => Ctl0
def encCt (s : Ctl) : List Int := encFs ctF (ctV s)
def putCt (s : Ctl) : List Int × Int := if okCt s = true then (encCt s, 0) else ([], 1)
def getCt (xs : List Int) : Ctl × Int := if (getFs ctF xs).2 ≠ 0 then (Ctl0, (getFs ctF xs).2) else if wordB (ctOf (getFs ctF xs).1).k = true then (ctOf (getFs ctF xs).1, 0) else (Ctl0, 11)
theorem okCt_fs {s : Ctl} (hw : s.wf) (h : okCt s = true) : okFs ctF (ctV s) := by
  unfold okCt at h
  simp only [Bool.and_eq_true, decide_eq_true_eq] at h
  exact ⟨hw.k, hw.ep, hw.sq, hw.pl, ⟨h.2, by decide, hw.d⟩, trivial⟩
theorem getCt_put {s : Ctl} (hw : s.wf) (h : okCt s = true) : getCt (encCt s) = (s, 0) := by
  have h1 := getFs_put (okCt_fs hw h)
  unfold getCt encCt
  rw [h1]
  dsimp only
  rw [if_neg (by simp), if_pos (by unfold okCt at h; simp only [Bool.and_eq_true] at h; exact h.1)]
  rfl
theorem okFs_ct {vs : List Fv} (h : okFs ctF vs) : vs = ctV (ctOf vs) ∧ (ctOf vs).wf ∧ (ctOf vs).d.length ≤ 1024 := by
  obtain _ | ⟨v0, _ | ⟨v1, _ | ⟨v2, _ | ⟨v3, _ | ⟨v4, _ | ⟨v5, vs⟩⟩⟩⟩⟩⟩ := vs <;> simp only [ctF, okFs, and_false, false_and] at h
  obtain ⟨h0, h1, h2, h3, h4, -⟩ := h
  cases v0 <;> simp only [okF] at h0
  cases v1 <;> simp only [okF] at h1
  cases v2 <;> simp only [okF] at h2
  cases v3 <;> simp only [okF] at h3
  cases v4 <;> simp only [okF] at h4
  exact ⟨rfl, ⟨h0, h1, h2, h3, h4.2.2⟩, h4.1⟩
theorem getCt_ok {b : List Int} {s : Ctl} (hb : bytesB b = true) (h : getCt b = (s, 0)) : putCt s = (b, 0) ∧ s.wf ∧ okCt s = true := by
  unfold getCt at h
  obtain ⟨⟨vs, n⟩, hg⟩ : ∃ r, getFs ctF b = r := ⟨_, rfl⟩
  rw [hg] at h
  dsimp only at h
  by_cases hn : n = 0
  · subst hn
    rw [if_neg (by simp)] at h
    obtain ⟨q, hk⟩ := getFs_ok hb (by decide) hg
    obtain ⟨e1, e2, e3⟩ := okFs_ct hk
    by_cases hkn : wordB (ctOf vs).k = true
    · rw [if_pos hkn] at h
      simp only [Prod.mk.injEq, and_true] at h
      subst h
      have hok : okCt (ctOf vs) = true := by
        unfold okCt
        simp only [Bool.and_eq_true, decide_eq_true_eq]
        exact ⟨hkn, e3⟩
      refine ⟨?_, e2, hok⟩
      unfold putCt
      rw [if_pos hok]
      unfold encCt
      rw [← e1, ← q]
    · rw [if_neg hkn] at h
      simp at h
  · rw [if_pos hn] at h
    simp only [Prod.mk.injEq] at h
    exact absurd h.2 hn
theorem getCt_wf {b : List Int} {s : Ctl} {n : Int} (hb : bytesB b = true) (h : getCt b = (s, n)) : s.wf ∧ s.d.length ≤ 1024 ∧ (n ≠ 0 → s = Ctl0) := by
  by_cases hn : n = 0
  · subst hn
    obtain ⟨-, h1, h2⟩ := getCt_ok hb h
    unfold okCt at h2
    simp only [Bool.and_eq_true, decide_eq_true_eq] at h2
    exact ⟨h1, h2.2, fun h => absurd rfl h⟩
  · have h0 : s = Ctl0 := by
      unfold getCt at h
      split at h
      · simp only [Prod.mk.injEq] at h; exact h.1.symm
      · split at h
        · simp only [Prod.mk.injEq] at h; exact absurd h.2.symm hn
        · simp only [Prod.mk.injEq] at h; exact h.1.symm
    subst h0
    exact ⟨⟨⟨by decide, by decide⟩, ⟨by decide, by decide⟩, ⟨by decide, by decide⟩, ⟨by decide, by decide⟩, rfl⟩, by decide, fun _ => rfl⟩
/-! ### messages -/
structure Msg where
  k : Int
  c : Ca
  r : Re
  t : Ctl
def Msg0 : Msg := ⟨0, Ca0, Re0, Ctl0⟩
structure Msg.wf (m : Msg) : Prop where
  k : u32ok m.k
  c : m.c.wf
  r : m.r.wf
  t : m.t.wf
def msC (m : Msg) (A : Option Addr) (a : Nat) (B : Option Addr) (b : Nat) (C : Option Addr) (c : Nat) (D : Option Addr) (d : Nat) : List Value := [.int .u32 m.k,
  .int .u32 m.c.client, .int .u32 m.c.xid, .int .u32 m.c.op, .int .u32 m.c.ai, .int .u32 m.c.ag, .string m.c.name, .int .u32 m.c.ti, .int .u32 m.c.tg, .string m.c.toName, .int .u64 m.c.off, .int .u64 m.c.verf, .int .u32 m.c.cnt, .int .u32 m.c.mode, .slice A m.c.d.length a,
  .int .u32 m.r.client, .int .u32 m.r.xid, .int .i64 m.r.st, .int .u32 m.r.ai, .int .u32 m.r.ag, .int .u32 m.r.ak, .int .u32 m.r.am, .int .u32 m.r.al, .int .u32 m.r.sz, .int .u64 m.r.ac, .slice B m.r.d.length b, .slice C m.r.e.length c, .bool m.r.eof, .int .u64 m.r.verf, .int .u32 m.r.free,
  .int .u32 m.t.k, .int .u64 m.t.ep, .int .u64 m.t.sq, .int .u32 m.t.pl, .slice D m.t.d.length d]
def innM (m : Msg) : List Int × Int := if m.k = 1 then putCa m.c else if m.k = 2 then putRe m.r else if m.k = 3 then putCt m.t else ([], 1)
def encMs (k : Int) (b : List Int) : List Int := sealM (be32 k ++ opq b)
def putMs (m : Msg) : List Int × Int := if (innM m).2 ≠ 0 then ([], (innM m).2) else (encMs m.k (innM m).1, 0)
def opnM (k : Int) (b : List Int) : Msg × Int :=
  if k = 1 then (⟨1, (getCa b).1, Re0, Ctl0⟩, (getCa b).2) else if k = 2 then (⟨2, Ca0, (getRe b).1, Ctl0⟩, (getRe b).2) else if k = 3 then (⟨3, Ca0, Re0, (getCt b).1⟩, (getCt b).2) else (Msg0, 11)
def msF : List Fk := [.w, .o 4096]
def bodyM (xs : List Int) : List Int := xs.take (xs.length - 4)
def kOf : List Fv → Int × List Int
  | [.i k, .b b] => (k, b)
  | _ => (0, [])
def finM (p : Msg × Int) : Msg × Int := if p.2 ≠ 0 then (Msg0, p.2) else p
theorem finM_bad {m : Msg} {n : Int} (h : n ≠ 0) : finM (m, n) = (Msg0, n) := if_pos h
theorem finM_ok {m : Msg} : finM (m, 0) = (m, 0) := if_neg (by simp)
def getMs (xs : List Int) : Msg × Int :=
  if rightB xs = false then (Msg0, 14) else
    if (getFs msF (bodyM xs)).2 ≠ 0 then (Msg0, (getFs msF (bodyM xs)).2) else
      finM (opnM (kOf (getFs msF (bodyM xs)).1).1 (kOf (getFs msF (bodyM xs)).1).2)
theorem opnM_1 {b : List Int} {r : Ca} {n : Int} (h : getCa b = (r, n)) : opnM 1 b = (⟨1, r, Re0, Ctl0⟩, n) := by
  unfold opnM
  rw [if_pos rfl, h]
theorem opnM_2 {b : List Int} {r : Re} {n : Int} (h : getRe b = (r, n)) : opnM 2 b = (⟨2, Ca0, r, Ctl0⟩, n) := by
  unfold opnM
  rw [if_neg (by decide), if_pos rfl, h]
theorem opnM_3 {b : List Int} {r : Ctl} {n : Int} (h : getCt b = (r, n)) : opnM 3 b = (⟨3, Ca0, Re0, r⟩, n) := by
  unfold opnM
  rw [if_neg (by decide), if_neg (by decide), if_pos rfl, h]
theorem opnM_no {k : Int} {b : List Int} (h1 : k ≠ 1) (h2 : k ≠ 2) (h3 : k ≠ 3) : opnM k b = (Msg0, 11) := by
  unfold opnM
  rw [if_neg h1, if_neg h2, if_neg h3]
end Go.Proofs.YtpbhanpblmoepaaGreat.Hm
end
section
/- Chapter 16: messages: what is put is got; conditions: those that each theorem names. -/
namespace Go.Proofs.YtpbhanpblmoepaaGreat.Hm
open Go.RowKit Go.Proofs.YtpbhanpblmoepaaGreatW.PrintWords Go.Proofs.YtpbhanpblmoepaaGreatW.PrintLast Go.Proofs.YtpbhanpblmoepaaGreatW.PrintMore
set_option linter.unusedVariables false
set_option linter.unusedSimpArgs false

theorem encLenO (l : List Int) : (opq l).length ≤ l.length + 8 := by unfold opq; simp [be32]; omega
theorem encCa_le {s : Ca} (h : okCa s = true) : (encCa s).length ≤ 4096 := by
  unfold okCa at h
  simp only [Bool.and_eq_true, decide_eq_true_eq] at h
  have h1 := encLenO (bytesOf s.name)
  have h2 := encLenO (bytesOf s.toName)
  have h3 := encLenO s.d
  rw [bytesOf_length] at h1 h2
  unfold encCa caF caV
  simp only [encFs, encF, List.length_append, List.length_nil, show ∀ x, (be32 x).length = 4 from fun _ => rfl, show ∀ x, (be64 x).length = 8 from fun _ => rfl]
  omega
theorem encRe_le {s : Re} (h : okRe s = true) (hp : (putM s.e).2 = 0) : (encRe s).length ≤ 4096 := by
  obtain ⟨-, hq, hl⟩ := putM_0 hp
  have hf := flat_len48 hl
  unfold okRe at h
  simp only [Bool.and_eq_true, decide_eq_true_eq] at h
  have h1 := encLenO s.d
  have h2 := encLenO (s.e.flatMap encE)
  unfold encRe reF reV
  rw [hq]
  simp only [encFs, encF, List.length_append, List.length_nil, show ∀ x, (be32 x).length = 4 from fun _ => rfl, show ∀ x, (be64 x).length = 8 from fun _ => rfl]
  omega
theorem encCt_le {s : Ctl} (h : okCt s = true) : (encCt s).length ≤ 4096 := by
  unfold okCt at h
  simp only [Bool.and_eq_true, decide_eq_true_eq] at h
  have h3 := encLenO s.d
  unfold encCt ctF ctV
  simp only [encFs, encF, List.length_append, List.length_nil, show ∀ x, (be32 x).length = 4 from fun _ => rfl, show ∀ x, (be64 x).length = 8 from fun _ => rfl]
  omega
theorem innM_ok {m : Msg} (hw : m.wf) {r : List Int} {n : Int} (h : innM m = (r, n)) : n = 0 → bytesB r = true ∧ r.length ≤ 4096 := by
  rintro rfl
  unfold innM at h
  split at h
  · unfold putCa at h
    split at h
    · rename_i hk
      simp only [Prod.mk.injEq, and_true] at h
      subst h
      exact ⟨encFs_bytes (okCa_fs hw.c hk), encCa_le hk⟩
    · simp at h
  · split at h
    · unfold putRe at h
      split at h
      · rename_i hk
        split at h
        · rename_i hn
          simp only [Prod.mk.injEq] at h
          exact absurd h.2 hn
        · rename_i hn
          simp only [Prod.mk.injEq, and_true] at h
          subst h
          have hn' := Decidable.not_not.1 hn
          exact ⟨encFs_bytes (okRe_fs hw.r hk hn'), encRe_le hk hn'⟩
      · simp at h
    · split at h
      · unfold putCt at h
        split at h
        · rename_i hk
          simp only [Prod.mk.injEq, and_true] at h
          subst h
          exact ⟨encFs_bytes (okCt_fs hw.t hk), encCt_le hk⟩
        · simp at h
      · simp at h
/-- A message as far as it is of its kind. -/
def normM (m : Msg) : Msg := if m.k = 1 then ⟨1, m.c, Re0, Ctl0⟩ else if m.k = 2 then ⟨2, Ca0, m.r, Ctl0⟩ else if m.k = 3 then ⟨3, Ca0, Re0, m.t⟩ else Msg0
theorem body_seal (l : List Int) : bodyM (sealM l) = l := by
  unfold bodyM sealM
  rw [List.length_append, show (be32 (crcM 0 l)).length = 4 from rfl, Nat.add_sub_cancel, List.take_left']
  rfl
theorem right_seal (l : List Int) : rightB (sealM l) = true := right_sealed l
theorem putMs_ok {m : Msg} {b : List Int} (h : putMs m = (b, 0)) : ∃ r, innM m = (r, 0) ∧ b = encMs m.k r := by
  unfold putMs at h
  split at h
  · rename_i hn
    simp only [Prod.mk.injEq] at h
    exact absurd h.2 hn
  · rename_i hn
    simp only [Prod.mk.injEq, and_true] at h
    exact ⟨(innM m).1, Prod.ext rfl (Decidable.not_not.1 hn), h.symm⟩
theorem innM_k {m : Msg} {r : List Int} (h : innM m = (r, 0)) : m.k = 1 ∧ putCa m.c = (r, 0) ∨ m.k = 2 ∧ putRe m.r = (r, 0) ∨ m.k = 3 ∧ putCt m.t = (r, 0) := by
  unfold innM at h
  split at h
  · exact .inl ⟨by assumption, h⟩
  · split at h
    · exact .inr (.inl ⟨by assumption, h⟩)
    · split at h
      · exact .inr (.inr ⟨by assumption, h⟩)
      · simp at h
theorem okMs_fs {m : Msg} {r : List Int} (hw : m.wf) (h : innM m = (r, 0)) : okFs msF [.i m.k, .b r] := by
  obtain ⟨h1, h2⟩ := innM_ok hw h rfl
  exact ⟨hw.k, ⟨h2, by decide, h1⟩, trivial⟩
theorem encMs_fs (k : Int) (r : List Int) : be32 k ++ opq r = encFs msF [.i k, .b r] := by simp [msF, encFs, encF]
theorem getMs_put {m : Msg} {b : List Int} (hw : m.wf) (h : putMs m = (b, 0)) : getMs b = (normM m, 0) := by
  obtain ⟨r, hi, rfl⟩ := putMs_ok h
  have hg := getFs_put (okMs_fs hw hi)
  unfold getMs encMs
  rw [if_neg (by rw [right_seal]; decide), body_seal, encMs_fs, hg]
  dsimp only [kOf]
  rw [if_neg (by simp)]
  unfold normM
  rcases innM_k hi with ⟨hk, hp⟩ | ⟨hk, hp⟩ | ⟨hk, hp⟩
  · have ho : okCa m.c = true ∧ r = encCa m.c := by
      unfold putCa at hp
      split at hp
      · simp only [Prod.mk.injEq, and_true] at hp; exact ⟨by assumption, hp.symm⟩
      · simp at hp
    rw [hk, if_pos rfl, opnM_1 (r := m.c) (n := 0) (by rw [ho.2]; exact getCa_put hw.c ho.1), finM_ok]
  · have ho : okRe m.r = true ∧ (putM m.r.e).2 = 0 ∧ r = encRe m.r := by
      unfold putRe at hp
      split at hp
      · split at hp
        · rename_i hn; simp only [Prod.mk.injEq] at hp; exact absurd hp.2 hn
        · rename_i hn; simp only [Prod.mk.injEq, and_true] at hp; exact ⟨by assumption, Decidable.not_not.1 hn, hp.symm⟩
      · simp at hp
    rw [hk, if_neg (by decide), if_pos rfl, opnM_2 (r := m.r) (n := 0) (by rw [ho.2.2]; exact getRe_put hw.r ho.1 ho.2.1), finM_ok]
  · have ho : okCt m.t = true ∧ r = encCt m.t := by
      unfold putCt at hp
      split at hp
      · simp only [Prod.mk.injEq, and_true] at hp; exact ⟨by assumption, hp.symm⟩
      · simp at hp
    rw [hk, if_neg (by decide), if_neg (by decide), if_pos rfl, opnM_3 (r := m.t) (n := 0) (by rw [ho.2]; exact getCt_put hw.t ho.1), finM_ok]
theorem getMs_ok {b : List Int} {m : Msg} (hb : bytesB b = true) (h : getMs b = (m, 0)) : putMs m = (b, 0) ∧ m.wf ∧ normM m = m := by
  unfold getMs at h
  by_cases hR : rightB b = false
  · rw [if_pos hR] at h; simp at h
  · rw [if_neg hR] at h
    have hR' : rightB b = true := by simpa using hR
    have hse : sealM (bodyM b) = b := by
      unfold rightB at hR'
      simp only [Bool.and_eq_true, decide_eq_true_eq] at hR'
      exact hR'.2
    have hbb : bytesB (bodyM b) = true := bytesB_take _ _ hb
    obtain ⟨⟨vs, n⟩, hg⟩ : ∃ r, getFs msF (bodyM b) = r := ⟨_, rfl⟩
    rw [hg] at h
    dsimp only at h
    by_cases hn : n = 0
    · subst hn
      rw [if_neg (by simp)] at h
      obtain ⟨q, hk⟩ := getFs_ok hbb (by decide) hg
      obtain _ | ⟨v0, _ | ⟨v1, _ | ⟨v2, vs⟩⟩⟩ := vs <;> simp only [msF, okFs, and_false, false_and] at hk
      obtain ⟨k0, k1, -⟩ := hk
      cases v0 <;> simp only [okF] at k0
      cases v1 <;> simp only [okF] at k1
      rename_i k r
      dsimp only [kOf] at h
      have hrb := k1.2.2
      have hfin : ∀ m' : Msg, m'.k = k → innM m' = (r, 0) → putMs m' = (b, 0) := by
        intro m' e1 e2
        unfold putMs
        rw [e2, if_neg (by simp)]
        unfold encMs
        rw [e1, encMs_fs, ← q, hse]
      by_cases k1' : k = 1
      · subst k1'
        obtain ⟨⟨c, n⟩, hc⟩ : ∃ z, getCa r = z := ⟨_, rfl⟩
        rw [opnM_1 hc] at h
        by_cases hn : n = 0
        · subst hn
          rw [finM_ok] at h
          simp only [Prod.mk.injEq, and_true] at h
          subst h
          obtain ⟨hp, hw, -⟩ := getCa_ok hrb hc
          refine ⟨hfin _ rfl (by unfold innM; rw [if_pos rfl]; exact hp), ⟨k0, hw, ?_, ?_⟩, rfl⟩
          · exact (getRe_wf (b := []) rfl (show getRe [] = (Re0, 10) from by kernel_rfl)).1
          · exact (getCt_wf (b := []) rfl (show getCt [] = (Ctl0, 10) from by kernel_rfl)).1
        · rw [finM_bad hn] at h
          simp only [Prod.mk.injEq] at h
          exact absurd h.2 hn
      · by_cases k2' : k = 2
        · subst k2'
          obtain ⟨⟨c, n⟩, hc⟩ : ∃ z, getRe r = z := ⟨_, rfl⟩
          rw [opnM_2 hc] at h
          by_cases hn : n = 0
          · subst hn
            rw [finM_ok] at h
            simp only [Prod.mk.injEq, and_true] at h
            subst h
            obtain ⟨hp, hw, -⟩ := getRe_ok hrb hc
            refine ⟨hfin ⟨2, Ca0, c, Ctl0⟩ rfl ((rfl : innM ⟨2, Ca0, c, Ctl0⟩ = putRe c).trans hp), ⟨k0, ?_, hw, ?_⟩, rfl⟩
            · exact (getCa_wf (b := []) rfl (show getCa [] = (Ca0, 10) from by kernel_rfl)).1
            · exact (getCt_wf (b := []) rfl (show getCt [] = (Ctl0, 10) from by kernel_rfl)).1
          · rw [finM_bad hn] at h
            simp only [Prod.mk.injEq] at h
            exact absurd h.2 hn
        · by_cases k3' : k = 3
          · subst k3'
            obtain ⟨⟨c, n⟩, hc⟩ : ∃ z, getCt r = z := ⟨_, rfl⟩
            rw [opnM_3 hc] at h
            by_cases hn : n = 0
            · subst hn
              rw [finM_ok] at h
              simp only [Prod.mk.injEq, and_true] at h
              subst h
              obtain ⟨hp, hw, -⟩ := getCt_ok hrb hc
              refine ⟨hfin ⟨3, Ca0, Re0, c⟩ rfl ((rfl : innM ⟨3, Ca0, Re0, c⟩ = putCt c).trans hp), ⟨k0, ?_, ?_, hw⟩, rfl⟩
              · exact (getCa_wf (b := []) rfl (show getCa [] = (Ca0, 10) from by kernel_rfl)).1
              · exact (getRe_wf (b := []) rfl (show getRe [] = (Re0, 10) from by kernel_rfl)).1
            · rw [finM_bad hn] at h
              simp only [Prod.mk.injEq] at h
              exact absurd h.2 hn
          · rw [opnM_no k1' k2' k3', finM_bad (by decide)] at h
            simp at h
    · rw [if_pos hn] at h
      simp only [Prod.mk.injEq] at h
      exact absurd h.2 hn
end Go.Proofs.YtpbhanpblmoepaaGreat.Hm
end
