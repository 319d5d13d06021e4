/- Part N4 of the lemmas and walks of the Go functions that these statements reach; conditions: those that each theorem names. -/
import Derived.Test.YtanemmcddgkpdaaGreatJN1
import Derived.Laws.CopyRow
import Derived.Laws.IdiomCopy
import Derived.Test.YtanemmcddgkpdaaGreatJZ1
import Derived.Test.YtanemmcddgkpdaaGreatJV4
import Derived.Defers
import Derived.Recover
section
/- Go code walked by what is known of slots and memory: copy into a row of the call's own; what follows from two things that stay; a whole element stored; conditions: those that each theorem names. -/
namespace Go.Proofs.YtanemmcddgkpdaaGreat.Sx
open Go.RowKit Go.Proofs.YtanemmcddgkpdaaGreat.Hm Go.Proofs.YtanemmcddgkpdaaGreatW.PrintWords Go.Proofs.YtanemmcddgkpdaaGreatW.PrintLast Go.Proofs.YtanemmcddgkpdaaGreatW.PrintMore
set_option linter.unusedVariables false
set_option linter.unusedSimpArgs false
def u8s (xs : List Int) : List Value := xs.map (fun x => .int .u8 x)
theorem u8s_length (xs : List Int) : (u8s xs).length = xs.length := by simp [u8s]
section
variable {P : Program} {fn : Func} {K : Ending → List Thing → Prop} {N : Nat} {k : List It} {a : Fr} {M M0 R : List Thing} {ops : Array Oper} {rest : List Oper} {T : List (Nat × TI)}
variable {d : Nat} {op : Op} {ty : TypeId} {pos : String} {af : Array Edge}
theorem SXL.copy {t t' e g off dl dc m c : Nat} {x y : Operand} {B : Option Addr} {cs : List Value} {ys : List Int} {ty' : TypeId} (hx : evalO a x = some (.slice (some ⟨g, off, none⟩) dl dc)) (hy : evalO a y = some (.slice B m c)) (hat : At (some ⟨g, 0, none⟩) M (cellsR g cs ty') R) (hr : Ro (Kd.int .u8) B M ys) (hm : m = ys.length)
    (hu : P.underlying t = some (.slice e)) (hs : (P.info? e).map (·.size) = some 1) (hfit : off + Min.min m dl ≤ cs.length) (hd : Nat.blt d N = true)
    (hK : SXL P fn K N k ops rest ((d, .int .i64 ((Min.min m dl : Nat) : Int)) :: a) (.own (some ⟨g, 0, none⟩) (cellsR g (cs.take off ++ u8s (ys.take (Min.min m dl)) ++ cs.drop (off + Min.min m dl)) ty') :: R)) :
    SXL P fn K N k ops (⟨some d, .call ⟨.builtin .copy, #[x, y], #[t, t']⟩, ty, pos, af, none⟩ :: rest) a M :=
  SXL.step rfl (fun act w st => by
    have hb := st.holds.at_ hat
    have hR : ReadsOf (fun x : Int => Value.int .u8 x) 0 w B ys.length ys := Kd.reads_of_C (st.holds.ro hr)
    have hc := hb.cells
    have fin : ∀ w1, (Builtin.copy_ #[t, t'] ty #[.slice (some ⟨g, off, none⟩) dl dc, .slice B m c]).run P w = .ok (goInt ((Min.min m dl : Nat) : Int)) w1 → Holds w1 (.own (some ⟨g, 0, none⟩) (cellsR g (cs.take off ++ u8s (ys.take (Min.min m dl)) ++ cs.drop (off + Min.min m dl)) ty') :: R) →
        (⟨some d, .call ⟨.builtin .copy, #[x, y], #[t, t']⟩, ty, pos, af, none⟩ : Oper).wp P act w (wpList P ops (Post P fn K k) rest) (Post P fn K k) := by
      intro w1 hrun hw1
      unfold Oper.wp execOp
      simp only [resolve, invoke, builtin, Sem.run_bind, Sem.run_pure, Result.andThen_ok, List.map_toArray, List.map_cons, List.map_nil, evalO_ok st.fits hx, evalO_ok st.fits hy, hrun]
      exact hK _ _ (st.put hd hw1)
    have hlen : (u8s (ys.take (Min.min m dl))).length = Min.min m dl := by rw [u8s_length, List.length_take]; omega
    rcases Nat.eq_zero_or_pos (Min.min m dl) with h0 | hp
    · refine fin w ?_ ?_
      · rw [h0]
        exact run_copy_none w t t' ty e _ B dl dc m c hu hs h0
      · rw [h0, List.take_zero, Nat.add_zero]
        show Holds w (.own (some ⟨g, 0, none⟩) (cellsR g (cs.take off ++ [] ++ cs.drop off) ty') :: R)
        rw [List.append_nil, List.take_append_drop]
        exact hb
    · obtain ⟨ad, rfl, hcell⟩ := hR.2.2 (by omega)
      have hrun := run_copy_row (P := P) w t t' ty e g off dl dc ad m c cs.toArray ty' (u8s (ys.take (Min.min m dl))) hu hs hc hlen ?_ (by rw [hlen]; simpa using hfit) (by intro v hv; simp only [u8s, List.mem_map] at hv; obtain ⟨q, _, rfl⟩ := hv; rfl)
      · rw [hlen] at hrun
        exact fin _ hrun hb.row
      · intro j v hv
        have hj : j < Min.min m dl := by
          rcases Nat.lt_or_ge j (Min.min m dl) with h | h
          · exact h
          · rw [List.getElem?_eq_none (by rw [hlen]; exact h)] at hv
            cases hv
        rw [hcell j (by omega), ← hv]
        simp [u8s, List.getElem?_map, List.getElem?_take, hj, List.getD_eq_getElem?_getD, List.getElem?_eq_getElem (show j < ys.length by omega)])
theorem SXL.derive2 {l : List Oper} (r1 r2 r' : Res) [h1 : Has r1 M] [h2 : Has r2 M] (himp : ∀ w S, r1.P w S → r2.P w S → r'.P w S) (h : SXL P fn K N k ops l a (.per r' :: M)) : SXL P fn K N k ops l a M := fun act w s => by
  obtain ⟨I, hI, hL⟩ := s.holds
  exact h act w (s.keep ⟨I, hI, himp w I (h1.h _ _ _ hL) (h2.h _ _ _ hL), hL⟩)
end
end Go.Proofs.YtanemmcddgkpdaaGreat.Sx
end
section
/- Go code walked by what is known of slots and memory: a fact that stays, got out; the lesser, and the greater, of two numbers where operations may come in more than one order; conditions: those that each theorem names. -/
namespace Go.Proofs.YtanemmcddgkpdaaGreat.Sx
open Go.RowKit Go.Proofs.YtanemmcddgkpdaaGreat.Hm Go.Proofs.YtanemmcddgkpdaaGreatW.PrintWords Go.Proofs.YtanemmcddgkpdaaGreatW.PrintLast Go.Proofs.YtanemmcddgkpdaaGreatW.PrintMore
set_option linter.unusedVariables false
set_option linter.unusedSimpArgs false
section
variable {P : Program} {fn : Func} {K : Ending → List Thing → Prop} {N : Nat} {k k' : List It} {a : Fr} {M M0 R : List Thing} {ops : Array Oper} {rest : List Oper} {T : List (Nat × TI)}
variable {d id : Nat} {op : Op} {ty : TypeId} {pos : String} {af : Array Edge} {ds : List Nat} {fuel : Nat} {l : Array Bool}
theorem SXL.fact {l : List Oper} (p : Prop) [hr : Has (pureR p) M] (h : p → SXL P fn K N k ops l a M) : SXL P fn K N k ops l a M := fun act w s => by
  obtain ⟨I, hI, hL⟩ := s.holds
  exact h (hr.h _ _ _ hL) act w s
theorem SXA.min (i : Nat) {x y : Operand} {ts : Array TypeId} {ik : IntKind} {u v : Int} {g : Option (Nat × Bool)} (hK : SXA P fn K N k ops M0 ds fuel (l.setIfInBounds i true) ((d, .int ik (if v < u then v else u)) :: a) M) (hi : ops[i]? = some ⟨some d, .call ⟨.builtin .min, #[x, y], ts⟩, ty, pos, af, g⟩ := by exact rfl)
    (hc : takeB .any ops ds l (l.setIfInBounds i true) i = true := by decide +kernel) (hg : guardB ops a g = some true := by exact rfl) (hx : evalO a x = some (.int ik u) := by exact rfl) (hy : evalO a y = some (.int ik v) := by exact rfl) (hd : Nat.blt d N = true := by exact rfl) (hM : Sub M M0 := by infer_instance) : SXA P fn K N k ops M0 ds (fuel + 1) l a M :=
  SXA.val i hi hc hg (fun act w st w' hw' => by
    simp [execOp, resolve, invoke, builtin, evalO_ok st.fits hx, evalO_ok st.fits hy, Builtin.min_, Builtin.min2, Sem.run_bind, Sem.run_pure]) hd hM hK
theorem SXA.max (i : Nat) {x y : Operand} {ts : Array TypeId} {ik : IntKind} {u v : Int} {g : Option (Nat × Bool)} (hK : SXA P fn K N k ops M0 ds fuel (l.setIfInBounds i true) ((d, .int ik (if u < v then v else u)) :: a) M) (hi : ops[i]? = some ⟨some d, .call ⟨.builtin .max, #[x, y], ts⟩, ty, pos, af, g⟩ := by exact rfl)
    (hc : takeB .any ops ds l (l.setIfInBounds i true) i = true := by decide +kernel) (hg : guardB ops a g = some true := by exact rfl) (hx : evalO a x = some (.int ik u) := by exact rfl) (hy : evalO a y = some (.int ik v) := by exact rfl) (hd : Nat.blt d N = true := by exact rfl) (hM : Sub M M0 := by infer_instance) : SXA P fn K N k ops M0 ds (fuel + 1) l a M :=
  SXA.val i hi hc hg (fun act w st w' hw' => by
    simp [execOp, resolve, invoke, builtin, evalO_ok st.fits hx, evalO_ok st.fits hy, Builtin.max_, Builtin.max2, Sem.run_bind, Sem.run_pure]) hd hM hK
end
end Go.Proofs.YtanemmcddgkpdaaGreat.Sx
end
section
/- Go code walked by what is known of slots and memory: a function that defers a closure which recovers; conditions: those that each theorem names. -/
namespace Go.Proofs.YtanemmcddgkpdaaGreat.Sx
open Go.RowKit Go.Proofs.YtanemmcddgkpdaaGreat.Hm Go.Proofs.YtanemmcddgkpdaaGreatW.PrintWords Go.Proofs.YtanemmcddgkpdaaGreatW.PrintLast Go.Proofs.YtanemmcddgkpdaaGreatW.PrintMore
set_option linter.unusedVariables false
set_option linter.unusedSimpArgs false
section
variable {P : Program} {fn : Func} {K : Ending → List Thing → Prop} {N : Nat} {k : List It} {a : Fr} {M M0 R : List Thing} {ops : Array Oper} {rest : List Oper} {T : List (Nat × TI)}
variable {d id : Nat} {op : Op} {ty : TypeId} {pos : String} {af : Array Edge} {ds : List Nat} {fuel : Nat} {l : Array Bool} {D : List Deferred} {Q : Exit → Act → World → Prop} {J : Act → World → Prop}
def Seqs : List Code → Code → Code
  | [], y => y
  | x :: xs, y => .seq x (Seqs xs y)
theorem Post_off {J : Act → World → Prop} : ∀ (cs : List Code) {e : Exit} {act : Act} {w : World}, e ≠ .normal → Post P fn K (cs.map It.code ++ [.again J]) e act w → bodyPost P fn (RK K) e act w
  | [], e, act, w, he, h => by cases e <;> first | exact absurd rfl he | exact h
  | c :: cs, e, act, w, he, h => by cases e <;> first | exact absurd rfl he | exact Post_off cs he h
theorem bodyPost_D {R : Ending → World → Prop} {e : Exit} {act : Act} {w : World} (he : e ≠ .normal) (h : bodyPost P fn R e act w) : bodyPostD P fn R e act w := by
  cases e with
  | normal => exact absurd rfl he
  | ret =>
    obtain ⟨hd, v, hr, hR⟩ := h
    show Leaves P fn act.tmps R act.defers .returning w
    rw [hd]
    exact ⟨v, hr, hR⟩
  | panic ch =>
    obtain ⟨hd, hR⟩ := h
    show Leaves P fn act.tmps R act.defers (.panicking ch) w
    rw [hd]
    exact hR
  | exit id => exact h.elim
  | goto l => exact h.elim
  | outgrown => exact h
theorem seqs_wp {y : Code} (hJ : ∀ act w, J act w → y.wp P (bodyPostD P fn (RK K)) act w) : ∀ (cs : List Code) (act : Act) (w : World), Post P fn K (cs.map It.code ++ [.again J]) .normal act w → (Seqs cs y).wp P (bodyPostD P fn (RK K)) act w
  | [], act, w, h => hJ act w h
  | c :: cs, act, w, h => wp_seq (wp_mono h (fun e act' w' h' => by
      cases e with
      | normal => exact seqs_wp hJ cs act' w' h'
      | ret => exact bodyPost_D (by simp) (Post_off cs (by simp) h')
      | panic ch => exact bodyPost_D (by simp) (Post_off cs (by simp) h')
      | exit id => exact bodyPost_D (by simp) (Post_off cs (by simp) h')
      | goto l => exact bodyPost_D (by simp) (Post_off cs (by simp) h')
      | outgrown => exact bodyPost_D (by simp) (Post_off cs (by simp) h')))
theorem st_enter {f : FuncId} {args : List Value} {w : World} (hn : fn.ntmps = N) (hl : args.length ≤ N) (hM : Holds w M) : St N (frOf 0 args) M { tmps := args.toArray ++ Array.replicate (fn.ntmps - args.toArray.size) undef, defers := [] } w := by
  refine ⟨by simp [hn]; omega, rfl, fun t v hv => ?_, hM⟩
  obtain ⟨-, h2⟩ := frOf_look args 0 t v hv
  have hlt := (List.getElem?_eq_some_iff.1 h2).1
  simp only [Nat.sub_zero] at h2 hlt
  rw [List.getElem?_eq_getElem hlt] at h2
  simp [Array.getD_eq_getD_getElem?, Array.getElem?_append, hlt, Option.some.inj h2]
/-- A function that defers, entered. -/
theorem Fn.enterD {f : FuncId} {y : Code} {args : List Value} (J : Act → World → Prop) (cs : List Code) {c : Code} (hc : ∀ args w, (callFunc f args).run P w = .ok (.enter f args) w) (hf : P.funcs[f]? = some fn) (hb : fn.body = some c) (hcs : c = Seqs cs y) (hn : fn.ntmps = N) (hl : Nat.ble args.length N = true)
    (h : SX P fn K N (cs.map It.code ++ [.again J]) (frOf 0 args) M) (hJ : ∀ act w, J act w → y.wp P (bodyPostD P fn (RK K)) act w) : Fn P f args M K := by
  refine ⟨fun w => hc _ w, fun w hM => calls_of_wp_defers hf hb ?_⟩
  subst hcs
  exact seqs_wp hJ cs _ w (h _ w (st_enter (f := f) hn (Nat.le_of_ble_eq_true hl) hM))
def DSt (D : List Deferred) (N : Nat) (a : Fr) (M : List Thing) (act : Act) (w : World) : Prop := act.tmps.size = N ∧ act.defers = D ∧ Fits a act.tmps ∧ Holds w M
theorem DSt.put {act : Act} {w w' : World} {M' : List Thing} {d : Nat} {v : Value} (h : DSt D N a M act w) (hd : Nat.blt d N = true) (hM : Holds w' M') : DSt D N ((d, v) :: a) M' (act.put (some d) v) w' := by
  have hlt : d < act.tmps.size := by rw [h.1]; exact Nat.le_of_ble_eq_true hd
  exact ⟨by simp [Act.put, h.1], h.2.1, h.2.2.1.put hlt, hM⟩
theorem DSt.st {act : Act} {w : World} (h1 : act.tmps.size = N) (h2 : Fits a act.tmps) (h3 : Holds w M) : St N a M ⟨act.tmps, []⟩ w := ⟨h1, rfl, h2, h3⟩
theorem DSt.keep {act : Act} {w w' : World} {M' : List Thing} (h : DSt D N a M act w) (hM : Holds w' M') : DSt D N a M' act w' := ⟨h.1, h.2.1, h.2.2.1, hM⟩
/-- The defer itself: the last operation that is walked by what is known. -/
theorem SXL.deferLast {x : Operand} {f : FuncId} {cap : Array Value} {C : List Deferred → Fr → List Thing → Prop} {a' : Fr} {M' : List Thing} (hx : evalO a x = some (.func (.func f) #[] cap)) (hC : C [⟨.fn (.func f) cap, #[]⟩] a' M') (ha : SubF a' a) (hM : Sub M M') :
    SXL P fn K N [.again (fun act w => ∃ D a' M', C D a' M' ∧ DSt D N a' M' act w)] ops [⟨none, .defer ⟨.value x, #[], #[]⟩, ty, pos, af, none⟩] a M :=
  SXL.step rfl fun act w s => by
    have hr : (execOp act.eval ⟨none, .defer ⟨.value x, #[], #[]⟩, ty, pos, af, none⟩).run P w = .ok (.defer ⟨.fn (.func f) cap, #[]⟩) w := by
      simp [execOp, resolve, Sem.run_bind, evalO_ok s.fits hx, Deferred.ofValue, Sem.run_pure, Result.andThen_ok]
    unfold Oper.wp
    rw [hr, Oper.upon_defer]
    refine wpList_nil ?_
    refine ⟨_, a', M', hC, s.1, ?_, s.fits.sub ha, s.holds.sub hM⟩
    show _ :: act.defers = _
    rw [s.2.1]
def DXL (P : Program) (Q : Exit → Act → World → Prop) (D : List Deferred) (N : Nat) (ops : Array Oper) (l : List Oper) (a : Fr) (M : List Thing) : Prop := ∀ act w, DSt D N a M act w → wpList P ops Q l act w
theorem DXL.nil (h : ∀ act w, DSt D N a M act w → Q .normal act w) : DXL P Q D N ops [] a M := fun act w s => wpList_nil (h act w s)
theorem DXL.region {l : List Oper} (h : DXL P Q D N l.toArray l a M) {act : Act} {w : World} (s : DSt D N a M act w) : (Code.region id l.toArray false).wp P Q act w := wp_region_lit (h act w s)
theorem DXL.step {o : Oper} (hg : o.guard = none) (h : ∀ act w, DSt D N a M act w → o.wp P act w (wpList P ops Q rest) Q) : DXL P Q D N ops (o :: rest) a M := by
  intro act w s
  unfold wpList
  rw [if_pos (by simp [Region.wanted, hg])]
  exact .inl (h act w s)
theorem DXL.pure [hT : TOk P T] {v : Value} (hK : DXL P Q D N ops rest ((d, v) :: a) M) (h : pureOp T a op = some v := by exact rfl) (hd : Nat.blt d N = true := by exact rfl) :
    DXL P Q D N ops (⟨some d, op, ty, pos, af, none⟩ :: rest) a M :=
  DXL.step rfl fun act w s => by
    unfold Oper.wp
    rw [pureOp_ok (o := ⟨some d, op, ty, pos, af, none⟩) s.2.2.1 h w]
    exact hK _ _ (s.put hd s.2.2.2)
def dcallK (P : Program) (Q : Exit → Act → World → Prop) (D : List Deferred) (N : Nat) (ops : Array Oper) (rest : List Oper) (d : Nat) (a : Fr) : Ending → List Thing → Prop
  | .returned v, M => DXL P Q D N ops rest ((d, v) :: a) M
  | .panicked ch, M => ∀ act w, DSt D N a M act w → Q (.panic ch) act w
  | .outgrown, _ => False
theorem DXL.call {fo : Operand} {args : Array Operand} {ts : Array TypeId} {f : FuncId} {vs : List Value} (hf : evalO a fo = some (.func (.func f) #[] #[])) (ha : evalL a args.toList some = some vs) (hd : Nat.blt d N = true)
    (h : Fn P f vs M (dcallK P Q D N ops rest d a)) : DXL P Q D N ops (⟨some d, .call ⟨.value fo, args, ts⟩, ty, pos, af, none⟩ :: rest) a M :=
  DXL.step rfl fun act w s => by
    have hr : (execOp act.eval ⟨some d, .call ⟨.value fo, args, ts⟩, ty, pos, af, none⟩).run P w = .ok (.enter f vs.toArray) w := by
      have e1 : (#[] : Array Value) ++ vs.toArray ++ #[] = vs.toArray := by simp
      simp only [execOp, resolve, Sem.run_bind, evalO_ok s.2.2.1 hf, Deferred.ofValue, evalL_map s.2.2.1 ha, Sem.run_pure, Result.andThen_ok, invoke, e1]
      exact h.call w
    unfold Oper.wp
    rw [hr]
    show Calls P f vs.toArray w _
    refine (h.runs w s.2.2.2).mono ?_
    rintro e w' ⟨M', hK, hM⟩
    cases e with
    | returned v => exact hK _ _ (s.put hd hM)
    | panicked ch => exact hK _ _ (s.keep hM)
    | outgrown => exact hK.elim
theorem DXL.store [hT : TOk P T] {t b off : Nat} {x y : Operand} {cs cs' : List Value} {ty' : TypeId} {v : Value} (hK : DXL P Q D N ops rest a (.own (some ⟨b, 0, none⟩) (cellsR b cs' ty') :: R)) (hx : evalO a x = some (.pointer (some ⟨b, off, none⟩)) := by exact rfl) (hy : evalO a y = some v := by exact rfl) (hat : At (some ⟨b, 0, none⟩) M (cellsR b cs ty') R := by infer_instance)
    (h : storeC T t cs off v = some cs' := by exact rfl) : DXL P Q D N ops (⟨none, .store t x y, ty, pos, af, none⟩ :: rest) a M :=
  DXL.step rfl (fun act w s => by
    have hb := s.2.2.2.at_ hat
    have hr : (execOp act.eval ⟨none, .store t x y, ty, pos, af, none⟩).run P w = .ok .skip (w.setRow b cs'.toArray) := by
      simp [execOp, evalO_ok s.2.2.1 hx, evalO_ok s.2.2.1 hy, Instr.storeAt, Instr.sureAddr, storeC_ok (P := P) (T := T) hb.cells h]
    unfold Oper.wp
    rw [hr]
    exact hK _ _ (s.keep hb.row))
/-! ### operations that may come in more than one order, where none panics -/
def NQ (J : Act → World → Prop) (e : Exit) (act : Act) (w : World) : Prop := e = .normal ∧ J act w
theorem NQ_put {dst : Option Tmp} {v : Value} (c : List PanicEntry) (act : Act) (w : World) (h : NQ J (.panic c) (act.put dst v) w) : NQ J (.panic c) act w := by cases h.1
def DXA (P : Program) (J : Act → World → Prop) (D : List Deferred) (N : Nat) (ops : Array Oper) (M0 : List Thing) (ds : List Nat) (fuel : Nat) (l : Array Bool) (a : Fr) (M : List Thing) : Prop :=
  ∀ act w, DSt D N a M act w → wpAnyLast P .any ops (NQ J) (fun w => Holds w M0) ds fuel l act w
theorem DXA.begin [hm : Mixed P] {lo : List Oper} (M0 : List Thing) (ds : List Nat) (h : DXA P J D N lo.toArray M0 ds lo.length (Array.replicate lo.length false) a M) {act : Act} {w : World} (s : DSt D N a M act w) : (Code.region id lo.toArray true).wp P (NQ J) act w :=
  wp_region_last (ds := ds) hm.ok (by simpa using h act _ ⟨s.1, s.2.1, s.2.2.1, s.2.2.2.drew⟩)
theorem DXA.done (h : ∀ act w, DSt D N a M act w → J act w) (hr : (Region.ready .any ops l == []) = true := by decide +kernel) : DXA P J D N ops M0 ds fuel l a M := fun act w s => done_ hr ⟨rfl, h act w s⟩
theorem DXA.pure [hT : TOk P T] (i : Nat) {v : Value} (hK : DXA P J D N ops M0 ds fuel (l.setIfInBounds i true) ((d, v) :: a) M) (hi : ops[i]? = some ⟨some d, op, ty, pos, af, none⟩ := by exact rfl) (hc : anyB .any ops l (l.setIfInBounds i true) i = true := by decide +kernel) (h : pureOp T a op = some v := by exact rfl) (hd : Nat.blt d N = true := by exact rfl) :
    DXA P J D N ops M0 ds (fuel + 1) l a M :=
  fun act w s => pure_ _ hi rfl hc NQ_put (.inl ⟨by simp [Region.wanted], fun w => pureOp_ok (o := ⟨some d, op, ty, pos, af, none⟩) s.2.2.1 h w⟩) rfl (hK _ _ (s.put hd s.2.2.2))
theorem DXA.load [hT : TOk P T] (i : Nat) {t b off : Nat} {x : Operand} {cs : List Value} {ty' : TypeId} {v : Value} (hK : DXA P J D N ops M0 ds fuel (l.setIfInBounds i true) ((d, v) :: a) M) (hi : ops[i]? = some ⟨some d, .load t x, ty, pos, af, none⟩ := by exact rfl) (hc : takeB .any ops ds l (l.setIfInBounds i true) i = true := by decide +kernel) (hx : evalO a x = some (.pointer (some ⟨b, off, none⟩)) := by exact rfl) (hat : At (some ⟨b, 0, none⟩) M0 (cellsR b cs ty') R := by infer_instance)
    (h : loadC T t cs off = some v := by exact rfl) (hd : Nat.blt d N = true := by exact rfl) (hM : Sub M M0 := by infer_instance) : DXA P J D N ops M0 ds (fuel + 1) l a M :=
  fun act w s => take_ _ hi rfl hc NQ_put (.inl ⟨by simp [Region.wanted], fun w' hw' => by
    have hb := (hw'.at_ hat).cells
    simp [execOp, evalO_ok s.2.2.1 hx, Instr.loadAt, Instr.sureAddr, loadC_ok (P := P) (T := T) hb h]⟩) (s.2.2.2.sub hM) rfl (hK _ _ (s.put hd s.2.2.2))
def ADJ (P : Program) (J : Act → World → Prop) (ops : Array Oper) (M0 : List Thing) (ds : List Nat) (i fuel : Nat) (l : Array Bool) : Act → World → Prop :=
  fun act w => (i ∉ ds → Holds w M0) ∧ wpAnyLast P .any ops (NQ J) (fun w => Holds w M0) ds fuel l act w
theorem DXA.one (i : Nat) {o : Oper} (h : DXL P (Exit.then (ADJ P J ops M0 ds i fuel (l.setIfInBounds i true)) (NQ J)) D N ops [o] a M) (hr : (Region.ready .any ops l == [i] && !([i] : List Nat).isEmpty) = true := by decide +kernel) (hi : ops[i]? = some o := by exact rfl) : DXA P J D N ops M0 ds (fuel + 1) l a M := by
  simp only [Bool.and_eq_true, beq_iff_eq, Bool.not_eq_true', List.isEmpty_eq_false_iff] at hr
  intro act w s
  refine wpAnyLast_all hr.1 hr.2 (fun j hj => ?_)
  obtain rfl := List.mem_singleton.1 hj
  exact wpOp_mono (fun a' w' hq => ⟨fun hn _ => hq.1 hn, hq.2⟩) (wpOp_of hi (h act w s))
theorem DXL.last {i : Nat} (h : DXA P J D N ops M0 ds fuel l a M) (hi : ds.contains i = true := by exact rfl) : DXL P (Exit.then (ADJ P J ops M0 ds i fuel l) (NQ J)) D N ops [] a M :=
  DXL.nil (fun act w s => ⟨fun hn => absurd (by simpa using hi) hn, h act w s⟩)
theorem DXL.next {i : Nat} (h : DXA P J D N ops M0 ds fuel l a M) (hM : Sub M M0 := by infer_instance) : DXL P (Exit.then (ADJ P J ops M0 ds i fuel l) (NQ J)) D N ops [] a M :=
  DXL.nil (fun act w s => ⟨fun _ => s.2.2.2.sub hM, h act w s⟩)
/-! ### a closure that recovers -/
theorem CallsD.rec_ {f : FuncId} {y : Code} {d1 d2 : Nat} {args : List Value} {u u' : FrameMode} {v : Value} {ty2 : TypeId} {pos2 : String} {af2 : Array Edge} {ts : Array TypeId} (hf : P.funcs[f]? = some fn)
    (hb : fn.body = some (.seq (.region id #[⟨some d1, .call ⟨.builtin .recover, #[], ts⟩, ty, pos, af, none⟩, ⟨some d2, .assign (.tmp d1), ty2, pos2, af2, none⟩] false) y)) (hn : fn.ntmps = N) (hl : Nat.ble args.length N = true) (hd1 : Nat.blt d1 N = true) (hd2 : Nat.blt d2 N = true)
    (hr : ∀ (c₀ : Frame) (cs : List Frame), c₀.mode = u → (match recoverD (c₀ :: cs) with | some (x, cs') => x = v ∧ cs' = { c₀ with mode := u' } :: cs | none => v = .nilIface ∧ u' = u))
    (h : SX P fn K N [.code y] ((d2, v) :: (d1, v) :: frOf 0 args) M) {w : World} (hM : Holds w M) : CallsD P f args.toArray u w fun e u2 w' => u2 = u' ∧ RK K e w' := by
  refine callsD_of_wpS hf hb fun c₀ cs hu => wpS_seq (wpS_region ?_)
  have hs0 := st_enter (f := f) (fn := fn) (args := args) hn (Nat.le_of_ble_eq_true hl) hM
  generalize hact : ({ tmps := args.toArray ++ Array.replicate (fn.ntmps - args.toArray.size) undef, defers := [] } : Act) = act at hs0
  have hs1 := hs0.put (v := v) hd1 hM
  have hs2 := hs1.put (v := v) hd2 hM
  have hc := hr c₀ cs hu
  have h1 : (execOp act.eval ⟨some d1, .call ⟨.builtin .recover, #[], ts⟩, ty, pos, af, none⟩).run P w = .ok .recover w := rfl
  have hev : (act.put (some d1) v).eval (.tmp d1) = v := evalO_ok hs1.fits (x := .tmp d1) (by simp [evalO, look])
  have h2 : (execOp (act.put (some d1) v).eval ⟨some d2, .assign (.tmp d1), ty2, pos2, af2, none⟩).run P w = .ok (.value v) w := by
    simp [execOp, hev]
  have fin : ∀ cs', cs' = { c₀ with mode := u' } :: cs → Exit.thenS (y.wpS P (bodyPostS P fn c₀ cs (fun e u2 w' => u2 = u' ∧ RK K e w'))) (bodyPostS P fn c₀ cs (fun e u2 w' => u2 = u' ∧ RK K e w')) .normal ((act.put (some d1) v).put (some d2) v) cs' w := by
    rintro cs' rfl
    refine wpS_of_wp (wp_mono (h _ w hs2) (fun e a' w' hq => ?_))
    cases e with
    | normal =>
      obtain ⟨hd, v', hrun, hR⟩ := hq
      exact ⟨hd, u', rfl, v', hrun, rfl, hR⟩
    | ret =>
      obtain ⟨hd, v', hrun, hR⟩ := hq
      exact ⟨hd, u', rfl, v', hrun, rfl, hR⟩
    | panic ch =>
      obtain ⟨hd, hR⟩ := hq
      exact ⟨hd, u', rfl, rfl, hR⟩
    | exit id => exact hq.elim
    | goto l => exact hq.elim
    | outgrown => exact ⟨u', rfl, hq⟩
  show wpOpsS P _ _ [0, 1] act (c₀ :: cs) w
  unfold wpOpsS
  simp only [List.getElem?_toArray, List.getElem?_cons_zero]
  rw [if_pos (by simp [Region.wanted]), h1]
  cases hq : recoverD (c₀ :: cs) with
  | none =>
    rw [hq] at hc
    obtain ⟨rfl, rfl⟩ := hc
    dsimp only
    unfold wpOpsS
    simp only [List.getElem?_toArray, List.getElem?_cons_succ, List.getElem?_cons_zero]
    rw [if_pos (by simp [Region.wanted]), h2]
    exact fin _ (by cases c₀; simp_all)
  | some p =>
    rw [hq] at hc
    obtain ⟨x, cs'⟩ := p
    obtain ⟨rfl, rfl⟩ := hc
    dsimp only
    unfold wpOpsS
    simp only [List.getElem?_toArray, List.getElem?_cons_succ, List.getElem?_cons_zero]
    rw [if_pos (by simp [Region.wanted]), h2]
    exact fin _ rfl
end
end Go.Proofs.YtanemmcddgkpdaaGreat.Sx
end
section
/- Chapter 13: things as they may be under way, pure; conditions: those that each theorem names. -/
namespace Go.Proofs.YtanemmcddgkpdaaGreat.Hm
open Go.RowKit Go.Proofs.YtanemmcddgkpdaaGreatW.PrintWords Go.Proofs.YtanemmcddgkpdaaGreatW.PrintLast Go.Proofs.YtanemmcddgkpdaaGreatW.PrintMore
set_option linter.unusedVariables false
set_option linter.unusedSimpArgs false
/-- A thing as it may be under way. -/
structure Sl.mid (s : Sl) : Prop where
  w : s.wf
  l : s.d.length ≤ 768
/-- Things as they may be under way. -/
structure Th.mid (t : Th) : Prop where
  n : t.l.length = 24
  c : u64ok t.ch
  m : ∀ s ∈ t.l, s.mid
  r : -9223372036854775808 ≤ t.room ∧ t.room ≤ 9223372036854775807
theorem Th.mid.at {t : Th} (h : t.mid) {j : Nat} {s : Sl} (hs : t.l[j]? = some s) : s.mid := h.m s (List.mem_of_getElem? hs)
theorem Th.mid.set {t : Th} (h : t.mid) {j : Nat} {s : Sl} (hs : s.mid) : (setT t j s).mid :=
  ⟨by simp [h.n], h.c, fun x hx => by
    rcases List.mem_or_eq_of_mem_set hx with h1 | h1
    · exact h.m x h1
    · exact h1 ▸ hs, h.r⟩
def enterS (s : Sl) (name : ByteArray) (i g : Int) : Ex Sl := do
  let s1 := { s with cookie := up64 s.cookie }
  let p := addM (entS s1) ⟨s1.cookie, i, g, name⟩
  needE (p.2 == 0) p.2
  keepE s1 p.1
def leaveS (s : Sl) (name : ByteArray) : Ex Sl := do
  let p := removeM (entS s) name
  needE (p.2 == 0) p.2
  keepE s p.1
theorem enterE_S (t : Th) (d : Nat) (name : ByteArray) (i g : Int) : enterE t d name i g = (enterS (atT t d) name i g).map (setT t d) := by
  unfold enterE enterS
  dsimp only
  generalize needE _ _ = x
  cases x with
  | error e => rfl
  | ok u =>
    show (keepE _ _).bind _ = Except.map _ (keepE _ _)
    generalize keepE _ _ = y
    cases y <;> rfl
theorem leaveE_S (t : Th) (d : Nat) (name : ByteArray) : leaveE t d name = (leaveS (atT t d) name).map (setT t d) := by
  unfold leaveE leaveS
  dsimp only
  generalize needE _ _ = x
  cases x with
  | error e => rfl
  | ok u =>
    show (keepE _ _).bind _ = Except.map _ (keepE _ _)
    generalize keepE _ _ = y
    cases y <;> rfl
theorem entS_ok {s : Sl} (h : s.wf) : (∀ e ∈ entS s, e.wf) ∧ (entS s).length ≤ s.d.length := by
  unfold entS
  obtain ⟨⟨l, n⟩, hm⟩ : ∃ r, getM s.d = r := ⟨_, rfl⟩
  rw [hm]
  have h1 := getM_len h.d hm
  refine ⟨?_, h1.1⟩
  by_cases hn : n = 0
  · subst hn
    exact (getM_put h.d hm).2
  · have h2 : l = [] := h1.2 hn
    subst h2
    intro e he
    cases he
theorem addM_wf {l : List Ent} {e : Ent} (h : ∀ x ∈ l, x.wf) (he : e.wf) : (∀ x ∈ (addM l e).1, x.wf) ∧ (addM l e).1.length ≤ l.length + 1 := by
  unfold addM
  split
  · exact ⟨fun x hx => absurd hx List.not_mem_nil, by simp⟩
  · split
    · exact ⟨fun x hx => absurd hx List.not_mem_nil, by simp⟩
    · split
      · exact ⟨fun x hx => absurd hx List.not_mem_nil, by simp⟩
      · refine ⟨fun x hx => ?_, by simp⟩
        rcases List.mem_append.1 hx with h1 | h1
        · exact h x h1
        · rw [List.mem_singleton.1 h1]; exact he
theorem removeM_wf {l : List Ent} {s : ByteArray} (h : ∀ x ∈ l, x.wf) : (∀ x ∈ (removeM l s).1, x.wf) ∧ (removeM l s).1.length ≤ l.length := by
  unfold removeM
  split
  · exact ⟨fun x hx => absurd hx List.not_mem_nil, by simp⟩
  · exact ⟨fun x hx => h x (List.mem_of_mem_eraseIdx hx), List.length_eraseIdx_le _ _⟩
theorem keepE_ok {s s' : Sl} {l : List Ent} (hs : s.mid) (hw : ∀ e ∈ l, e.wf) (h : keepE s l = .ok s') : s'.mid ∧ entS s' = l ∧ getM s'.d = (l, 0) ∧ s' = { s with d := s'.d } := by
  unfold keepE at h
  by_cases h1 : ((putM l).2 == 0) = true
  · rw [h1] at h
    have e1 : (putM l).2 = 0 := by simpa using h1
    obtain ⟨hm, hp, hn⟩ := putM_0 e1
    by_cases h2 : (putM l).1.length ≤ 768
    · rw [decide_eq_true h2] at h
      have h3 : s' = { s with d := (putM l).1 } := by injection h with h; exact h.symm
      subst h3
      have hg : getM (putM l).1 = (l, 0) := putM_get hw (by rw [← e1])
      refine ⟨⟨⟨hs.w.ino, hs.w.kind, hs.w.gen, hs.w.links, hs.w.mode, hs.w.change, hs.w.cookie, hs.w.verf, ?_⟩, h2⟩, ?_, hg, rfl⟩
      · show bytesB (putM l).1 = true
        rw [hp]
        exact bytesB_flatE hw hn
      · show (getM (putM l).1).1 = l
        rw [hg]
    · rw [decide_eq_false h2] at h
      cases h
  · rw [show ((putM l).2 == 0) = false by simpa using h1] at h
    cases h
theorem up64_ok (x : Int) : u64ok (up64 x) := ⟨Int.emod_nonneg _ (by decide), Int.emod_lt_of_pos _ (by decide)⟩
theorem enterS_ok {s s' : Sl} {name : ByteArray} {i g : Int} (hs : s.mid) (hi : u32ok i) (hg : u32ok g) (h : enterS s name i g = .ok s') :
    s'.mid ∧ addM (entS s) ⟨up64 s.cookie, i, g, name⟩ = (entS s', 0) ∧ getM s'.d = (entS s', 0) ∧ s' = { s with cookie := up64 s.cookie, d := s'.d } := by
  unfold enterS at h
  have hc := up64_ok s.cookie
  have hw := addM_wf (e := ⟨up64 s.cookie, i, g, name⟩) (entS_ok hs.w).1 ⟨hc.1, hc.2, hi.1, hi.2, hg.1, hg.2⟩
  have hs1 : Sl.mid { s with cookie := up64 s.cookie } := ⟨⟨hs.w.ino, hs.w.kind, hs.w.gen, hs.w.links, hs.w.mode, hs.w.change, hc, hs.w.verf, hs.w.d⟩, hs.l⟩
  dsimp only at h
  have he : entS { s with cookie := up64 s.cookie } = entS s := rfl
  rw [he] at h
  by_cases h1 : ((addM (entS s) ⟨up64 s.cookie, i, g, name⟩).2 == 0) = true
  · rw [h1] at h
    obtain ⟨k1, k2, k3, k4⟩ := keepE_ok hs1 hw.1 h
    rw [k2]
    have e1 : (addM (entS s) ⟨up64 s.cookie, i, g, name⟩).2 = 0 := by simpa using h1
    exact ⟨k1, by rw [← e1], k3, k4⟩
  · rw [show ((addM (entS s) ⟨up64 s.cookie, i, g, name⟩).2 == 0) = false by simpa using h1] at h
    cases h
theorem leaveS_ok {s s' : Sl} {name : ByteArray} (hs : s.mid) (h : leaveS s name = .ok s') :
    s'.mid ∧ removeM (entS s) name = (entS s', 0) ∧ getM s'.d = (entS s', 0) ∧ s' = { s with d := s'.d } := by
  unfold leaveS at h
  have hw := removeM_wf (s := name) (entS_ok hs.w).1
  dsimp only at h
  by_cases h1 : ((removeM (entS s) name).2 == 0) = true
  · rw [h1] at h
    obtain ⟨k1, k2, k3, k4⟩ := keepE_ok hs hw.1 h
    rw [k2]
    have e1 : (removeM (entS s) name).2 = 0 := by simpa using h1
    exact ⟨k1, by rw [← e1], k3, k4⟩
  · rw [show ((removeM (entS s) name).2 == 0) = false by simpa using h1] at h
    cases h
end Go.Proofs.YtanemmcddgkpdaaGreat.Hm
end
section
/- Chapter 13: what a change keeps, and how an op's parts come to its end, pure; conditions: those that each theorem names. -/
namespace Go.Proofs.YtanemmcddgkpdaaGreat.Hm
open Go.RowKit Go.Proofs.YtanemmcddgkpdaaGreatW.PrintWords Go.Proofs.YtanemmcddgkpdaaGreatW.PrintLast Go.Proofs.YtanemmcddgkpdaaGreatW.PrintMore
set_option linter.unusedVariables false
set_option linter.unusedSimpArgs false
theorem okE {α β : Type} (a : α) (f : α → Ex β) : (Except.ok a >>= f : Ex β) = f a := rfl
theorem erE {α β : Type} (e : Int) (f : α → Ex β) : (Except.error e >>= f : Ex β) = .error e := rfl
theorem puE {α : Type} (a : α) : (pure a : Ex α) = .ok a := rfl
theorem needT (e : Int) : needE true e = .ok () := rfl
theorem needF (e : Int) : needE false e = .error e := rfl
theorem touch_d (l : List Sl) (k : Nat) (c : Int) : (l.set k { l.getD k Sl0 with change := c }).map Sl.d = l.map Sl.d := by
  apply List.ext_getElem?
  intro i
  rw [List.getElem?_map, List.getElem?_map, List.getElem?_set]
  by_cases h : k = i
  · subst h
    rw [if_pos rfl]
    by_cases hk : k < l.length
    · rw [if_pos hk, List.getD_eq_getElem?_getD, List.getElem?_eq_getElem hk]
      rfl
    · rw [if_neg hk, List.getElem?_eq_none (by omega)]
  · rw [if_neg h]
theorem touch_fold (ks : List Nat) : ∀ t : Th, let t' := ks.foldl (fun t k => setT t k { atT t k with change := t.ch }) t
    t'.ch = t.ch ∧ t'.room = t.room ∧ t'.l.map Sl.d = t.l.map Sl.d ∧ (t.mid → t'.mid) := by
  induction ks with
  | nil => exact fun t => ⟨rfl, rfl, rfl, id⟩
  | cons k ks ih =>
    intro t
    obtain ⟨h1, h2, h3, h4⟩ := ih (setT t k { atT t k with change := t.ch })
    refine ⟨h1, h2, h3.trans (touch_d t.l k t.ch), fun hm => h4 ?_⟩
    by_cases hk : k < t.l.length
    · refine hm.set ?_
      have hs : t.l[k]? = some (atT t k) := by
        unfold atT
        rw [List.getD_eq_getElem?_getD, List.getElem?_eq_getElem hk]
        rfl
      have hw := (hm.at hs)
      exact ⟨⟨hw.w.ino, hw.w.kind, hw.w.gen, hw.w.links, hw.w.mode, hm.c, hw.w.cookie, hw.w.verf, hw.w.d⟩, hw.l⟩
    · have : t.l.set k { atT t k with change := t.ch } = t.l := List.set_eq_of_length_le (by omega)
      unfold setT
      rw [this]
      exact hm
theorem usedT_d {l l' : List Sl} (h : l'.map Sl.d = l.map Sl.d) : usedT l' = usedT l := by
  have e : ∀ l : List Sl, (l.map fun s => needB s.d.length) = (l.map Sl.d).map fun d => needB d.length := fun l => by rw [List.map_map]; rfl
  unfold usedT
  rw [e, e, h]
theorem touchE_ok {t t' : Th} {ks : List Nat} (h : touchE t ks = .ok t') :
    t' = ks.foldl (fun t k => setT t k { atT t k with change := t.ch }) ⟨t.l, up64 t.ch, t.room⟩ ∧ t'.ch = up64 t.ch ∧ t'.room = t.room ∧ t'.l.map Sl.d = t.l.map Sl.d ∧ (t.mid → t'.mid) ∧ (usedT t.l : Int) ≤ t.room := by
  unfold touchE at h
  obtain ⟨h1, h2, h3, h4⟩ := touch_fold ks ⟨t.l, up64 t.ch, t.room⟩
  dsimp only at h
  generalize ks.foldl (fun t k => setT t k { atT t k with change := t.ch }) ⟨t.l, up64 t.ch, t.room⟩ = q at h h1 h2 h3 h4 ⊢
  by_cases hu : (usedT q.l : Int) ≤ q.room
  · rw [decide_eq_true hu, needT, okE, puE] at h
    injection h with h
    subst h
    rw [usedT_d h3, h2] at hu
    exact ⟨rfl, h1, h2, h3, fun hm => h4 ⟨hm.n, up64_ok _, hm.m, hm.r⟩, hu⟩
  · rw [decide_eq_false hu, needF, erE] at h
    cases h
theorem u32_0 : u32ok 0 := ⟨by decide, by decide⟩
theorem u64_0 : u64ok 0 := ⟨by decide, by decide⟩
theorem unlinkS_mid {s : Sl} (h : s.mid) : (unlinkS s).mid := by
  unfold unlinkS
  split
  · exact ⟨⟨h.w.ino, u32_0, h.w.gen, u32_0, u32_0, h.w.change, u64_0, u64_0, rfl⟩, by simp⟩
  · exact ⟨⟨h.w.ino, h.w.kind, h.w.gen, ⟨Int.emod_nonneg _ (by decide), Int.emod_lt_of_pos _ (by decide)⟩, h.w.mode, h.w.change, h.w.cookie, h.w.verf, h.w.d⟩, h.l⟩
theorem bytesB_sized {b : List Int} {n : Nat} (h : bytesB b = true) : bytesB (sizedL b n) = true := by
  unfold sizedL bytesB at *
  rw [List.all_append, Bool.and_eq_true]
  refine ⟨List.all_eq_true.2 fun x hx => List.all_eq_true.1 h x (List.mem_of_mem_take hx), List.all_eq_true.2 fun x hx => ?_⟩
  rw [List.eq_of_mem_replicate hx]
  rfl
theorem sizedL_length (b : List Int) (n : Nat) : (sizedL b n).length = n := by
  unfold sizedL
  rw [List.length_append, List.length_take, List.length_replicate]
  omega
end Go.Proofs.YtanemmcddgkpdaaGreat.Hm
end
