/- Part S of the lemmas and walks of the Go functions that these statements reach; conditions: those that each theorem names. -/
import Derived.Test.YtanemmcddgkpdaaGreatJA
import Derived.Laws.CopyRow
section
/- Go code walked by what is known of slots and memory, no world in sight: the state, and operations that touch no memory; conditions: those that each theorem names. -/
namespace Go.Proofs.YtanemmcddgkpdaaGreat.Sx
open Go.RowKit Go.Proofs.YtanemmcddgkpdaaGreatW.PrintWords Go.Proofs.YtanemmcddgkpdaaGreatW.PrintLast Go.Proofs.YtanemmcddgkpdaaGreatW.PrintMore
set_option linter.unusedVariables false
set_option linter.unusedSimpArgs false
/-! ### lists, spelled so that they reckon -/
abbrev Fr := List (Nat × Value)
def look : Fr → Nat → Option Value
  | [], _ => none
  | (s, v) :: r, t => match Nat.beq s t with
    | true => some v
    | false => look r t
def nthL {α : Type} : List α → Nat → Option α
  | [], _ => none
  | v :: _, 0 => some v
  | _ :: r, n + 1 => nthL r n
theorem nthL_eq {α : Type} (l : List α) : ∀ n, nthL l n = l[n]? := by
  induction l with
  | nil => intro n; rfl
  | cons v r ih => intro n; cases n with
    | zero => rfl
    | succ n => simp only [nthL, ih, List.getElem?_cons_succ]
def putAt {α : Type} : List Value → Nat → List Value → (List Value → α) → α
  | [], _, _, k => k []
  | c :: cs, 0, [], k => k (c :: cs)
  | _ :: cs, 0, v :: vs, k => putAt cs 0 vs (fun r => k (v :: r))
  | c :: cs, n + 1, vs, k => putAt cs n vs (fun r => k (c :: r))
def ins : List Value → Nat → List Value → List Value
  | [], _, _ => []
  | c :: cs, 0, [] => c :: cs
  | _ :: cs, 0, v :: vs => v :: ins cs 0 vs
  | c :: cs, n + 1, vs => c :: ins cs n vs
theorem putAt_eq {α : Type} (cs : List Value) : ∀ (off : Nat) (vs : List Value) (k : List Value → α), putAt cs off vs k = k (ins cs off vs) := by
  induction cs with
  | nil => intro off vs k; rfl
  | cons c cs ih =>
    intro off vs k
    cases off with
    | zero => cases vs with
      | nil => rfl
      | cons v vs => simp only [putAt, ins, ih]
    | succ n => simp only [putAt, ins, ih]
theorem ins_zero_cons (c : Value) (cs : List Value) (v : Value) (vs : List Value) : ins (c :: cs) 0 (v :: vs) = v :: ins cs 0 vs := rfl
theorem ins_succ (c : Value) (cs : List Value) (n : Nat) (vs : List Value) : ins (c :: cs) (n + 1) vs = c :: ins cs n vs := rfl
theorem ins_nil (cs : List Value) (n : Nat) : ins cs n [] = cs := by
  induction cs generalizing n with
  | nil => rfl
  | cons c cs ih => cases n with
    | zero => rfl
    | succ n => rw [ins_succ, ih]
theorem ins_cons (cs : List Value) : ∀ (off : Nat) (v : Value) (vs : List Value), ins cs off (v :: vs) = ins (cs.set off v) (off + 1) vs := by
  induction cs with
  | nil => intro off v vs; rfl
  | cons c cs ih =>
    intro off v vs
    cases off with
    | zero => rw [ins_zero_cons, List.set_cons_zero, ins_succ]
    | succ n => rw [ins_succ, ih, List.set_cons_succ, ins_succ]
def subl {α : Type} : List Value → Nat → Nat → (List Value → α) → α
  | [], _, _, k => k []
  | _ :: _, 0, 0, k => k []
  | c :: cs, 0, n + 1, k => subl cs 0 n (fun r => k (c :: r))
  | _ :: cs, m + 1, n, k => subl cs m n k
theorem subl_eq {α : Type} (cs : List Value) : ∀ (m n : Nat) (k : List Value → α), subl cs m n k = k ((cs.drop m).take n) := by
  induction cs with
  | nil => intro m n k; simp [subl]
  | cons c cs ih =>
    intro m n k
    cases m with
    | zero => cases n with
      | zero => simp [subl]
      | succ n => simp only [subl, ih, List.drop_zero, List.take_succ_cons]
    | succ m => simp only [subl, ih, List.drop_succ_cons]
def copyL {α : Type} : List Value → (List Value → α) → α
  | [], k => k []
  | c :: cs, k => copyL cs (fun r => k (c :: r))
theorem copyL_eq {α : Type} : ∀ (cs : List Value) (k : List Value → α), copyL cs k = k cs
  | [], _ => rfl
  | c :: cs, k => by rw [copyL, copyL_eq cs]
/-! ### types -/
/-- A type: its cells; is it a struct or an array; its zero; its description; of a struct, each field's place, cells, and whether it is a struct or an array. -/
structure TI where
  size : Nat
  agg : Bool
  zero : Value
  desc : TypeDesc
  flds : List (Nat × Nat × Bool)
def FldsOk (P : Program) : List Field → List (Nat × Nat × Bool) → Prop
  | [], [] => True
  | f :: fs, (o, s, a) :: r => f.offset = o ∧ (∀ w, (sizeOf f.type).run P w = .ok s w) ∧ (∀ w, (isAgg f.type).run P w = .ok a w) ∧ FldsOk P fs r
  | _, _ => False
def lookT : List (Nat × TI) → Nat → Option TI
  | [], _ => none
  | (s, v) :: r, t => match Nat.beq s t with
    | true => some v
    | false => lookT r t
structure TIok (P : Program) (t : Nat) (i : TI) : Prop where
  size : ∀ w, (sizeOf t).run P w = .ok i.size w
  agg : ∀ w, (isAgg t).run P w = .ok i.agg w
  zero : ∀ w, (zeroValue t).run P w = .ok i.zero w
  desc : ∀ w, (underlying t).run P w = .ok i.desc w
  flds : ∀ fs, i.desc = .struct fs → FldsOk P fs.toList i.flds
class TOk (P : Program) (T : outParam (List (Nat × TI))) : Prop where
  ok : ∀ p ∈ T, TIok P p.1 p.2
theorem lookT_mem (T : List (Nat × TI)) (t : Nat) (i : TI) (h : lookT T t = some i) : (t, i) ∈ T := by
  induction T with
  | nil => cases h
  | cons p T ih =>
    obtain ⟨s, v⟩ := p
    unfold lookT at h
    cases hb : Nat.beq s t with
    | true =>
      rw [hb] at h
      obtain rfl := Nat.eq_of_beq_eq_true hb
      obtain rfl := Option.some.inj h
      exact List.mem_cons_self
    | false => rw [hb] at h; exact List.mem_cons_of_mem _ (ih h)
theorem tok {P : Program} {T : List (Nat × TI)} [hT : TOk P T] {t : Nat} {i : TI} (h : lookT T t = some i) : TIok P t i := hT.ok (t, i) (lookT_mem T t i h)
def AllOk (P : Program) : List (Nat × TI) → Prop
  | [] => True
  | p :: r => TIok P p.1 p.2 ∧ AllOk P r
theorem AllOk.mem {P : Program} : ∀ {T : List (Nat × TI)}, AllOk P T → ∀ p ∈ T, TIok P p.1 p.2
  | [], _, _, h => by cases h
  | q :: r, h, p, hp => by
    rcases List.mem_cons.1 hp with rfl | hp
    · exact h.1
    · exact AllOk.mem h.2 p hp
/-! ### slots -/
def Fits (a : Fr) (tm : Array Value) : Prop := ∀ t v, look a t = some v → tm.getD t undef = v
theorem Fits.nil (tm : Array Value) : Fits [] tm := fun _ _ h => by cases h
theorem Fits.put {a : Fr} {tm : Array Value} {d : Nat} {v : Value} (h : Fits a tm) (hd : d < tm.size) : Fits ((d, v) :: a) (tm.setIfInBounds d v) := by
  intro t u hu
  unfold look at hu
  cases hb : Nat.beq d t with
  | true =>
    rw [hb] at hu
    obtain rfl := Nat.eq_of_beq_eq_true hb
    obtain rfl := Option.some.inj hu
    simp [Array.getD, hd]
  | false =>
    rw [hb] at hu
    have hne : d ≠ t := fun e => by rw [e, Nat.beq_refl] at hb; cases hb
    have := h t u hu
    rw [← this]
    simp only [Array.getD_eq_getD_getElem?, Array.getElem?_setIfInBounds_ne hne]
/-- What is known of fewer slots. -/
def SubF : Fr → Fr → Prop
  | [], _ => True
  | (t, v) :: r, a => look a t = some v ∧ SubF r a
theorem SubF.look {a' a : Fr} (h : SubF a' a) : ∀ t v, Sx.look a' t = some v → Sx.look a t = some v := by
  induction a' with
  | nil => intro t v hv; cases hv
  | cons p r ih =>
    obtain ⟨s, u⟩ := p
    intro t v hv
    unfold Sx.look at hv
    cases hb : Nat.beq s t with
    | true =>
      rw [hb] at hv
      obtain rfl := Nat.eq_of_beq_eq_true hb
      obtain rfl := Option.some.inj hv
      exact h.1
    | false => rw [hb] at hv; exact ih h.2 t v hv
theorem Fits.sub {a a' : Fr} {tm : Array Value} (h : Fits a tm) (hs : SubF a' a) : Fits a' tm := fun t v hv => h t v (hs.look t v hv)
theorem Fits.again {a : Fr} {tm : Array Value} {s : Nat} {v : Value} (h : Fits a tm) (hv : look a s = some v) : Fits ((s, v) :: a) tm := by
  intro t u hu
  unfold look at hu
  cases hb : Nat.beq s t with
  | true =>
    rw [hb] at hu
    obtain rfl := Nat.eq_of_beq_eq_true hb
    obtain rfl := Option.some.inj hu
    exact h s _ hv
  | false => rw [hb] at hu; exact h t u hu
def evalO (a : Fr) : Operand → Option Value
  | .tmp t => look a t
  | .const v => some v
  | .global g => some (.pointer (some ⟨g, 0, none⟩))
  | .func f => some (.func (.func f) #[] #[])
theorem evalO_ok {a : Fr} {act : Act} (h : Fits a act.tmps) {x : Operand} {v : Value} (hx : evalO a x = some v) : act.eval x = v := by
  cases x with
  | tmp t => exact h t v hx
  | const u => exact Option.some.inj hx
  | global g => exact Option.some.inj hx
  | func f => exact Option.some.inj hx
def evalL (a : Fr) : List Operand → (List Value → Option (List Value)) → Option (List Value)
  | [], k => k []
  | x :: r, k => match evalO a x with
    | some v => evalL a r (fun vs => k (v :: vs))
    | none => none
theorem evalL_ok {a : Fr} {act : Act} (h : Fits a act.tmps) : ∀ (l : List Operand) (k : List Value → Option (List Value)) (vs : List Value), evalL a l k = some vs → k (l.map act.eval) = some vs := by
  intro l
  induction l with
  | nil => intro k vs hv; exact hv
  | cons x r ih =>
    intro k vs hv
    unfold evalL at hv
    cases hx : evalO a x with
    | none => rw [hx] at hv; cases hv
    | some v =>
      rw [hx] at hv
      have := ih _ _ hv
      rw [List.map_cons, evalO_ok h hx]
      exact this
theorem evalL_map {a : Fr} {act : Act} (h : Fits a act.tmps) {l : Array Operand} {vs : List Value} (hv : evalL a l.toList some = some vs) : l.map act.eval = vs.toArray := by
  have := Option.some.inj (evalL_ok h _ _ _ hv)
  rw [← this]
  apply Array.ext'
  simp
/-! ### operations that touch no memory -/
def kEq : IntKind → IntKind → Bool
  | .i8, .i8 | .i16, .i16 | .i32, .i32 | .i64, .i64 | .u8, .u8 | .u16, .u16 | .u32, .u32 | .u64, .u64 => true
  | _, _ => false
theorem kEq_eq {j k : IntKind} (h : kEq j k = true) : j = k := by cases j <;> cases k <;> first | rfl | cases h
def andI (k : IntKind) (x y : Int) : Int := k.wrap (BitVec.ofInt k.bits x &&& BitVec.ofInt k.bits y).toNat
def orI (k : IntKind) (x y : Int) : Int := k.wrap (BitVec.ofInt k.bits x ||| BitVec.ofInt k.bits y).toNat
def xorI (k : IntKind) (x y : Int) : Int := k.wrap (BitVec.ofInt k.bits x ^^^ BitVec.ofInt k.bits y).toNat
def shlI (k : IntKind) (x y : Int) : Int := k.wrap (x * 2 ^ min y.toNat k.bits)
def shrI (k : IntKind) (x y : Int) : Int := x.fdiv (2 ^ min y.toNat k.bits)
def shiftV : BinOp → IntKind → Int → Int → Option Value
  | .shl, k, x, y => match decide (y < 0) with
    | true => none
    | false => some (.int k (shlI k x y))
  | .shr, k, x, y => match decide (y < 0) with
    | true => none
    | false => some (.int k (shrI k x y))
  | _, _, _, _ => none
def isShift : BinOp → Bool
  | .shl | .shr => true
  | _ => false
def intBin : BinOp → IntKind → Int → Int → Option Value
  | .add, k, x, y => some (.int k (k.wrap (x + y)))
  | .sub, k, x, y => some (.int k (k.wrap (x - y)))
  | .mul, k, x, y => some (.int k (k.wrap (x * y)))
  | .eql, _, x, y => some (.bool (x == y))
  | .neq, _, x, y => some (.bool (x != y))
  | .lss, _, x, y => some (.bool (decide (x < y)))
  | .leq, _, x, y => some (.bool (decide (x ≤ y)))
  | .gtr, _, x, y => some (.bool (decide (y < x)))
  | .geq, _, x, y => some (.bool (decide (y ≤ x)))
  | .quo, k, x, y => match decide (y = 0) with
    | true => none
    | false => some (.int k (k.wrap (x.tdiv y)))
  | .rem, k, x, y => match decide (y = 0) with
    | true => none
    | false => some (.int k (x.tmod y))
  | .and, k, x, y => some (.int k (andI k x y))
  | .or, k, x, y => some (.int k (orI k x y))
  | .xor, k, x, y => some (.int k (xorI k x y))
  | _, _, _, _ => none
def strBin : BinOp → ByteArray → ByteArray → Option Value
  | .eql, x, y => some (.bool (x.toList == y.toList))
  | .neq, x, y => some (.bool (!(x.toList == y.toList)))
  | _, _, _ => none
def pureBin (op : BinOp) : Value → Value → Option Value
  | .int k x, .int k' y => match isShift op with
    | true => shiftV op k x y
    | false => match kEq k k' with
      | true => intBin op k x y
      | false => none
  | .string x, .string y => strBin op x y
  | _, _ => none
theorem pureBin_ok {P : Program} {op : BinOp} {t : TypeId} {x y : Operand} {u v r : Value} (h : pureBin op u v = some r) (w : World) :
    (do eqGuard op t x y u v; binOp op t u v : Sem Value).run P w = .ok r w := by
  unfold pureBin at h
  split at h
  · rename_i k x k' y
    cases hsh : isShift op with
    | true =>
      rw [hsh] at h
      dsimp only at h
      cases op <;> first
        | (cases hsh; done)
        | (simp only [shiftV] at h; cases hy : decide (y < 0) with
            | true => rw [hy] at h; cases h
            | false => rw [hy] at h; obtain rfl := Option.some.inj h; simp [eqGuard, binOp, Op.shift, Sem.run_bind, of_decide_eq_false hy, shlI, shrI]; done)
    | false =>
    rw [hsh] at h
    dsimp only at h
    cases hk : kEq k k' with
    | false => rw [hk] at h; cases h
    | true =>
      rw [hk] at h
      obtain rfl := kEq_eq hk
      dsimp only at h
      cases op <;> simp only [intBin] at h <;> first
        | (cases h; done)
        | (cases hsh; done)
        | (obtain rfl := Option.some.inj h; simp [eqGuard, binOp, Op.intArith, Op.intCmp, Op.intBits, Sem.run_bind, Sem.run, andI, orI, xorI]; done)
        | (cases hy : decide (y = 0) with
            | true => rw [hy] at h; cases h
            | false => rw [hy] at h; obtain rfl := Option.some.inj h; simp [eqGuard, binOp, Op.intDiv, Sem.run_bind, Sem.run, of_decide_eq_false hy]; done)
  · rename_i x y
    cases op <;> simp only [strBin] at h <;> first
      | (cases h; done)
      | (obtain rfl := Option.some.inj h; simp [eqGuard, binOp, Op.stringOp, Sem.run_bind, Sem.run]; done)
  · cases h
end Go.Proofs.YtanemmcddgkpdaaGreat.Sx
end
section
/- Go code walked by what is known of slots and memory: one operation that touches no memory; conditions: those that each theorem names. -/
namespace Go.Proofs.YtanemmcddgkpdaaGreat.Sx
open Go.RowKit Go.Proofs.YtanemmcddgkpdaaGreatW.PrintWords Go.Proofs.YtanemmcddgkpdaaGreatW.PrintLast Go.Proofs.YtanemmcddgkpdaaGreatW.PrintMore
set_option linter.unusedVariables false
set_option linter.unusedSimpArgs false
theorem FldsOk.get {P : Program} : ∀ {fs : List Field} {r : List (Nat × Nat × Bool)}, FldsOk P fs r → ∀ {k : Nat} {o s : Nat} {a : Bool}, nthL r k = some (o, s, a) →
    ∃ f, fs[k]? = some f ∧ f.offset = o ∧ (∀ w, (sizeOf f.type).run P w = .ok s w) ∧ (∀ w, (isAgg f.type).run P w = .ok a w)
  | [], [], _, k, o, s, a, h => by cases h
  | [], _ :: _, h, _, _, _, _, _ => h.elim
  | _ :: _, [], h, _, _, _, _, _ => by cases h
  | f :: fs, (o', s', a') :: r, h, k, o, s, a, hk => by
    cases k with
    | zero =>
      have h9 : (o', s', a') = (o, s, a) := Option.some.inj hk
      simp only [Prod.mk.injEq] at h9
      obtain ⟨rfl, rfl, rfl⟩ := h9
      exact ⟨f, rfl, h.1, h.2.1, h.2.2.1⟩
    | succ k =>
      obtain ⟨g, hg, h2⟩ := FldsOk.get h.2.2.2 (k := k) hk
      exact ⟨g, by rw [List.getElem?_cons_succ]; exact hg, h2⟩
theorem FldsOk.places {P : Program} (w : World) : ∀ {fs : List Field} {r : List (Nat × Nat × Bool)}, FldsOk P fs r →
    (fs.mapM fun f => Prod.mk f.offset <$> sizeOf f.type).run P w = .ok (r.map fun x => (x.1, x.2.1)) w
  | [], [], _ => by simp
  | [], _ :: _, h => h.elim
  | _ :: _, [], h => by cases h
  | f :: fs, (o, s, a) :: r, h => by
    have ih := FldsOk.places w h.2.2.2
    simp [List.mapM_cons, h.2.1, h.1]
    rw [ih]
    rfl
/-- A struct's cells with parts filled in. -/
def fillK (a : Fr) (r : List (Nat × Nat × Bool)) : List Value → List (Nat × Operand) → Option (List Value)
  | cells, [] => copyL cells some
  | cells, (i, x) :: rest => match nthL r i, evalO a x with
    | some (o, s, _), some v => match Nat.beq v.cells.size s, Nat.ble (o + s) cells.length with
      | true, true => putAt cells o v.cells.toList (fun cs => fillK a r cs rest)
      | _, _ => none
    | _, _ => none
theorem fold_ins (l : List Value) : ∀ (off j : Nat) (cs : Array Value), (l.zipIdx j).foldl (fun cs (p : Value × Nat) => cs.setIfInBounds (off + p.2) p.1) cs = (ins cs.toList (off + j) l).toArray := by
  induction l with
  | nil => intro off j cs; simp [ins_nil]
  | cons v l ih =>
    intro off j cs
    rw [List.zipIdx_cons, List.foldl_cons, ih, ins_cons]
    simp [Nat.add_assoc]
theorem fillK_ok {a : Fr} {act : Act} (h : Fits a act.tmps) (r : List (Nat × Nat × Bool)) : ∀ (parts : List (Nat × Operand)) (cells out : List Value), fillK a r cells parts = some out →
    Instr.fill ((r.map fun x => (x.1, x.2.1)).toArray[·]?) cells.toArray (parts.map fun p => (p.1, act.eval p.2)) = some out.toArray := by
  intro parts
  induction parts with
  | nil =>
    intro cells out ho
    rw [fillK, copyL_eq] at ho
    obtain rfl := Option.some.inj ho
    rfl
  | cons p rest ih =>
    obtain ⟨i, x⟩ := p
    intro cells out ho
    unfold fillK at ho
    cases hr : nthL r i with
    | none => rw [hr] at ho; cases ho
    | some q =>
      obtain ⟨o, s, g⟩ := q
      cases hx : evalO a x with
      | none => rw [hr, hx] at ho; cases ho
      | some v =>
        rw [hr, hx] at ho
        dsimp only at ho
        cases h1 : Nat.beq v.cells.size s with
        | false => rw [h1] at ho; cases ho
        | true =>
          cases h2 : Nat.ble (o + s) cells.length with
          | false => rw [h1, h2] at ho; cases ho
          | true =>
            rw [h1, h2] at ho
            dsimp only at ho
            rw [putAt_eq] at ho
            have h1' := Nat.eq_of_beq_eq_true h1
            have h2' := Nat.le_of_ble_eq_true h2
            have := ih _ _ ho
            rw [nthL_eq] at hr
            have hp : (r.map fun x => (x.1, x.2.1)).toArray[i]? = some (o, s) := by simp [hr]
            simp only [List.map_cons, evalO_ok h hx, Instr.fill, hp]
            rw [if_neg (by simp only [bne_iff_ne, ne_eq, Bool.or_eq_true, decide_eq_true_eq, not_or]; exact ⟨fun hh => hh h1', by simp; omega⟩)]
            rw [← this]
            congr 1
            have hz := fold_ins v.cells.toList o 0 cells.toArray
            rw [Nat.add_zero] at hz
            rw [← hz, ← Array.foldl_toList]
            simp
def partK (g : Bool) (cs : List Value) (o s : Nat) : Option Value := match g with
  | true => subl cs o s (fun r => some (.agg r.toArray))
  | false => nthL cs o
theorem part_ok {P : Program} {t : TypeId} {g : Bool} {cs : Array Value} {o s : Nat} {v : Value} (hs : ∀ w, (sizeOf t).run P w = .ok s w) (hg : ∀ w, (isAgg t).run P w = .ok g w) (h : partK g cs.toList o s = some v) (w : World) :
    (part t cs o).run P w = .ok v w := by
  unfold partK at h
  cases g with
  | true =>
    dsimp only at h
    rw [subl_eq] at h
    obtain rfl := Option.some.inj h
    simp only [part, Sem.run_bind, hg, Result.andThen_ok, if_true, hs, Sem.run_pure]
    congr 2
    apply Array.ext'
    simp [List.take_drop]
  | false =>
    dsimp only at h
    rw [nthL_eq] at h
    have : cs[o]? = some v := by simpa using h
    simp [part, hg, this]
def pureOp (T : List (Nat × TI)) (a : Fr) : Op → Option Value
  | .move x => evalO a x
  | .assign x => evalO a x
  | .extract x i => match evalO a x with
    | some (.tuple vs) => nthL vs.toList i
    | _ => none
  | .fieldAddr s x f => match lookT T s with
    | some ⟨_, _, _, .struct _, r⟩ => match nthL r f, evalO a x with
      | some (o, s, _), some (.pointer (some ⟨b, off, none⟩)) => match Nat.beq s 0 with
        | false => some (.pointer (some ⟨b, off + o, none⟩))
        | true => none
      | _, _ => none
    | _ => none
  | .field s x f => match lookT T s with
    | some ⟨_, _, _, .struct _, r⟩ => match nthL r f, evalO a x with
      | some (o, s, g), some (.agg cs) => partK g cs.toList o s
      | _, _ => none
    | _ => none
  | .binOp op t x y _ => match evalO a x, evalO a y with
    | some (.bool u), some (.bool v) => match lookT T t, op with
      | some ⟨_, _, _, .bool, _⟩, .eql => some (.bool (u == v))
      | some ⟨_, _, _, .bool, _⟩, .neq => some (.bool (!(u == v)))
      | _, _ => none
    | some (.pointer u), some (.pointer none) => match lookT T t, op, u with
      | some ⟨_, _, _, .pointer _, _⟩, .eql, some _ => some (.bool false)
      | some ⟨_, _, _, .pointer _, _⟩, .eql, none => some (.bool true)
      | some ⟨_, _, _, .pointer _, _⟩, .neq, some _ => some (.bool true)
      | some ⟨_, _, _, .pointer _, _⟩, .neq, none => some (.bool false)
      | _, _, _ => none
    | some (.slice u _ _), some (.slice none _ _) => match lookT T t, op with
      | some ⟨_, _, _, .slice _, _⟩, .eql => some (.bool u.isNone)
      | some ⟨_, _, _, .slice _, _⟩, .neq => some (.bool (!u.isNone))
      | _, _ => none
    | some u, some v => pureBin op u v
    | _, _ => none
  | .unOp .not _ x => match evalO a x with
    | some (.bool b) => some (.bool (!b))
    | _ => none
  | .convert s d x => match lookT T s, lookT T d, evalO a x with
    | some _, some ⟨_, _, _, .int k, _⟩, some (.int _ n) => some (.int k (k.wrap n))
    | some _, some ⟨_, _, _, .string, _⟩, some (.string b) => some (.string b)
    | _, _, _ => none
  | .call ⟨.builtin .len, args, ts⟩ => match args.toList, ts.toList with
    | [x], [t] => match lookT T t, evalO a x with
      | some ⟨_, _, _, .string, _⟩, some (.string s) => some (.int .i64 (s.size : Int))
      | some ⟨_, _, _, .slice _, _⟩, some (.slice _ n _) => some (.int .i64 (n : Int))
      | some ⟨_, _, _, .array n _, _⟩, some _ => some (.int .i64 (n : Int))
      | _, _ => none
    | _, _ => none
  | .makeFunc fn first cap => match evalL a first.toList some, evalL a cap.toList some with
    | some u, some v => some (.func fn u.toArray v.toArray)
    | _, _ => none
  | .nilCheck x => match evalO a x with
    | some (.pointer (some p)) => some (.pointer (some p))
    | some (.func (.func f) u v) => some (.func (.func f) u v)
    | _ => none
  | .build t parts => match lookT T t with
    | some ⟨_, _, .agg z, .struct _, r⟩ => match fillK a r z.toList parts.toList with
      | some cs => some (.agg cs.toArray)
      | none => none
    | _ => none
  | .pick c x y => match evalO a c with
    | some (.bool true) => evalO a x
    | some (.bool false) => evalO a y
    | _ => none
  | _ => none
theorem equalIn_bool {P : Program} {t : TypeId} {u v : Bool} (ht : ∀ w, (underlying t).run P w = .ok .bool w) (d : Nat) (w : World) : (Op.equalIn (d + 1) t (.bool u) (.bool v)).run P w = .ok (u == v) w := by
  unfold Op.equalIn
  simp [ht]
theorem equal_ptr {P : Program} {t : TypeId} {e : TypeId} {u : Option Addr} (ht : ∀ w, (underlying t).run P w = .ok (.pointer e) w) (w : World) : (Op.equal t (.pointer u) (.pointer none)).run P w = .ok u.isNone w := by
  show (Op.equalIn (9999 + 1) t _ _).run P w = _
  unfold Op.equalIn
  cases u <;> simp [ht]
theorem equal_sl {P : Program} {t : TypeId} {e : TypeId} {u : Option Addr} {n c m d : Nat} (ht : ∀ w, (underlying t).run P w = .ok (.slice e) w) (w : World) : (Op.equal t (.slice u n c) (.slice none m d)).run P w = .ok u.isNone w := by
  show (Op.equalIn (9999 + 1) t _ _).run P w = _
  unfold Op.equalIn
  cases u <;> simp [ht]
theorem equal_bool {P : Program} {t : TypeId} {u v : Bool} (ht : ∀ w, (underlying t).run P w = .ok .bool w) (w : World) : (Op.equal t (.bool u) (.bool v)).run P w = .ok (u == v) w := equalIn_bool ht 9999 w
set_option maxHeartbeats 1000000 in
theorem pureOp_ok {P : Program} {T : List (Nat × TI)} [hT : TOk P T] {a : Fr} {act : Act} (hf : Fits a act.tmps) {o : Oper} {v : Value} (h : pureOp T a o.op = some v) (w : World) :
    (execOp act.eval o).run P w = .ok (.value v) w := by
  unfold pureOp at h
  unfold execOp
  split at h
  · rename_i x hx; simp [hx, evalO_ok hf h]
  · rename_i x hx; simp [hx, evalO_ok hf h]
  · rename_i x i hx
    split at h
    · rename_i vs hv
      rw [nthL_eq] at h
      have : vs[i]? = some v := by simpa using h
      simp [hx, evalO_ok hf hv, Instr.extract, this]
    · cases h
  · rename_i s x f hx
    split at h
    · rename_i sz g z fs r hl
      split at h
      · rename_i o s g b off hr hv
        split at h
        · rename_i hb
          obtain rfl := Option.some.inj h
          have ht := tok (P := P) hl
          obtain ⟨fd, hfd, ho, hs, hg⟩ := (ht.flds _ rfl).get hr
          have hfd' : fs[f]? = some fd := by simpa using hfd
          have hne : s ≠ 0 := fun e => by rw [e] at hb; cases hb
          have hadd : (⟨b, off, none⟩ : Addr).add o = ⟨b, off + o, none⟩ := by unfold Addr.add; split <;> simp_all
          simp only [hx, Instr.fieldAt, Sem.run_bind, ht.desc, Result.andThen_ok, hfd', evalO_ok hf hv, Instr.sureAddr, Sem.run_pure, fieldPlace, hs, ho]
          simp [hne, hadd]
        · cases h
      · cases h
    · cases h
  · rename_i s x f hx
    split at h
    · rename_i sz g z fs r hl
      split at h
      · rename_i o s g cs hr hv
        have ht := tok (P := P) hl
        obtain ⟨fd, hfd, ho, hs, hg⟩ := (ht.flds _ rfl).get hr
        have hfd' : fs[f]? = some fd := by simpa using hfd
        have hp := part_ok (P := P) (t := fd.type) hs hg h w
        subst ho
        simp [hx, Instr.field, ht.desc, hfd', evalO_ok hf hv, asAgg, hp]
      · cases h
    · cases h
  · rename_i op t x y t' hx
    split at h
    · rename_i u v' hu hv
      split at h
      · rename_i sz g z r hl
        obtain rfl := Option.some.inj h
        have ht := (tok (P := P) hl).desc
        have he := equal_bool (P := P) (t := t) (u := u) (v := v') ht w
        simp [hx, evalO_ok hf hu, evalO_ok hf hv, eqGuard, binOp, he]
      · rename_i sz g z r hl
        obtain rfl := Option.some.inj h
        have ht := (tok (P := P) hl).desc
        have he := equal_bool (P := P) (t := t) (u := u) (v := v') ht w
        simp [hx, evalO_ok hf hu, evalO_ok hf hv, eqGuard, binOp, he]
      · cases h
    · rename_i u hu hv
      split at h
      · rename_i sz g z e r ad hl
        obtain rfl := Option.some.inj h
        have he := equal_ptr (P := P) (t := t) (u := some ad) (tok (P := P) hl).desc w
        simp [hx, evalO_ok hf hu, evalO_ok hf hv, eqGuard, binOp, he]
      · rename_i sz g z e r hl
        obtain rfl := Option.some.inj h
        have he := equal_ptr (P := P) (t := t) (u := none) (tok (P := P) hl).desc w
        simp [hx, evalO_ok hf hu, evalO_ok hf hv, eqGuard, binOp, he]
      · rename_i sz g z e r ad hl
        obtain rfl := Option.some.inj h
        have he := equal_ptr (P := P) (t := t) (u := some ad) (tok (P := P) hl).desc w
        simp [hx, evalO_ok hf hu, evalO_ok hf hv, eqGuard, binOp, he]
      · rename_i sz g z e r hl
        obtain rfl := Option.some.inj h
        have he := equal_ptr (P := P) (t := t) (u := none) (tok (P := P) hl).desc w
        simp [hx, evalO_ok hf hu, evalO_ok hf hv, eqGuard, binOp, he]
      · cases h
    · rename_i u n c m d hu hv
      split at h
      · rename_i sz g z e r hl
        obtain rfl := Option.some.inj h
        have he := equal_sl (P := P) (t := t) (u := u) (n := n) (c := c) (m := m) (d := d) (tok (P := P) hl).desc w
        simp [hx, evalO_ok hf hu, evalO_ok hf hv, eqGuard, binOp, he]
      · rename_i sz g z e r hl
        obtain rfl := Option.some.inj h
        have he := equal_sl (P := P) (t := t) (u := u) (n := n) (c := c) (m := m) (d := d) (tok (P := P) hl).desc w
        simp [hx, evalO_ok hf hu, evalO_ok hf hv, eqGuard, binOp, he]
      · cases h
    · rename_i u v' hu hv
      have := pureBin_ok (P := P) (t := t) (x := x) (y := y) h w
      simp only [hx, evalO_ok hf hu, evalO_ok hf hv]
      simp only [Sem.run_bind] at this ⊢
      rw [this]
      rfl
    · cases h
  · rename_i t x hx
    split at h
    · rename_i b hv
      obtain rfl := Option.some.inj h
      simp [hx, evalO_ok hf hv, Op.unary]
    · cases h
  · rename_i s d x hx
    split at h
    · rename_i i sz g z k r n k' hs hd hv
      obtain rfl := Option.some.inj h
      have h1 := tok (P := P) hs
      have h2 := tok (P := P) hd
      simp only [hx, convert, Sem.run_bind, h1.desc, h2.desc, Result.andThen_ok, evalO_ok hf hv]
      cases i.desc <;> simp [Conv.intToInt]
    · rename_i i sz g z r b hs hd hv
      obtain rfl := Option.some.inj h
      have h1 := tok (P := P) hs
      have h2 := tok (P := P) hd
      simp only [hx, convert, Sem.run_bind, h1.desc, h2.desc, Result.andThen_ok, evalO_ok hf hv]
      cases i.desc <;> simp
    · cases h
  · rename_i args ts hx
    split at h
    · rename_i x t ha hts
      have ha' : args = #[x] := by apply Array.ext'; simpa using ha
      have ht' : ts = #[t] := by apply Array.ext'; simpa using hts
      subst ha' ht'
      split at h
      · rename_i sz g z r s hl hv
        obtain rfl := Option.some.inj h
        have h1 := tok (P := P) hl
        simp [hx, resolve, invoke, builtin, Builtin.len_, h1.desc, evalO_ok hf hv, goInt]
      · rename_i sz g z e r A n c hl hv
        obtain rfl := Option.some.inj h
        have h1 := tok (P := P) hl
        simp [hx, resolve, invoke, builtin, Builtin.len_, h1.desc, evalO_ok hf hv, goInt]
      · rename_i sz g z n e r u hl hv
        obtain rfl := Option.some.inj h
        have h1 := tok (P := P) hl
        simp [hx, resolve, invoke, builtin, Builtin.len_, h1.desc, evalO_ok hf hv, goInt]
      · cases h
    · cases h
  · rename_i fn first cap hx
    split at h
    · rename_i u v' hu hv
      obtain rfl := Option.some.inj h
      simp [hx, Instr.makeFunc, evalL_map hf hu, evalL_map hf hv]
    · cases h
  · rename_i x hx
    split at h
    · rename_i p hv
      obtain rfl := Option.some.inj h
      simp [hx, evalO_ok hf hv]
    · rename_i f u v' hv
      obtain rfl := Option.some.inj h
      simp [hx, evalO_ok hf hv]
    · cases h
  · rename_i t parts hx
    split at h
    · rename_i sz g z fs r hl
      split at h
      · rename_i cs hk
        obtain rfl := Option.some.inj h
        have ht := tok (P := P) hl
        have h1 := (ht.flds _ rfl).places w
        have h2 := fillK_ok hf r _ _ _ hk
        have h3 : Instr.fill (fun x => (List.map (fun x => (x.1, x.2.1)) r)[x]?) z (List.map (fun p => (p.1, act.eval p.2)) parts.toList) = some cs.toArray := by simpa using h2
        simp only [List.getElem?_map] at h3
        simp [hx, Instr.build, ht.zero, ht.desc, Value.cells, Array.mapM_eq_mapM_toList, h1]
        rw [h3]
        rfl
      · cases h
    · cases h
  · rename_i c x y hx
    split at h
    · rename_i hv
      simp [hx, evalO_ok hf hv, asBool, evalO_ok hf h]
    · rename_i hv
      simp [hx, evalO_ok hf hv, asBool, evalO_ok hf h]
    · cases h
  · cases h
end Go.Proofs.YtanemmcddgkpdaaGreat.Sx
end
section
/- Go code walked by what is known of slots and memory: what is known of memory: things apart from one another, and things that stay; conditions: those that each theorem names. -/
namespace Go.Proofs.YtanemmcddgkpdaaGreat.Sx
open Go.RowKit Go.Proofs.YtanemmcddgkpdaaGreatW.PrintWords Go.Proofs.YtanemmcddgkpdaaGreatW.PrintLast Go.Proofs.YtanemmcddgkpdaaGreatW.PrintMore
set_option linter.unusedVariables false
set_option linter.unusedSimpArgs false
/-- What is outside of memory is the same. -/
structure Env (w w' : World) : Prop where
  os : w'.os = w.os
  tape : w'.tape = w.tape
  output : w'.output = w.output
theorem Env.refl (w : World) : Env w w := ⟨rfl, rfl, rfl⟩
theorem Env.trans {w w1 w2 : World} (h : Env w w1) (k : Env w1 w2) : Env w w2 := ⟨k.os.trans h.os, k.tape.trans h.tape, k.output.trans h.output⟩
theorem Env.of {B : Nat} {w w' : World} (h : Below B w w') : Env w w' := ⟨h.os, h.tape, h.output⟩
/-- Something that holds of memory, by its blocks alone. -/
structure Res where
  P : World → (Nat → Prop) → Prop
  mono : ∀ {w S S'}, P w S → (∀ k, S k → S' k) → P w S'
  loc : ∀ {w w' : World} {S}, P w S → Env w w' → (∀ k, S k → k < w.heap.size → w'.heap[k]? = w.heap[k]?) → P w' S
/-- What is there alone (by its key), or what stays as it is. -/
inductive Thing where
  | own (key : Option Addr) (r : Res)
  | per (r : Res)
def HoldsU (w : World) (I : Nat → Prop) : List Thing → (Nat → Prop) → Prop
  | [], _ => True
  | .own _ r :: L, U => ∃ S, (∀ k, S k → U k) ∧ r.P w S ∧ HoldsU w I L (fun k => U k ∧ ¬ S k)
  | .per r :: L, U => r.P w I ∧ HoldsU w I L U
def Holds (w : World) (L : List Thing) : Prop := ∃ I : Nat → Prop, (∀ k, I k → k < w.heap.size) ∧ HoldsU w I L (fun k => k < w.heap.size ∧ ¬ I k)
theorem HoldsU.mono {w : World} {I I' : Nat → Prop} (hI : ∀ k, I k → I' k) : ∀ {L : List Thing} {U U' : Nat → Prop}, HoldsU w I L U → (∀ k, U k → U' k) → HoldsU w I' L U'
  | [], _, _, _, _ => trivial
  | .own _ r :: L, U, U', ⟨S, hS, hr, hL⟩, h => ⟨S, fun k hk => h k (hS k hk), hr, HoldsU.mono hI hL (fun k hk => ⟨h k hk.1, hk.2⟩)⟩
  | .per r :: L, U, U', ⟨hr, hL⟩, h => ⟨r.mono hr hI, HoldsU.mono hI hL h⟩
theorem HoldsU.move {w w' : World} {I : Nat → Prop} (hE : Env w w') (hI : ∀ k, I k → k < w.heap.size → w'.heap[k]? = w.heap[k]?) : ∀ {L : List Thing} {U : Nat → Prop}, HoldsU w I L U → (∀ k, U k → k < w.heap.size → w'.heap[k]? = w.heap[k]?) → HoldsU w' I L U
  | [], _, _, _ => trivial
  | .own _ r :: L, U, ⟨S, hS, hr, hL⟩, h => ⟨S, hS, r.loc hr hE (fun k hk hlt => h k (hS k hk) hlt), HoldsU.move hE hI hL (fun k hk hlt => h k hk.1 hlt)⟩
  | .per r :: L, U, ⟨hr, hL⟩, h => ⟨r.loc hr hE hI, HoldsU.move hE hI hL h⟩
theorem HoldsU.swap {w : World} {I : Nat → Prop} {x y : Thing} {L : List Thing} {U : Nat → Prop} (h : HoldsU w I (x :: y :: L) U) : HoldsU w I (y :: x :: L) U := by
  cases x with
  | own k r => cases y with
    | own k' r' =>
      obtain ⟨S, hS, hr, S', hS', hr', hL⟩ := h
      exact ⟨S', fun k hk => (hS' k hk).1, hr', S, fun k hk => ⟨hS k hk, fun h => (hS' k h).2 hk⟩, hr, hL.mono (fun _ h => h) (fun k hk => ⟨⟨hk.1.1, hk.2⟩, hk.1.2⟩)⟩
    | per r' =>
      obtain ⟨S, hS, hr, hr', hL⟩ := h
      exact ⟨hr', S, hS, hr, hL⟩
  | per r => cases y with
    | own k' r' =>
      obtain ⟨hr, S, hS, hr', hL⟩ := h
      exact ⟨S, hS, hr', hr, hL⟩
    | per r' =>
      obtain ⟨hr, hr', hL⟩ := h
      exact ⟨hr', hr, hL⟩
theorem HoldsU.skip {w : World} {I : Nat → Prop} {x : Thing} {L L' : List Thing} (f : ∀ U, HoldsU w I L U → HoldsU w I L' U) {U : Nat → Prop} (h : HoldsU w I (x :: L) U) : HoldsU w I (x :: L') U := by
  cases x with
  | own k r => obtain ⟨S, hS, hr, hL⟩ := h; exact ⟨S, hS, hr, f _ hL⟩
  | per r => exact ⟨h.1, f _ h.2⟩
theorem HoldsU.tail {w : World} {I : Nat → Prop} {x : Thing} {L : List Thing} {U : Nat → Prop} (h : HoldsU w I (x :: L) U) : HoldsU w I L U := by
  cases x with
  | own k r => obtain ⟨S, hS, hr, hL⟩ := h; exact hL.mono (fun _ h => h) (fun _ h => h.1)
  | per r => exact h.2
/-- What is known is known otherwise. -/
class Sub (M M' : List Thing) : Prop where
  h : ∀ w I U, HoldsU w I M U → HoldsU w I M' U
theorem Holds.sub {w : World} {M M' : List Thing} (h : Holds w M) (s : Sub M M') : Holds w M' := by
  obtain ⟨I, hI, hL⟩ := h
  exact ⟨I, hI, s.h _ _ _ hL⟩
/-- The thing of a key, and the others. -/
class At (key : Option Addr) (M : List Thing) (r : outParam Res) (R : outParam (List Thing)) : Prop where
  h : ∀ w I U, HoldsU w I M U → HoldsU w I (.own key r :: R) U
instance (priority := low) At.there {key : Option Addr} {x : Thing} {M : List Thing} {r : Res} {R : List Thing} [a : At key M r R] : At key (x :: M) r (x :: R) := ⟨fun w I U h => (h.skip (a.h w I)).swap⟩
instance (priority := high) At.here {key : Option Addr} {M : List Thing} {r : Res} : At key (.own key r :: M) r M := ⟨fun _ _ _ h => h⟩
/-- Something that stays is among what is known. -/
class Has (r : Res) (M : List Thing) : Prop where
  h : ∀ w I U, HoldsU w I M U → r.P w I
instance (priority := low) Has.there {x : Thing} {M : List Thing} {r : Res} [a : Has r M] : Has r (x :: M) := ⟨fun w I U h => a.h w I U h.tail⟩
instance (priority := high) Has.here {M : List Thing} {r : Res} : Has r (.per r :: M) := ⟨fun _ _ _ h => h.1⟩
instance (priority := 900) Sub.refl {M : List Thing} : Sub M M := ⟨fun _ _ _ h => h⟩
instance Sub.own {M M' R : List Thing} {key : Option Addr} {r : Res} [a : At key M r R] [b : Sub R M'] : Sub M (.own key r :: M') := ⟨fun w I U h => (a.h w I U h).skip (b.h w I)⟩
instance Sub.per {M M' : List Thing} {r : Res} [a : Has r M] [b : Sub M M'] : Sub M (.per r :: M') := ⟨fun w I U h => ⟨a.h w I U h, b.h w I U h⟩⟩
instance (priority := 1000) Sub.nilI {M : List Thing} : Sub M [] := ⟨fun _ _ _ _ => trivial⟩
instance (priority := 10) Sub.dropI {x : Thing} {M M' : List Thing} [s : Sub M M'] : Sub (x :: M) M' := ⟨fun w I U h => s.h w I U h.tail⟩
theorem Sub.drop {x : Thing} {M M' : List Thing} (s : Sub M M') : Sub (x :: M) M' := ⟨fun w I U h => s.h w I U h.tail⟩
theorem Sub.trans {M M' M2 : List Thing} (s : Sub M M') (t : Sub M' M2) : Sub M M2 := ⟨fun w I U h => t.h w I U (s.h w I U h)⟩
/-- What is there alone stays from now on. -/
theorem Holds.keep {w : World} {key : Option Addr} {r : Res} {M : List Thing} (h : Holds w (.own key r :: M)) : Holds w (.per r :: M) := by
  obtain ⟨I, hI, S, hS, hr, hL⟩ := h
  refine ⟨fun k => I k ∨ S k, fun k hk => hk.elim (hI k) (fun h => (hS k h).1), r.mono hr (fun _ h => .inr h), hL.mono (fun _ h => .inl h) (fun k hk => ⟨hk.1.1, fun h => h.elim hk.1.2 hk.2⟩)⟩
theorem Holds.tail {w : World} {x : Thing} {M : List Thing} (h : Holds w (x :: M)) : Holds w M := by
  obtain ⟨I, hI, hL⟩ := h
  exact ⟨I, hI, hL.tail⟩
theorem Holds.below {w w' : World} {M : List Thing} (h : Holds w M) (hb : Below w.heap.size w w') : Holds w' M := by
  obtain ⟨I, hI, hL⟩ := h
  exact ⟨I, fun k hk => Nat.lt_of_lt_of_le (hI k hk) hb.size, (hL.move (Env.of hb) (fun k _ hlt => hb.block k hlt) (fun k _ hlt => hb.block k hlt)).mono (fun _ h => h) (fun k hk => ⟨Nat.lt_of_lt_of_le hk.1 hb.size, hk.2⟩)⟩
/-- Something new. -/
theorem Holds.new {w w' : World} {M : List Thing} (h : Holds w M) (hb : Below w.heap.size w w') (key : Option Addr) {r : Res} {S : Nat → Prop} (hr : r.P w' S) (hS : ∀ k, S k → w.heap.size ≤ k ∧ k < w'.heap.size) : Holds w' (.own key r :: M) := by
  obtain ⟨I, hI, hL⟩ := h
  refine ⟨I, fun k hk => Nat.lt_of_lt_of_le (hI k hk) hb.size, S, fun k hk => ⟨(hS k hk).2, fun hi => by have := hI k hi; have := (hS k hk).1; omega⟩, hr, ?_⟩
  exact (hL.move (Env.of hb) (fun k _ hlt => hb.block k hlt) (fun k _ hlt => hb.block k hlt)).mono (fun _ h => h) (fun k hk => ⟨⟨Nat.lt_of_lt_of_le hk.1 hb.size, hk.2⟩, fun hs => by have := (hS k hs).1; omega⟩)
/-- One thing has become another, and what is new. -/
theorem Holds.act1 {w w' : World} {key' : Option Addr} {r' : Res} {M : List Thing} {I S S' : Nat → Prop} (hI : ∀ k, I k → k < w.heap.size) (hS : ∀ k, S k → k < w.heap.size ∧ ¬ I k) (hL : HoldsU w I M (fun k => (k < w.heap.size ∧ ¬ I k) ∧ ¬ S k))
    (h0 : Env w w') (h1 : w.heap.size ≤ w'.heap.size) (h2 : ∀ k, k < w.heap.size → ¬ S k → w'.heap[k]? = w.heap[k]?) (h3 : ∀ k, S' k → (S k ∨ w.heap.size ≤ k) ∧ k < w'.heap.size) (h4 : r'.P w' S') : Holds w' (.own key' r' :: M) := by
  refine ⟨I, fun k hk => Nat.lt_of_lt_of_le (hI k hk) h1, S', fun k hk => ⟨(h3 k hk).2, fun hi => ?_⟩, h4, ?_⟩
  · rcases (h3 k hk).1 with h | h
    · exact (hS k h).2 hi
    · have := hI k hi; omega
  · refine (hL.move h0 (fun k hi hlt => h2 k hlt (fun hs => (hS k hs).2 hi)) (fun k hk hlt => h2 k hlt hk.2)).mono (fun _ h => h) (fun k hk => ⟨⟨Nat.lt_of_lt_of_le hk.1.1 h1, hk.1.2⟩, fun hs => ?_⟩)
    rcases (h3 k hs).1 with h | h
    · exact hk.2 h
    · have := hk.1.1; omega
theorem Holds.act {w w' : World} {key key' : Option Addr} {r r' : Res} {M : List Thing} (h : Holds w (.own key r :: M))
    (f : ∀ S : Nat → Prop, (∀ k, S k → k < w.heap.size) → r.P w S → Env w w' ∧ w.heap.size ≤ w'.heap.size ∧ (∀ k, k < w.heap.size → ¬ S k → w'.heap[k]? = w.heap[k]?) ∧ ∃ S', (∀ k, S' k → (S k ∨ w.heap.size ≤ k) ∧ k < w'.heap.size) ∧ r'.P w' S') : Holds w' (.own key' r' :: M) := by
  obtain ⟨I, hI, S, hS, hr, hL⟩ := h
  obtain ⟨h0, h1, h2, S', h3, h4⟩ := f S (fun k hk => (hS k hk).1) hr
  exact Holds.act1 hI hS hL h0 h1 h2 h3 h4
/-- What a thing at the head says. -/
theorem Holds.head {w : World} {key : Option Addr} {r : Res} {M : List Thing} (h : Holds w (.own key r :: M)) : ∃ S : Nat → Prop, (∀ k, S k → k < w.heap.size) ∧ r.P w S := by
  obtain ⟨I, hI, S, hS, hr, hL⟩ := h
  exact ⟨S, fun k hk => (hS k hk).1, hr⟩
theorem Holds.has {w : World} {r : Res} {M : List Thing} (h : Holds w M) (a : Has r M) : ∃ S : Nat → Prop, (∀ k, S k → k < w.heap.size) ∧ r.P w S := by
  obtain ⟨I, hI, hL⟩ := h
  exact ⟨I, hI, a.h _ _ _ hL⟩
theorem Holds.at_ {w : World} {key : Option Addr} {r : Res} {M R : List Thing} (h : Holds w M) (a : At key M r R) : Holds w (.own key r :: R) := by
  obtain ⟨I, hI, hL⟩ := h
  exact ⟨I, hI, a.h _ _ _ hL⟩
/-- All that was there in w0 is as it was. -/
def oldR (w0 : World) : Res where
  P := fun w S => Env w0 w ∧ ∀ k, k < w0.heap.size → S k ∧ k < w.heap.size ∧ w.heap[k]? = w0.heap[k]?
  mono := fun h hs => ⟨h.1, fun k hk => ⟨hs k (h.2 k hk).1, (h.2 k hk).2⟩⟩
  loc := fun h he hs => ⟨h.1.trans he, fun k hk => by
    have h1 := h.2 k hk
    have h2 := hs k h1.1 h1.2.1
    exact ⟨h1.1, heap_lt h2 h1.2.1, h2.trans h1.2.2⟩⟩
theorem Holds.old {w0 w : World} {M : List Thing} (h : Holds w M) (a : Has (oldR w0) M) : Below w0.heap.size w0 w := by
  obtain ⟨S, hS, h1, h2⟩ := h.has a
  refine ⟨h1.os, h1.tape, h1.output, ?_, fun k hk => (h2 k hk).2.2⟩
  rcases Nat.eq_zero_or_pos w0.heap.size with h0 | h0
  · omega
  · have := (h2 (w0.heap.size - 1) (by omega)).2.1
    omega
/-! ### blocks of cells -/
def cellsR (b : Nat) (cs : List Value) (t : TypeId) : Res where
  P := fun w S => S b ∧ w.heap[b]? = some (.cells cs.toArray t (0, 0))
  mono := fun h hs => ⟨hs _ h.1, h.2⟩
  loc := fun h _ hs => ⟨h.1, (hs _ h.1 (by
    have := (Array.getElem?_eq_some_iff.1 h.2).1
    exact this)).trans h.2⟩
theorem Holds.cells {w : World} {key : Option Addr} {b : Nat} {cs : List Value} {t : TypeId} {M : List Thing} (h : Holds w (.own key (cellsR b cs t) :: M)) : w.heap[b]? = some (.cells cs.toArray t (0, 0)) := by
  obtain ⟨S, _, _, h⟩ := h.head
  exact h
theorem cells_cell {w : World} {b : Nat} {cs : List Value} {t : TypeId} {fr : Nat × Nat} (h : w.heap[b]? = some (.cells cs.toArray t fr)) (j : Nat) : w.cell? ⟨b, j, none⟩ = cs[j]? := by
  rw [cell_of_row w b j _ _ _ h]
  simp
theorem Holds.alloc {w : World} {M : List Thing} (h : Holds w M) (cs : Array Value) (t : TypeId) : Holds (w.alloc (.cells cs t)) (.own (some ⟨w.heap.size, 0, none⟩) (cellsR w.heap.size cs.toList t) :: M) :=
  h.new (below_alloc (Below.refl _ _) _) _ (S := fun k => k = w.heap.size) ⟨rfl, by rw [heap_alloc_new]⟩ (fun k hk => by rw [World.size_alloc]; omega)
/-- A row of cells is written. -/
theorem Holds.set {w : World} {key : Option Addr} {b : Nat} {cs : List Value} {t : TypeId} {M : List Thing} (h : Holds w (.own key (cellsR b cs t) :: M)) (j : Nat) (v : Value) : Holds (w.setCell ⟨b, j, none⟩ v) (.own key (cellsR b (cs.set j v) t) :: M) := by
  refine h.act (fun S hS hr => ⟨⟨rfl, rfl, rfl⟩, by simp [World.setCell], fun k hk hn => Below.heap_setCell w ⟨b, j, none⟩ v k (fun e => hn (e ▸ hr.1)), S, fun k hk => ⟨.inl hk, by have := hS k hk; simpa [World.setCell] using this⟩, hr.1, ?_⟩)
  have := blk_set hr.2 j v
  simpa using this
end Go.Proofs.YtanemmcddgkpdaaGreat.Sx
end
section
/- Go code walked by what is known of slots and memory: the rules of control, calls, loops; conditions: those that each theorem names. -/
namespace Go.Proofs.YtanemmcddgkpdaaGreat.Sx
open Go.RowKit Go.Proofs.YtanemmcddgkpdaaGreatW.PrintWords Go.Proofs.YtanemmcddgkpdaaGreatW.PrintLast Go.Proofs.YtanemmcddgkpdaaGreatW.PrintMore
set_option linter.unusedVariables false
set_option linter.unusedSimpArgs false
/-- What is still to be done: code, a block's end, a loop's next round. -/
inductive It where
  | code (c : Code)
  | block (id : Nat)
  | again (J : Act → World → Prop)
def RK (K : Ending → List Thing → Prop) : Ending → World → Prop := fun e w => ∃ M, K e M ∧ Holds w M
def Post (P : Program) (fn : Func) (K : Ending → List Thing → Prop) : List It → Exit → Act → World → Prop
  | [] => bodyPost P fn (RK K)
  | .code c :: k => Exit.then (c.wp P (Post P fn K k)) (Post P fn K k)
  | .block id :: k => Exit.inBlock id (Post P fn K k)
  | .again J :: k => Exit.then J (Post P fn K k)
def St (N : Nat) (a : Fr) (M : List Thing) (act : Act) (w : World) : Prop := act.tmps.size = N ∧ act.defers = [] ∧ Fits a act.tmps ∧ Holds w M
/-- From here on all ends as K says. -/
def SX (P : Program) (fn : Func) (K : Ending → List Thing → Prop) (N : Nat) (k : List It) (a : Fr) (M : List Thing) : Prop := ∀ act w, St N a M act w → Post P fn K k .normal act w
/-- The same inside a list of operations. -/
def SXL (P : Program) (fn : Func) (K : Ending → List Thing → Prop) (N : Nat) (k : List It) (ops : Array Oper) (l : List Oper) (a : Fr) (M : List Thing) : Prop := ∀ act w, St N a M act w → wpList P ops (Post P fn K k) l act w
/-- A call that ends as K says. -/
structure Fn (P : Program) (f : FuncId) (args : List Value) (M : List Thing) (K : Ending → List Thing → Prop) : Prop where
  call : ∀ w, (callFunc f args.toArray).run P w = .ok (.enter f args.toArray) w
  runs : ∀ w, Holds w M → Calls P f args.toArray w (RK K)
section
variable {P : Program} {fn : Func} {K : Ending → List Thing → Prop} {N : Nat} {k : List It} {a : Fr} {M : List Thing} {ops : Array Oper} {rest : List Oper} {T : List (Nat × TI)}
theorem St.size {act : Act} {w : World} (h : St N a M act w) : act.tmps.size = N := h.1
theorem St.fits {act : Act} {w : World} (h : St N a M act w) : Fits a act.tmps := h.2.2.1
theorem St.holds {act : Act} {w : World} (h : St N a M act w) : Holds w M := h.2.2.2
theorem St.put {act : Act} {w w' : World} {M' : List Thing} {d : Nat} {v : Value} (h : St N a M act w) (hd : Nat.blt d N = true) (hM : Holds w' M') : St N ((d, v) :: a) M' (act.put (some d) v) w' := by
  have hlt : d < act.tmps.size := by rw [h.1]; exact Nat.le_of_ble_eq_true hd
  exact ⟨by simp [Act.put, h.1], h.2.1, h.fits.put hlt, hM⟩
theorem St.keep {act : Act} {w w' : World} {M' : List Thing} (h : St N a M act w) (hM : Holds w' M') : St N a M' act w' := ⟨h.1, h.2.1, h.2.2.1, hM⟩
/-! ### control -/
theorem SX.sub {a' : Fr} {M' : List Thing} (h : SX P fn K N k a' M') (ha : SubF a' a) (hM : Sub M M') : SX P fn K N k a M :=
  fun act w s => h act w ⟨s.1, s.2.1, s.fits.sub ha, s.holds.sub hM⟩
theorem SX.mem {M' : List Thing} (h : SX P fn K N k a M') (hM : ∀ w, Holds w M → Holds w M') : SX P fn K N k a M := fun act w s => h act w (s.keep (hM w s.holds))
theorem SX.seq {x y : Code} (h : SX P fn K N (.code x :: .code y :: k) a M) : SX P fn K N (.code (.seq x y) :: k) a M := fun act w s => wp_seq (h act w s)
theorem SX.skip (h : SX P fn K N k a M) : SX P fn K N (.code .skip :: k) a M := fun act w s => wp_skip (h act w s)
theorem SX.block {id : Nat} {c : Code} (h : SX P fn K N (.code c :: .block id :: k) a M) : SX P fn K N (.code (.block id c) :: k) a M := fun act w s => wp_block (h act w s)
theorem SX.endBlock {id : Nat} (h : SX P fn K N k a M) : SX P fn K N (.block id :: k) a M := fun act w s => h act w s
def popTo (id : Nat) : List It → Option (List It)
  | [] => none
  | .block id' :: k => match Nat.beq id' id with
    | true => some k
    | false => popTo id k
  | .code _ :: k => popTo id k
  | .again _ :: k => popTo id k
theorem popTo_ok {id : Nat} {act : Act} {w : World} : ∀ {k k' : List It}, popTo id k = some k' → Post P fn K k' .normal act w → Post P fn K k (.exit id) act w
  | [], _, h, _ => by cases h
  | .block id' :: k, k', h, hp => by
    unfold popTo at h
    cases hb : Nat.beq id' id with
    | true =>
      rw [hb] at h
      obtain rfl := Option.some.inj h
      obtain rfl := Nat.eq_of_beq_eq_true hb
      simp only [Post, Exit.inBlock, if_true]
      exact hp
    | false =>
      rw [hb] at h
      have hne : id ≠ id' := fun e => by rw [e, Nat.beq_refl] at hb; cases hb
      simp only [Post, Exit.inBlock, if_neg hne]
      exact popTo_ok h hp
  | .code _ :: k, k', h, hp => popTo_ok (k := k) h hp
  | .again _ :: k, k', h, hp => popTo_ok (k := k) h hp
theorem SX.exit {id : Nat} {k' : List It} (hk : popTo id k = some k') (h : SX P fn K N k' a M) : SX P fn K N (.code (.exit id) :: k) a M := fun act w s => wp_exit (popTo_ok hk (h act w s))
theorem SX.cond_t {c : Operand} {x y : Code} {b : Bool} (hc : evalO a c = some (.bool b)) (hb : b = true) (h : SX P fn K N (.code x :: k) a M) : SX P fn K N (.code (.cond c x y) :: k) a M := fun act w s => wp_cond_true (by rw [evalO_ok s.fits hc, hb]) (h act w s)
theorem SX.cond_f {c : Operand} {x y : Code} {b : Bool} (hc : evalO a c = some (.bool b)) (hb : b = false) (h : SX P fn K N (.code y :: k) a M) : SX P fn K N (.code (.cond c x y) :: k) a M := fun act w s => wp_cond_false (by rw [evalO_ok s.fits hc, hb]) (h act w s)
theorem SX.cond {c : Operand} {x y : Code} {b : Bool} (hc : evalO a c = some (.bool b)) (ht : b = true → SX P fn K N (.code x :: k) a M) (hf : b = false → SX P fn K N (.code y :: k) a M) : SX P fn K N (.code (.cond c x y) :: k) a M :=
  fun act w s => wp_cond_split (evalO_ok s.fits hc) (fun e => ht e act w s) (fun e => hf e act w s)
theorem SX.condp {c : Operand} {x y : Code} {p : Prop} [Decidable p] (hc : evalO a c = some (.bool (decide p))) (ht : p → SX P fn K N (.code x :: k) a M) (hf : ¬ p → SX P fn K N (.code y :: k) a M) : SX P fn K N (.code (.cond c x y) :: k) a M :=
  SX.cond hc (fun e => ht (of_decide_eq_true e)) (fun e => hf (of_decide_eq_false e))
theorem SX.region {id : Nat} {l : List Oper} (h : SXL P fn K N k l.toArray l a M) : SX P fn K N (.code (.region id l.toArray false) :: k) a M := fun act w s => wp_region_lit (h act w s)
theorem SXL.nil (h : SX P fn K N k a M) : SXL P fn K N k ops [] a M := fun act w s => wpList_nil (h act w s)
theorem SXL.sub {l : List Oper} {a' : Fr} {M' : List Thing} (h : SXL P fn K N k ops l a' M') (ha : SubF a' a) (hM : Sub M M') : SXL P fn K N k ops l a M :=
  fun act w s => h act w ⟨s.1, s.2.1, s.fits.sub ha, s.holds.sub hM⟩
theorem SXL.mem {l : List Oper} {M' : List Thing} (h : SXL P fn K N k ops l a M') (hM : ∀ w, Holds w M → Holds w M') : SXL P fn K N k ops l a M := fun act w s => h act w (s.keep (hM w s.holds))
/-- A loop: its rounds lower a number. -/
theorem SX.loop {body : Code} (J : Nat → Fr → List Thing → Prop) (n : Nat) {a0 : Fr} {M0 : List Thing} (h0 : J n a0 M0) (ha : SubF a0 a) (hM : Sub M M0)
    (hr : ∀ n a M, J n a M → SX P fn K N (.code body :: .again (fun act w => ∃ n', n' < n ∧ ∃ a' M', J n' a' M' ∧ St N a' M' act w) :: k) a M) : SX P fn K N (.code (.loop body) :: k) a M := by
  intro act w s
  refine wp_loop_ghost (fun n act w => ∃ a' M', J n a' M' ∧ St N a' M' act w) n ⟨a0, M0, h0, s.1, s.2.1, s.fits.sub ha, s.holds.sub hM⟩ ?_
  rintro n act w ⟨a', M', hJ, s'⟩
  exact hr n a' M' hJ act w s'
theorem SX.again {J : Nat → Fr → List Thing → Prop} {n : Nat} (n' : Nat) (hn : n' < n) {a' : Fr} {M' : List Thing} (h : J n' a' M') (ha : SubF a' a) (hM : Sub M M') :
    SX P fn K N (.again (fun act w => ∃ n', n' < n ∧ ∃ a' M', J n' a' M' ∧ St N a' M' act w) :: k) a M :=
  fun act w s => ⟨n', hn, a', M', h, s.1, s.2.1, s.fits.sub ha, s.holds.sub hM⟩
/-! ### results -/
def resS (tm : Array Value) : ResultVar → Sem Value
  | .tmp t => pure (tm.getD t undef)
  | .cell b t => do loadVar t (← asAddr (tm.getD b undef))
def Evals (P : Program) (N : Nat) (a : Fr) (M : List Thing) (rs : List ResultVar) (vs : List Value) : Prop := ∀ act w, St N a M act w → (rs.mapM (resS act.tmps)).run P w = .ok vs w
theorem Evals.nil : Evals P N a M [] [] := fun act w s => rfl
theorem Evals.cons {r : ResultVar} {v : Value} {rs : List ResultVar} {vs : List Value} (h : ∀ act w, St N a M act w → (resS act.tmps r).run P w = .ok v w) (hr : Evals P N a M rs vs) : Evals P N a M (r :: rs) (v :: vs) := by
  intro act w s
  have h1 := h act w s
  have h2 := hr act w s
  simp [List.mapM_cons, h1, h2]
theorem Evals.tmp {t : Tmp} {v : Value} {rs : List ResultVar} {vs : List Value} (h : look a t = some v) (hr : Evals P N a M rs vs) : Evals P N a M (.tmp t :: rs) (v :: vs) :=
  Evals.cons (fun act w s => by rw [resS, s.fits t v h]; rfl) hr
def pack : List Value → Value
  | [v] => v
  | vs => .tuple vs.toArray
theorem results_run {rs : List ResultVar} {vs : List Value} {act : Act} {w : World} (hf : fn.results.toList = rs) (h : Evals P N a M rs vs) (s : St N a M act w) : (results fn act.tmps).run P w = .ok (pack vs) w := by
  have h1 := h act w s
  have e : results fn act.tmps = (do let vs ← fn.results.mapM (resS act.tmps); pure (if h : vs.size = 1 then vs[0] else .tuple vs)) := rfl
  rw [e, Array.mapM_eq_mapM_toList, hf]
  simp only [Sem.run_bind, Sem.run_map, h1, Result.andThen_ok, Sem.run_pure]
  congr 1
  match vs with
  | [] => rfl
  | [v] => rfl
  | _ :: _ :: _ => simp [pack]
theorem Post_ret {act : Act} {w : World} (h : bodyPost P fn (RK K) .ret act w) : ∀ k, Post P fn K k .ret act w
  | [] => h
  | .code _ :: k => Post_ret h k
  | .block _ :: k => Post_ret h k
  | .again _ :: k => Post_ret h k
theorem Post_panic {act : Act} {w : World} {ch : List PanicEntry} (h : bodyPost P fn (RK K) (.panic ch) act w) : ∀ k, Post P fn K k (.panic ch) act w
  | [] => h
  | .code _ :: k => Post_panic h k
  | .block _ :: k => Post_panic h k
  | .again _ :: k => Post_panic h k
theorem SX.ret {rs : List ResultVar} {vs : List Value} {M' : List Thing} (hf : fn.results.toList = rs) (he : Evals P N a M rs vs) (h : K (.returned (pack vs)) M') (hM : Sub M M') : SX P fn K N (.code .ret :: k) a M :=
  fun act w s => wp_ret (Post_ret ⟨s.2.1, _, results_run hf he s, M', h, s.holds.sub hM⟩ k)
theorem SX.fin {rs : List ResultVar} {vs : List Value} {M' : List Thing} (hf : fn.results.toList = rs) (he : Evals P N a M rs vs) (h : K (.returned (pack vs)) M') (hM : Sub M M') : SX P fn K N [] a M :=
  fun act w s => ⟨s.2.1, _, results_run hf he s, M', h, s.holds.sub hM⟩
/-! ### operations: one that yields a value; guards; calls -/
section
variable {d : Nat} {op : Op} {ty : TypeId} {pos : String} {af : Array Edge}
theorem SXL.step {o : Oper} (hg : o.guard = none) (h : ∀ act w, St N a M act w → o.wp P act w (wpList P ops (Post P fn K k) rest) (Post P fn K k)) : SXL P fn K N k ops (o :: rest) a M := by
  intro act w s
  unfold wpList
  rw [if_pos (by simp [Region.wanted, hg])]
  exact .inl (h act w s)
theorem SXL.val {v : Value} (hd : Nat.blt d N = true) (h : ∀ act w, St N a M act w → (execOp act.eval ⟨some d, op, ty, pos, af, none⟩).run P w = .ok (.value v) w)
    (hK : SXL P fn K N k ops rest ((d, v) :: a) M) : SXL P fn K N k ops (⟨some d, op, ty, pos, af, none⟩ :: rest) a M :=
  SXL.step rfl fun act w s => by
    unfold Oper.wp
    rw [h act w s]
    exact hK _ _ (s.put hd s.holds)
theorem SXL.pure [hT : TOk P T] {v : Value} (h : pureOp T a op = some v) (hd : Nat.blt d N = true) (hK : SXL P fn K N k ops rest ((d, v) :: a) M) :
    SXL P fn K N k ops (⟨some d, op, ty, pos, af, none⟩ :: rest) a M :=
  SXL.val hd (fun act w s => pureOp_ok (o := ⟨some d, op, ty, pos, af, none⟩) s.fits h w) hK
theorem yields {j : Nat} {s : Nat} {b : Bool} {act : Act} {w : World} (hs : St N a M act w) (hj : (ops[j]?).bind (·.dst) = some s) (hv : look a s = some (.bool b)) : yielded ops act.tmps j = some b := by
  have h := hs.fits s _ hv
  unfold yielded
  rw [hj]
  have h2 : act.tmps[s]? = some (.bool b) := by
    rw [Array.getD_eq_getD_getElem?] at h
    cases hq : act.tmps[s]? with
    | none => rw [hq] at h; simp [undef] at h
    | some v => rw [hq] at h; simpa using h
  simp [h2]
theorem wpList_guard {o : Oper} {g : Option (Nat × Bool)} {act : Act} {w : World} {Q : Exit → Act → World → Prop} (h : wpList P ops Q ({ o with guard := none } :: rest) act w) (hw : Region.wanted { o with guard := g } (yielded ops act.tmps) = true) : wpList P ops Q ({ o with guard := g } :: rest) act w := by
  unfold wpList at h ⊢
  rw [if_pos (by simp [Region.wanted])] at h
  rw [if_pos hw]
  exact h
theorem SXL.guard_t {dst : Option Tmp} {j s : Nat} {b c : Bool} (hj : (ops[j]?).bind (·.dst) = some s) (hv : look a s = some (.bool c)) (hc : c = b) (h : SXL P fn K N k ops (⟨dst, op, ty, pos, af, none⟩ :: rest) a M) :
    SXL P fn K N k ops (⟨dst, op, ty, pos, af, some (j, b)⟩ :: rest) a M := by
  intro act w st
  subst hc
  exact wpList_guard (o := ⟨dst, op, ty, pos, af, none⟩) (h act w st) (by simp [Region.wanted, yields st hj hv])
theorem SXL.guard_f {j s : Nat} {b c : Bool} (hj : (ops[j]?).bind (·.dst) = some s) (hv : look a s = some (.bool c)) (hc : c = !b) (hd : Nat.blt d N = true) (h : SXL P fn K N k ops rest ((d, undef) :: a) M) :
    SXL P fn K N k ops (⟨some d, op, ty, pos, af, some (j, b)⟩ :: rest) a M := by
  intro act w st
  subst hc
  unfold wpList
  rw [if_neg (by simp [Region.wanted, yields st hj hv])]
  exact h _ _ (st.put hd st.holds)
theorem unyielded {j : Nat} {s : Nat} {act : Act} {w : World} (hs : St N a M act w) (hj : (ops[j]?).bind (·.dst) = some s) (hv : look a s = some undef) : yielded ops act.tmps j = none := by
  have h := hs.fits s _ hv
  unfold yielded
  rw [hj]
  cases hq : act.tmps[s]? with
  | none => simp [hq]
  | some v =>
    rw [Array.getD_eq_getD_getElem?, hq] at h
    have h2 : v = undef := by simpa using h
    subst h2
    simp [hq, undef]
theorem SXL.guard_fu {j s : Nat} {b : Bool} (hj : (ops[j]?).bind (·.dst) = some s) (hv : look a s = some undef) (hd : Nat.blt d N = true) (h : SXL P fn K N k ops rest ((d, undef) :: a) M) :
    SXL P fn K N k ops (⟨some d, op, ty, pos, af, some (j, b)⟩ :: rest) a M := by
  intro act w st
  unfold wpList
  rw [if_neg (by simp [Region.wanted, unyielded st hj hv])]
  exact h _ _ (st.put hd st.holds)
/-- A Bool that is not known yet is one of the two. -/
theorem SXL.split {l : List Oper} {s : Nat} {b : Bool} (hv : look a s = some (.bool b)) (ht : b = true → SXL P fn K N k ops l ((s, .bool true) :: a) M) (hf : b = false → SXL P fn K N k ops l ((s, .bool false) :: a) M) : SXL P fn K N k ops l a M := by
  cases b with
  | true => exact fun act w st => ht rfl act w ⟨st.1, st.2.1, st.fits.again hv, st.holds⟩
  | false => exact fun act w st => hf rfl act w ⟨st.1, st.2.1, st.fits.again hv, st.holds⟩
def callK (P : Program) (fn : Func) (K : Ending → List Thing → Prop) (N : Nat) (k : List It) (ops : Array Oper) (rest : List Oper) (d : Option Nat) (a : Fr) : Ending → List Thing → Prop
  | .returned v, M => match d with
    | some d => SXL P fn K N k ops rest ((d, v) :: a) M
    | none => SXL P fn K N k ops rest a M
  | .panicked ch, M => K (.panicked ch) M
  | .outgrown, _ => False
theorem callK.ret {d : Nat} {v : Value} (h : SXL P fn K N k ops rest ((d, v) :: a) M) : callK P fn K N k ops rest (some d) a (.returned v) M := h
theorem callK.panic {d : Option Nat} {ch : List PanicEntry} (h : K (.panicked ch) M) : callK P fn K N k ops rest d a (.panicked ch) M := h
theorem SXL.callAny {d : Option Nat} {fo : Operand} {args : Array Operand} {ts : Array TypeId} {f : FuncId} {first cap : Array Value} {vs al : List Value} (hd : match d with | some d => Nat.blt d N = true | none => True) (hf : evalO a fo = some (.func (.func f) first cap)) (ha : evalL a args.toList some = some vs)
    (has : first.toList ++ vs ++ cap.toList = al) (h : Fn P f al M (callK P fn K N k ops rest d a)) : SXL P fn K N k ops (⟨d, .call ⟨.value fo, args, ts⟩, ty, pos, af, none⟩ :: rest) a M :=
  SXL.step rfl fun act w s => by
    have e1 : first ++ vs.toArray ++ cap = al.toArray := by rw [← has]; apply Array.ext'; simp
    have hr : (execOp act.eval ⟨d, .call ⟨.value fo, args, ts⟩, ty, pos, af, none⟩).run P w = .ok (.enter f al.toArray) w := by
      simp only [execOp, resolve, Sem.run_bind, evalO_ok s.fits hf, Deferred.ofValue, evalL_map s.fits ha, Sem.run_pure, Result.andThen_ok, invoke, e1]
      exact h.call w
    unfold Oper.wp
    rw [hr]
    show Calls P f al.toArray w _
    refine (h.runs w s.holds).mono ?_
    rintro e w' ⟨M', hK, hM⟩
    cases e with
    | returned v =>
      cases d with
      | some d => exact hK _ _ (s.put hd hM)
      | none => exact hK _ _ (s.keep hM)
    | panicked ch =>
      have hb : bodyPost P fn (RK K) (.panic ch) act w' := ⟨s.2.1, M', hK, hM⟩
      exact Post_panic hb k
    | outgrown => exact hK.elim
theorem SXL.call {fo : Operand} {args : Array Operand} {ts : Array TypeId} {f : FuncId} {vs : List Value} (hf : evalO a fo = some (.func (.func f) #[] #[])) (ha : evalL a args.toList some = some vs) (hd : Nat.blt d N = true)
    (h : Fn P f vs M (callK P fn K N k ops rest (some d) a)) : SXL P fn K N k ops (⟨some d, .call ⟨.value fo, args, ts⟩, ty, pos, af, none⟩ :: rest) a M :=
  SXL.callAny hd hf ha (by simp) h
end
def frOf : Nat → List Value → Fr
  | _, [] => []
  | n, v :: vs => (n, v) :: frOf (n + 1) vs
theorem frOf_look : ∀ (vs : List Value) (n t : Nat) (v : Value), look (frOf n vs) t = some v → n ≤ t ∧ vs[t - n]? = some v
  | [], n, t, v, h => by cases h
  | u :: vs, n, t, v, h => by
    unfold frOf look at h
    cases hb : Nat.beq n t with
    | true =>
      rw [hb] at h
      obtain rfl := Nat.eq_of_beq_eq_true hb
      obtain rfl := Option.some.inj h
      simp
    | false =>
      rw [hb] at h
      obtain ⟨h1, h2⟩ := frOf_look vs (n + 1) t v h
      refine ⟨by omega, ?_⟩
      rw [show t - n = t - (n + 1) + 1 by omega, List.getElem?_cons_succ]
      exact h2
theorem Fn.enter {f : FuncId} {c : Code} {args : List Value} (hc : ∀ args w, (callFunc f args).run P w = .ok (.enter f args) w) (hf : P.funcs[f]? = some fn) (hb : fn.body = some c) (hn : fn.ntmps = N) (hl : Nat.ble args.length N = true)
    (h : SX P fn K N [.code c] (frOf 0 args) M) : Fn P f args M K := by
  refine ⟨fun w => hc _ w, fun w hM => calls_of_wp hf hb ?_⟩
  have hl' := Nat.le_of_ble_eq_true hl
  refine h _ w ⟨by simp [hn]; omega, rfl, fun t v hv => ?_, hM⟩
  obtain ⟨-, h2⟩ := frOf_look args 0 t v hv
  have hlt := (List.getElem?_eq_some_iff.1 h2).1
  simp only [Nat.sub_zero] at h2 hlt
  rw [List.getElem?_eq_getElem hlt] at h2
  simp [Array.getD_eq_getD_getElem?, Array.getElem?_append, hlt, Option.some.inj h2]
theorem Fn.sub {f : FuncId} {args : List Value} {M' : List Thing} (h : Fn P f args M' K) (s : Sub M M') : Fn P f args M K := ⟨h.call, fun w hM => h.runs w (hM.sub s)⟩
theorem Fn.mem {f : FuncId} {args : List Value} {M' : List Thing} (h : Fn P f args M' K) (s : ∀ w, Holds w M → Holds w M') : Fn P f args M K := ⟨h.call, fun w hM => h.runs w (s w hM)⟩
end
end Go.Proofs.YtanemmcddgkpdaaGreat.Sx
end
section
/- Go code walked by what is known of slots and memory: blocks of cells are made, read and written; strings; conditions: those that each theorem names. -/
namespace Go.Proofs.YtanemmcddgkpdaaGreat.Sx
open Go.RowKit Go.Proofs.YtanemmcddgkpdaaGreatW.PrintWords Go.Proofs.YtanemmcddgkpdaaGreatW.PrintLast Go.Proofs.YtanemmcddgkpdaaGreatW.PrintMore
set_option linter.unusedVariables false
set_option linter.unusedSimpArgs false
section
variable {P : Program} {fn : Func} {K : Ending → List Thing → Prop} {N : Nat} {k : List It} {a : Fr} {M R : List Thing} {ops : Array Oper} {rest : List Oper} {T : List (Nat × TI)}
variable {d : Nat} {op : Op} {ty : TypeId} {pos : String} {af : Array Edge}
def loadC (T : List (Nat × TI)) (t : Nat) (cs : List Value) (off : Nat) : Option Value := match lookT T t with
  | some ⟨s, g, _, _, _⟩ => match Nat.ble (off + s) cs.length with
    | true => partK g cs off s
    | false => none
  | none => none
theorem add_off (b off j : Nat) : (⟨b, off, none⟩ : Addr).add j = ⟨b, off + j, none⟩ := by unfold Addr.add; split <;> simp_all
theorem loadC_ok [hT : TOk P T] {t b off : Nat} {cs : List Value} {ty' : TypeId} {fr : Nat × Nat} {v : Value} {w : World} (hb : w.heap[b]? = some (.cells cs.toArray ty' fr)) (h : loadC T t cs off = some v) : (loadVar t ⟨b, off, none⟩).run P w = .ok v w := by
  unfold loadC at h
  split at h
  · rename_i s g z dd r hl
    split at h
    · rename_i hle
      have hle' := Nat.le_of_ble_eq_true hle
      have ht := tok (P := P) hl
      unfold partK at h
      cases g with
      | true =>
        dsimp only at h
        rw [subl_eq] at h
        obtain rfl := Option.some.inj h
        have hlen : ((cs.drop off).take s).length = s := by rw [List.length_take, List.length_drop]; omega
        have hl := run_loadCells_list (P := P) w ⟨b, off, none⟩ ((cs.drop off).take s) (fun j v hv => by
          rw [add_off, cells_cell hb, ← hv, List.getElem?_take_of_lt (by have := (List.getElem?_eq_some_iff.1 hv).1; omega), List.getElem?_drop])
        rw [hlen] at hl
        simp [loadVar, ht.agg, ht.size, hl]
      | false =>
        dsimp only at h
        rw [nthL_eq] at h
        have hc : w.cell? ⟨b, off, none⟩ = some v := by rw [cells_cell hb]; exact h
        simp [loadVar, ht.agg, hc]
    · cases h
  · cases h
theorem SXL.load [hT : TOk P T] {t b off : Nat} {x : Operand} {cs : List Value} {ty' : TypeId} {v : Value} (hx : evalO a x = some (.pointer (some ⟨b, off, none⟩))) (hat : At (some ⟨b, 0, none⟩) M (cellsR b cs ty') R)
    (h : loadC T t cs off = some v) (hd : Nat.blt d N = true) (hK : SXL P fn K N k ops rest ((d, v) :: a) M) : SXL P fn K N k ops (⟨some d, .load t x, ty, pos, af, none⟩ :: rest) a M :=
  SXL.val hd (fun act w s => by
    have hb := (s.holds.at_ hat).cells
    simp [execOp, evalO_ok s.fits hx, Instr.loadAt, Instr.sureAddr, loadC_ok (P := P) (T := T) hb h]) hK
theorem Evals.cell [hT : TOk P T] {t b off : Nat} {x : Tmp} {cs : List Value} {ty' : TypeId} {v : Value} {rs : List ResultVar} {vs : List Value} (hx : look a x = some (.pointer (some ⟨b, off, none⟩))) (hat : At (some ⟨b, 0, none⟩) M (cellsR b cs ty') R)
    (h : loadC T t cs off = some v) (hr : Evals P N a M rs vs) : Evals P N a M (.cell x t :: rs) (v :: vs) :=
  Evals.cons (fun act w s => by
    have hb := (s.holds.at_ hat).cells
    rw [resS, s.fits x _ hx]
    simp [asAddr, loadC_ok (P := P) (T := T) hb h]) hr
def ones : List Value → Bool
  | [] => true
  | .agg _ :: _ => false
  | .tuple _ :: _ => false
  | _ :: r => ones r
theorem ones_ok : ∀ {l : List Value}, ones l = true → ∀ v ∈ l, v.oneCell' = true
  | [], _, v, hv => by cases hv
  | u :: r, h, v, hv => by
    have hr : ones r = true ∧ u.oneCell' = true := by cases u <;> first | (exact ⟨h, rfl⟩) | (simp [ones] at h)
    rcases List.mem_cons.1 hv with rfl | hv
    · exact hr.2
    · exact ones_ok hr.1 v hv
def storeC (T : List (Nat × TI)) (t : Nat) (cs : List Value) (off : Nat) (v : Value) : Option (List Value) := match lookT T t with
  | some ⟨s, _, _, _, _⟩ => match Nat.ble (off + s) cs.length, Nat.beq v.cells.size s, ones v.cells.toList with
    | true, true, true => putAt cs off v.cells.toList some
    | _, _, _ => none
  | none => none
theorem ins_eq (cs : List Value) : ∀ (off : Nat) (vs : List Value), off + vs.length ≤ cs.length → ins cs off vs = cs.take off ++ vs ++ cs.drop (off + vs.length) := by
  induction cs with
  | nil => intro off vs h; have : vs = [] := by cases vs with | nil => rfl | cons v vs => simp at h
           subst this; simp [ins]
  | cons c cs ih =>
    intro off vs h
    cases off with
    | zero => cases vs with
      | nil => simp [ins]
      | cons v vs => rw [ins_zero_cons, ih 0 vs (by simp at h ⊢; omega)]; simp
    | succ n => rw [ins_succ, ih n vs (by simp at h ⊢; omega)]; simp [Nat.add_right_comm]
theorem storeC_ok [hT : TOk P T] {t b off : Nat} {cs cs' : List Value} {ty' : TypeId} {v : Value} {w : World} (hb : w.heap[b]? = some (.cells cs.toArray ty' (0, 0))) (h : storeC T t cs off v = some cs') :
    (storeVar t ⟨b, off, none⟩ v).run P w = .ok () (w.setRow b cs'.toArray) := by
  unfold storeC at h
  split at h
  · rename_i s g z dd r hl
    split at h
    · rename_i h1 h2 h3
      have h1' := Nat.le_of_ble_eq_true h1
      have h2' := Nat.eq_of_beq_eq_true h2
      have ht := tok (P := P) hl
      rw [putAt_eq] at h
      obtain rfl := Option.some.inj h
      have hlen : v.cells.toList.length = s := by simpa using h2'
      have hs := run_storeCells_at (P := P) b off ty' v.cells.toList 0 cs.toArray w hb (by rw [hlen]; simpa using h1') (ones_ok h3)
      rw [Nat.add_zero] at hs
      rw [ins_eq cs off _ (by rw [hlen]; exact h1')]
      simp only [storeVar, Sem.run_bind, ht.size, Result.andThen_ok, h2', ne_eq, not_true_eq_false, if_false]
      simpa using hs
    · cases h
  · cases h
theorem setRow_other (w : World) (g k : Nat) (cs : Array Value) (h : k ≠ g) : (w.setRow g cs).heap[k]? = w.heap[k]? := by
  simp [World.setRow, Array.getElem?_modify, Ne.symm h]
theorem setRow_size (w : World) (g : Nat) (cs : Array Value) : (w.setRow g cs).heap.size = w.heap.size := by simp [World.setRow]
theorem Holds.row {w : World} {key : Option Addr} {b : Nat} {cs cs' : List Value} {t : TypeId} (h : Holds w (.own key (cellsR b cs t) :: M)) : Holds (w.setRow b cs'.toArray) (.own key (cellsR b cs' t) :: M) := by
  refine h.act (fun S hS hr => ⟨⟨rfl, rfl, rfl⟩, by rw [setRow_size]; exact Nat.le_refl _, fun k hk hn => setRow_other w b k _ (fun e => hn (e ▸ hr.1)), S, fun k hk => ⟨.inl hk, by rw [setRow_size]; exact hS k hk⟩, hr.1, ?_⟩)
  exact setRow_heap w b _ _ t (0, 0) hr.2
theorem SXL.store [hT : TOk P T] {t b off : Nat} {x y : Operand} {cs cs' : List Value} {ty' : TypeId} {v : Value} (hx : evalO a x = some (.pointer (some ⟨b, off, none⟩))) (hy : evalO a y = some v) (hat : At (some ⟨b, 0, none⟩) M (cellsR b cs ty') R)
    (h : storeC T t cs off v = some cs') (hK : SXL P fn K N k ops rest a (.own (some ⟨b, 0, none⟩) (cellsR b cs' ty') :: R)) : SXL P fn K N k ops (⟨none, .store t x y, ty, pos, af, none⟩ :: rest) a M :=
  SXL.step rfl (fun act w s => by
    have hb := s.holds.at_ hat
    have hr : (execOp act.eval ⟨none, .store t x y, ty, pos, af, none⟩).run P w = .ok .skip (w.setRow b cs'.toArray) := by
      simp [execOp, evalO_ok s.fits hx, evalO_ok s.fits hy, Instr.storeAt, Instr.sureAddr, storeC_ok (P := P) (T := T) hb.cells h]
    unfold Oper.wp
    rw [hr]
    exact hK _ _ (s.keep hb.row))
def zeroC (T : List (Nat × TI)) (t : Nat) : Option (List Value) := match lookT T t with
  | some ⟨_, _, z, _, _⟩ => copyL z.cells.toList some
  | none => none
theorem SXL.alloc [hT : TOk P T] {t : Nat} {cs : List Value} (h : zeroC T t = some cs) (hd : Nat.blt d N = true)
    (hK : ∀ b, SXL P fn K N k ops rest ((d, .pointer (some ⟨b, 0, none⟩)) :: a) (.own (some ⟨b, 0, none⟩) (cellsR b cs t) :: M)) : SXL P fn K N k ops (⟨some d, .alloc t, ty, pos, af, none⟩ :: rest) a M :=
  SXL.step rfl (fun act w s => by
    unfold zeroC at h
    split at h
    · rename_i sz g z dd r hl
      rw [copyL_eq] at h
      obtain rfl := Option.some.inj h
      have ht := tok (P := P) hl
      have hr : (execOp act.eval ⟨some d, .alloc t, ty, pos, af, none⟩).run P w = .ok (.value (.pointer (some ⟨w.heap.size, 0, none⟩))) (w.alloc (.cells z.cells t)) := by
        simp [execOp, Instr.alloc, ht.zero, newVar, newRow]
      unfold Oper.wp
      rw [hr]
      exact hK w.heap.size _ _ (s.put hd (s.holds.alloc z.cells t))
    · cases h)
theorem SXL.box {t : Nat} {x : Operand} {v : Value} {cs : List Value} (hx : evalO a x = some v) (hcs : copyL v.cells.toList some = some cs) (hd : Nat.blt d N = true)
    (hK : ∀ b, SXL P fn K N k ops rest ((d, .pointer (some ⟨b, 0, none⟩)) :: a) (.own (some ⟨b, 0, none⟩) (cellsR b cs t) :: M)) : SXL P fn K N k ops (⟨some d, .box t x, ty, pos, af, none⟩ :: rest) a M :=
  SXL.step rfl (fun act w s => by
    rw [copyL_eq] at hcs
    obtain rfl := Option.some.inj hcs
    have hr : (execOp act.eval ⟨some d, .box t x, ty, pos, af, none⟩).run P w = .ok (.value (.pointer (some ⟨w.heap.size, 0, none⟩))) (w.alloc (.cells v.cells t)) := by
      simp [execOp, Instr.box, evalO_ok s.fits hx, newVar, newRow]
    unfold Oper.wp
    rw [hr]
    exact hK w.heap.size _ _ (s.put hd (s.holds.alloc v.cells t)))
/-- What a slice literal's elements hold. -/
def litK (a : Fr) (s : Nat) : List Value → List (Nat × Operand) → Option (List Value)
  | cells, [] => copyL cells some
  | cells, (i, x) :: rest => match evalO a x with
    | some v => match Nat.beq v.cells.size s, Nat.ble (i * s + s) cells.length with
      | true, true => putAt cells (i * s) v.cells.toList (fun cs => litK a s cs rest)
      | _, _ => none
    | none => none
theorem litK_ok {act : Act} (h : Fits a act.tmps) (s : Nat) : ∀ (parts : List (Nat × Operand)) (cells out : List Value), litK a s cells parts = some out →
    Instr.fill (fun i => some (i * s, s)) cells.toArray (parts.map fun p => (p.1, act.eval p.2)) = some out.toArray := by
  intro parts
  induction parts with
  | nil =>
    intro cells out ho
    rw [litK, copyL_eq] at ho
    obtain rfl := Option.some.inj ho
    rfl
  | cons p rest ih =>
    obtain ⟨i, x⟩ := p
    intro cells out ho
    unfold litK at ho
    cases hx : evalO a x with
    | none => rw [hx] at ho; cases ho
    | some v =>
      rw [hx] at ho
      dsimp only at ho
      cases h1 : Nat.beq v.cells.size s with
      | false => rw [h1] at ho; cases ho
      | true =>
        cases h2 : Nat.ble (i * s + s) cells.length with
        | false => rw [h1, h2] at ho; cases ho
        | true =>
          rw [h1, h2] at ho
          dsimp only at ho
          rw [putAt_eq] at ho
          have h1' := Nat.eq_of_beq_eq_true h1
          have h2' := Nat.le_of_ble_eq_true h2
          have := ih _ _ ho
          simp only [List.map_cons, evalO_ok h hx, Instr.fill]
          rw [if_neg (by simp only [bne_iff_ne, ne_eq, Bool.or_eq_true, decide_eq_true_eq, not_or]; exact ⟨fun hh => hh h1', by simp; omega⟩)]
          rw [← this]
          congr 1
          have hz := fold_ins v.cells.toList (i * s) 0 cells.toArray
          rw [Nat.add_zero] at hz
          rw [← hz, ← Array.foldl_toList]
          simp
/-- n times the cells of a zero. -/
def repC (z : List Value) : Nat → List Value
  | 0 => []
  | n + 1 => z ++ repC z n
theorem repC_length (z : List Value) : ∀ n, (repC z n).length = n * z.length
  | 0 => by simp [repC]
  | n + 1 => by rw [repC, List.length_append, repC_length z n, Nat.succ_mul]; omega
theorem repC_get (z : List Value) : ∀ n j, j < n * z.length → (repC z n)[j]? = z[j % z.length]?
  | 0, j, h => by simp at h
  | n + 1, j, h => by
    rw [repC]
    rcases Nat.lt_or_ge j z.length with hj | hj
    · rw [List.getElem?_append_left hj, Nat.mod_eq_of_lt hj]
    · rw [List.getElem?_append_right hj, repC_get z n (j - z.length) (by rw [Nat.succ_mul] at h; omega), Nat.mod_eq_sub_mod hj]
theorem repC_range (z : Array Value) (n s : Nat) (hs : z.size = s) : (Array.range (n * s)).map (z[· % z.size]!) = (repC z.toList n).toArray := by
  apply Array.ext'
  apply List.ext_getElem?
  intro j
  subst hs
  rcases Nat.lt_or_ge j (n * z.size) with hj | hj
  · have h1 := repC_get z.toList n j (by simpa using hj)
    have hz : 0 < z.size := by rcases Nat.eq_zero_or_pos z.size with h | h
                               · rw [h] at hj; simp at hj
                               · exact h
    have hm : j % z.size < z.size := Nat.mod_lt _ hz
    simp only [Array.length_toList] at h1
    rw [show (repC z.toList n).toArray.toList[j]? = (repC z.toList n)[j]? from rfl, h1]
    simp [hj, hm]
  · have h1 := repC_length z.toList n
    simp only [Array.length_toList] at h1
    rw [List.getElem?_eq_none (by simpa using hj), show (repC z.toList n).toArray.toList[j]? = (repC z.toList n)[j]? from rfl, List.getElem?_eq_none (by omega)]
def litC (T : List (Nat × TI)) (a : Fr) (t len : Nat) (parts : List (Nat × Operand)) : Option (List Value × TypeId) := match lookT T t with
  | some ⟨_, _, _, .slice e, _⟩ => match lookT T e with
    | some ⟨s, _, z, _, _⟩ => match Nat.ble (len * s) 16777216, Nat.blt 0 (len * s), Nat.beq z.cells.size s with
      | true, true, true => match litK a s (repC z.cells.toList len) parts with
        | some cs => some (cs, e)
        | none => none
      | _, _, _ => none
    | none => none
  | _ => none
theorem SXL.lit [hT : TOk P T] {t len : Nat} {parts : Array (Nat × Operand)} {cs : List Value} {e : TypeId} (h : litC T a t len parts.toList = some (cs, e)) (hd : Nat.blt d N = true)
    (hK : ∀ b, SXL P fn K N k ops rest ((d, .slice (some ⟨b, 0, none⟩) len len) :: a) (.own (some ⟨b, 0, none⟩) (cellsR b cs e) :: M)) : SXL P fn K N k ops (⟨some d, .buildSlice t len parts, ty, pos, af, none⟩ :: rest) a M :=
  SXL.step rfl (fun act w st => by
    unfold litC at h
    split at h
    · rename_i sz g z0 e0 r hl
      split at h
      · rename_i s g2 z dd r2 hl2
        split at h
        · rename_i h1 h2 h3
          split at h
          · rename_i cs0 hk
            have h9 := Option.some.inj h
            simp only [Prod.mk.injEq] at h9
            obtain ⟨rfl, rfl⟩ := h9
            have ht := tok (P := P) hl
            have ht2 := tok (P := P) hl2
            have h1' := Nat.le_of_ble_eq_true h1
            have h2' : 0 < len * s := Nat.le_of_ble_eq_true h2
            have h3' := Nat.eq_of_beq_eq_true h3
            have hf := litK_ok st.fits s _ _ _ hk
            have hrg := repC_range z.cells len s h3'
            have hr : (execOp act.eval ⟨some d, .buildSlice t len parts, ty, pos, af, none⟩).run P w = .ok (.value (.slice (some ⟨w.heap.size, 0, none⟩) len len)) (w.alloc (.cells cs0.toArray e0)) := by
              have hne : ¬ (len * s = 0) := by omega
              have hgt : ¬ (2 ^ 24 < len * s) := by omega
              have hp : (parts.map fun x => (x.1, act.eval x.2)).toList = parts.toList.map (fun p => (p.1, act.eval p.2)) := by simp
              simp only [execOp, Instr.buildSlice, Sem.run_bind, ht.desc, ht2.size, Result.andThen_ok, gt_iff_lt, if_neg hgt, if_neg hne, ht2.zero, Sem.run_pure, hrg, hp]
              rw [hf]
              simp [newRow]
            unfold Oper.wp
            rw [hr]
            exact hK w.heap.size _ _ (st.put hd (st.holds.alloc cs0.toArray e0))
          · cases h
        · cases h
      · cases h
    · cases h)
/-! ### strings -/
theorem run_sliceBound (P : Program) (w : World) (ik : IntKind) (z : Int) (y : Nat) (code : BoundsCode) (h0 : 0 ≤ z) (h1 : z ≤ (y : Int)) : (Instr.sliceBound (.int ik z) y code).run P w = .ok z.toNat w := by
  simp [Instr.sliceBound, asIntOf, h0, h1]
def boundLo (a : Fr) : Option Operand → Option Int
  | none => some 0
  | some x => match evalO a x with
    | some (.int _ z) => some z
    | _ => none
def boundHi (a : Fr) (n : Int) : Option Operand → Option Int
  | none => some n
  | some x => match evalO a x with
    | some (.int _ z) => some z
    | _ => none
theorem boundLo_ok {lo : Option Operand} {l : Int} (h : boundLo a lo = some l) : (lo = none ∧ l = 0) ∨ ∃ x ik, lo = some x ∧ evalO a x = some (.int ik l) := by
  cases lo with
  | none => exact .inl ⟨rfl, (Option.some.inj h).symm⟩
  | some x =>
    simp only [boundLo] at h
    split at h
    · rename_i ik z hz
      obtain rfl := Option.some.inj h
      exact .inr ⟨x, ik, rfl, hz⟩
    · cases h
theorem boundHi_ok {hi : Option Operand} {n l : Int} (h : boundHi a n hi = some l) : (hi = none ∧ l = n) ∨ ∃ x ik, hi = some x ∧ evalO a x = some (.int ik l) := by
  cases hi with
  | none => exact .inl ⟨rfl, (Option.some.inj h).symm⟩
  | some x =>
    simp only [boundHi] at h
    split at h
    · rename_i ik z hz
      obtain rfl := Option.some.inj h
      exact .inr ⟨x, ik, rfl, hz⟩
    · cases h
theorem bounds_run (P : Program) {act : Act} (hf : Fits a act.tmps) {lo hi : Option Operand} {l h : Int} {n c : Nat} (isS : Bool) (hlo : boundLo a lo = some l) (hhi : boundHi a (n : Int) hi = some h) (hnc : n ≤ c)
    (h0 : 0 ≤ l) (h1 : l ≤ h) (h2 : h ≤ (c : Int)) (w : World) : (Instr.sliceBounds isS n c (lo.map act.eval) (hi.map act.eval) none).run P w = .ok (l.toNat, h.toNat, c) w := by
  unfold Instr.sliceBounds
  rcases boundLo_ok hlo with ⟨rfl, rfl⟩ | ⟨x, ik, rfl, hx⟩ <;> rcases boundHi_ok hhi with ⟨rfl, rfl⟩ | ⟨y, ik2, rfl, hy⟩
  · simp
  · simp [evalO_ok hf hy, run_sliceBound P w ik2 h c _ (by omega) h2]
  · simp [evalO_ok hf hx, run_sliceBound P w ik l n _ h0 h1]
  · simp [evalO_ok hf hx, evalO_ok hf hy, run_sliceBound P w ik2 h c _ (by omega) h2, run_sliceBound P w ik l h.toNat _ h0 (by omega)]
/-- A part of a slice. -/
theorem SXL.cut [hT : TOk P T] {t e : Nat} {x : Operand} {lo hi : Option Operand} {A : Option Addr} {n c : Nat} {l h : Int} {ti te : TI} (hx : evalO a x = some (.slice A n c)) (hl : lookT T t = some ti) (hs : ti.desc = .slice e) (he : lookT T e = some te) (hlo : boundLo a lo = some l) (hhi : boundHi a (n : Int) hi = some h)
    (hnc : n ≤ c) (h0 : 0 ≤ l) (h1 : l ≤ h) (h2 : h ≤ (c : Int)) (hd : Nat.blt d N = true)
    (hK : SXL P fn K N k ops rest ((d, .slice (if c = l.toNat then A else A.map (·.add (l.toNat * te.size))) (h.toNat - l.toNat) (c - l.toNat)) :: a) M) : SXL P fn K N k ops (⟨some d, .slice t x lo hi none, ty, pos, af, none⟩ :: rest) a M :=
  SXL.val hd (fun act w st => by
    have hdd := (tok (P := P) hl).desc
    rw [hs] at hdd
    have hb := bounds_run P st.fits (n := n) (c := c) true hlo hhi hnc h0 h1 h2 w
    simp only [execOp, evalO_ok st.fits hx, Instr.sliceAt, Sem.run_bind, hdd, Result.andThen_ok, Instr.slice, Option.map_none]
    simp [hb, (tok (P := P) he).size]) hK
end
end Go.Proofs.YtanemmcddgkpdaaGreat.Sx
end
section
/- Go code walked by what is known of slots and memory: a statement whose operations may come in more than one order; conditions: those that each theorem names. -/
namespace Go.Proofs.YtanemmcddgkpdaaGreat.Sx
open Go.RowKit Go.Proofs.YtanemmcddgkpdaaGreatW.PrintWords Go.Proofs.YtanemmcddgkpdaaGreatW.PrintLast Go.Proofs.YtanemmcddgkpdaaGreatW.PrintMore
set_option linter.unusedVariables false
set_option linter.unusedSimpArgs false
class Mixed (P : Program) : Prop where
  ok : P.follows .mixedOrders = true
section
variable {P : Program} {fn : Func} {K : Ending → List Thing → Prop} {N : Nat} {k : List It} {a : Fr} {M M0 R : List Thing} {ops : Array Oper} {rest : List Oper} {T : List (Nat × TI)}
variable {d : Nat} {op : Op} {ty : TypeId} {pos : String} {af : Array Edge} {ds : List Nat} {fuel : Nat} {l : Array Bool}
/-- From here on, whatever order is picked, all ends as K says; what M0 says holds behind each operation but those of ds. -/
def SXA (P : Program) (fn : Func) (K : Ending → List Thing → Prop) (N : Nat) (k : List It) (ops : Array Oper) (M0 : List Thing) (ds : List Nat) (fuel : Nat) (l : Array Bool) (a : Fr) (M : List Thing) : Prop :=
  ∀ act w, St N a M act w → wpAnyLast P .any ops (Post P fn K k) (fun w => Holds w M0) ds fuel l act w
theorem Post_panic_iff {act : Act} {w : World} {ch : List PanicEntry} : ∀ {k : List It}, Post P fn K k (.panic ch) act w ↔ bodyPost P fn (RK K) (.panic ch) act w
  | [] => Iff.rfl
  | .code _ :: k => Post_panic_iff (k := k)
  | .block _ :: k => Post_panic_iff (k := k)
  | .again _ :: k => Post_panic_iff (k := k)
theorem panic_put {dst : Option Tmp} {v : Value} (c : List PanicEntry) (act : Act) (w : World) (h : Post P fn K k (.panic c) (act.put dst v) w) : Post P fn K k (.panic c) act w := by
  rw [Post_panic_iff] at h ⊢
  refine ⟨?_, h.2⟩
  have := h.1
  cases dst <;> exact this
theorem Holds.drew {w : World} (h : Holds w M) : Holds { w with drawn := w.drawn + 1 } M := by
  obtain ⟨I, hI, hL⟩ := h
  exact ⟨I, hI, HoldsU.move (w := w) (w' := { w with drawn := w.drawn + 1 }) ⟨rfl, rfl, rfl⟩ (fun _ _ _ => rfl) hL (fun _ _ _ => rfl)⟩
theorem SXA.begin [hm : Mixed P] {id : Nat} {lo : List Oper} (M0 : List Thing) (ds : List Nat) (h : SXA P fn K N k lo.toArray M0 ds lo.length (Array.replicate lo.length false) a M) : SX P fn K N (.code (.region id lo.toArray true) :: k) a M :=
  fun act w s => wp_region_last (ds := ds) hm.ok (by simpa using h act _ ⟨s.1, s.2.1, s.2.2.1, s.holds.drew⟩)
theorem SXA.done (hr : (Region.ready .any ops l == []) = true) (h : SX P fn K N k a M) : SXA P fn K N k ops M0 ds fuel l a M := fun act w s => done_ hr (h act w s)
/-- Is a guard met, as far as that is known? -/
def guardB (ops : Array Oper) (a : Fr) : Option (Nat × Bool) → Option Bool
  | none => some true
  | some (j, w) => match (ops[j]?).bind (·.dst) with
    | some s => match look a s, w with
      | some (.bool c), true => some c
      | some (.bool c), false => some (!c)
      | some (.tuple vs), _ => match vs.toList with
        | [] => some false
        | _ :: _ => none
      | _, _ => none
    | none => none
theorem guardB_ok {g : Option (Nat × Bool)} {o : Oper} {act : Act} {w : World} {b : Bool} (h : guardB ops a g = some b) (s : St N a M act w) (hg : o.guard = g) : Region.wanted o (yielded ops act.tmps) = b := by
  unfold guardB at h
  split at h
  · obtain rfl := Option.some.inj h; simp [Region.wanted, hg]
  · rename_i j w'
    split at h
    · rename_i t ht
      split at h
      · rename_i c hv
        obtain rfl := Option.some.inj h
        simp [Region.wanted, hg, yields s ht hv]
      · rename_i c hv
        obtain rfl := Option.some.inj h
        cases c <;> simp [Region.wanted, hg, yields s ht hv]
      · rename_i vs hv
        split at h
        · rename_i hvs
          obtain rfl := Option.some.inj h
          have hvs' : vs = #[] := by apply Array.ext'; simpa using hvs
          subst hvs'
          simp [Region.wanted, hg, unyielded s ht hv]
        · cases h
      · cases h
    · cases h
theorem SXA.pure [hT : TOk P T] (i : Nat) {v : Value} {g : Option (Nat × Bool)} (hi : ops[i]? = some ⟨some d, op, ty, pos, af, g⟩) (hc : anyB .any ops l (l.setIfInBounds i true) i = true) (hg : guardB ops a g = some true) (h : pureOp T a op = some v) (hd : Nat.blt d N = true)
    (hK : SXA P fn K N k ops M0 ds fuel (l.setIfInBounds i true) ((d, v) :: a) M) : SXA P fn K N k ops M0 ds (fuel + 1) l a M :=
  fun act w s => pure_ _ hi rfl hc panic_put (.inl ⟨guardB_ok hg s rfl, fun w => pureOp_ok (o := ⟨some d, op, ty, pos, af, g⟩) s.fits h w⟩) rfl (hK _ _ (s.put hd s.holds))
theorem SXA.skip (i : Nat) {g : Option (Nat × Bool)} (hi : ops[i]? = some ⟨some d, op, ty, pos, af, g⟩) (hc : anyB .any ops l (l.setIfInBounds i true) i = true) (hg : guardB ops a g = some false) (hd : Nat.blt d N = true)
    (hK : SXA P fn K N k ops M0 ds fuel (l.setIfInBounds i true) ((d, undef) :: a) M) : SXA P fn K N k ops M0 ds (fuel + 1) l a M :=
  fun act w s => pure_ _ hi rfl hc panic_put (.inr ⟨guardB_ok hg s rfl, rfl⟩) rfl (hK _ _ (s.put hd s.holds))
/-- Any operation that yields the same wherever M0 holds. -/
theorem SXA.val (i : Nat) {v : Value} {g : Option (Nat × Bool)} (hi : ops[i]? = some ⟨some d, op, ty, pos, af, g⟩) (hc : takeB .any ops ds l (l.setIfInBounds i true) i = true) (hg : guardB ops a g = some true) (h : ∀ act w, St N a M act w → ∀ w', Holds w' M0 → (execOp act.eval ⟨some d, op, ty, pos, af, g⟩).run P w' = .ok (.value v) w') (hd : Nat.blt d N = true) (hM : Sub M M0)
    (hK : SXA P fn K N k ops M0 ds fuel (l.setIfInBounds i true) ((d, v) :: a) M) : SXA P fn K N k ops M0 ds (fuel + 1) l a M :=
  fun act w s => take_ _ hi rfl hc panic_put (.inl ⟨guardB_ok hg s rfl, h act w s⟩) (s.holds.sub hM) rfl (hK _ _ (s.put hd s.holds))
theorem SXA.load [hT : TOk P T] (i : Nat) {t b off : Nat} {x : Operand} {cs : List Value} {ty' : TypeId} {v : Value} {g : Option (Nat × Bool)} (hi : ops[i]? = some ⟨some d, .load t x, ty, pos, af, g⟩) (hc : takeB .any ops ds l (l.setIfInBounds i true) i = true) (hg : guardB ops a g = some true) (hx : evalO a x = some (.pointer (some ⟨b, off, none⟩))) (hat : At (some ⟨b, 0, none⟩) M0 (cellsR b cs ty') R)
    (h : loadC T t cs off = some v) (hd : Nat.blt d N = true) (hM : Sub M M0) (hK : SXA P fn K N k ops M0 ds fuel (l.setIfInBounds i true) ((d, v) :: a) M) : SXA P fn K N k ops M0 ds (fuel + 1) l a M :=
  SXA.val i hi hc hg (fun act w s w' hw' => by
    have hb := (hw'.at_ hat).cells
    simp [execOp, evalO_ok s.fits hx, Instr.loadAt, Instr.sureAddr, loadC_ok (P := P) (T := T) hb h]) hd hM hK
theorem SXA.know (s : Nat) (v' : Bool) {b : Bool} (hv : look a s = some (.bool b)) (hb : b = v') (h : SXA P fn K N k ops M0 ds fuel l ((s, .bool v') :: a) M) : SXA P fn K N k ops M0 ds fuel l a M := by
  subst hb
  exact fun act w st => h act w ⟨st.1, st.2.1, st.fits.again hv, st.holds⟩
theorem SXA.same (s : Nat) (v' : Value) {v : Value} (hv : look a s = some v) (hb : v = v') (h : SXA P fn K N k ops M0 ds fuel l ((s, v') :: a) M) : SXA P fn K N k ops M0 ds fuel l a M := by
  subst hb
  exact fun act w st => h act w ⟨st.1, st.2.1, st.fits.again hv, st.holds⟩
/-- What an operation that is carried out hands on. -/
def AJ (P : Program) (fn : Func) (K : Ending → List Thing → Prop) (k : List It) (ops : Array Oper) (M0 : List Thing) (ds : List Nat) (i fuel : Nat) (l : Array Bool) : Act → World → Prop :=
  fun act w => (i ∉ ds → Holds w M0) ∧ wpAnyLast P .any ops (Post P fn K k) (fun w => Holds w M0) ds fuel l act w
theorem upon_then {o : Oper} {act : Act} {J : Act → World → Prop} {Q : Exit → Act → World → Prop} {r : Result Next} (h : o.upon P act J (Exit.then J Q) r) : o.upon P act J Q r := by
  cases r with
  | ok n w' =>
    cases n with
    | enter f args =>
      simp only [Oper.upon] at h ⊢
      refine h.mono ?_
      intro e w'' he
      cases e with
      | returned v => exact he
      | panicked c => exact he
      | outgrown => exact he
    | _ => exact h
  | halt x w' => cases x <;> exact h
theorem wpOp_of {i : Nat} {o : Oper} {act : Act} {w : World} {J : Act → World → Prop} {Q : Exit → Act → World → Prop} (hi : ops[i]? = some o) (h : wpList P ops (Exit.then J Q) [o] act w) : wpOp P ops Q i J act w := by
  unfold wpOp
  rw [hi]
  unfold wpList at h
  dsimp only
  by_cases hw : Region.wanted o (yielded ops act.tmps) = true
  · rw [if_pos hw] at h ⊢
    refine h.imp (fun h => ?_) (fun h => ⟨h.1, ?_⟩)
    · exact upon_then (J := J) h
    · obtain ⟨a0, w0, h0⟩ := h.2
      exact ⟨a0, w0, h0⟩
  · rw [if_neg hw] at h ⊢
    exact h
def Each (P : Program) (fn : Func) (K : Ending → List Thing → Prop) (N : Nat) (k : List It) (ops : Array Oper) (M0 : List Thing) (ds : List Nat) (fuel : Nat) (l : Array Bool) (a : Fr) (M : List Thing) (rs : List Nat) : Prop :=
  ∀ i ∈ rs, ∃ o, ops[i]? = some o ∧ SXL P fn K N (.again (AJ P fn K k ops M0 ds i fuel (l.setIfInBounds i true)) :: k) ops [o] a M
theorem Each.nil : Each P fn K N k ops M0 ds fuel l a M [] := fun _ h => by cases h
theorem Each.cons {i : Nat} {o : Oper} {rs : List Nat} (hi : ops[i]? = some o) (h : SXL P fn K N (.again (AJ P fn K k ops M0 ds i fuel (l.setIfInBounds i true)) :: k) ops [o] a M) (hr : Each P fn K N k ops M0 ds fuel l a M rs) : Each P fn K N k ops M0 ds fuel l a M (i :: rs) := fun j hj => by
  rcases List.mem_cons.1 hj with rfl | hj
  · exact ⟨o, hi, h⟩
  · exact hr j hj
theorem SXA.all (rs : List Nat) (hr : (Region.ready .any ops l == rs && !rs.isEmpty) = true) (h : Each P fn K N k ops M0 ds fuel l a M rs) : SXA P fn K N k ops M0 ds (fuel + 1) l a M := by
  simp only [Bool.and_eq_true, beq_iff_eq, Bool.not_eq_true', List.isEmpty_eq_false_iff] at hr
  intro act w s
  refine wpAnyLast_all hr.1 hr.2 (fun i hi => ?_)
  obtain ⟨o, ho, hs⟩ := h i hi
  exact wpOp_mono (fun a' w' hq => ⟨fun hn _ => hq.1 hn, hq.2⟩) (wpOp_of ho (hs act w s))
theorem SXA.one (i : Nat) {o : Oper} (hr : (Region.ready .any ops l == [i] && !([i] : List Nat).isEmpty) = true) (hi : ops[i]? = some o) (h : SXL P fn K N (.again (AJ P fn K k ops M0 ds i fuel (l.setIfInBounds i true)) :: k) ops [o] a M) : SXA P fn K N k ops M0 ds (fuel + 1) l a M :=
  SXA.all [i] hr (Each.cons hi h Each.nil)
theorem SXA.next {i : Nat} (hM : Sub M M0) (h : SXA P fn K N k ops M0 ds fuel l a M) : SX P fn K N (.again (AJ P fn K k ops M0 ds i fuel l) :: k) a M :=
  fun act w s => ⟨fun _ => s.holds.sub hM, h act w s⟩
theorem SXA.nextLast {i : Nat} (hi : ds.contains i = true) (h : SXA P fn K N k ops M0 ds fuel l a M) : SX P fn K N (.again (AJ P fn K k ops M0 ds i fuel l) :: k) a M :=
  fun act w s => ⟨fun hn => absurd (by simpa using hi) hn, h act w s⟩
theorem SXA.sub {a' : Fr} {M' : List Thing} (h : SXA P fn K N k ops M0 ds fuel l a' M') (ha : SubF a' a) (hM : Sub M M') : SXA P fn K N k ops M0 ds fuel l a M :=
  fun act w s => h act w ⟨s.1, s.2.1, s.fits.sub ha, s.holds.sub hM⟩
/-- A store that alone may come up. -/
theorem SXA.store [hT : TOk P T] (i : Nat) {t b off : Nat} {x y : Operand} {cs cs' : List Value} {ty' : TypeId} {v : Value} (hi : ops[i]? = some ⟨none, .store t x y, ty, pos, af, none⟩) (hr : (Region.ready .any ops l == [i] && !([i] : List Nat).isEmpty) = true)
    (hx : evalO a x = some (.pointer (some ⟨b, off, none⟩))) (hy : evalO a y = some v) (hat : At (some ⟨b, 0, none⟩) M (cellsR b cs ty') R) (h : storeC T t cs off v = some cs') (hM : Sub (.own (some ⟨b, 0, none⟩) (cellsR b cs' ty') :: R) M0)
    (hK : SXA P fn K N k ops M0 ds fuel (l.setIfInBounds i true) a (.own (some ⟨b, 0, none⟩) (cellsR b cs' ty') :: R)) : SXA P fn K N k ops M0 ds (fuel + 1) l a M :=
  SXA.one i hr hi (SXL.store hx hy hat h (SXL.nil (SXA.next hM hK)))
theorem SXA.storeLast [hT : TOk P T] (i : Nat) {t b off : Nat} {x y : Operand} {cs cs' : List Value} {ty' : TypeId} {v : Value} (hi : ops[i]? = some ⟨none, .store t x y, ty, pos, af, none⟩) (hr : (Region.ready .any ops l == [i] && !([i] : List Nat).isEmpty) = true)
    (hx : evalO a x = some (.pointer (some ⟨b, off, none⟩))) (hy : evalO a y = some v) (hat : At (some ⟨b, 0, none⟩) M (cellsR b cs ty') R) (h : storeC T t cs off v = some cs') (hd : ds.contains i = true)
    (hK : SXA P fn K N k ops M0 ds fuel (l.setIfInBounds i true) a (.own (some ⟨b, 0, none⟩) (cellsR b cs' ty') :: R)) : SXA P fn K N k ops M0 ds (fuel + 1) l a M :=
  SXA.one i hr hi (SXL.store hx hy hat h (SXL.nil (SXA.nextLast hd hK)))
end
end Go.Proofs.YtanemmcddgkpdaaGreat.Sx
end
section
/- Go code walked by what is known of slots and memory: rows of elements, read and appended to; contracts of a world turned into contracts of what is known; conditions: those that each theorem names. -/
namespace Go.Proofs.YtanemmcddgkpdaaGreat.Sx
open Go.RowKit Go.Proofs.YtanemmcddgkpdaaGreatW.PrintWords Go.Proofs.YtanemmcddgkpdaaGreatW.PrintLast Go.Proofs.YtanemmcddgkpdaaGreatW.PrintMore
set_option linter.unusedVariables false
set_option linter.unusedSimpArgs false
/-- A row that stays. -/
def roR {α : Type} (d : Kd α) (A : Option Addr) (xs : List α) : Res where
  P := fun w S => Kd.F d w S A xs.length xs
  mono := fun h hs => Kd.F_mono h hs
  loc := fun h _ hs => Kd.F_step h (fun k hk hlt => hs k hk hlt)
/-- A row of the call's own. -/
def rowR {α : Type} (d : Kd α) (e : TypeId) (v : Value) (xs : List α) : Res where
  P := fun w S => d.R e w 0 S v xs
  mono := fun h hs => Kd.R_mono h hs
  loc := fun h _ hs => Kd.R_step h (fun k hk hlt => hs k hk hlt)
/-- What is read at an address. -/
class Ro {α : Type} (d : Kd α) (A : Option Addr) (M : List Thing) (xs : outParam (List α)) : Prop where
  h : ∀ w I U, HoldsU w I M U → ∃ S, d.C w A xs.length xs ∧ Kd.F d w S A xs.length xs ∧ ∀ k, S k → I k ∨ U k
instance (priority := low) Ro.there {α : Type} {d : Kd α} {A : Option Addr} {x : Thing} {M : List Thing} {xs : List α} [a : Ro d A M xs] : Ro d A (x :: M) xs := ⟨fun w I U h => a.h w I U h.tail⟩
instance (priority := high) Ro.here {α : Type} {d : Kd α} {A : Option Addr} {M : List Thing} {xs : List α} : Ro d A (.per (roR d A xs) :: M) xs := ⟨fun w I U h => ⟨I, Kd.F_now h.1, h.1, fun _ h => .inl h⟩⟩
instance (priority := high) Ro.own {α : Type} {d : Kd α} {A : Option Addr} {key : Option Addr} {e : TypeId} {n c : Nat} {M : List Thing} {xs : List α} : Ro d A (.own key (rowR d e (.slice A n c) xs) :: M) xs := ⟨fun w I U h => by
  obtain ⟨S, hS, hr, hL⟩ := h
  have hf := Kd.R_F hr
  have h2 := Kd.R_reads' hr
  rw [h2.1] at hf
  exact ⟨S, h2.2.2, hf, fun k hk => .inr (hS k hk)⟩⟩
instance Ro.nil {α : Type} {d : Kd α} {M : List Thing} : Ro d none M ([] : List α) := ⟨fun w I U h => ⟨fun _ => False, Kd.C_nil d w, Kd.F_nil d w _, fun _ h => h.elim⟩⟩
theorem Holds.ro {α : Type} {d : Kd α} {A : Option Addr} {xs : List α} {w : World} {M : List Thing} (h : Holds w M) (a : Ro d A M xs) : d.C w A xs.length xs := by
  obtain ⟨I, hI, hL⟩ := h
  obtain ⟨S, hc, _⟩ := a.h _ _ _ hL
  exact hc
/-- A row of the call's own that nobody writes any more. -/
theorem Holds.rowKeep {α : Type} {d : Kd α} {e : TypeId} {A : Option Addr} {n c : Nat} {key : Option Addr} {xs : List α} {w : World} {M : List Thing} (h : Holds w (.own key (rowR d e (.slice A n c) xs) :: M)) : Holds w (.per (roR d A xs) :: M) := by
  obtain ⟨I, hI, hr, hL⟩ := h.keep
  have hf := Kd.R_F hr
  have h2 := Kd.R_reads' hr
  rw [h2.1] at hf
  exact ⟨I, hI, hf, hL⟩
theorem Holds.nilRow {α : Type} (d : Kd α) (e : TypeId) {w : World} {M : List Thing} (h : Holds w M) : Holds w (.own none (rowR d e (.slice none 0 0) ([] : List α)) :: M) :=
  h.new (Below.refl _ _) none (S := fun _ => False) (Kd.R_nil d e w 0 _) (fun _ h => h.elim)
theorem HoldsU.nilRow {α : Type} (d : Kd α) (e : TypeId) {w : World} {I : Nat → Prop} {L : List Thing} {U : Nat → Prop} (h : HoldsU w I L U) : HoldsU w I (.own none (rowR d e (.slice none 0 0) ([] : List α)) :: L) U :=
  ⟨fun _ => False, fun _ h => h.elim, Kd.R_nil d e w 0 _, h.mono (fun _ h => h) (fun k hk => ⟨hk, fun h => h⟩)⟩
instance (priority := 2000) Sub.nilRow {α : Type} {d : Kd α} {e : TypeId} {M M' : List Thing} [s : Sub M M'] : Sub M (.own none (rowR d e (.slice none 0 0) ([] : List α)) :: M') := ⟨fun w I U h => (s.h w I U h).nilRow d e⟩
instance (priority := 2000) Sub.nilRow' {α : Type} {d : Kd α} {e : TypeId} {M M' : List Thing} [s : Sub M M'] : Sub M (.own none (rowR d e (.slice none ([] : List α).length 0) ([] : List α)) :: M') := ⟨fun w I U h => (s.h w I U h).nilRow d e⟩
/-- A value whose elements are plain cells. -/
class Flat {α : Type} (d : Kd α) (enc : outParam (α → List Value)) : Prop where
  out : ∀ {w x cs}, d.K w x cs → cs = enc x
  in_ : ∀ w x, d.K w x (enc x)
  inM : ∀ w base ok x, d.M w base ok x (enc x)
instance flatInt (k : IntKind) : Flat (Kd.int k) (fun x => [.int k x]) := ⟨fun h => h, fun _ _ => rfl, fun _ _ _ _ => rfl⟩
instance flatBool : Flat Kd.bool (fun x => [.bool x]) := ⟨fun h => h, fun _ _ => rfl, fun _ _ _ _ => rfl⟩
section
variable {P : Program} {fn : Func} {K : Ending → List Thing → Prop} {N : Nat} {k : List It} {a : Fr} {M M0 R : List Thing} {ops : Array Oper} {rest : List Oper} {T : List (Nat × TI)}
variable {d : Nat} {op : Op} {ty : TypeId} {pos : String} {af : Array Edge} {α : Type} {D : Kd α}
/-! ### contracts of a world -/
theorem Fn.ofVal {f : FuncId} {args : List Value} (v : Value) (hc : ∀ args w, (callFunc f args).run P w = .ok (.enter f args) w) (h : ∀ w, Holds w M → Calls P f args.toArray w (fun e w' => e = .returned v ∧ Below w.heap.size w w')) (hK : K (.returned v) M) : Fn P f args M K :=
  ⟨fun w => hc _ w, fun w hM => (h w hM).mono (by rintro e w' ⟨rfl, hb⟩; exact ⟨M, hK, hM.below hb⟩)⟩
theorem Holds.newRow {e : TypeId} {w w' : World} {v : Value} {r : List α} (hM : Holds w M) (hr : D.R e w' w.heap.size (fun _ => True) v r) (hb : Below w.heap.size w w') : ∃ A c, v = .slice A r.length c ∧ r.length ≤ c ∧ Holds w' (.own A (rowR D e (.slice A r.length c) r) :: M) := by
  obtain ⟨A, c, rfl, hc, _⟩ := Kd.R_reads hr
  refine ⟨A, c, rfl, hc, hM.new hb A (S := fun k => w.heap.size ≤ k ∧ k < w'.heap.size) (Kd.R_lower (Kd.R_mono (Kd.R_bound hr) (fun k hk => ⟨hk.2.1, hk.2.2.1⟩)) (Nat.zero_le _)) (fun k hk => hk)⟩
theorem Fn.ofRow {f : FuncId} {args : List Value} (D : Kd α) (e : TypeId) (mk : Value → Value) (r : List α) (hc : ∀ args w, (callFunc f args).run P w = .ok (.enter f args) w)
    (h : ∀ w, Holds w M → Calls P f args.toArray w (fun e' w' => ∃ v, e' = .returned (mk v) ∧ D.R e w' w.heap.size (fun _ => True) v r ∧ Below w.heap.size w w'))
    (hK : ∀ A c, r.length ≤ c → K (.returned (mk (.slice A r.length c))) (.own A (rowR D e (.slice A r.length c) r) :: M)) : Fn P f args M K :=
  ⟨fun w => hc _ w, fun w hM => (h w hM).mono (by
    rintro e' w' ⟨v, rfl, hr, hb⟩
    obtain ⟨A, c, rfl, hl, hM'⟩ := hM.newRow hr hb
    exact ⟨_, hK A c hl, hM'⟩)⟩
/-- What a walk shows, as a contract of a world. -/
theorem Fn.out {f : FuncId} {args : List Value} {v : Value} (w : World) (M : List Thing) (hw : Holds w M) (h : Has (oldR w) M) (hf : Fn P f args M (fun e M' => e = .returned v ∧ Has (oldR w) M')) : Calls P f args.toArray w (fun e w' => e = .returned v ∧ Below w.heap.size w w') :=
  (hf.runs w hw).mono (by rintro e w' ⟨M', ⟨rfl, ho⟩, hM'⟩; exact ⟨rfl, hM'.old ho⟩)
theorem HoldsU.per {w : World} {I : Nat → Prop} {r : Res} {L : List Thing} {U : Nat → Prop} (h : HoldsU w I L U) (hr : r.P w I) : HoldsU w I (.per r :: L) U := ⟨hr, h⟩
/-- What came in, is there from the start. -/
theorem Holds.startRow {w : World} {L : List Thing} (h : ∃ U, HoldsU w (fun k => k < w.heap.size) L U ∧ ∀ k, U k → k < w.heap.size ∧ ¬ k < w.heap.size) {r : Res} (hr : r.P w (fun k => k < w.heap.size)) : ∃ U, HoldsU w (fun k => k < w.heap.size) (.per r :: L) U ∧ ∀ k, U k → k < w.heap.size ∧ ¬ k < w.heap.size := by
  obtain ⟨U, h1, h2⟩ := h
  exact ⟨U, ⟨hr, h1⟩, h2⟩
theorem Holds.ofStart {w : World} {L : List Thing} (h : ∃ U, HoldsU w (fun k => k < w.heap.size) L U ∧ ∀ k, U k → k < w.heap.size ∧ ¬ k < w.heap.size) : Holds w L := by
  obtain ⟨U, h1, h2⟩ := h
  exact ⟨fun k => k < w.heap.size, fun _ h => h, h1.mono (fun _ h => h) h2⟩
theorem Holds.start0 (w : World) : ∃ U, HoldsU w (fun k => k < w.heap.size) [.per (oldR w)] U ∧ ∀ k, U k → k < w.heap.size ∧ ¬ k < w.heap.size :=
  ⟨fun _ => False, ⟨⟨Env.refl w, fun k hk => ⟨hk, hk, rfl⟩⟩, trivial⟩, fun _ h => h.elim⟩
/-! ### elements -/
theorem SXL.idx [hT : TOk P T] {t e b o n c : Nat} {x i : Operand} {ik : IntKind} {z : Int} {ti te : TI} (hx : evalO a x = some (.slice (some ⟨b, o, none⟩) n c)) (hi : evalO a i = some (.int ik z)) (hl : lookT T t = some ti) (hs : ti.desc = .slice e) (he : lookT T e = some te) (h0 : 0 ≤ z) (h1 : z < (n : Int)) (hd : Nat.blt d N = true)
    (hK : SXL P fn K N k ops rest ((d, .pointer (some ⟨b, o + z.toNat * te.size + 0, none⟩)) :: a) M) : SXL P fn K N k ops (⟨some d, .indexAddr t x i, ty, pos, af, none⟩ :: rest) a M :=
  SXL.val hd (fun act w st => by
    have hdd := (tok (P := P) hl).desc
    rw [hs] at hdd
    simp only [execOp, evalO_ok st.fits hx, evalO_ok st.fits hi, Instr.indexAt, asIntOf, Sem.run_bind, Sem.run_pure, Result.andThen_ok, hdd]
    simp [h0, h1, (tok (P := P) he).size, add_off]) hK
/-- A row that is not empty has an address. -/
theorem Ro.addr {A : Option Addr} {xs : List α} {w : World} (h : Holds w M) (hr : Ro D A M xs) (hsz : 0 < D.sz) (hp : 0 < xs.length) : ∃ b o, A = some ⟨b, o, none⟩ := by
  have hC := h.ro hr
  obtain ⟨x, hx⟩ : ∃ x, xs[0]? = some x := ⟨_, List.getElem?_eq_getElem hp⟩
  obtain ⟨ad, cs, e, _, hK, hc⟩ := Kd.C_get hC x 0 (by omega) (by omega)
  have hlen := D.K_len hK
  obtain ⟨u, hu⟩ : ∃ u, cs[0]? = some u := ⟨_, List.getElem?_eq_getElem (by omega)⟩
  have h9 := hc 0 u hu
  subst e
  have hsp : ad.spot = none := by
    simp only [Int.toNat_zero, Nat.zero_mul] at h9
    have h8 : w.cell? ad = some u := by simpa [Addr.add] using h9
    unfold World.cell? at h8
    split at h8
    · split at h8
      · cases h8
      · rename_i hn; simpa using hn
    · cases h8
  obtain ⟨b, o, sp⟩ := ad
  subst hsp
  exact ⟨b, o, rfl⟩
theorem SX.addr {A : Option Addr} {xs : List α} (D : Kd α) [hr : Ro D A M xs] (hsz : 0 < D.sz) (hp : 0 < xs.length) (h : ∀ b o, A = some ⟨b, o, none⟩ → SX P fn K N k a M) : SX P fn K N k a M := fun act w s => by
  obtain ⟨b, o, e⟩ := Ro.addr (D := D) s.holds hr hsz hp
  exact h b o e act w s
theorem ro_cell {xs : List α} {enc : α → List Value} [hf : Flat D enc] {w : World} {b o i j : Nat} {x : α} {u : Value} (h : D.C w (some ⟨b, o, none⟩) xs.length xs) (hi : xs[i]? = some x) (hu : (enc x)[j]? = some u) : w.cell? ⟨b, o + i * D.sz + j, none⟩ = some u := by
  have hlt := (List.getElem?_eq_some_iff.1 hi).1
  obtain ⟨ad, cs, e, _, hK, hc⟩ := Kd.C_get h x (i : Int) (by omega) (by omega)
  injection e with e
  subst e
  rw [Int.toNat_natCast, List.getD_eq_getElem?_getD, hi] at hK
  have := hf.out hK
  subst this
  have := hc j u hu
  rw [Int.toNat_natCast, add_off, ← Nat.add_assoc] at this
  exact this
theorem loadC_ro [hT : TOk P T] {t b o i off : Nat} {xs : List α} {enc : α → List Value} [hf : Flat D enc] {x : α} {v : Value} {w : World} (h : D.C w (some ⟨b, o, none⟩) xs.length xs) (hi : xs[i]? = some x) (hv : loadC T t (enc x) off = some v) : (loadVar t ⟨b, o + i * D.sz + off, none⟩).run P w = .ok v w := by
  unfold loadC at hv
  split at hv
  · rename_i s g z dd r hl
    split at hv
    · rename_i hle
      have hle' := Nat.le_of_ble_eq_true hle
      have ht := tok (P := P) hl
      unfold partK at hv
      cases g with
      | true =>
        dsimp only at hv
        rw [subl_eq] at hv
        obtain rfl := Option.some.inj hv
        have hlen : (((enc x).drop off).take s).length = s := by rw [List.length_take, List.length_drop]; omega
        have hl := run_loadCells_list (P := P) w ⟨b, o + i * D.sz + off, none⟩ (((enc x).drop off).take s) (fun j v hv => by
          rw [add_off, Nat.add_assoc]
          refine ro_cell h hi ?_
          rw [← hv, List.getElem?_take_of_lt (by have := (List.getElem?_eq_some_iff.1 hv).1; omega), List.getElem?_drop])
        rw [hlen] at hl
        simp [loadVar, ht.agg, ht.size, hl]
      | false =>
        dsimp only at hv
        rw [nthL_eq] at hv
        have hc : w.cell? ⟨b, o + i * D.sz + off, none⟩ = some v := ro_cell h hi hv
        simp [loadVar, ht.agg, hc]
    · cases hv
  · cases hv
theorem SXL.loadRow [hT : TOk P T] {t b o i off s : Nat} {x : Operand} (D : Kd α) {xs : List α} {enc : α → List Value} [hf : Flat D enc] {e : α} {v : Value} (hx : evalO a x = some (.pointer (some ⟨b, o + i * s + off, none⟩))) (hs : s = D.sz) (hr : Ro D (some ⟨b, o, none⟩) M xs) (he : xs[i]? = some e)
    (h : loadC T t (enc e) off = some v) (hd : Nat.blt d N = true) (hK : SXL P fn K N k ops rest ((d, v) :: a) M) : SXL P fn K N k ops (⟨some d, .load t x, ty, pos, af, none⟩ :: rest) a M :=
  SXL.val hd (fun act w st => by
    subst hs
    simp [execOp, evalO_ok st.fits hx, Instr.loadAt, Instr.sureAddr, loadC_ro (P := P) (T := T) (st.holds.ro hr) he h]) hK
theorem SXL.loadRow1 [hT : TOk P T] {t b o i off off' s : Nat} {x : Operand} (D : Kd α) {xs : List α} {enc : α → List Value} [hf : Flat D enc] {e : α} {v : Value} (hx : evalO a x = some (.pointer (some ⟨b, o + i * s + off + off', none⟩))) (hs : s = D.sz) (hr : Ro D (some ⟨b, o, none⟩) M xs) (he : xs[i]? = some e)
    (h : loadC T t (enc e) (off + off') = some v) (hd : Nat.blt d N = true) (hK : SXL P fn K N k ops rest ((d, v) :: a) M) : SXL P fn K N k ops (⟨some d, .load t x, ty, pos, af, none⟩ :: rest) a M :=
  SXL.val hd (fun act w st => by
    subst hs
    have h9 := loadC_ro (P := P) (T := T) (st.holds.ro hr) he h
    rw [← Nat.add_assoc] at h9
    simp [execOp, evalO_ok st.fits hx, Instr.loadAt, Instr.sureAddr, h9]) hK
theorem mkCells (z0 : Value) (n : Nat) : (Array.range n).map (fun i => (#[z0] : Array Value)[i % (#[z0] : Array Value).size]!) = (List.replicate n z0).toArray := by
  apply Array.ext'
  apply List.ext_getElem?
  intro j
  rcases Nat.lt_or_ge j n with hj | hj
  · simp [hj, Nat.mod_one, List.getElem?_replicate]
  · simp [List.getElem?_replicate, Nat.not_lt.2 hj]
theorem SXL.make [hT : TOk P T] {t e : Nat} {x y : Operand} {ik ik' : IntKind} {z : Int} {ti te : TI} {z0 : Value} {nb : Nat} (hx : evalO a x = some (.int ik z)) (hy : evalO a y = some (.int ik' z)) (hl : lookT T t = some ti) (hs : ti.desc = .slice e) (he : lookT T e = some te) (hsz : te.size = 1) (hz : te.zero = z0) (h1 : z0.oneCell' = true) (hi : (P.info? e).map (·.bytes) = some nb) (h0 : 0 ≤ z) (hb : nb * z.toNat ≤ 140737488355328) (hm : z ≤ 140737488355328) (hd : Nat.blt d N = true)
    (hK : ∀ b, SXL P fn K N k ops rest ((d, .slice (some ⟨b, 0, none⟩) z.toNat z.toNat) :: a) (.own (some ⟨b, 0, none⟩) (cellsR b (List.replicate z.toNat z0) e) :: M)) : SXL P fn K N k ops (⟨some d, .makeSlice t x y, ty, pos, af, none⟩ :: rest) a M :=
  SXL.step rfl (fun act w st => by
    obtain ⟨i0, hi9, rfl⟩ := Option.map_eq_some_iff.1 hi
    have hdd := (tok (P := P) hl).desc
    rw [hs] at hdd
    have hse := (tok (P := P) he).size
    rw [hsz] at hse
    have hze := (tok (P := P) he).zero
    rw [hz] at hze
    have hv : z0.cells = #[z0] := by cases z0 <;> first | rfl | cases h1
    have hw : IntKind.i64.wrap z = z := IntWalk.i64_in _ (by omega)
    have hbi : ¬ ((i0.bytes : Int) * z > 2 ^ 48) := by
      have h9 : ((i0.bytes * z.toNat : Nat) : Int) ≤ 140737488355328 := Int.ofNat_le.2 hb
      rw [Int.natCast_mul, Int.toNat_of_nonneg h0] at h9
      omega
    have hinf : ∀ W, (typeInfo e).run P W = .ok i0 W := fun W => by simp [typeInfo, hi9]
    have hr : (execOp act.eval ⟨some d, .makeSlice t x y, ty, pos, af, none⟩).run P w = .ok (.value (.slice (some ⟨w.heap.size, 0, none⟩) z.toNat z.toNat)) (w.alloc (.cells (List.replicate z.toNat z0).toArray e)) := by
      have hnot : ((decide (z < 0) || decide ((i0.bytes : Int) * z > 2 ^ 48)) || decide (z < 0) || decide (z > z)) = false := by
        simp only [Bool.or_eq_false_iff, decide_eq_false_iff_not]
        exact ⟨⟨⟨by omega, hbi⟩, by omega⟩, by omega⟩
      simp only [execOp, evalO_ok st.fits hx, evalO_ok st.fits hy, Instr.makeSlice, asInt, asIntOf, Sem.run_bind, Sem.run_pure, Result.andThen_ok, hdd, hinf, hw]
      rw [if_neg (by simpa using hnot)]
      simp only [Sem.run_bind, run_askRoom, Result.andThen_ok, hse, Nat.mul_one]
      rcases Nat.eq_zero_or_pos z.toNat with hz0 | hz0
      · simp only [hz0, if_true, Sem.run_pure, Result.andThen_ok, newRow, Sem.run_bind, run_newObj, List.replicate_zero]
        have e0 : ∀ (f : Nat → Value), (Array.range 0).map f = #[] := fun f => by simp
        rw [e0]
        rfl
      · have hne : z.toNat ≠ 0 := by omega
        simp only [if_neg hne, Sem.run_bind, hze, Result.andThen_ok, Sem.run_pure, hv, newRow, run_newObj]
        rw [mkCells]
        rfl
    unfold Oper.wp
    rw [hr]
    exact hK w.heap.size _ _ (st.put hd (by simpa using st.holds.alloc (List.replicate z.toNat z0).toArray e)))
end
end Go.Proofs.YtanemmcddgkpdaaGreat.Sx
end
section
/- Go code walked by what is known of slots and memory: append; literals as rows; conditions: those that each theorem names. -/
namespace Go.Proofs.YtanemmcddgkpdaaGreat.Sx
open Go.RowKit Go.Proofs.YtanemmcddgkpdaaGreatW.PrintWords Go.Proofs.YtanemmcddgkpdaaGreatW.PrintLast Go.Proofs.YtanemmcddgkpdaaGreatW.PrintMore
set_option linter.unusedVariables false
set_option linter.unusedSimpArgs false
/-- Slices of a type have elements of a kind. -/
class RowT (P : Program) {α : Type} (D : Kd α) (t : TypeId) (e : outParam TypeId) (bytes : outParam Nat) : Prop where
  u : P.underlying t = some (.slice e)
  z : ∃ z, (P.info? e).map (fun i => (i.zero, i.size, i.bytes)) = some (some z, D.sz, bytes) ∧ z.cells.size = D.sz
  s0 : 0 < D.sz
  b0 : 0 < bytes
section
variable {P : Program} {fn : Func} {K : Ending → List Thing → Prop} {N : Nat} {k : List It} {a : Fr} {M M0 R : List Thing} {ops : Array Oper} {rest : List Oper} {T : List (Nat × TI)}
variable {d : Nat} {op : Op} {ty : TypeId} {pos : String} {af : Array Edge} {α : Type} {D : Kd α} {enc : α → List Value}
theorem SXL.append {t e bytes n c m cc : Nat} {s x : Operand} {A B : Option Addr} (D : Kd α) [hf : Flat D enc] {xs ys : List α} (hs : evalO a s = some (.slice A n c)) (hx : evalO a x = some (.slice B m cc)) (hat : At A M (rowR D e (.slice A n c) xs) R) (hy : Ro D B R ys) (hm : m = ys.length)
    (hrt : RowT P D t e bytes) (hl : (xs.length + ys.length) * bytes ≤ 140737488355328) (hd : Nat.blt d N = true)
    (hK : ∀ A' c', (xs ++ ys).length ≤ c' → SXL P fn K N k ops rest ((d, .slice A' (xs ++ ys).length c') :: a) (.own A' (rowR D e (.slice A' (xs ++ ys).length c') (xs ++ ys)) :: R)) :
    SXL P fn K N k ops (⟨some d, .call ⟨.builtin .append, #[s, x], #[t, t]⟩, ty, pos, af, none⟩ :: rest) a M := by
  intro act w st
  have hM := st.holds.at_ hat
  obtain ⟨I, hI, S, hS, hr, hL⟩ := hM
  obtain ⟨S2, hC, _⟩ := hy.h _ _ _ hL
  obtain ⟨z, hz, hz2⟩ := hrt.z
  subst hm
  refine Kd.R_append_rows D (Rr := D.K w) (w0 := w) 0 rfl s x t e z bytes rfl hrt.u hz hz2 hrt.s0 hrt.b0 (.slice A n c) xs ys B ys.length cc (fun k => S k ∨ w.heap.size ≤ k) (fun _ => False) (evalO_ok st.fits hs) (evalO_ok st.fits hx)
    (Kd.R_mono hr (fun _ h => .inl h)) hC (fun x cs h => by rw [hf.out h]; exact hf.inM _ _ _ _) (fun _ h => h.elim) (fun k hk => .inr hk) (Below.refl 0 w) (Nat.zero_le _) hl ?_
  intro v1 w1 hr1 hb1 hg1 hat1
  obtain ⟨A', c', e1, hc', _⟩ := Kd.R_reads hr1
  subst e1
  refine hK A' c' hc' _ _ (st.put hd ?_)
  exact Holds.act1 hI hS hL ⟨hg1.os, hg1.tape, hg1.output⟩ hg1.size (fun k hk hn => hg1.block k hk (fun e => hn (hr.1 k e.symm))) (S' := fun k => (S k ∨ w.heap.size ≤ k) ∧ k < w1.heap.size) (fun k hk => hk)
    (Kd.R_mono (Kd.R_bound hr1) (fun k hk => ⟨hk.1, hk.2.2.1⟩))
/-- A literal's elements. -/
theorem row_of_cells [hf : Flat D enc] (hsz : ∀ x, (enc x).length = D.sz) {w : World} {b : Nat} {t : TypeId} {fr : Nat × Nat} {ys : List α} (hb : w.heap[b]? = some (.cells (ys.flatMap enc).toArray t fr)) (hl : ys.length ≤ 9223372036854775807) : D.C w (some ⟨b, 0, none⟩) ys.length ys := by
  refine ⟨rfl, hl, fun _ => ⟨_, rfl, fun j p hj => ⟨enc p, hsz p, hf.in_ w p, fun i u hu => ?_⟩⟩⟩
  rw [add_off, cells_cell hb, Nat.zero_add]
  have key : ∀ (ys : List α) (j : Nat) (p : α), ys[j]? = some p → ∀ i u, (enc p)[i]? = some u → (ys.flatMap enc)[j * D.sz + i]? = some u := by
    intro ys
    induction ys with
    | nil => intro j p hj; simp at hj
    | cons y ys ih =>
      intro j p hj i u hu
      rw [List.flatMap_cons]
      cases j with
      | zero =>
        obtain rfl : y = p := by simpa using hj
        have hi := (List.getElem?_eq_some_iff.1 hu).1
        rw [List.getElem?_append_left (by omega), Nat.zero_mul, Nat.zero_add]
        exact hu
      | succ j =>
        rw [List.getElem?_append_right (by rw [hsz, Nat.succ_mul]; omega), hsz, Nat.succ_mul, show j * D.sz + D.sz + i - D.sz = j * D.sz + i by omega]
        exact ih j p (by simpa using hj) i u hu
  exact key ys j p hj i u hu
theorem SXL.litRow {l : List Oper} (D : Kd α) [hf : Flat D enc] (b : Nat) (ys : List α) {cs : List Value} {ty' : TypeId} (hat : At (some ⟨b, 0, none⟩) M (cellsR b cs ty') R) (hcs : cs = ys.flatMap enc) (hsz : ∀ x, (enc x).length = D.sz) (hl : ys.length ≤ 9223372036854775807)
    (h : SXL P fn K N k ops l a (.per (roR D (some ⟨b, 0, none⟩) ys) :: R)) : SXL P fn K N k ops l a M := by
  refine SXL.mem h (fun w hw => ?_)
  obtain ⟨I, hI, hr, hL⟩ := (hw.at_ hat).keep
  subst hcs
  refine ⟨I, hI, fun W hW => ?_, hL⟩
  have h1 := hW b hr.1 (blk_lt hr.2)
  exact row_of_cells hsz (h1.trans hr.2) hl
/-- Bytes as a string. -/
theorem SXL.bytesStr [hT : TOk P T] {t e t' n c : Nat} {x : Operand} {A : Option Addr} {xs : List Int} (hx : evalO a x = some (.slice A n c)) (hr : Ro (Kd.int .u8) A M xs) (hn : n = xs.length) (hu : P.underlying t = some (.slice e)) (he : P.underlying e = some (.int .u8)) (ht : P.underlying t' = some .string) (hd : Nat.blt d N = true)
    (hK : SXL P fn K N k ops rest ((d, .string (strOfNums xs)) :: a) M) : SXL P fn K N k ops (⟨some d, .convert t t' x, ty, pos, af, none⟩ :: rest) a M :=
  SXL.val hd (fun act w st => by
    subst hn
    have h := Kd.C_string (P := P) (src := t) (dst := t') (e := e) (c := c) hu he ht (st.holds.ro hr)
    simp only [execOp, evalO_ok st.fits hx, Sem.run_bind]
    rw [h]
    rfl) hK
theorem SXL.rem {t t' : Nat} {x y : Operand} {ik : IntKind} {u v : Int} (hx : evalO a x = some (.int ik u)) (hy : evalO a y = some (.int ik v)) (hv : v ≠ 0) (hd : Nat.blt d N = true)
    (hK : SXL P fn K N k ops rest ((d, .int ik (u.tmod v)) :: a) M) : SXL P fn K N k ops (⟨some d, .binOp .rem t x y t', ty, pos, af, none⟩ :: rest) a M :=
  SXL.val hd (fun act w st => by simp [execOp, evalO_ok st.fits hx, evalO_ok st.fits hy, eqGuard, binOp, Op.intDiv, hv]) hK
theorem SXL.quo {t t' : Nat} {x y : Operand} {ik : IntKind} {u v : Int} (hx : evalO a x = some (.int ik u)) (hy : evalO a y = some (.int ik v)) (hv : v ≠ 0) (hd : Nat.blt d N = true)
    (hK : SXL P fn K N k ops rest ((d, .int ik (ik.wrap (u.tdiv v))) :: a) M) : SXL P fn K N k ops (⟨some d, .binOp .quo t x y t', ty, pos, af, none⟩ :: rest) a M :=
  SXL.val hd (fun act w st => by simp [execOp, evalO_ok st.fits hx, evalO_ok st.fits hy, eqGuard, binOp, Op.intDiv, hv]) hK
/-- A row that is not empty has an address. -/
theorem SXL.addr {l : List Oper} {A : Option Addr} {xs : List α} (D : Kd α) [hr : Ro D A M xs] (hsz : 0 < D.sz) (hp : 0 < xs.length) (h : ∀ b o, A = some ⟨b, o, none⟩ → SXL P fn K N k ops l a M) : SXL P fn K N k ops l a M := fun act w s => by
  obtain ⟨b, o, e⟩ := Ro.addr (D := D) s.holds hr hsz hp
  exact h b o e act w s
/-- Ways meet behind a piece of code: what is known there is said by hand. -/
theorem SX.cut {c : Code} (J : Fr → List Thing → Prop) (h1 : SX P fn K N (.code c :: .again (fun act w => ∃ a' M', J a' M' ∧ St N a' M' act w) :: k) a M) (h2 : ∀ a' M', J a' M' → SX P fn K N k a' M') : SX P fn K N (.code c :: k) a M := by
  intro act w st
  refine wp_mono (h1 act w st) (fun e act' w' h => ?_)
  cases e with
  | normal =>
    obtain ⟨a', M', hJ, st'⟩ := h
    exact h2 a' M' hJ act' w' st'
  | _ => exact h
theorem SX.meet {J : Fr → List Thing → Prop} {a' : Fr} {M' : List Thing} (h : J a' M') (ha : SubF a' a) (hM : Sub M M') : SX P fn K N (.again (fun act w => ∃ a' M', J a' M' ∧ St N a' M' act w) :: k) a M :=
  fun act w s => ⟨a', M', h, s.1, s.2.1, s.fits.sub ha, s.holds.sub hM⟩
/-- A Bool that is known otherwise. -/
theorem SXL.know {l : List Oper} (s : Nat) (v' : Bool) {b : Bool} (hv : look a s = some (.bool b)) (hb : b = v') (h : SXL P fn K N k ops l ((s, .bool v') :: a) M) : SXL P fn K N k ops l a M := by
  subst hb
  exact fun act w st => h act w ⟨st.1, st.2.1, st.fits.again hv, st.holds⟩
theorem SX.know (s : Nat) (v' : Bool) {b : Bool} (hv : look a s = some (.bool b)) (hb : b = v') (h : SX P fn K N k ((s, .bool v') :: a) M) : SX P fn K N k a M := by
  subst hb
  exact fun act w st => h act w ⟨st.1, st.2.1, st.fits.again hv, st.holds⟩
theorem SXL.same {l : List Oper} (s : Nat) (v' : Value) {v : Value} (hv : look a s = some v) (hb : v = v') (h : SXL P fn K N k ops l ((s, v') :: a) M) : SXL P fn K N k ops l a M := by
  subst hb
  exact fun act w st => h act w ⟨st.1, st.2.1, st.fits.again hv, st.holds⟩
theorem SX.same (s : Nat) (v' : Value) {v : Value} (hv : look a s = some v) (hb : v = v') (h : SX P fn K N k ((s, v') :: a) M) : SX P fn K N k a M := by
  subst hb
  exact fun act w st => h act w ⟨st.1, st.2.1, st.fits.again hv, st.holds⟩
end
end Go.Proofs.YtanemmcddgkpdaaGreat.Sx
end
