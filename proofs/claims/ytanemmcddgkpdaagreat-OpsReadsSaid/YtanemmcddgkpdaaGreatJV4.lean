/- Part V4 of the lemmas and walks of the Go functions that these statements reach; conditions: those that each theorem names. -/
import Derived.Test.YtanemmcddgkpdaaGreatJS
import Derived.LoopN
import Derived.Test.YtanemmcddgkpdaaGreatJWEqStruct
section
/- Go code walked by what is known of slots and memory: loops of few rounds, parts of rows, equal structs; conditions: those that each theorem names. -/
namespace Go.Proofs.YtanemmcddgkpdaaGreat.Sx
open Go.RowKit Go.Proofs.YtanemmcddgkpdaaGreatW.PrintWords Go.Proofs.YtanemmcddgkpdaaGreatW.PrintLast Go.Proofs.YtanemmcddgkpdaaGreatW.PrintMore
set_option linter.unusedVariables false
set_option linter.unusedSimpArgs false
section
variable {P : Program} {fn : Func} {K : Ending → List Thing → Prop} {N : Nat} {k : List It} {a : Fr} {M M0 R : List Thing} {ops : Array Oper} {rest : List Oper} {T : List (Nat × TI)}
variable {d : Nat} {op : Op} {ty : TypeId} {pos : String} {af : Array Edge} {α : Type} {D : Kd α} {enc : α → List Value}
/-- So many rounds more, at most. -/
def roundsJ (P : Program) (fn : Func) (K : Ending → List Thing → Prop) (k : List It) (body : Code) (n : Nat) : Act → World → Prop := Code.rounds P body (Post P fn K k) n
theorem SX.unroll {body : Code} (n : Nat) (h : SX P fn K N (.code body :: .again (roundsJ P fn K k body n) :: k) a M) : SX P fn K N (.code (.loop body) :: k) a M :=
  fun act w st => wp_loop_rounds (n + 1) (h act w st)
theorem SX.round {body : Code} {n : Nat} (h : SX P fn K N (.code body :: .again (roundsJ P fn K k body n) :: k) a M) : SX P fn K N (.again (roundsJ P fn K k body (n + 1)) :: k) a M :=
  fun act w st => h act w st
/-! ### parts of rows -/
theorem C_take {w : World} {A : Option Addr} {xs : List α} (h : D.C w A xs.length xs) (n : Nat) : D.C w A (xs.take n).length (xs.take n) := by
  obtain ⟨h1, h2, h3⟩ := h
  have hle : (xs.take n).length ≤ xs.length := List.length_take_le' n xs
  refine ⟨rfl, Nat.le_trans hle h2, fun hn => ?_⟩
  obtain ⟨ad, e, hc⟩ := h3 (by omega)
  refine ⟨ad, e, fun j p hj => hc j p ?_⟩
  have hlt := (List.getElem?_eq_some_iff.1 hj).1
  rw [List.length_take] at hlt
  rw [List.getElem?_take_of_lt (by omega)] at hj
  exact hj
theorem add_add (ad : Addr) (i j : Nat) : (ad.add i).add j = ad.add (i + j) := by
  obtain ⟨b, o, sp⟩ := ad
  unfold Addr.add
  by_cases hi : i = 0 <;> by_cases hj : j = 0 <;> cases sp <;> simp [hi, hj, Nat.add_assoc]
theorem C_drop {w : World} {A : Option Addr} {xs : List α} {c : Nat} (h : D.C w A xs.length xs) (n : Nat) (hc : xs.length ≤ c) : D.C w (if c = n then A else A.map (·.add (n * D.sz))) (xs.drop n).length (xs.drop n) := by
  obtain ⟨h1, h2, h3⟩ := h
  have hle : (xs.drop n).length = xs.length - n := List.length_drop
  refine ⟨rfl, by omega, fun hn => ?_⟩
  obtain ⟨ad, rfl, hcell⟩ := h3 (by omega)
  rw [if_neg (by omega)]
  refine ⟨ad.add (n * D.sz), rfl, fun j p hj => ?_⟩
  rw [List.getElem?_drop] at hj
  obtain ⟨cs, hl, hk, hcs⟩ := hcell (n + j) p hj
  refine ⟨cs, hl, hk, fun i u hu => ?_⟩
  rw [add_add, ← Nat.add_assoc, ← Nat.add_mul]
  exact hcs i u hu
/-- A part of a row that stays, stays. -/
theorem SXL.part {l : List Oper} (D : Kd α) {A : Option Addr} {xs : List α} {c : Nat} (lo hi : Nat) (hr : Has (roR D A xs) M) (hc : xs.length ≤ c)
    (h : SXL P fn K N k ops l a (.per (roR D (if c = lo then A else A.map (·.add (lo * D.sz))) ((xs.take hi).drop lo)) :: M)) : SXL P fn K N k ops l a M := by
  refine SXL.mem h (fun w hw => ?_)
  obtain ⟨I, hI, hL⟩ := hw
  refine ⟨I, hI, fun W hW => ?_, hL⟩
  have hF := hr.h _ _ _ hL
  exact C_drop (C_take (hF W hW) hi) lo (Nat.le_trans (List.length_take_le' hi xs) hc)
theorem SXL.takeRow {l : List Oper} (D : Kd α) {A : Option Addr} {xs : List α} (hi : Nat) (hr : Has (roR D A xs) M)
    (h : SXL P fn K N k ops l a (.per (roR D A (xs.take hi)) :: M)) : SXL P fn K N k ops l a M := by
  refine SXL.mem h (fun w hw => ?_)
  obtain ⟨I, hI, hL⟩ := hw
  refine ⟨I, hI, fun W hW => ?_, hL⟩
  have hF := hr.h _ _ _ hL
  exact C_take (hF W hW) hi
theorem SXL.dropRow {l : List Oper} (D : Kd α) {A : Option Addr} {xs : List α} {c : Nat} (lo : Nat) (hr : Has (roR D A xs) M) (hc : xs.length ≤ c)
    (h : ∀ B, B = (if c = lo then A else A.map (·.add (lo * D.sz))) → SXL P fn K N k ops l a (.per (roR D B (xs.drop lo)) :: M)) : SXL P fn K N k ops l a M := by
  refine SXL.mem (h _ rfl) (fun w hw => ?_)
  obtain ⟨I, hI, hL⟩ := hw
  refine ⟨I, hI, fun W hW => ?_, hL⟩
  have hF := hr.h _ _ _ hL
  exact C_drop (hF W hW) lo hc
/-- What is there alone stays from now on, as a row. -/
theorem SXL.keepRow {l : List Oper} {D : Kd α} {A : Option Addr} {e : TypeId} {n c : Nat} {xs : List α} (key : Option Addr) (hat : At key M (rowR D e (.slice A n c) xs) R)
    (h : SXL P fn K N k ops l a (.per (roR D A xs) :: R)) : SXL P fn K N k ops l a M := SXL.mem h (fun w hw => (hw.at_ hat).rowKeep)
variable {ds : List Nat} {fuel : Nat} {l : Array Bool}
theorem SXA.idx [hT : TOk P T] (i : Nat) {t e b o n c : Nat} {x y : Operand} {ik : IntKind} {z : Int} {ti te : TI} {g : Option (Nat × Bool)} (hi : ops[i]? = some ⟨some d, .indexAddr t x y, ty, pos, af, g⟩) (hc : takeB .any ops ds l (l.setIfInBounds i true) i = true) (hg : guardB ops a g = some true)
    (hx : evalO a x = some (.slice (some ⟨b, o, none⟩) n c)) (hy : evalO a y = some (.int ik z)) (hl : lookT T t = some ti) (hs : ti.desc = .slice e) (he : lookT T e = some te) (h0 : 0 ≤ z) (h1 : z < (n : Int)) (hd : Nat.blt d N = true) (hM : Sub M M0)
    (hK : SXA P fn K N k ops M0 ds fuel (l.setIfInBounds i true) ((d, .pointer (some ⟨b, o + z.toNat * te.size + 0, none⟩)) :: a) M) : SXA P fn K N k ops M0 ds (fuel + 1) l a M :=
  SXA.val i hi hc hg (fun act w st w' hw' => by
    have hdd := (tok (P := P) hl).desc
    rw [hs] at hdd
    simp only [execOp, evalO_ok st.fits hx, evalO_ok st.fits hy, Instr.indexAt, asIntOf, Sem.run_bind, Sem.run_pure, Result.andThen_ok, hdd]
    simp [h0, h1, (tok (P := P) he).size, add_off]) hd hM hK
theorem SXA.loadRow [hT : TOk P T] (i : Nat) {t b o j off s : Nat} {x : Operand} (D : Kd α) {xs : List α} [hf : Flat D enc] {e : α} {v : Value} {g : Option (Nat × Bool)} (hi : ops[i]? = some ⟨some d, .load t x, ty, pos, af, g⟩) (hc : takeB .any ops ds l (l.setIfInBounds i true) i = true) (hg : guardB ops a g = some true)
    (hx : evalO a x = some (.pointer (some ⟨b, o + j * s + off, none⟩))) (hs : s = D.sz) (hr : Ro D (some ⟨b, o, none⟩) M0 xs) (he : xs[j]? = some e)
    (h : loadC T t (enc e) off = some v) (hd : Nat.blt d N = true) (hM : Sub M M0) (hK : SXA P fn K N k ops M0 ds fuel (l.setIfInBounds i true) ((d, v) :: a) M) : SXA P fn K N k ops M0 ds (fuel + 1) l a M :=
  SXA.val i hi hc hg (fun act w st w' hw' => by
    subst hs
    simp [execOp, evalO_ok st.fits hx, Instr.loadAt, Instr.sureAddr, loadC_ro (P := P) (T := T) (hw'.ro hr) he h]) hd hM hK
theorem SXA.loadRow1 [hT : TOk P T] (i : Nat) {t b o j off off' s : Nat} {x : Operand} (D : Kd α) {xs : List α} [hf : Flat D enc] {e : α} {v : Value} {g : Option (Nat × Bool)} (hi : ops[i]? = some ⟨some d, .load t x, ty, pos, af, g⟩) (hc : takeB .any ops ds l (l.setIfInBounds i true) i = true) (hg : guardB ops a g = some true)
    (hx : evalO a x = some (.pointer (some ⟨b, o + j * s + off + off', none⟩))) (hs : s = D.sz) (hr : Ro D (some ⟨b, o, none⟩) M0 xs) (he : xs[j]? = some e)
    (h : loadC T t (enc e) (off + off') = some v) (hd : Nat.blt d N = true) (hM : Sub M M0) (hK : SXA P fn K N k ops M0 ds fuel (l.setIfInBounds i true) ((d, v) :: a) M) : SXA P fn K N k ops M0 ds (fuel + 1) l a M :=
  SXA.val i hi hc hg (fun act w st w' hw' => by
    subst hs
    have h9 := loadC_ro (P := P) (T := T) (hw'.ro hr) he h
    rw [← Nat.add_assoc] at h9
    simp [execOp, evalO_ok st.fits hx, Instr.loadAt, Instr.sureAddr, h9]) hd hM hK
theorem SXA.split (s : Nat) {b : Bool} (hv : look a s = some (.bool b)) (ht : b = true → SXA P fn K N k ops M0 ds fuel l ((s, .bool true) :: a) M) (hf : b = false → SXA P fn K N k ops M0 ds fuel l ((s, .bool false) :: a) M) : SXA P fn K N k ops M0 ds fuel l a M := by
  cases b with
  | true => exact SXA.know s true hv rfl (ht rfl)
  | false => exact SXA.know s false hv rfl (hf rfl)
end
end Go.Proofs.YtanemmcddgkpdaaGreat.Sx
end
section
/- Go code walked by what is known of slots and memory: structs that are compared; conditions: those that each theorem names. -/
namespace Go.Proofs.YtanemmcddgkpdaaGreat.Sx
open Go.RowKit Go.Proofs.YtanemmcddgkpdaaGreatW.PrintWords Go.Proofs.YtanemmcddgkpdaaGreatW.PrintLast Go.Proofs.YtanemmcddgkpdaaGreatW.PrintMore
set_option linter.unusedVariables false
set_option linter.unusedSimpArgs false
/-- A struct's type whose values are compared field by field. -/
class EqT (P : Program) (t : TypeId) : Prop where
  guard : P.eqGuardType P.depth t = false
  held : P.stoodInHeld t = false
  names : ((P.fieldsOf t).toList.all fun f => !(f.name == "_")) = true
theorem under_of {P : Program} {t : TypeId} {d : TypeDesc} {w : World} (h : (underlying t).run P w = .ok d w) : P.underlying t = some d := by
  cases hu : P.underlying t with
  | none => simp [underlying, hu] at h
  | some x => rw [run_underlying hu] at h; injection h with h _; rw [h]
theorem fields_of {P : Program} {t : TypeId} {fs : Array Field} (h : P.underlying t = some (.struct fs)) : P.fieldsOf t = fs := by simp [Program.fieldsOf, h]
def eqV (T : List (Nat × TI)) (t : Nat) (u v : Value) : Option Bool := match lookT T t, u, v with
  | some ⟨_, _, _, .int _, _⟩, .int k x, .int k' y => match kEq k k' with
    | true => some (x == y)
    | false => none
  | some ⟨_, _, _, .string, _⟩, .string x, .string y => some (x.toList == y.toList)
  | some ⟨_, _, _, .bool, _⟩, .bool x, .bool y => some (x == y)
  | _, _, _ => none
def eqFs (T : List (Nat × TI)) : List Field → List (Nat × Nat × Bool) → List Value → List Value → Option Bool
  | [f], (o, s, g) :: _, cs, ds => match partK g cs o s, partK g ds o s with
    | some u, some v => eqV T f.type u v
    | _, _ => none
  | f :: f' :: fs, (o, s, g) :: r, cs, ds => match partK g cs o s, partK g ds o s, eqFs T (f' :: fs) r cs ds with
    | some u, some v, some b' => match eqV T f.type u v with
      | some b => some (b && b')
      | none => none
    | _, _, _ => none
  | _, _, _, _ => none
section
variable {P : Program} {fn : Func} {K : Ending → List Thing → Prop} {N : Nat} {k : List It} {a : Fr} {M M0 R : List Thing} {ops : Array Oper} {rest : List Oper} {T : List (Nat × TI)}
variable {d : Nat} {op : Op} {ty : TypeId} {pos : String} {af : Array Edge}
theorem eqV_ok [hT : TOk P T] {t : Nat} {u v : Value} {b : Bool} (h : eqV T t u v = some b) (n : Nat) (w : World) : (Op.equalIn (n + 1) t u v).run P w = .ok b w := by
  unfold eqV at h
  split at h
  · rename_i i j z k0 r k1 x k2 y hl
    split at h
    · rename_i hk
      obtain rfl := kEq_eq hk
      obtain rfl := Option.some.inj h
      have ht := (tok (P := P) hl).desc
      unfold Op.equalIn
      simp [ht]
    · cases h
  · rename_i i j z r x y hl
    obtain rfl := Option.some.inj h
    have ht := (tok (P := P) hl).desc
    unfold Op.equalIn
    simp [ht, beq_toListBytes]
  · rename_i i j z r x y hl
    obtain rfl := Option.some.inj h
    have ht := (tok (P := P) hl).desc
    unfold Op.equalIn
    simp [ht]
  · cases h
theorem eqFs_ok [hT : TOk P T] {cs ds : Array Value} (n : Nat) (w : World) : ∀ {fs : List Field} {r : List (Nat × Nat × Bool)} {b : Bool}, FldsOk P fs r → (fs.all fun f => !(f.name == "_")) = true → eqFs T fs r cs.toList ds.toList = some b → (Op.eqFields (n + 1) cs ds fs).run P w = .ok b w
  | [], _, _, _, _, h => by unfold eqFs at h; cases h
  | [f], [], _, hf, _, _ => hf.elim
  | [f], (o, s, g) :: r, b, hf, hn, h => by
    obtain ⟨h1, h2, h3, _⟩ := hf
    subst h1
    unfold eqFs at h
    split at h
    · rename_i u v hu hv
      exact eqf_last (by simpa using hn) (part_ok h2 h3 hu w) (part_ok h2 h3 hv w) (eqV_ok h n w)
    · cases h
  | f :: f' :: fs, [], _, hf, _, _ => hf.elim
  | f :: f' :: fs, (o, s, g) :: r, b, hf, hn, h => by
    obtain ⟨h1, h2, h3, h4⟩ := hf
    subst h1
    unfold eqFs at h
    rw [List.all_cons, Bool.and_eq_true] at hn
    split at h
    · rename_i u v b' hu hv hb
      split at h
      · rename_i b0 he
        obtain rfl := Option.some.inj h
        exact eqf_cons (by simpa using hn.1) (part_ok h2 h3 hu w) (part_ok h2 h3 hv w) (eqV_ok he n w) (eqFs_ok n w h4 hn.2 hb)
      · cases h
    · cases h
theorem SXL.eqAgg [hT : TOk P T] {t t' : Nat} {x y : Operand} {cs ds : Array Value} {fs : Array Field} {ti : TI} {b : Bool} (hx : evalO a x = some (.agg cs)) (hy : evalO a y = some (.agg ds)) (he : EqT P t) (hl : lookT T t = some ti) (hs : ti.desc = .struct fs)
    (h : eqFs T fs.toList ti.flds cs.toList ds.toList = some b) (hd : Nat.blt d N = true) (hK : SXL P fn K N k ops rest ((d, .bool b) :: a) M) : SXL P fn K N k ops (⟨some d, .binOp .eql t x y t', ty, pos, af, none⟩ :: rest) a M :=
  SXL.val hd (fun act w st => by
    have hu := under_of ((tok (P := P) hl).desc w)
    rw [hs] at hu
    have hnm := he.names
    rw [fields_of hu] at hnm
    have h1 := eqFs_ok (P := P) (T := T) 9998 w ((tok (P := P) hl).flds _ hs) hnm h
    have h2 := eqA_of hu he.held h1
    have h3 := run_eqGuard_agg (P := P) w .eql t x y cs ds he.guard
    have h4 := run_eql_struct (P := P) w t cs ds
    rw [h2] at h4
    simp [execOp, evalO_ok st.fits hx, evalO_ok st.fits hy, h3, h4]) hK
theorem SXL.neAgg [hT : TOk P T] {t t' : Nat} {x y : Operand} {cs ds : Array Value} {fs : Array Field} {ti : TI} {b : Bool} (hx : evalO a x = some (.agg cs)) (hy : evalO a y = some (.agg ds)) (he : EqT P t) (hl : lookT T t = some ti) (hs : ti.desc = .struct fs)
    (h : eqFs T fs.toList ti.flds cs.toList ds.toList = some b) (hd : Nat.blt d N = true) (hK : SXL P fn K N k ops rest ((d, .bool (!b)) :: a) M) : SXL P fn K N k ops (⟨some d, .binOp .neq t x y t', ty, pos, af, none⟩ :: rest) a M :=
  SXL.val hd (fun act w st => by
    have hu := under_of ((tok (P := P) hl).desc w)
    rw [hs] at hu
    have hnm := he.names
    rw [fields_of hu] at hnm
    have h1 := eqFs_ok (P := P) (T := T) 9998 w ((tok (P := P) hl).flds _ hs) hnm h
    have h2 := eqA_of hu he.held h1
    have h3 := run_eqGuard_agg (P := P) w .neq t x y cs ds he.guard
    have h4 := run_neq_struct (P := P) w t cs ds
    rw [h2] at h4
    simp [execOp, evalO_ok st.fits hx, evalO_ok st.fits hy, h3, h4]) hK
end
end Go.Proofs.YtanemmcddgkpdaaGreat.Sx
end
section
/- Go code walked by what is known of slots and memory: parts of rows are read; conditions: those that each theorem names. -/
namespace Go.Proofs.YtanemmcddgkpdaaGreat.Sx
open Go.RowKit Go.Proofs.YtanemmcddgkpdaaGreatW.PrintWords Go.Proofs.YtanemmcddgkpdaaGreatW.PrintLast Go.Proofs.YtanemmcddgkpdaaGreatW.PrintMore
set_option linter.unusedVariables false
set_option linter.unusedSimpArgs false
theorem Ro.take {α : Type} {D : Kd α} {A : Option Addr} {M : List Thing} {xs : List α} (n : Nat) (hr : Ro D A M xs) : Ro D A M (xs.take n) := ⟨fun w I U h => by
  obtain ⟨S, hC, hF, hx⟩ := hr.h w I U h
  exact ⟨S, C_take hC n, fun W hW => C_take (hF W hW) n, hx⟩⟩
theorem Ro.drop {α : Type} {D : Kd α} {A : Option Addr} {M : List Thing} {xs : List α} {c : Nat} (n : Nat) (hr : Ro D A M xs) (hc : xs.length ≤ c) : Ro D (if c = n then A else A.map (·.add (n * D.sz))) M (xs.drop n) := ⟨fun w I U h => by
  obtain ⟨S, hC, hF, hx⟩ := hr.h w I U h
  exact ⟨S, C_drop hC n hc, fun W hW => C_drop (hF W hW) n hc, hx⟩⟩
end Go.Proofs.YtanemmcddgkpdaaGreat.Sx
end
section
/- Go code walked by what is known of slots and memory: the rules under short names, with their sides decided; conditions: those that each theorem names. -/
namespace Go.Proofs.YtanemmcddgkpdaaGreat.Sx
open Go.RowKit Go.Proofs.YtanemmcddgkpdaaGreatW.PrintWords Go.Proofs.YtanemmcddgkpdaaGreatW.PrintLast Go.Proofs.YtanemmcddgkpdaaGreatW.PrintMore
set_option linter.unusedVariables false
set_option linter.unusedSimpArgs false
section
variable {P : Program} {fn : Func} {K : Ending → List Thing → Prop} {N : Nat} {k k' : List It} {a : Fr} {M M0 R : List Thing} {ops : Array Oper} {rest : List Oper} {T : List (Nat × TI)}
variable {d id : Nat} {op : Op} {ty : TypeId} {pos : String} {af : Array Edge} {ds : List Nat} {fuel : Nat} {l : Array Bool}
theorem Qa [hT : TOk P T] {v : Value} (hK : SXL P fn K N k ops rest ((d, v) :: a) M) (h : pureOp T a op = some v := by exact rfl) (hd : Nat.blt d N = true := by exact rfl) : SXL P fn K N k ops (⟨some d, op, ty, pos, af, none⟩ :: rest) a M := SXL.pure h hd hK
theorem Qb [hT : TOk P T] {t b off : Nat} {x : Operand} {cs : List Value} {ty' : TypeId} {v : Value} (hK : SXL P fn K N k ops rest ((d, v) :: a) M) (hx : evalO a x = some (.pointer (some ⟨b, off, none⟩)) := by exact rfl) (hat : At (some ⟨b, 0, none⟩) M (cellsR b cs ty') R := by infer_instance)
    (h : loadC T t cs off = some v := by exact rfl) (hd : Nat.blt d N = true := by exact rfl) : SXL P fn K N k ops (⟨some d, .load t x, ty, pos, af, none⟩ :: rest) a M := SXL.load hx hat h hd hK
theorem Qc [hT : TOk P T] {t b off : Nat} {x y : Operand} {cs cs' : List Value} {ty' : TypeId} {v : Value} (hK : SXL P fn K N k ops rest a (.own (some ⟨b, 0, none⟩) (cellsR b cs' ty') :: R)) (hx : evalO a x = some (.pointer (some ⟨b, off, none⟩)) := by exact rfl) (hy : evalO a y = some v := by exact rfl) (hat : At (some ⟨b, 0, none⟩) M (cellsR b cs ty') R := by infer_instance)
    (h : storeC T t cs off v = some cs' := by exact rfl) : SXL P fn K N k ops (⟨none, .store t x y, ty, pos, af, none⟩ :: rest) a M := SXL.store hx hy hat h hK
theorem Qd (h : SX P fn K N k a M) : SXL P fn K N k ops [] a M := SXL.nil h
theorem Qe {l : List Oper} (h : SXL P fn K N k l.toArray l a M) : SX P fn K N (.code (.region id l.toArray false) :: k) a M := SX.region h
theorem Qf {x y : Code} (h : SX P fn K N (.code x :: .code y :: k) a M) : SX P fn K N (.code (.seq x y) :: k) a M := SX.seq h
theorem Qg (h : SX P fn K N k a M) : SX P fn K N (.code .skip :: k) a M := SX.skip h
theorem Qh {c : Code} (h : SX P fn K N (.code c :: .block id :: k) a M) : SX P fn K N (.code (.block id c) :: k) a M := SX.block h
theorem Qi (h : SX P fn K N k a M) : SX P fn K N (.block id :: k) a M := SX.endBlock h
theorem Qj (h : SX P fn K N k' a M) (hk : popTo id k = some k' := by exact rfl) : SX P fn K N (.code (.exit id) :: k) a M := SX.exit hk h
theorem Qk {c : Operand} {x y : Code} {b : Bool} (h : SX P fn K N (.code x :: k) a M) (hc : evalO a c = some (.bool b) := by exact rfl) (hb : b = true := by first | with_reducible rfl | decide) : SX P fn K N (.code (.cond c x y) :: k) a M := SX.cond_t hc hb h
theorem Ql {c : Operand} {x y : Code} {b : Bool} (h : SX P fn K N (.code y :: k) a M) (hc : evalO a c = some (.bool b) := by exact rfl) (hb : b = false := by first | with_reducible rfl | decide) : SX P fn K N (.code (.cond c x y) :: k) a M := SX.cond_f hc hb h
theorem Qm {dst : Option Tmp} {j s : Nat} {b c : Bool} (h : SXL P fn K N k ops (⟨dst, op, ty, pos, af, none⟩ :: rest) a M) (hj : (ops[j]?).bind (·.dst) = some s := by exact rfl) (hv : look a s = some (.bool c) := by exact rfl) (hc : c = b := by first | with_reducible rfl | decide) :
    SXL P fn K N k ops (⟨dst, op, ty, pos, af, some (j, b)⟩ :: rest) a M := SXL.guard_t hj hv hc h
theorem Qn {j s : Nat} {b c : Bool} (h : SXL P fn K N k ops rest ((d, undef) :: a) M) (hj : (ops[j]?).bind (·.dst) = some s := by exact rfl) (hv : look a s = some (.bool c) := by exact rfl) (hc : c = !b := by first | with_reducible rfl | decide) (hd : Nat.blt d N = true := by exact rfl) :
    SXL P fn K N k ops (⟨some d, op, ty, pos, af, some (j, b)⟩ :: rest) a M := SXL.guard_f hj hv hc hd h
theorem Qp {j s : Nat} {b : Bool} (h : SXL P fn K N k ops rest ((d, undef) :: a) M) (hj : (ops[j]?).bind (·.dst) = some s := by exact rfl) (hv : look a s = some undef := by exact rfl) (hd : Nat.blt d N = true := by exact rfl) :
    SXL P fn K N k ops (⟨some d, op, ty, pos, af, some (j, b)⟩ :: rest) a M := SXL.guard_fu hj hv hd h
/-! ### a region whose order is drawn -/
theorem Qr [hT : TOk P T] (i : Nat) {v : Value} {g : Option (Nat × Bool)} (hK : SXA P fn K N k ops M0 ds fuel (l.setIfInBounds i true) ((d, v) :: a) M) (hi : ops[i]? = some ⟨some d, op, ty, pos, af, g⟩ := by exact rfl) (hc : anyB .any ops l (l.setIfInBounds i true) i = true := by decide +kernel) (hg : guardB ops a g = some true := by exact rfl) (h : pureOp T a op = some v := by exact rfl) (hd : Nat.blt d N = true := by exact rfl) :
    SXA P fn K N k ops M0 ds (fuel + 1) l a M := SXA.pure i hi hc hg h hd hK
theorem Qs (i : Nat) {g : Option (Nat × Bool)} (hK : SXA P fn K N k ops M0 ds fuel (l.setIfInBounds i true) ((d, undef) :: a) M) (hi : ops[i]? = some ⟨some d, op, ty, pos, af, g⟩ := by exact rfl) (hc : anyB .any ops l (l.setIfInBounds i true) i = true := by decide +kernel) (hg : guardB ops a g = some false := by exact rfl) (hd : Nat.blt d N = true := by exact rfl) :
    SXA P fn K N k ops M0 ds (fuel + 1) l a M := SXA.skip i hi hc hg hd hK
theorem Qt [hT : TOk P T] (i : Nat) {t b off : Nat} {x : Operand} {cs : List Value} {ty' : TypeId} {v : Value} {g : Option (Nat × Bool)} (hK : SXA P fn K N k ops M0 ds fuel (l.setIfInBounds i true) ((d, v) :: a) M) (hi : ops[i]? = some ⟨some d, .load t x, ty, pos, af, g⟩ := by exact rfl) (hc : takeB .any ops ds l (l.setIfInBounds i true) i = true := by decide +kernel) (hg : guardB ops a g = some true := by exact rfl) (hx : evalO a x = some (.pointer (some ⟨b, off, none⟩)) := by exact rfl) (hat : At (some ⟨b, 0, none⟩) M0 (cellsR b cs ty') R := by infer_instance)
    (h : loadC T t cs off = some v := by exact rfl) (hd : Nat.blt d N = true := by exact rfl) (hM : Sub M M0 := by infer_instance) : SXA P fn K N k ops M0 ds (fuel + 1) l a M := SXA.load i hi hc hg hx hat h hd hM hK
theorem Qu [hT : TOk P T] (i : Nat) {t b off : Nat} {x y : Operand} {cs cs' : List Value} {ty' : TypeId} {v : Value} (hK : SXA P fn K N k ops M0 ds fuel (l.setIfInBounds i true) a (.own (some ⟨b, 0, none⟩) (cellsR b cs' ty') :: R)) (hi : ops[i]? = some ⟨none, .store t x y, ty, pos, af, none⟩ := by exact rfl) (hr : (Region.ready .any ops l == [i] && !([i] : List Nat).isEmpty) = true := by decide +kernel)
    (hx : evalO a x = some (.pointer (some ⟨b, off, none⟩)) := by exact rfl) (hy : evalO a y = some v := by exact rfl) (hat : At (some ⟨b, 0, none⟩) M (cellsR b cs ty') R := by infer_instance) (h : storeC T t cs off v = some cs' := by exact rfl) (hM : Sub (.own (some ⟨b, 0, none⟩) (cellsR b cs' ty') :: R) M0 := by infer_instance) :
    SXA P fn K N k ops M0 ds (fuel + 1) l a M := SXA.store i hi hr hx hy hat h hM hK
theorem Qv (h : SX P fn K N k a M) (hr : (Region.ready .any ops l == []) = true := by decide +kernel) : SXA P fn K N k ops M0 ds fuel l a M := SXA.done hr h
theorem Qw (i : Nat) {o : Oper} (h : SXL P fn K N (.again (AJ P fn K k ops M0 ds i fuel (l.setIfInBounds i true)) :: k) ops [o] a M) (hr : (Region.ready .any ops l == [i] && !([i] : List Nat).isEmpty) = true := by decide +kernel) (hi : ops[i]? = some o := by exact rfl) : SXA P fn K N k ops M0 ds (fuel + 1) l a M := SXA.one i hr hi h
end
end Go.Proofs.YtanemmcddgkpdaaGreat.Sx
end
