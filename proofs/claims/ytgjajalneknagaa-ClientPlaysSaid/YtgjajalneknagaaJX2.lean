/- Part X2 of the lemmas and walks of the Go functions that these statements reach; conditions: those that each theorem names. -/
import Derived.Test.YtgjajalneknagaaJV4
section
/- Go code walked by what is known of slots and memory: a string's bytes as a row, structs within structs compared; conditions: those that each theorem names. -/
namespace Go.Proofs.Ytgjajalneknagaa.Sx
open Go.RowKit Go.Proofs.Ytgjajalneknagaa.Hm Go.Proofs.YtgjajalneknagaaW.PrintWords Go.Proofs.YtgjajalneknagaaW.PrintLast Go.Proofs.YtgjajalneknagaaW.PrintMore
set_option linter.unusedVariables false
set_option linter.unusedSimpArgs false

section
variable {P : Program} {fn : Func} {K : Ending → List Thing → Prop} {N : Nat} {k k' : List It} {a : Fr} {M M0 R : List Thing} {ops : Array Oper} {rest : List Oper} {T : List (Nat × TI)}
variable {d id : Nat} {op : Op} {ty : TypeId} {pos : String} {af : Array Edge} {ds : List Nat} {fuel : Nat} {l : Array Bool}
theorem Holds.newF {α : Type} {D : Kd α} {w w' : World} {A : Option Addr} {n : Nat} {xs : List α} (h : Holds w M) (hb : Below w.heap.size w w') (hn : n = xs.length) (hF : Kd.F D w' (fun k => w.heap.size ≤ k) A n xs) : Holds w' (.per (roR D A xs) :: M) := by
  subst hn
  exact h.newPer hb (S := fun k => w.heap.size ≤ k ∧ k < w'.heap.size) (fun W hW => hF W (fun k hk hlt => hW k ⟨hk, hlt⟩ hlt)) (fun k hk => hk)
theorem bytes_F {w : World} {e : TypeId} {s : ByteArray} (hl : s.size ≤ 9223372036854775807) : Kd.F (Kd.int .u8) (Lib.bytesWorld w e s) (fun k => w.heap.size ≤ k) (some ⟨w.heap.size, 0, none⟩) (bytesOf s).length (bytesOf s) := by
  intro W' hk
  have hb := hk w.heap.size (Nat.le_refl _) (by rw [Lib.bytesWorld_size]; omega)
  refine Kd.C_of_reads (d := (0 : Int)) (h1 := fun _ => rfl) (show ReadsInt W' .u8 (some ⟨w.heap.size, 0, none⟩) (bytesOf s).length (bytesOf s) from ⟨rfl, by rw [bytesOf_length]; exact hl, fun _ => ⟨_, rfl, fun j hj => ?_⟩⟩)
  rw [bytesOf_length] at hj
  have hr := bytes_reads w e s hl
  obtain ⟨ad, e1, e2⟩ := hr.2.2 (by omega)
  injection e1 with e1
  subst e1
  have h2 := e2 j hj
  have h3 : W'.cell? ((⟨w.heap.size, 0, none⟩ : Addr).add j) = (Lib.bytesWorld w e s).cell? ((⟨w.heap.size, 0, none⟩ : Addr).add j) := by
    rw [add_plain]
    simp only [World.cell?, hb]
  rw [h3, h2]
/-- '[]byte(s)': the bytes stay. -/
theorem SXL.strBytes {t t' e : Nat} {x : Operand} {s : ByteArray} (hx : evalO a x = some (.string s)) (hu : P.underlying t = some .string) (ht : P.underlying t' = some (.slice e)) (he : P.underlying e = some (.int .u8)) (hl : s.size ≤ 9223372036854775807) (hd : Nat.blt d N = true)
    (hK : ∀ A c, (bytesOf s).length ≤ c → SXL P fn K N k ops rest ((d, .slice A (bytesOf s).length c) :: a) (.per (roR (Kd.int .u8) A (bytesOf s)) :: M)) : SXL P fn K N k ops (⟨some d, .convert t t' x, ty, pos, af, none⟩ :: rest) a M :=
  SXL.step rfl (fun act w st => by
    have hr : (execOp act.eval ⟨some d, .convert t t' x, ty, pos, af, none⟩).run P w = .ok (.value (.slice (some ⟨w.heap.size, 0, none⟩) s.size (grownCap w s.size 0 e))) (Lib.bytesWorld w e s) := by
      simp only [execOp, evalO_ok st.fits hx, Sem.run_bind, print_bytes (P := P) t t' e hu ht he s w]
      rfl
    unfold Oper.wp
    rw [hr]
    have h9 := hK (some ⟨w.heap.size, 0, none⟩) (grownCap w s.size 0 e) (by rw [bytesOf_length]; exact Nat.le_add_right s.size _)
    rw [bytesOf_length] at h9
    exact h9 _ _ (st.put hd (st.holds.newF (bytes_below (Below.refl _ _) (Nat.le_refl _) _ _) (bytesOf_length s).symm (by have := bytes_F (w := w) (e := e) hl; rwa [bytesOf_length] at this))))
/-! ### structs within structs -/
/-- Structs' types that stand within others and are compared. -/
class EqN (P : Program) (ts : outParam (List TypeId)) : Prop where
  h : (ts.all fun t => !P.stoodInHeld t && (P.fieldsOf t).toList.all fun f => !(f.name == "_")) = true
def eqFsG (E : Nat → Value → Value → Option Bool) : List Field → List (Nat × Nat × Bool) → List Value → List Value → Option Bool
  | [f], (o, s, g) :: _, cs, ds => match partK g cs o s, partK g ds o s with
    | some u, some v => E f.type u v
    | _, _ => none
  | f :: f' :: fs, (o, s, g) :: r, cs, ds => match partK g cs o s, partK g ds o s, eqFsG E (f' :: fs) r cs ds with
    | some u, some v, some b' => match E f.type u v with
      | some b => some (b && b')
      | none => none
    | _, _, _ => none
  | _, _, _, _ => none
def eqW (T : List (Nat × TI)) (ts : List TypeId) : Nat → Nat → Value → Value → Option Bool
  | 0, t, u, v => eqV T t u v
  | n + 1, t, u, v => match lookT T t, u, v with
    | some ⟨_, _, _, .struct fs, r⟩, .agg cs, .agg ds => match ts.contains t with
      | true => eqFsG (eqW T ts n) fs.toList r cs.toList ds.toList
      | false => none
    | _, _, _ => eqV T t u v
theorem eqFsG_ok [hT : TOk P T] {E : Nat → Value → Value → Option Bool} {cs ds : Array Value} (n : Nat) (w : World) (hE : ∀ t u v b, E t u v = some b → (Op.equalIn n t u v).run P w = .ok b w) : ∀ {fs : List Field} {r : List (Nat × Nat × Bool)} {b : Bool}, FldsOk P fs r → (fs.all fun f => !(f.name == "_")) = true → eqFsG E fs r cs.toList ds.toList = some b → (Op.eqFields n cs ds fs).run P w = .ok b w
  | [], _, _, _, _, h => by unfold eqFsG at h; cases h
  | [f], [], _, hf, _, _ => hf.elim
  | [f], (o, s, g) :: r, b, hf, hn, h => by
    obtain ⟨h1, h2, h3, _⟩ := hf
    subst h1
    unfold eqFsG at h
    split at h
    · rename_i u v hu hv
      exact eqf_last (by simpa using hn) (part_ok h2 h3 hu w) (part_ok h2 h3 hv w) (hE _ _ _ _ h)
    · cases h
  | f :: f' :: fs, [], _, hf, _, _ => hf.elim
  | f :: f' :: fs, (o, s, g) :: r, b, hf, hn, h => by
    obtain ⟨h1, h2, h3, h4⟩ := hf
    subst h1
    unfold eqFsG at h
    rw [List.all_cons, Bool.and_eq_true] at hn
    split at h
    · rename_i u v b' hu hv hb
      split at h
      · rename_i b0 he
        obtain rfl := Option.some.inj h
        exact eqf_cons (by simpa using hn.1) (part_ok h2 h3 hu w) (part_ok h2 h3 hv w) (hE _ _ _ _ he) (eqFsG_ok n w hE h4 hn.2 hb)
      · cases h
    · cases h
theorem eqW_ok [hT : TOk P T] {ts : List TypeId} (he : EqN P ts) (w : World) : ∀ (n m : Nat) {t : Nat} {u v : Value} {b : Bool}, eqW T ts n t u v = some b → (Op.equalIn (m + n + 1) t u v).run P w = .ok b w
  | 0, m, _, _, _, _, h => eqV_ok h m w
  | n + 1, m, t, u, v, b, h => by
    unfold eqW at h
    split at h
    · rename_i z1 z2 z3 fs r cs ds hl
      split at h
      · rename_i hc
        have hu := under_of ((tok (P := P) hl).desc w)
        have hx := List.all_eq_true.1 he.h t (List.contains_iff_mem.1 hc)
        rw [Bool.and_eq_true] at hx
        have hnm := hx.2
        rw [fields_of hu] at hnm
        exact eqA_of hu (by simpa using hx.1) (eqFsG_ok (P := P) (T := T) (m + n + 1) w (fun t u v b hb => eqW_ok he w n m hb) ((tok (P := P) hl).flds _ rfl) hnm h)
      · cases h
    · exact eqV_ok h (m + (n + 1)) w
theorem SXL.eqStr [hT : TOk P T] {t t' : Nat} {x y : Operand} {cs ds : Array Value} {fs : Array Field} {ti : TI} {b : Bool} {ts : List TypeId} (hx : evalO a x = some (.agg cs)) (hy : evalO a y = some (.agg ds)) (he : EqT P t) (hN : EqN P ts) (hl : lookT T t = some ti) (hs : ti.desc = .struct fs)
    (h : eqFsG (eqW T ts 3) fs.toList ti.flds cs.toList ds.toList = some b) (hd : Nat.blt d N = true) (hK : SXL P fn K N k ops rest ((d, .bool b) :: a) M) : SXL P fn K N k ops (⟨some d, .binOp .eql t x y t', ty, pos, af, none⟩ :: rest) a M :=
  SXL.val hd (fun act w st => by
    have hu := under_of ((tok (P := P) hl).desc w)
    rw [hs] at hu
    have hnm := he.names
    rw [fields_of hu] at hnm
    have h1 := eqFsG_ok (P := P) (T := T) 9999 w (fun t u v b hb => eqW_ok hN w 3 9995 hb) ((tok (P := P) hl).flds _ hs) hnm h
    have h2 := eqA_of hu he.held h1
    have h3 := run_eqGuard_agg (P := P) w .eql t x y cs ds he.guard
    have h4 := run_eql_struct (P := P) w t cs ds
    rw [h2] at h4
    simp [execOp, evalO_ok st.fits hx, evalO_ok st.fits hy, h3, h4]) hK
theorem SXL.neStr [hT : TOk P T] {t t' : Nat} {x y : Operand} {cs ds : Array Value} {fs : Array Field} {ti : TI} {b : Bool} {ts : List TypeId} (hx : evalO a x = some (.agg cs)) (hy : evalO a y = some (.agg ds)) (he : EqT P t) (hN : EqN P ts) (hl : lookT T t = some ti) (hs : ti.desc = .struct fs)
    (h : eqFsG (eqW T ts 3) fs.toList ti.flds cs.toList ds.toList = some b) (hd : Nat.blt d N = true) (hK : SXL P fn K N k ops rest ((d, .bool (!b)) :: a) M) : SXL P fn K N k ops (⟨some d, .binOp .neq t x y t', ty, pos, af, none⟩ :: rest) a M :=
  SXL.val hd (fun act w st => by
    have hu := under_of ((tok (P := P) hl).desc w)
    rw [hs] at hu
    have hnm := he.names
    rw [fields_of hu] at hnm
    have h1 := eqFsG_ok (P := P) (T := T) 9999 w (fun t u v b hb => eqW_ok hN w 3 9995 hb) ((tok (P := P) hl).flds _ hs) hnm h
    have h2 := eqA_of hu he.held h1
    have h3 := run_eqGuard_agg (P := P) w .neq t x y cs ds he.guard
    have h4 := run_neq_struct (P := P) w t cs ds
    rw [h2] at h4
    simp [execOp, evalO_ok st.fits hx, evalO_ok st.fits hy, h3, h4]) hK
end
end Go.Proofs.Ytgjajalneknagaa.Sx
end
section
/- Go code walked by what is known of slots and memory: a package's array that stays; conditions: those that each theorem names. -/
namespace Go.Proofs.Ytgjajalneknagaa.Sx
open Go.RowKit Go.Proofs.Ytgjajalneknagaa.Hm Go.Proofs.YtgjajalneknagaaW.PrintWords Go.Proofs.YtgjajalneknagaaW.PrintLast Go.Proofs.YtgjajalneknagaaW.PrintMore
set_option linter.unusedVariables false
set_option linter.unusedSimpArgs false

section
variable {P : Program} {fn : Func} {K : Ending → List Thing → Prop} {N : Nat} {k k' : List It} {a : Fr} {M M0 R : List Thing} {ops : Array Oper} {rest : List Oper} {T : List (Nat × TI)}
variable {d id : Nat} {op : Op} {ty : TypeId} {pos : String} {af : Array Edge} {ds : List Nat} {fuel : Nat} {l : Array Bool}
/-! ### an element of a row of the call's own -/
end
end Go.Proofs.Ytgjajalneknagaa.Sx
end
