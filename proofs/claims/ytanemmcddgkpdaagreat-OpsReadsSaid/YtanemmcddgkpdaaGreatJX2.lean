/- Part X2 of the lemmas and walks of the Go functions that these statements reach; conditions: those that each theorem names. -/
import Derived.Test.YtanemmcddgkpdaaGreatJV4
section
/- Go code walked by what is known of slots and memory: a string's bytes as a row, structs within structs compared; conditions: those that each theorem names. -/
namespace Go.Proofs.YtanemmcddgkpdaaGreat.Sx
open Go.RowKit Go.Proofs.YtanemmcddgkpdaaGreat.Hm Go.Proofs.YtanemmcddgkpdaaGreatW.PrintWords Go.Proofs.YtanemmcddgkpdaaGreatW.PrintLast Go.Proofs.YtanemmcddgkpdaaGreatW.PrintMore
set_option linter.unusedVariables false
set_option linter.unusedSimpArgs false
section
variable {P : Program} {fn : Func} {K : Ending → List Thing → Prop} {N : Nat} {k k' : List It} {a : Fr} {M M0 R : List Thing} {ops : Array Oper} {rest : List Oper} {T : List (Nat × TI)}
variable {d id : Nat} {op : Op} {ty : TypeId} {pos : String} {af : Array Edge} {ds : List Nat} {fuel : Nat} {l : Array Bool}
/-! ### structs within structs -/
/-- Structs' types that stand within others and are compared. -/
class EqN (P : Program) (ts : outParam (List TypeId)) : Prop where
  h : (ts.all fun t => !P.stoodInHeld t && (P.fieldsOf t).toList.all fun f => !(f.name == "_")) = true
def eqFsG (E : Nat → Value → Value → Option Bool) : List Field → List (Nat × Nat × Bool) → List Value → List Value → Option Bool
  | [f], (o, s, g) :: _, cs, ds => match partK g cs o s, partK g ds o s with
    | some u, some v => E f.type u v
    | _, _ => none
  | f :: f' :: fs, (o, s, g) :: r, cs, ds => match partK g cs o s, partK g ds o s, eqFsG E (f' :: fs) r cs ds with
    | some u, some v, some b' => match E f.type u v with
      | some b => some (b && b')
      | none => none
    | _, _, _ => none
  | _, _, _, _ => none
def eqW (T : List (Nat × TI)) (ts : List TypeId) : Nat → Nat → Value → Value → Option Bool
  | 0, t, u, v => eqV T t u v
  | n + 1, t, u, v => match lookT T t, u, v with
    | some ⟨_, _, _, .struct fs, r⟩, .agg cs, .agg ds => match ts.contains t with
      | true => eqFsG (eqW T ts n) fs.toList r cs.toList ds.toList
      | false => none
    | _, _, _ => eqV T t u v
theorem eqFsG_ok [hT : TOk P T] {E : Nat → Value → Value → Option Bool} {cs ds : Array Value} (n : Nat) (w : World) (hE : ∀ t u v b, E t u v = some b → (Op.equalIn n t u v).run P w = .ok b w) : ∀ {fs : List Field} {r : List (Nat × Nat × Bool)} {b : Bool}, FldsOk P fs r → (fs.all fun f => !(f.name == "_")) = true → eqFsG E fs r cs.toList ds.toList = some b → (Op.eqFields n cs ds fs).run P w = .ok b w
  | [], _, _, _, _, h => by unfold eqFsG at h; cases h
  | [f], [], _, hf, _, _ => hf.elim
  | [f], (o, s, g) :: r, b, hf, hn, h => by
    obtain ⟨h1, h2, h3, _⟩ := hf
    subst h1
    unfold eqFsG at h
    split at h
    · rename_i u v hu hv
      exact eqf_last (by simpa using hn) (part_ok h2 h3 hu w) (part_ok h2 h3 hv w) (hE _ _ _ _ h)
    · cases h
  | f :: f' :: fs, [], _, hf, _, _ => hf.elim
  | f :: f' :: fs, (o, s, g) :: r, b, hf, hn, h => by
    obtain ⟨h1, h2, h3, h4⟩ := hf
    subst h1
    unfold eqFsG at h
    rw [List.all_cons, Bool.and_eq_true] at hn
    split at h
    · rename_i u v b' hu hv hb
      split at h
      · rename_i b0 he
        obtain rfl := Option.some.inj h
        exact eqf_cons (by simpa using hn.1) (part_ok h2 h3 hu w) (part_ok h2 h3 hv w) (hE _ _ _ _ he) (eqFsG_ok n w hE h4 hn.2 hb)
      · cases h
    · cases h
theorem eqW_ok [hT : TOk P T] {ts : List TypeId} (he : EqN P ts) (w : World) : ∀ (n m : Nat) {t : Nat} {u v : Value} {b : Bool}, eqW T ts n t u v = some b → (Op.equalIn (m + n + 1) t u v).run P w = .ok b w
  | 0, m, _, _, _, _, h => eqV_ok h m w
  | n + 1, m, t, u, v, b, h => by
    unfold eqW at h
    split at h
    · rename_i z1 z2 z3 fs r cs ds hl
      split at h
      · rename_i hc
        have hu := under_of ((tok (P := P) hl).desc w)
        have hx := List.all_eq_true.1 he.h t (List.contains_iff_mem.1 hc)
        rw [Bool.and_eq_true] at hx
        have hnm := hx.2
        rw [fields_of hu] at hnm
        exact eqA_of hu (by simpa using hx.1) (eqFsG_ok (P := P) (T := T) (m + n + 1) w (fun t u v b hb => eqW_ok he w n m hb) ((tok (P := P) hl).flds _ rfl) hnm h)
      · cases h
    · exact eqV_ok h (m + (n + 1)) w
theorem SXL.eqStr [hT : TOk P T] {t t' : Nat} {x y : Operand} {cs ds : Array Value} {fs : Array Field} {ti : TI} {b : Bool} {ts : List TypeId} (hx : evalO a x = some (.agg cs)) (hy : evalO a y = some (.agg ds)) (he : EqT P t) (hN : EqN P ts) (hl : lookT T t = some ti) (hs : ti.desc = .struct fs)
    (h : eqFsG (eqW T ts 3) fs.toList ti.flds cs.toList ds.toList = some b) (hd : Nat.blt d N = true) (hK : SXL P fn K N k ops rest ((d, .bool b) :: a) M) : SXL P fn K N k ops (⟨some d, .binOp .eql t x y t', ty, pos, af, none⟩ :: rest) a M :=
  SXL.val hd (fun act w st => by
    have hu := under_of ((tok (P := P) hl).desc w)
    rw [hs] at hu
    have hnm := he.names
    rw [fields_of hu] at hnm
    have h1 := eqFsG_ok (P := P) (T := T) 9999 w (fun t u v b hb => eqW_ok hN w 3 9995 hb) ((tok (P := P) hl).flds _ hs) hnm h
    have h2 := eqA_of hu he.held h1
    have h3 := run_eqGuard_agg (P := P) w .eql t x y cs ds he.guard
    have h4 := run_eql_struct (P := P) w t cs ds
    rw [h2] at h4
    simp [execOp, evalO_ok st.fits hx, evalO_ok st.fits hy, h3, h4]) hK
theorem SXL.neStr [hT : TOk P T] {t t' : Nat} {x y : Operand} {cs ds : Array Value} {fs : Array Field} {ti : TI} {b : Bool} {ts : List TypeId} (hx : evalO a x = some (.agg cs)) (hy : evalO a y = some (.agg ds)) (he : EqT P t) (hN : EqN P ts) (hl : lookT T t = some ti) (hs : ti.desc = .struct fs)
    (h : eqFsG (eqW T ts 3) fs.toList ti.flds cs.toList ds.toList = some b) (hd : Nat.blt d N = true) (hK : SXL P fn K N k ops rest ((d, .bool (!b)) :: a) M) : SXL P fn K N k ops (⟨some d, .binOp .neq t x y t', ty, pos, af, none⟩ :: rest) a M :=
  SXL.val hd (fun act w st => by
    have hu := under_of ((tok (P := P) hl).desc w)
    rw [hs] at hu
    have hnm := he.names
    rw [fields_of hu] at hnm
    have h1 := eqFsG_ok (P := P) (T := T) 9999 w (fun t u v b hb => eqW_ok hN w 3 9995 hb) ((tok (P := P) hl).flds _ hs) hnm h
    have h2 := eqA_of hu he.held h1
    have h3 := run_eqGuard_agg (P := P) w .neq t x y cs ds he.guard
    have h4 := run_neq_struct (P := P) w t cs ds
    rw [h2] at h4
    simp [execOp, evalO_ok st.fits hx, evalO_ok st.fits hy, h3, h4]) hK
end
end Go.Proofs.YtanemmcddgkpdaaGreat.Sx
end
section
/- Go code walked by what is known of slots and memory: a package's array that stays; conditions: those that each theorem names. -/
namespace Go.Proofs.YtanemmcddgkpdaaGreat.Sx
open Go.RowKit Go.Proofs.YtanemmcddgkpdaaGreat.Hm Go.Proofs.YtanemmcddgkpdaaGreatW.PrintWords Go.Proofs.YtanemmcddgkpdaaGreatW.PrintLast Go.Proofs.YtanemmcddgkpdaaGreatW.PrintMore
set_option linter.unusedVariables false
set_option linter.unusedSimpArgs false
section
variable {P : Program} {fn : Func} {K : Ending → List Thing → Prop} {N : Nat} {k k' : List It} {a : Fr} {M M0 R : List Thing} {ops : Array Oper} {rest : List Oper} {T : List (Nat × TI)}
variable {d id : Nat} {op : Op} {ty : TypeId} {pos : String} {af : Array Edge} {ds : List Nat} {fuel : Nat} {l : Array Bool}
/-! ### an element of a row of the call's own -/
theorem row_addr {α : Type} {D : Kd α} {e : TypeId} {w : World} {base : Nat} {ok : Nat → Prop} {A : Option Addr} {n c : Nat} {xs : List α} (h : D.R e w base ok (.slice A n c) xs) (hp : 0 < xs.length) : ∃ b, A = some ⟨b, 0, none⟩ ∧ ok b := by
  obtain ⟨h0, inner, ho, hr⟩ := h
  rcases ho.2 with ⟨-, h1⟩ | ⟨g, cap, cur, h1, -⟩
  · omega
  · injection h1 with h2
    subst h2
    exact ⟨g, rfl, h0 g rfl⟩
theorem SX.addrOwn {α : Type} {A : Option Addr} {n c : Nat} {e : TypeId} {xs : List α} (D : Kd α) (hat : At A M (rowR D e (.slice A n c) xs) R) (hp : 0 < xs.length) (h : ∀ b, A = some ⟨b, 0, none⟩ → SX P fn K N k a M) : SX P fn K N k a M := fun act w s => by
  obtain ⟨S, _, hS⟩ := (s.holds.at_ hat).head
  obtain ⟨b, e, _⟩ := row_addr hS hp
  exact h b e act w s
theorem SXL.addrOwn {α : Type} {A : Option Addr} {n c : Nat} {e : TypeId} {xs : List α} {l : List Oper} (D : Kd α) (hat : At A M (rowR D e (.slice A n c) xs) R) (hp : 0 < xs.length) (h : ∀ b, A = some ⟨b, 0, none⟩ → SXL P fn K N k ops l a M) : SXL P fn K N k ops l a M := fun act w s => by
  obtain ⟨S, _, hS⟩ := (s.holds.at_ hat).head
  obtain ⟨b, e, _⟩ := row_addr hS hp
  exact h b e act w s
/-- '[]byte("..")' of a constant: the literal's row stays. -/
theorem SXL.litBytes {t e g n c : Nat} {x : Operand} {cs : List Value} (xs : List Int) (hx : evalO a x = some (.slice (some ⟨g, 0, none⟩) n c)) (hat : At (some ⟨g, 0, none⟩) M (cellsR g cs e) R) (hcs : cs = nums .u8 xs) (hu : P.underlying t = some (.slice e)) (he : P.underlying e = some (.int .u8)) (hl : xs.length ≤ 9223372036854775807) (hd : Nat.blt d N = true)
    (hK : SXL P fn K N k ops rest ((d, .slice (some ⟨g, 0, none⟩) n c) :: a) (.per (roR (Kd.int .u8) (some ⟨g, 0, none⟩) xs) :: R)) : SXL P fn K N k ops (⟨some d, .convert t t x, ty, pos, af, none⟩ :: rest) a M :=
  SXL.step rfl (fun act w st => by
    have hb := st.holds.at_ hat
    have hg := hb.cells
    have hlt := blk_lt hg
    have hsh : w.shape? g = some (e, cs.toArray.size) := by
      unfold World.shape?
      rw [hg]
    have hr : (execOp act.eval ⟨some d, .convert t t x, ty, pos, af, none⟩).run P w = .ok (.value (.slice (some ⟨g, 0, none⟩) n c)) (w.freeze ⟨g, cs.toArray.size, none⟩ 1) := by
      simp [execOp, evalO_ok st.fits hx, convert, run_underlying hu, run_underlying he, markStringish, hsh]
    unfold Oper.wp
    rw [hr]
    have hnew : (w.freeze ⟨g, cs.toArray.size, none⟩ 1).heap[g]? = some (.cells cs.toArray e (cs.toArray.size, cs.toArray.size + 1)) := by
      unfold World.freeze
      rw [if_neg (by decide)]
      show (w.heap.modify g _)[g]? = _
      rw [Array.getElem?_modify, if_pos rfl, hg]
      rfl
    have hH : Holds (w.freeze ⟨g, cs.toArray.size, none⟩ 1) (.own none (roR (Kd.int .u8) (some ⟨g, 0, none⟩) xs) :: R) := by
      refine hb.act (w' := w.freeze ⟨g, cs.toArray.size, none⟩ 1) (key' := none) (r' := roR (Kd.int .u8) (some ⟨g, 0, none⟩) xs) (fun S hS hr => ⟨⟨rfl, rfl, rfl⟩, ?_, fun k hk hn => ?_, S, fun k hk => ⟨.inl hk, ?_⟩, ?_⟩)
      · simp [World.freeze]
      · have hne : ¬ g = k := fun e => hn (e ▸ hr.1)
        simp [World.freeze, Array.getElem?_modify, hne]
      · have := hS k hk; simpa [World.freeze] using this
      · intro W' hk
        have h9 := hk g hr.1 (by have := hS g hr.1; simpa [World.freeze] using this)
        rw [hnew] at h9
        exact C_of_block xs h9 (by rw [hcs]) hl
    exact hK _ _ (st.put hd hH.keep))
end
end Go.Proofs.YtanemmcddgkpdaaGreat.Sx
end
