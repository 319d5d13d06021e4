/- Part X2 of the lemmas and walks of the Go functions that these statements reach; conditions: those that each theorem names. -/
import Derived.Test.YtanemmcddgkpdaaGreatJV4
section
/- Go code walked by what is known of slots and memory: a string's bytes as a row, structs within structs compared; conditions: those that each theorem names. -/
namespace Go.Proofs.YtanemmcddgkpdaaGreat.Sx
open Go.RowKit Go.Proofs.YtanemmcddgkpdaaGreat.Hm Go.Proofs.YtanemmcddgkpdaaGreatW.PrintWords Go.Proofs.YtanemmcddgkpdaaGreatW.PrintLast Go.Proofs.YtanemmcddgkpdaaGreatW.PrintMore
set_option linter.unusedVariables false
set_option linter.unusedSimpArgs false
section
variable {P : Program} {fn : Func} {K : Ending → List Thing → Prop} {N : Nat} {k k' : List It} {a : Fr} {M M0 R : List Thing} {ops : Array Oper} {rest : List Oper} {T : List (Nat × TI)}
variable {d id : Nat} {op : Op} {ty : TypeId} {pos : String} {af : Array Edge} {ds : List Nat} {fuel : Nat} {l : Array Bool}
/-! ### structs within structs -/
/-- Structs' types that stand within others and are compared. -/
class EqN (P : Program) (ts : outParam (List TypeId)) : Prop where
  h : (ts.all fun t => !P.stoodInHeld t && (P.fieldsOf t).toList.all fun f => !(f.name == "_")) = true
end
end Go.Proofs.YtanemmcddgkpdaaGreat.Sx
end
section
/- Go code walked by what is known of slots and memory: a package's array that stays; conditions: those that each theorem names. -/
namespace Go.Proofs.YtanemmcddgkpdaaGreat.Sx
open Go.RowKit Go.Proofs.YtanemmcddgkpdaaGreat.Hm Go.Proofs.YtanemmcddgkpdaaGreatW.PrintWords Go.Proofs.YtanemmcddgkpdaaGreatW.PrintLast Go.Proofs.YtanemmcddgkpdaaGreatW.PrintMore
set_option linter.unusedVariables false
set_option linter.unusedSimpArgs false
section
variable {P : Program} {fn : Func} {K : Ending → List Thing → Prop} {N : Nat} {k k' : List It} {a : Fr} {M M0 R : List Thing} {ops : Array Oper} {rest : List Oper} {T : List (Nat × TI)}
variable {d id : Nat} {op : Op} {ty : TypeId} {pos : String} {af : Array Edge} {ds : List Nat} {fuel : Nat} {l : Array Bool}
/-! ### an element of a row of the call's own -/
theorem row_addr {α : Type} {D : Kd α} {e : TypeId} {w : World} {base : Nat} {ok : Nat → Prop} {A : Option Addr} {n c : Nat} {xs : List α} (h : D.R e w base ok (.slice A n c) xs) (hp : 0 < xs.length) : ∃ b, A = some ⟨b, 0, none⟩ ∧ ok b := by
  obtain ⟨h0, inner, ho, hr⟩ := h
  rcases ho.2 with ⟨-, h1⟩ | ⟨g, cap, cur, h1, -⟩
  · omega
  · injection h1 with h2
    subst h2
    exact ⟨g, rfl, h0 g rfl⟩
theorem SX.addrOwn {α : Type} {A : Option Addr} {n c : Nat} {e : TypeId} {xs : List α} (D : Kd α) (hat : At A M (rowR D e (.slice A n c) xs) R) (hp : 0 < xs.length) (h : ∀ b, A = some ⟨b, 0, none⟩ → SX P fn K N k a M) : SX P fn K N k a M := fun act w s => by
  obtain ⟨S, _, hS⟩ := (s.holds.at_ hat).head
  obtain ⟨b, e, _⟩ := row_addr hS hp
  exact h b e act w s
theorem SXL.addrOwn {α : Type} {A : Option Addr} {n c : Nat} {e : TypeId} {xs : List α} {l : List Oper} (D : Kd α) (hat : At A M (rowR D e (.slice A n c) xs) R) (hp : 0 < xs.length) (h : ∀ b, A = some ⟨b, 0, none⟩ → SXL P fn K N k ops l a M) : SXL P fn K N k ops l a M := fun act w s => by
  obtain ⟨S, _, hS⟩ := (s.holds.at_ hat).head
  obtain ⟨b, e, _⟩ := row_addr hS hp
  exact h b e act w s
theorem SXL.storeElem [hT : TOk P T] {t b off n c : Nat} {x y : Operand} {ik : IntKind} {e : TypeId} {xs : List Int} {v : Int} {ti : TI} (hx : evalO a x = some (.pointer (some ⟨b, off, none⟩))) (hy : evalO a y = some (.int ik v)) (hat : At (some ⟨b, 0, none⟩) M (rowR (Kd.int ik) e (.slice (some ⟨b, 0, none⟩) n c) xs) R) (hl : lookT T t = some ti) (hg : ti.size = 1)
    (hlt : off < n) (hK : SXL P fn K N k ops rest a (.own (some ⟨b, 0, none⟩) (rowR (Kd.int ik) e (.slice (some ⟨b, 0, none⟩) n c) (xs.set off v)) :: R)) : SXL P fn K N k ops (⟨none, .store t x y, ty, pos, af, none⟩ :: rest) a M :=
  SXL.step rfl (fun act w st => by
    have hb := st.holds.at_ hat
    obtain ⟨S0, _, hS0⟩ := hb.head
    have hS1 : (Kd.int ik).R e w 0 S0 (.slice (some ⟨b, 0, none⟩) n c) xs := hS0
    obtain ⟨hc, hfz⟩ := Kd.R_celln (0 : Int) hS1 (off : Int) (by omega) (by omega)
    rw [Int.toNat_natCast] at hc hfz
    have hsz := (tok (P := P) hl).size
    rw [hg] at hsz
    have hr : (execOp act.eval ⟨none, .store t x y, ty, pos, af, none⟩).run P w = .ok .skip (w.setCell ⟨b, off, none⟩ (.int ik v)) := by
      simp only [execOp, evalO_ok st.fits hx, evalO_ok st.fits hy, Instr.storeAt, Instr.sureAddr, Sem.run_bind, Sem.run_pure, Result.andThen_ok, storeVar, hsz, Value.cells]
      simp [storeCells, add_off, run_store P w _ (.int ik v) _ rfl, hc, hfz]
    unfold Oper.wp
    rw [hr]
    refine hK _ _ (st.keep (hb.act (fun S hS hr => ⟨⟨rfl, rfl, rfl⟩, by simp [World.setCell], fun k hk hn => Below.heap_setCell w ⟨b, off, none⟩ (.int ik v) k (fun e => hn (e ▸ ?_)), S, fun k hk => ⟨.inl hk, by have := hS k hk; simpa [World.setCell] using this⟩, ?_⟩)))
    · exact hr.1 b rfl
    · have := Kd.R_putn hr (off : Int) v
      rw [Int.toNat_natCast] at this
      exact this)
/-- '[]byte("..")' of a constant: the literal's row stays. -/
theorem SXL.litBytes {t e g n c : Nat} {x : Operand} {cs : List Value} (xs : List Int) (hx : evalO a x = some (.slice (some ⟨g, 0, none⟩) n c)) (hat : At (some ⟨g, 0, none⟩) M (cellsR g cs e) R) (hcs : cs = nums .u8 xs) (hu : P.underlying t = some (.slice e)) (he : P.underlying e = some (.int .u8)) (hl : xs.length ≤ 9223372036854775807) (hd : Nat.blt d N = true)
    (hK : SXL P fn K N k ops rest ((d, .slice (some ⟨g, 0, none⟩) n c) :: a) (.per (roR (Kd.int .u8) (some ⟨g, 0, none⟩) xs) :: R)) : SXL P fn K N k ops (⟨some d, .convert t t x, ty, pos, af, none⟩ :: rest) a M :=
  SXL.step rfl (fun act w st => by
    have hb := st.holds.at_ hat
    have hg := hb.cells
    have hlt := blk_lt hg
    have hsh : w.shape? g = some (e, cs.toArray.size) := by
      unfold World.shape?
      rw [hg]
    have hr : (execOp act.eval ⟨some d, .convert t t x, ty, pos, af, none⟩).run P w = .ok (.value (.slice (some ⟨g, 0, none⟩) n c)) (w.freeze ⟨g, cs.toArray.size, none⟩ 1) := by
      simp [execOp, evalO_ok st.fits hx, convert, run_underlying hu, run_underlying he, markStringish, hsh]
    unfold Oper.wp
    rw [hr]
    have hnew : (w.freeze ⟨g, cs.toArray.size, none⟩ 1).heap[g]? = some (.cells cs.toArray e (cs.toArray.size, cs.toArray.size + 1)) := by
      unfold World.freeze
      rw [if_neg (by decide)]
      show (w.heap.modify g _)[g]? = _
      rw [Array.getElem?_modify, if_pos rfl, hg]
      rfl
    have hH : Holds (w.freeze ⟨g, cs.toArray.size, none⟩ 1) (.own none (roR (Kd.int .u8) (some ⟨g, 0, none⟩) xs) :: R) := by
      refine hb.act (w' := w.freeze ⟨g, cs.toArray.size, none⟩ 1) (key' := none) (r' := roR (Kd.int .u8) (some ⟨g, 0, none⟩) xs) (fun S hS hr => ⟨⟨rfl, rfl, rfl⟩, ?_, fun k hk hn => ?_, S, fun k hk => ⟨.inl hk, ?_⟩, ?_⟩)
      · simp [World.freeze]
      · have hne : ¬ g = k := fun e => hn (e ▸ hr.1)
        simp [World.freeze, Array.getElem?_modify, hne]
      · have := hS k hk; simpa [World.freeze] using this
      · intro W' hk
        have h9 := hk g hr.1 (by have := hS g hr.1; simpa [World.freeze] using this)
        rw [hnew] at h9
        exact C_of_block xs h9 (by rw [hcs]) hl
    exact hK _ _ (st.put hd hH.keep))
end
end Go.Proofs.YtanemmcddgkpdaaGreat.Sx
end
