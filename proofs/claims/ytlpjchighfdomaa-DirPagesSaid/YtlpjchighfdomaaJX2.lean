/- Go code walked by what is known of slots and memory: a string's bytes as a row, structs within structs compared; conditions: those that each theorem names. -/
import Derived.Test.YtlpjchighfdomaaJV4
namespace Go.Proofs.Ytlpjchighfdomaa.Sx
open Go.RowKit Go.Proofs.Ytlpjchighfdomaa.Hm Go.Proofs.YtlpjchighfdomaaW.PrintWords Go.Proofs.YtlpjchighfdomaaW.PrintLast Go.Proofs.YtlpjchighfdomaaW.PrintMore
set_option linter.unusedVariables false
set_option linter.unusedSimpArgs false

section
variable {P : Program} {fn : Func} {K : Ending → List Thing → Prop} {N : Nat} {k k' : List It} {a : Fr} {M M0 R : List Thing} {ops : Array Oper} {rest : List Oper} {T : List (Nat × TI)}
variable {d id : Nat} {op : Op} {ty : TypeId} {pos : String} {af : Array Edge} {ds : List Nat} {fuel : Nat} {l : Array Bool}
theorem Holds.newF {α : Type} {D : Kd α} {w w' : World} {A : Option Addr} {n : Nat} {xs : List α} (h : Holds w M) (hb : Below w.heap.size w w') (hn : n = xs.length) (hF : Kd.F D w' (fun k => w.heap.size ≤ k) A n xs) : Holds w' (.per (roR D A xs) :: M) := by
  subst hn
  exact h.newPer hb (S := fun k => w.heap.size ≤ k ∧ k < w'.heap.size) (fun W hW => hF W (fun k hk hlt => hW k ⟨hk, hlt⟩ hlt)) (fun k hk => hk)
theorem bytes_F {w : World} {e : TypeId} {s : ByteArray} (hl : s.size ≤ 9223372036854775807) : Kd.F (Kd.int .u8) (Lib.bytesWorld w e s) (fun k => w.heap.size ≤ k) (some ⟨w.heap.size, 0, none⟩) (bytesOf s).length (bytesOf s) := by
  intro W' hk
  have hb := hk w.heap.size (Nat.le_refl _) (by rw [Lib.bytesWorld_size]; omega)
  refine Kd.C_of_reads (d := (0 : Int)) (h1 := fun _ => rfl) (show ReadsInt W' .u8 (some ⟨w.heap.size, 0, none⟩) (bytesOf s).length (bytesOf s) from ⟨rfl, by rw [bytesOf_length]; exact hl, fun _ => ⟨_, rfl, fun j hj => ?_⟩⟩)
  rw [bytesOf_length] at hj
  have hr := bytes_reads w e s hl
  obtain ⟨ad, e1, e2⟩ := hr.2.2 (by omega)
  injection e1 with e1
  subst e1
  have h2 := e2 j hj
  have h3 : W'.cell? ((⟨w.heap.size, 0, none⟩ : Addr).add j) = (Lib.bytesWorld w e s).cell? ((⟨w.heap.size, 0, none⟩ : Addr).add j) := by
    rw [add_plain]
    simp only [World.cell?, hb]
  rw [h3, h2]
/-- '[]byte(s)': the bytes stay. -/
theorem SXL.strBytes {t t' e : Nat} {x : Operand} {s : ByteArray} (hx : evalO a x = some (.string s)) (hu : P.underlying t = some .string) (ht : P.underlying t' = some (.slice e)) (he : P.underlying e = some (.int .u8)) (hl : s.size ≤ 9223372036854775807) (hd : Nat.blt d N = true)
    (hK : ∀ A c, (bytesOf s).length ≤ c → SXL P fn K N k ops rest ((d, .slice A (bytesOf s).length c) :: a) (.per (roR (Kd.int .u8) A (bytesOf s)) :: M)) : SXL P fn K N k ops (⟨some d, .convert t t' x, ty, pos, af, none⟩ :: rest) a M :=
  SXL.step rfl (fun act w st => by
    have hr : (execOp act.eval ⟨some d, .convert t t' x, ty, pos, af, none⟩).run P w = .ok (.value (.slice (some ⟨w.heap.size, 0, none⟩) s.size (grownCap w s.size 0 e))) (Lib.bytesWorld w e s) := by
      simp only [execOp, evalO_ok st.fits hx, Sem.run_bind, print_bytes (P := P) t t' e hu ht he s w]
      rfl
    unfold Oper.wp
    rw [hr]
    have h9 := hK (some ⟨w.heap.size, 0, none⟩) (grownCap w s.size 0 e) (by rw [bytesOf_length]; exact Nat.le_add_right s.size _)
    rw [bytesOf_length] at h9
    exact h9 _ _ (st.put hd (st.holds.newF (bytes_below (Below.refl _ _) (Nat.le_refl _) _ _) (bytesOf_length s).symm (by have := bytes_F (w := w) (e := e) hl; rwa [bytesOf_length] at this))))
/-! ### structs within structs -/
/-- Structs' types that stand within others and are compared. -/
class EqN (P : Program) (ts : outParam (List TypeId)) : Prop where
  h : (ts.all fun t => !P.stoodInHeld t && (P.fieldsOf t).toList.all fun f => !(f.name == "_")) = true
end
end Go.Proofs.Ytlpjchighfdomaa.Sx
