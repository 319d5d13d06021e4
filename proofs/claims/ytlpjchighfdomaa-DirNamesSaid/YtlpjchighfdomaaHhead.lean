/- What the hand-made texts of this seat import: the program, the library's laws, the print's words. -/
import Derived.Test.YtlpjchighfdomaaProg
import Derived.Below
import Derived.Deep.Draws
import Derived.Deep.AppendLies
import Derived.Maps.AppendAt
import Derived.OwnWalk
import Derived.Laws.BytesArg
import Derived.Laws.MakeOwn
import Derived.Laws.OwnMore
import Derived.Deep.OwnRows
import Derived.Tactics
import Derived.Lib.ConvBytes
import Derived.Laws.Slices
import Derived.WalkKit
import Derived.KernelRfl
import Derived.RowKit3
import Derived.Deep.LoopGhost
import Derived.Deep.QuietTactic
import Derived.BigQuiet
import Derived.WideLaws
import Derived.Deep.DeepCutAuto
import Derived.Deep.CutBlock
import Derived.Deep.RegionHeld3
import Derived.Laws.Rows
import Derived.Lib.AppendStr
import Derived.ArgAppend
import Derived.Laws.IdiomCopy
import Derived.OrdersHeld
import Derived.Laws.BitsLemmas
import Derived.RowKit
import Derived.Laws.BitsAllLaws
import Derived.Laws.CopyOwn
import Derived.Lib.SliceRun
import Derived.LoopTactic
import Derived.WalkLawsBesides
import Derived.WalkSpells
import Derived.Lib.SlBytesConst
import Derived.Test.YtlpjchighfdomaaWWords
import Derived.Test.YtlpjchighfdomaaWLast
import Derived.Test.YtlpjchighfdomaaWTab
import Derived.Test.YtlpjchighfdomaaWFour
import Derived.Test.YtlpjchighfdomaaWQPut
import Derived.Test.YtlpjchighfdomaaWApart
import Derived.Test.YtlpjchighfdomaaWArr
import Derived.Test.YtlpjchighfdomaaWZeros
import Derived.Test.YtlpjchighfdomaaWFoot
import Derived.Test.YtlpjchighfdomaaWKept
import Derived.Test.YtlpjchighfdomaaWShare
import Derived.Test.YtlpjchighfdomaaWN
import Derived.Test.YtlpjchighfdomaaWFootNe
import Derived.Test.YtlpjchighfdomaaWAt
import Derived.Test.YtlpjchighfdomaaWEqStruct
import Derived.Test.YtlpjchighfdomaaWRepsOne
import Derived.Test.YtlpjchighfdomaaWInv
import Derived.Test.YtlpjchighfdomaaWInvWords
import Derived.Test.YtlpjchighfdomaaWGuard
import Derived.Test.YtlpjchighfdomaaWNEv
import Derived.Test.YtlpjchighfdomaaWMore
namespace Go.Proofs.Ytlpjchighfdomaa.Hm
open Go.RowKit Go.Proofs.YtlpjchighfdomaaW.PrintWords Go.Proofs.YtlpjchighfdomaaW.PrintLast Go.Proofs.YtlpjchighfdomaaW.PrintMore
set_option linter.unusedVariables false
set_option linter.unusedSimpArgs false
theorem infoB : (Try.prog.info? 5).map (fun i => (i.zero, i.size, i.bytes)) = some (some (.int .u8 0), 1, 1) := by kernel_rfl
set_option linter.unusedVariables false
set_option linter.unusedSimpArgs false
/-- A block of bytes, marked or not, reads as its numbers. -/
theorem C_of_block {W : World} {g : Nat} {C : Array Value} {e : TypeId} {fr : Nat × Nat} (xs : List Int) (h : W.heap[g]? = some (.cells C e fr)) (hC : C = (nums .u8 xs).toArray) (hl : xs.length ≤ 9223372036854775807) :
    Kd.C (Kd.int .u8) W (some ⟨g, 0, none⟩) xs.length xs := by
  refine Kd.C_of_reads (d := (0 : Int)) (h1 := fun _ => rfl) (show ReadsInt W .u8 (some ⟨g, 0, none⟩) xs.length xs from ⟨rfl, hl, fun _ => ⟨_, rfl, fun j hj => ?_⟩⟩)
  rw [add_plain, cell_of_row W g j C e fr h, hC]
  simp [nums, hj]
section
variable {ops : Array Oper} {rest : List Oper} {o : Oper} {a : Act} {Q : Exit → Act → World → Prop} {W : World}
/-- '[]byte("..")' of a constant: the literal's row is marked by the conversion; what it holds is read, never written. -/
theorem V_conv_lit (hgd : o.guard = none) {N' : Tmp} (_hd : o.dst = some N') (x : Operand) (ho : o.op = .convert 22 22 x) (xs : List Int) {C : Array Value} (hC : C = (nums .u8 xs).toArray) (hx : a.eval x = .slice (some ⟨W.heap.size, 0, none⟩) xs.length xs.length)
    (hl : xs.length ≤ 9223372036854775807)
    (h : ∀ v1 w1, Kd.V (Kd.int .u8) 5 w1 W.heap.size (fun k => W.heap.size ≤ k) v1 xs → Below W.heap.size W w1 → wpList Try.prog ops Q rest (a.put o.dst v1) w1) : wpList Try.prog ops Q (o :: rest) a (W.alloc (.cells C 5)) := by
  refine Kd.event_run hgd (v := .slice (some ⟨W.heap.size, 0, none⟩) xs.length xs.length) (w1 := W.alloc (.cells C 5 (C.size, C.size + 1))) ?_ (h _ _ (Kd.V_mk (Nat.le_refl _) ?_) (below_alloc (Below.refl _ _) _))
  · unfold execOp
    simp only [ho, hx, Sem.run_bind, Lib.run_convert_bytes_const (P := Try.prog) W 22 5 C xs.length xs.length Try.underlying22 Try.underlying5]
    rfl
  · intro W' hk
    have hb := hk W.heap.size (Nat.le_refl _) (by simp)
    rw [heap_alloc_new] at hb
    exact C_of_block xs hb hC hl
set_option maxRecDepth 100000 in
/-- '[]byte(s)' of a string. -/
theorem V_conv_str (hgd : o.guard = none) {N' : Tmp} (_hd : o.dst = some N') (x : Operand) (ho : o.op = .convert 9 22 x) (s : ByteArray) (hx : a.eval x = .string s)
    (hl : s.size ≤ 9223372036854775807)
    (h : ∀ v1 w1, Kd.V (Kd.int .u8) 5 w1 W.heap.size (fun k => W.heap.size ≤ k) v1 (bytesOf s) → Below W.heap.size W w1 → wpList Try.prog ops Q rest (a.put o.dst v1) w1) : wpList Try.prog ops Q (o :: rest) a W := by
  have hr := print_bytes (P := Try.prog) 9 22 5 Try.underlying9 Try.underlying22 Try.underlying5 s W
  refine Kd.event_run hgd (v := .slice (some ⟨W.heap.size, 0, none⟩) s.size (grownCap W s.size 0 5)) (w1 := Lib.bytesWorld W 5 s) ?_ (h _ _ ?_ (bytes_below (Below.refl _ _) (Nat.le_refl _) _ _))
  · unfold execOp
    simp only [ho, hx, Sem.run_bind, hr]
    rfl
  · have hcap : s.size ≤ grownCap W s.size 0 5 := Nat.le_add_right s.size _
    refine ⟨_, _, by rw [bytesOf_length], by rw [bytesOf_length]; exact hcap, fun W' hk => ?_⟩
    have hb := hk W.heap.size (Nat.le_refl _) (by rw [Lib.bytesWorld_size]; omega)
    refine Kd.C_of_reads (d := (0 : Int)) (h1 := fun _ => rfl) (show ReadsInt W' .u8 (some ⟨W.heap.size, 0, none⟩) (bytesOf s).length (bytesOf s) from ⟨rfl, by rw [bytesOf_length]; exact hl, fun _ => ⟨_, rfl, fun j hj => ?_⟩⟩)
    rw [bytesOf_length] at hj
    have hr := bytes_reads W 5 s hl
    obtain ⟨ad, e1, e2⟩ := hr.2.2 (by omega)
    injection e1 with e1
    subst e1
    have h2 := e2 j hj
    have h3 : W'.cell? ((⟨W.heap.size, 0, none⟩ : Addr).add j) = (Lib.bytesWorld W 5 s).cell? ((⟨W.heap.size, 0, none⟩ : Addr).add j) := by
      rw [add_plain]
      simp only [World.cell?, hb]
    rw [h3, h2]
end
end Go.Proofs.Ytlpjchighfdomaa.Hm
