/- The Go package slices: the values of a row of entries, one after the other; conditions: those that each theorem names. -/
import Derived.RangeFuncNested
import Derived.RangeFuncBound
import Derived.RangeFuncBox
import Derived.RangeFuncCalls
import Derived.RangeFuncLeaves
import Derived.Shelf.Abstract
import Derived.Shelf.RegionOpen
import Derived.WalkKit
import Derived.OwnWalkIn
import Derived.TacticsInMore
import Derived.LoopNIn
import Derived.LoopIn
import Derived.Test.YtlpjchighfdomaaGh
namespace Go.Proofs.Ytlpjchighfdomaa.Hm
open Go.RowKit Go.Shelf Go.Proofs.YtlpjchighfdomaaW.PrintWords Go.Proofs.YtlpjchighfdomaaW.PrintLast Go.Proofs.YtlpjchighfdomaaW.PrintMore
set_option linter.unusedVariables false
set_option linter.unusedSimpArgs false
attribute [local go_sem] Oper.semAt_some

set_option maxHeartbeats 1000000 in
/-- slices.Values(l): the row is boxed; the function value captures the box. -/
theorem Values_any (A : Option Addr) (n c : Nat) (w : World) :
    Calls Try.prog 88 #[.slice A n c] w fun e w' => e = .returned (.func (.func 95) #[] #[.pointer (some ⟨w.heap.size, 0, none⟩)]) ∧ w' = w.alloc (.cells #[.slice A n c] 24) := by
  go_enter Try.func88, Try.ntmps88
  go_wp2
  go_ret
  exact ⟨rfl, rfl⟩
set_option maxRecDepth 100000 in
set_option maxHeartbeats 2000000 in
theorem vals1_in (F : Fence) (n : Nat) (hf : F.fn 95) (hro : F.round = none) (hn : 1 ≤ n) (lp Bs : Nat) (A : Option Addr) (c : Nat) (l : List Ent) (w0 : World) (hr : kE.C w0 A l.length l) (J Jx : List Ent → World → Prop)
    (W : World) (hJ : ∀ s X o, J s X → J s (X.alloc o))
    (hY : ∀ pre x X, J pre X → pre.length < l.length → YieldAt F (n - 1) Try.prog lp #[entV x] X fun e W' =>
      (e = .returned (.bool true) ∧ J (pre ++ [x]) W' ∧ Below w0.heap.size X W') ∨ (e = .returned (.bool false) ∧ Jx (pre ++ [x]) W'))
    (hW : Below w0.heap.size w0 W) (hBs : W.cell? ⟨Bs, 0, none⟩ = some (.slice A l.length c)) (h0 : J [] W) :
    CallsIn F n Try.prog 95 #[.func (.yield lp) #[] #[], .pointer (some ⟨Bs, 0, none⟩)] W fun e W' => (∃ v, e = .returned v) ∧
      ((∃ ys, ys = l ∧ J ys W') ∨ (∃ pre, pre <+: l ∧ Jx pre W')) := by
  have HR := Aside0.mk hr
  have hm := hr.2.1
  have HY := Aside0.mk hY
  have HJ := Aside0.mk hJ
  clear hr hY hJ
  refine callsIn_of_wp Try.func95 rfl hf ?_ hro
  simp only [Try.ntmps95, List.size_toArray, List.length_cons, List.length_nil, Nat.reduceAdd, Nat.reduceSub, Array.replicate_succ, Array.replicate_zero, List.push_toArray, List.append_toArray, List.nil_append, List.cons_append]
  gi_wp2
  gi_loopw [7] (fun i wr => ∃ k : Nat, k ≤ l.length ∧ i = .int .i64 k ∧ J (l.take k) wr ∧ Aside0 (Below w0.heap.size w0 wr))
    (fun i _ => l.length - (intOf i).toNat)
  case atStart => exact ⟨0, Nat.zero_le _, rfl, by rw [List.take_zero]; exact h0, ⟨hW⟩⟩
  case round =>
    obtain ⟨k, hk, rfl, hJs, HB⟩ := hrel
    by_cases hlt : k < l.length
    · obtain ⟨e, he⟩ : ∃ e, l[k]? = some e := ⟨_, List.getElem?_eq_getElem hlt⟩
      obtain ⟨ad, e1, c0, c1, c2, c3⟩ := kE_at (Kd.C_below HR.out HB.out) k e he
      subst e1
      have p0 : (0 : Int) ≤ (k : Int) := by omega
      have p1 : (k : Int) < (l.length : Int) := by omega
      have HE := Aside0.mk he
      have hJ2 := HJ.out _ _ (.cells #[.int .u64 e.c, .int .u32 e.i, .int .u32 e.g, .string e.s] 41) hJs
      obtain ⟨fn, tmps, assign, body, hy, hR⟩ := HY.out _ e _ hJ2 (by rw [List.length_take]; omega)
      dsimp only [entV] at hy
      clear he
      gi_wp2
      have hts : l.take (k + 1) = l.take k ++ [e] := by
        obtain ⟨hlt', hv⟩ := List.getElem?_eq_some_iff.1 HE.out
        rw [List.take_succ_eq_append_getElem hlt', hv]
      have HT := Aside0.mk hts
      clear hts
      refine hR.mono ?_
      rintro e' W3 (⟨rfl, hJ3, hk3⟩ | ⟨rfl, hJx3⟩)
      · gi_wp2
        go_roundw
        case rel => exact ⟨k + 1, by omega, by simp, by rw [HT.out]; exact hJ3, ⟨(below_alloc HB.out _).trans hk3⟩⟩
        case measure => simp [intOf]; omega
      · gi_wp2
        refine bodyPost_ret (results_none rfl _ _ _) rfl ?_
        exact ⟨⟨_, rfl⟩, .inr ⟨_, by rw [← HT.out]; exact List.take_prefix _ _, hJx3⟩⟩
    · obtain rfl : k = l.length := by omega
      gi_wp2
      go_end0
      exact ⟨⟨_, rfl⟩, .inl ⟨l, rfl, by rw [List.take_length] at hJs; exact hJs⟩⟩
theorem values_stops (F : Fence) (n : Nat) (hf : F.fn 95) (hro : F.round = none) (hn : 1 ≤ n) (Bs : Nat) (A : Option Addr) (c : Nat) (l : List Ent) (w0 w : World) (hr : kE.C w0 A l.length l) (hb : Below w0.heap.size w0 w)
    (hBs : Boxed w Bs 24 (.slice A l.length c)) :
    SeqStopsK F n Try.prog 95 #[.pointer (some ⟨Bs, 0, none⟩)] (fun x : Ent => #[entV x]) (Below w0.heap.size) (fun ys => ys = l) (fun pre => pre <+: l) l.length w := fun lp J Jx W hW hJ _ hY h0 => by
  have hc := (hW.cell (p := ⟨Bs, 0, none⟩) hBs.lt).trans hBs.cell
  exact vals1_in F n hf hro hn lp Bs A c l w0 hr J Jx W (fun s X o hs => hJ s X _ none hs (World.grownBy_alloc X o none) (fun r e => by cases e)) hY (hb.trans (hW.mono hb.size)) hc h0
end Go.Proofs.Ytlpjchighfdomaa.Hm
