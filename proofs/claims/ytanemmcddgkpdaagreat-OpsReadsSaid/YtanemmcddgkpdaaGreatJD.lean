/- Part D of the lemmas and walks of the Go functions that these statements reach; conditions: those that each theorem names. -/
import Derived.RangeFuncNested
import Derived.RangeFuncBound
import Derived.RangeFuncBox
import Derived.RangeFuncCalls
import Derived.RangeFuncLeaves
import Derived.Shelf.Abstract
import Derived.Shelf.RegionOpen
import Derived.WalkKit
import Derived.OwnWalkIn
import Derived.TacticsInMore
import Derived.LoopNIn
import Derived.LoopIn
import Derived.Test.YtanemmcddgkpdaaGreatJC
section
/- The Go package slices: the values of a row of entries, one after the other; conditions: those that each theorem names. -/
namespace Go.Proofs.YtanemmcddgkpdaaGreat.Hm
open Go.RowKit Go.Shelf Go.Proofs.YtanemmcddgkpdaaGreatW.PrintWords Go.Proofs.YtanemmcddgkpdaaGreatW.PrintLast Go.Proofs.YtanemmcddgkpdaaGreatW.PrintMore
set_option linter.unusedVariables false
set_option linter.unusedSimpArgs false
attribute [local go_sem] Oper.semAt_some
set_option maxHeartbeats 1000000 in
/-- slices.Values(l): the row is boxed; the function value captures the box. -/
theorem Values_any (A : Option Addr) (n c : Nat) (w : World) :
    Calls Tryz.prog 145 #[.slice A n c] w fun e w' => e = .returned (.func (.func 162) #[] #[.pointer (some ⟨w.heap.size, 0, none⟩)]) ∧ w' = w.alloc (.cells #[.slice A n c] 47) := by
  go_enter Tryz.func145, Tryz.ntmps145
  go_wp2
  go_ret
  exact ⟨rfl, rfl⟩
set_option maxRecDepth 100000 in
set_option maxHeartbeats 2000000 in
theorem vals1_in (F : Fence) (n : Nat) (hf : F.fn 162) (hro : F.round = none) (hn : 1 ≤ n) (lp Bs : Nat) (A : Option Addr) (c : Nat) (l : List Ent) (w0 : World) (hr : kE.C w0 A l.length l) (J Jx : List Ent → World → Prop)
    (W : World) (hJ : ∀ s X o, J s X → J s (X.alloc o))
    (hY : ∀ pre x X, J pre X → pre.length < l.length → YieldAt F (n - 1) Tryz.prog lp #[entV x] X fun e W' =>
      (e = .returned (.bool true) ∧ J (pre ++ [x]) W' ∧ Below w0.heap.size X W') ∨ (e = .returned (.bool false) ∧ Jx (pre ++ [x]) W'))
    (hW : Below w0.heap.size w0 W) (hBs : W.cell? ⟨Bs, 0, none⟩ = some (.slice A l.length c)) (h0 : J [] W) :
    CallsIn F n Tryz.prog 162 #[.func (.yield lp) #[] #[], .pointer (some ⟨Bs, 0, none⟩)] W fun e W' => (∃ v, e = .returned v) ∧
      ((∃ ys, ys = l ∧ J ys W') ∨ (∃ pre, pre <+: l ∧ Jx pre W')) := by
  have HR := Aside0.mk hr
  have hm := hr.2.1
  have HY := Aside0.mk hY
  have HJ := Aside0.mk hJ
  clear hr hY hJ
  refine callsIn_of_wp Tryz.func162 rfl hf ?_ hro
  simp only [Tryz.ntmps162, List.size_toArray, List.length_cons, List.length_nil, Nat.reduceAdd, Nat.reduceSub, Array.replicate_succ, Array.replicate_zero, List.push_toArray, List.append_toArray, List.nil_append, List.cons_append]
  gi_wp2
  gi_loopw [7] (fun i wr => ∃ k : Nat, k ≤ l.length ∧ i = .int .i64 k ∧ J (l.take k) wr ∧ Aside0 (Below w0.heap.size w0 wr))
    (fun i _ => l.length - (intOf i).toNat)
  case atStart => exact ⟨0, Nat.zero_le _, rfl, by rw [List.take_zero]; exact h0, ⟨hW⟩⟩
  case round =>
    obtain ⟨k, hk, rfl, hJs, HB⟩ := hrel
    by_cases hlt : k < l.length
    · obtain ⟨e, he⟩ : ∃ e, l[k]? = some e := ⟨_, List.getElem?_eq_getElem hlt⟩
      obtain ⟨ad, e1, c0, c1, c2, c3⟩ := kE_at (Kd.C_below HR.out HB.out) k e he
      subst e1
      have p0 : (0 : Int) ≤ (k : Int) := by omega
      have p1 : (k : Int) < (l.length : Int) := by omega
      have HE := Aside0.mk he
      have hJ2 := HJ.out _ _ (.cells #[.int .u64 e.c, .int .u32 e.i, .int .u32 e.g, .string e.s] 87) hJs
      obtain ⟨fn, tmps, assign, body, hy, hR⟩ := HY.out _ e _ hJ2 (by rw [List.length_take]; omega)
      dsimp only [entV] at hy
      clear he
      gi_wp2
      have hts : l.take (k + 1) = l.take k ++ [e] := by
        obtain ⟨hlt', hv⟩ := List.getElem?_eq_some_iff.1 HE.out
        rw [List.take_succ_eq_append_getElem hlt', hv]
      have HT := Aside0.mk hts
      clear hts
      refine hR.mono ?_
      rintro e' W3 (⟨rfl, hJ3, hk3⟩ | ⟨rfl, hJx3⟩)
      · gi_wp2
        go_roundw
        case rel => exact ⟨k + 1, by omega, by simp, by rw [HT.out]; exact hJ3, ⟨(below_alloc HB.out _).trans hk3⟩⟩
        case measure => simp [intOf]; omega
      · gi_wp2
        refine bodyPost_ret (results_none rfl _ _ _) rfl ?_
        exact ⟨⟨_, rfl⟩, .inr ⟨_, by rw [← HT.out]; exact List.take_prefix _ _, hJx3⟩⟩
    · obtain rfl : k = l.length := by omega
      gi_wp2
      go_end0
      exact ⟨⟨_, rfl⟩, .inl ⟨l, rfl, by rw [List.take_length] at hJs; exact hJs⟩⟩
theorem values_stops (F : Fence) (n : Nat) (hf : F.fn 162) (hro : F.round = none) (hn : 1 ≤ n) (Bs : Nat) (A : Option Addr) (c : Nat) (l : List Ent) (w0 w : World) (hr : kE.C w0 A l.length l) (hb : Below w0.heap.size w0 w)
    (hBs : Boxed w Bs 47 (.slice A l.length c)) :
    SeqStopsK F n Tryz.prog 162 #[.pointer (some ⟨Bs, 0, none⟩)] (fun x : Ent => #[entV x]) (Below w0.heap.size) (fun ys => ys = l) (fun pre => pre <+: l) l.length w := fun lp J Jx W hW hJ _ hY h0 => by
  have hc := (hW.cell (p := ⟨Bs, 0, none⟩) hBs.lt).trans hBs.cell
  exact vals1_in F n hf hro hn lp Bs A c l w0 hr J Jx W (fun s X o hs => hJ s X _ none hs (World.grownBy_alloc X o none) (fun r e => by cases e)) hY (hb.trans (hW.mono hb.size)) hc h0
end Go.Proofs.YtanemmcddgkpdaaGreat.Hm
end
section
/- The Go package dir: whether entries may be; conditions: those that each theorem names. -/
namespace Go.Proofs.YtanemmcddgkpdaaGreat.Hm
open Go.RowKit Go.Shelf Go.Proofs.YtanemmcddgkpdaaGreatW.PrintWords Go.Proofs.YtanemmcddgkpdaaGreatW.PrintLast Go.Proofs.YtanemmcddgkpdaaGreatW.PrintMore
set_option linter.unusedVariables false
set_option linter.unusedSimpArgs false
attribute [local go_sem] Oper.semAt_some
/-- Each entry could be added behind those ahead of it. -/
def mayOk (l : List Ent) : Prop := ∀ k e, l[k]? = some e → (addM (l.take k) e).2 = 0
theorem mayOk_nil : mayOk [] := fun k e h => by simp at h
theorem mayOk_snoc {l : List Ent} {e : Ent} : mayOk (l ++ [e]) ↔ mayOk l ∧ (addM l e).2 = 0 := by
  constructor
  · intro h
    refine ⟨fun k x hx => ?_, ?_⟩
    · have hk := (List.getElem?_eq_some_iff.1 hx).1
      have := h k x (by rw [List.getElem?_append_left hk]; exact hx)
      rwa [List.take_append_of_le_length (by omega)] at this
    · have := h l.length e (by simp)
      rwa [List.take_append_of_le_length (Nat.le_refl _), List.take_length] at this
  · rintro ⟨h1, h2⟩ k x hx
    by_cases hk : k < l.length
    · rw [List.getElem?_append_left hk] at hx
      rw [List.take_append_of_le_length (by omega)]
      exact h1 k x hx
    · have hk2 := (List.getElem?_eq_some_iff.1 hx).1
      rw [List.length_append, List.length_singleton] at hk2
      obtain rfl : k = l.length := by omega
      obtain rfl : e = x := by simpa using hx
      rw [List.take_append_of_le_length (Nat.le_refl _), List.take_length]
      exact h2
theorem mayOk_take {l : List Ent} (h : mayOk l) {p : List Ent} (hp : p <+: l) : mayOk p := by
  obtain ⟨q, rfl⟩ := hp
  intro k e hk
  have hlt := (List.getElem?_eq_some_iff.1 hk).1
  have := h k e (by rw [List.getElem?_append_left hlt]; exact hk)
  rwa [List.take_append_of_le_length (by omega)] at this
def mayB (l : List Ent) : Bool := (List.range l.length).all fun k => match l[k]? with | some e => (addM (l.take k) e).2 == 0 | none => true
theorem mayB_iff (l : List Ent) : mayB l = true ↔ mayOk l := by
  unfold mayB mayOk
  rw [List.all_eq_true]
  constructor
  · intro h k e he
    have := h k (List.mem_range.2 (List.getElem?_eq_some_iff.1 he).1)
    rw [he] at this
    simpa using this
  · intro h k hk
    split
    · rename_i e he
      rw [h k e he]; rfl
    · rfl
theorem addM_ok {l r : List Ent} {e : Ent} (h : addM l e = (r, 0)) : r = l ++ [e] := by
  unfold addM at h
  split at h
  · injection h with h1 h2
    exact absurd h2 (by assumption)
  · split at h
    · injection h with h1 h2; cases h2
    · split at h
      · injection h with h1 h2; cases h2
      · injection h with h1 h2; exact h1.symm
theorem keeps_below {B : Nat} {W W' : World} (h : Below W.heap.size W W') : KeepsFrom B W W' := ⟨h.size, fun k o _ hk _ => (h.block k (Array.getElem?_eq_some_iff.1 hk).1).trans hk⟩
theorem R_own {α : Type} (d : Kd α) (e base : Nat) : Own (fun (p : Value × List α) W => d.R e W base (fun _ => True) p.1 p.2) := fun p A B row hs hg hr =>
  Kd.R_mono (Kd.R_grown (Kd.R_bound hs) hg (fun k hk e' => by
    obtain ⟨_, _, _, q, _, cells, hc⟩ := hk
    obtain ⟨o, ho, hn⟩ := hr k e'.symm
    rw [hc] at ho
    cases ho
    cases hn)) (fun _ _ => trivial)
set_option maxRecDepth 100000 in
set_option maxHeartbeats 4000000 in
theorem may_any (A : Option Addr) (c : Nat) (l : List Ent) (w : World) (hr : kE.C w A l.length l) (hc : l.length ≤ c) (hl : l.length ≤ 4398046511000) :
    Calls Tryz.prog 119 #[.slice A l.length c] w fun e' w' => e' = .returned (.bool (mayB l)) ∧ Below w.heap.size w w' := by
  have HR := Aside0.mk hr
  clear hr
  refine (callsIn_wide (n := 3)).1 ?_
  refine callsIn_of_wp_marks Tryz.func119 rfl trivial ?_ rfl
  simp only [Tryz.ntmps119, List.size_toArray, List.length_cons, List.length_nil, Nat.reduceAdd, Nat.reduceSub, Array.replicate_succ, Array.replicate_zero, List.push_toArray, List.append_toArray, List.nil_append, List.cons_append]
  gi_wp2_with (refine ⟨trivial, ?_⟩; gi_at_call 145; refine (callsIn_wide.2 (Values_any A l.length c _)).mono ?_; rintro e w' ⟨rfl, rfl⟩)
  obtain ⟨W0, hW0⟩ : ∃ W0, ((w.alloc (.cells #[.bool false] 4)).alloc (.cells #[.slice none 0 0] 47)).alloc (.cells #[.slice A l.length c] 47) = W0 := ⟨_, rfl⟩
  have bR := ((Boxed.new w 4 (.bool false)).alloc (.cells #[.slice none 0 0] 47)).alloc (.cells #[.slice A l.length c] 47)
  have bO := (Boxed.new (w.alloc (.cells #[.bool false] 4)) 47 (.slice none 0 0)).alloc (.cells #[.slice A l.length c] 47)
  have bN := Boxed.new ((w.alloc (.cells #[.bool false] 4)).alloc (.cells #[.slice none 0 0] 47)) 47 (.slice A l.length c)
  simp only [World.size_alloc] at bO bN
  have hB0 : Below w.heap.size w (((w.alloc (.cells #[.bool false] 4)).alloc (.cells #[.slice none 0 0] 47)).alloc (.cells #[.slice A l.length c] 47)) := below_alloc (below_alloc (below_alloc (Below.refl _ _) _) _) _
  have hsz : (((w.alloc (.cells #[.bool false] 4)).alloc (.cells #[.slice none 0 0] 47)).alloc (.cells #[.slice A l.length c] 47)).heap.size = w.heap.size + 3 := by simp
  rw [hW0] at bR bO bN hB0 hsz ⊢
  clear hW0
  refine wpIn_rangeFunc_ownH rfl (by decide) (gf := 162) (lb := #[.pointer (some ⟨w.heap.size + 1 + 1, 0, none⟩)]) rfl trivial (enters_of Tryz.func162 (by kernel_rfl) rfl)
    (values_stops Fence.wide (3 - 1) trivial rfl (by decide) (w.heap.size + 1 + 1) A c l w W0 HR.out hB0 bN) belowK_t (belowK_b (by omega)) (Below.refl _ _) (fun _ => rfl)
    (fun pre W => ((Boxed W w.heap.size 4 (.bool false) ∧ ∃ v, Boxed W (w.heap.size + 1) 47 v ∧ kE.R 87 W w.heap.size (fun _ => True) v pre) ∧ mayOk pre) ∧ Below w.heap.size w W)
    (fun c pre W => ((c = .ret ∧ ¬ mayOk pre) ∧ Boxed W w.heap.size 4 (.bool false)) ∧ Below w.heap.size w W)
    (OwnFrom.and (OwnFrom.and (OwnFrom.and (Own.from (boxed_own _ _ _) _) (Own.from (fun pre X Y row hs hg hr => by
      obtain ⟨v, h1, h2⟩ := hs
      exact ⟨v, boxed_own (w.heap.size + 1) 47 (fun (_ : Unit) => v) () X Y row h1 hg hr, R_own kE _ _ (v, pre) X Y row h2 hg hr⟩) _)) (ownFrom_pure _ _)) (ownFrom_below (Nat.le_refl _) (by omega)))
    (fun c => OwnFrom.and (OwnFrom.and (ownFrom_pure _ _) (Own.from (boxed_own _ _ _) _)) (ownFrom_below (Nat.le_refl _) (by omega)))
    ⟨⟨⟨bR, _, bO, Kd.R_nil _ _ _ _ _⟩, mayOk_nil⟩, hB0⟩
    (fun x a' W => ∃ Bx, w.heap.size + 1 < Bx ∧ W.heap[Bx]? = some (.cells #[.int .u64 x.c, .int .u32 x.i, .int .u32 x.g, .string x.s] 87 (0, 0)) ∧ a' = { tmps := #[.slice A l.length c, undef, .pointer (some ⟨w.heap.size, 0, none⟩), .pointer (some ⟨w.heap.size + 1, 0, none⟩), .pointer (some ⟨Bx, 0, none⟩), undef, undef, .slice A l.length c, .func (.func 162) #[] #[.pointer (some ⟨w.heap.size + 1 + 1, 0, none⟩)], .agg #[.int .u64 x.c, .int .u32 x.i, .int .u32 x.g, .string x.s], undef, undef, undef, undef, undef, undef, undef, undef, undef], defers := [] })
    (fun x a' _ X Y row hs hg hr => by
      obtain ⟨Bx, h1, h2, h3⟩ := hs
      exact ⟨Bx, h1, (hg.block Bx (Array.getElem?_eq_some_iff.1 h2).1 (fun e' => by obtain ⟨_, o, ho, hn⟩ := hr Bx e'.symm; rw [h2] at ho; cases ho; cases hn)).trans h2, h3⟩)
    ?assign ?body ?done ?stop
  case assign =>
    rintro lp pre x W K ⟨⟨⟨bR1, v, bO1, hR1⟩, hok⟩, hB1⟩ hK
    simp only [entV]
    gi_wp2
    exact hK _ _ ((KeepsOthers.alloc _ _).from _) ((Below.refl _ W).alloc hB1.size _) ⟨⟨⟨bR1.alloc _, v, bO1.alloc _, Kd.R_alloc hR1 _⟩, hok⟩, below_alloc hB1 _⟩ ⟨W.heap.size, bO1.lt, World.alloc_heap_new W _, rfl⟩
  case body =>
    rintro lp pre x a' W hlp ⟨r, hr⟩ ⟨⟨⟨bR1, v, bO1, hR1⟩, hok⟩, hB1⟩ ⟨Bx, hBx, bX, rfl⟩ hlt
    obtain ⟨A1, c1, e1, hc1, hC1⟩ := Kd.R_reads hR1
    subst e1
    obtain ⟨m, n1, hm⟩ : ∃ m n1, addM pre x = (m, n1) := ⟨_, _, rfl⟩
    have cO := bO1.cell
    have x0 := blk_cell bX 0; have x1 := blk_cell bX 1; have x2 := blk_cell bX 2; have x3 := blk_cell bX 3
    have hadd := Add_any A1 c1 pre x m n1 W hC1 hc1 (by omega) hm
    have hnot : mayOk (pre ++ [x]) ↔ n1 = 0 := by rw [mayOk_snoc, hm]; exact ⟨fun h => h.2, fun h => ⟨hok, h⟩⟩
    have HNOT := Aside0.mk hnot
    have HM := Aside0.mk hm
    have HL := Aside0.mk (Nat.le_trans (Nat.succ_le_of_lt hlt) hl)
    clear hnot hm hlt hlp
    have bR2 := Aside0.mk bR1
    have bO2 := Aside0.mk bO1
    have HB1 := Aside0.mk hB1
    have HR1 := Aside0.mk hR1
    clear bR1 bO1 hB1 hR1 hC1 bX hr
    by_cases hz : n1 = 0
    · subst hz
      gi_wp2_with (refine ⟨trivial, ?_⟩; gi_at_call 125; refine (CallsIn.inRound lp (callsIn_wide.2 hadd)).mono ?_; rintro e' w1 ⟨v1, rfl, hro, hb⟩; obtain ⟨A2, c2, rfl⟩ := Kd.R_slice hro; have bR3 : Boxed w1 w.heap.size 4 (.bool false) := blk_below bR2.out hb; have bO3 : Boxed w1 (w.heap.size + 1) 47 (.slice A1 pre.length c1) := blk_below bO2.out hb; have cO3 := bO3.cell; have fO3 := bO3.frozen)
      have hbb := hb.mono HB1.out.size
      obtain rfl := addM_ok HM.out
      exact ⟨(keeps_below hb).trans ((KeepsOthers.setCell _ _ _).from _), hbb.setCell (p := ⟨w.heap.size + 1, 0, none⟩) (by simp) _,
        ⟨⟨bR3.other (by omega) _, _, bO3.set _, Kd.R_set (Kd.R_lower hro HB1.out.size) bO3 (fun q hq => by simp [kE, Kd.iso, Kd.pair, Kd.int, Kd.string, Kd.scalar] at hq; omega) 0 _⟩, HNOT.out.2 (by trivial)⟩, (HB1.out.trans hbb).setCell (p := ⟨w.heap.size + 1, 0, none⟩) (by simp) _⟩
    · have hne : (n1 != 0) = true := by simp [hz]
      gi_wp2_with (refine ⟨trivial, ?_⟩; gi_at_call 125; refine (CallsIn.inRound lp (callsIn_wide.2 hadd)).mono ?_; rintro e' w1 ⟨v1, rfl, hro, hb⟩; obtain ⟨A2, c2, rfl⟩ := Kd.R_slice hro; have bR3 : Boxed w1 w.heap.size 4 (.bool false) := blk_below bR2.out hb; have cR3 := bR3.cell; have fR3 := bR3.frozen)
      have hbb := hb.mono HB1.out.size
      exact ⟨(keeps_below hb).trans ((KeepsOthers.setCell _ _ _).from _), ⟨⟨rfl, fun h => hz (HNOT.out.1 h)⟩, bR3.set _⟩, (HB1.out.trans hbb).setCell (p := ⟨w.heap.size, 0, none⟩) (Nat.le_refl _) _⟩
  case done =>
    rintro D zs W hD rfl ⟨⟨⟨bR1, v, bO1, hR1⟩, hok⟩, hB1⟩ hK
    have cR := bR1.cell
    have fR := bR1.frozen
    gi_wp2
    have hK' := (KeepsOthers.setCell W ⟨w.heap.size, 0, none⟩ (.bool true)).same D _ hK rfl
    refine ⟨by simp, .inl ⟨_, _, rfl, run_takeDeferred hK', ?_⟩⟩
    have hc5 := cell_kept (World.cell?_setCell_same' W ⟨w.heap.size, 0, none⟩ (.bool true) (by rw [cR]; rfl)) (grownBy_putObj' _ D (.deferred none)) (fun r e => by cases e; exact ⟨_, hK', rfl⟩)
    refine ⟨.bool true, ?_, by rw [(mayB_iff zs).2 hok], (hB1.setCell (p := ⟨w.heap.size, 0, none⟩) (Nat.le_refl _) _).trans (belowK_b (w := w) (Nat.le_refl _) _ D _ _ (by omega) hK' rfl rfl)⟩
    simp [results, Tryz.f119, go_sem, hc5]
  case stop =>
    rintro D c' pre W hD hpre ⟨⟨⟨rfl, hno⟩, bR1⟩, hB1⟩ hK
    have cR := bR1.cell
    gi_wp2
    refine ⟨by simp, .inl ⟨_, _, rfl, run_takeDeferred hK, ?_⟩⟩
    have hc5 := cell_kept cR (grownBy_putObj' _ D (.deferred none)) (fun r e => by cases e; exact ⟨_, hK, rfl⟩)
    have hf : mayB l = false := Bool.eq_false_iff.2 (fun h => hno (mayOk_take ((mayB_iff l).1 h) hpre))
    refine ⟨.bool false, ?_, by rw [hf], hB1.trans (belowK_b (w := w) (Nat.le_refl _) W D _ _ (by omega) hK rfl rfl)⟩
    simp [results, Tryz.f119, go_sem, hc5]
end Go.Proofs.YtanemmcddgkpdaaGreat.Hm
end
section
/- The Go package dir: entries' bytes; conditions: those that each theorem names. -/
namespace Go.Proofs.YtanemmcddgkpdaaGreat.Hm
open Go.RowKit Go.Proofs.YtanemmcddgkpdaaGreatW.PrintWords Go.Proofs.YtanemmcddgkpdaaGreatW.PrintLast Go.Proofs.YtanemmcddgkpdaaGreatW.PrintMore
set_option linter.unusedVariables false
set_option linter.unusedSimpArgs false
/-- Numbers in their kinds. -/
structure Ent.wf (e : Ent) : Prop where
  c0 : 0 ≤ e.c
  c1 : e.c < 18446744073709551616
  i0 : 0 ≤ e.i
  i1 : e.i < 4294967296
  g0 : 0 ≤ e.g
  g1 : e.g < 4294967296
def encE (e : Ent) : List Int := be64 e.c ++ be32 e.i ++ be32 e.g ++ opq (bytesOf e.s)
def putM (l : List Ent) : List Int × Int := if mayB l = true then (l.flatMap encE, 0) else ([], 11)
theorem name_len {s : List Int} (h : nameE s = 0) : s.length ≤ 24 := by
  unfold nameE nameB at h
  by_cases hl : s.length ≤ 24
  · exact hl
  · simp [hl] at h
theorem addM_name {l : List Ent} {e : Ent} (h : (addM l e).2 = 0) : nameE (bytesOf e.s) = 0 := by
  unfold addM at h
  split at h
  · exact h
  · rename_i h1
    exact Decidable.not_not.1 h1
theorem mayOk_len {l : List Ent} (h : mayOk l) (e : Ent) (he : e ∈ l) : (bytesOf e.s).length ≤ 24 := by
  obtain ⟨k, hk, rfl⟩ := List.mem_iff_getElem.1 he
  exact name_len (addM_name (h k _ (List.getElem?_eq_getElem hk)))
theorem encE_len (e : Ent) (h : (bytesOf e.s).length ≤ 24) : (encE e).length ≤ 48 := by
  simp only [encE, be64, be32, opq, List.length_append, List.length_cons, List.length_nil, List.length_replicate]
  omega
theorem flat_len (l : List Ent) (h : ∀ e ∈ l, (bytesOf e.s).length ≤ 24) : (l.flatMap encE).length ≤ 48 * l.length := by
  induction l with
  | nil => exact Nat.le_refl _
  | cons e r ih =>
    rw [List.flatMap_cons, List.length_append, List.length_cons]
    have h1 := encE_len e (h e List.mem_cons_self)
    have h2 := ih (fun x hx => h x (List.mem_cons_of_mem _ hx))
    omega
theorem Kept.size' {w w' : World} {S : Nat → Prop} (h : Kept w w' S) : w.heap.size ≤ w'.heap.size := h.1
theorem Kept.blk' {w w' : World} {S : Nat → Prop} (h : Kept w w' S) (i : Nat) (hi : i < w.heap.size) (hs : ¬ S i) : w'.heap[i]? = w.heap[i]? := h.2 i hi hs
set_option maxHeartbeats 4000000 in
set_option maxRecDepth 100000 in
theorem Put_any (A : Option Addr) (c : Nat) (l : List Ent) (w : World) (hr : kE.C w A l.length l) (hc : l.length ≤ c) (hl : l.length ≤ 1000000) (hw : ∀ e ∈ l, e.wf) :
    Calls Tryz.prog 148 #[.slice A l.length c] w fun e' w' => ∃ v, e' = .returned (.tuple #[v, .int .i64 (putM l).2]) ∧ Kd.R (Kd.int .u8) 5 w' w.heap.size (fun _ => True) v (putM l).1 ∧ Below w.heap.size w w' := by
  have HR := Aside0.mk hr
  have HW := Aside0.mk hw
  clear hr hw
  unfold putM
  cases hm : mayB l with
  | false =>
    rw [if_neg (by decide)]
    have HM := Aside0.mk hm
    clear hm
    go_enter Tryz.func148, Tryz.ntmps148
    go_wp2_with fail
    (with_reducible refine (may_any A c l w HR.out hc (by omega)).mono ?_)
    rintro e' w1 ⟨rfl, hb1⟩
    rw [HM.out]
    have HB1 := Aside0.mk hb1
    clear hb1
    go_wp2
    go_ret2
    exact ⟨_, rfl, Kd.R_nil _ _ _ _ _, HB1.out⟩
  | true =>
    rw [if_pos rfl]
    have HM := Aside0.mk hm
    have HOK := Aside0.mk ((mayB_iff l).1 hm)
    have HLN := Aside0.mk (mayOk_len ((mayB_iff l).1 hm))
    clear hm
    go_enter Tryz.func148, Tryz.ntmps148
    go_wp2_with fail
    (with_reducible refine (may_any A c l w HR.out hc (by omega)).mono ?_)
    rintro e' w1 ⟨rfl, hb1⟩
    rw [HM.out]
    have HB1 := Aside0.mk hb1
    clear hb1
    go_wp2_with fail
    (with_reducible refine (NewWriter_any w1).mono ?_)
    rintro e' w2 ⟨rfl, hw2, hb2⟩
    obtain ⟨P, hP⟩ : ∃ P, w1.heap.size = P := ⟨_, rfl⟩
    rw [hP] at hw2 hb2 ⊢
    have HW2 := Aside0.mk hw2
    have HP := Aside0.mk (by rw [← hP]; exact HB1.out.size : w.heap.size ≤ P)
    have HB2 := Aside0.mk (HB1.out.trans (hb2.mono HP.out))
    clear hw2 hb2 hP
    go_wp2
    go_loopg [13] l.length (fun kq v13 w' => ∃ k : Nat, k + kq = l.length ∧ v13 = .int .i64 k ∧ Aside0 (Wr w' P P (fun _ => True) ((l.take k).flatMap encE)) ∧ Aside0 (Below w.heap.size w w'))
    case atStart => exact ⟨0, by omega, rfl, HW2, HB2⟩
    case round =>
      obtain ⟨k, hk, rfl, HWr, HB⟩ := hrel
      by_cases hlt : k < l.length
      · have hd : decide ((k : Int) < (l.length : Int)) = true := decide_eq_true (by omega)
        obtain ⟨e, he⟩ : ∃ e, l[k]? = some e := ⟨_, List.getElem?_eq_getElem hlt⟩
        obtain ⟨ad, e1, c0, c1, c2, c3⟩ := kE_at (Kd.C_below HR.out HB.out) k e he
        subst e1
        have p0 : (0 : Int) ≤ (k : Int) := by omega
        have p1 : (k : Int) < (l.length : Int) := by omega
        have HE := Aside0.mk he
        have HME := Aside0.mk (List.mem_of_getElem? he)
        have HBX := Aside0.mk (blk_new wr (.cells #[.int .u64 e.c, .int .u32 e.i, .int .u32 e.g, .string e.s] 87))
        have HBa := Aside0.mk (below_alloc HB.out (.cells #[.int .u64 e.c, .int .u32 e.i, .int .u32 e.g, .string e.s] 87))
        have HA := Aside0.mk (Wr.apart HWr.out (below_alloc (Below.refl _ _) (.cells #[.int .u64 e.c, .int .u32 e.i, .int .u32 e.g, .string e.s] 87)))
        have hx0 := blk_cell HBX.out 0
        have HT := Aside0.mk (flat_len (l.take k) (fun x hx => HLN.out x (List.mem_of_mem_take hx)))
        have HTL := Aside0.mk (List.length_take_le' k l)
        have HTK := Aside0.mk (List.length_take_le k l)
        clear he
        have HPlt := Aside0.mk HWr.out.lt
        have HF := Aside0.mk (by have h1 := HT.out; have h2 := HTL.out; omega : ((l.take k).flatMap encE).length ≤ 48000000)
        have HNS : Aside0 (¬ ((wr.heap.size < wr.heap.size ∨ (wr.alloc (.cells #[.int .u64 e.c, .int .u32 e.i, .int .u32 e.g, .string e.s] 87)).heap.size ≤ wr.heap.size) ∨ wr.heap.size = P)) := ⟨by have := HPlt.out; rw [World.size_alloc]; omega⟩
        have HLT : Aside0 (wr.heap.size < (wr.alloc (.cells #[.int .u64 e.c, .int .u32 e.i, .int .u32 e.g, .string e.s] 87)).heap.size) := ⟨by rw [World.size_alloc]; omega⟩
        go_wp2_with fail
        (with_reducible refine (U64_any P P _ _ e.c _ HA.out (fun k hk => .inr hk) (HW.out e HME.out).c0 (HW.out e HME.out).c1 (by have := HF.out; omega)).mono ?_)
        rintro e' w3 ⟨rfl, hw3, hk3, hb3⟩
        have HW3 := Aside0.mk hw3
        have HK3 := Aside0.mk hk3
        have HB3 := Aside0.mk (HBa.out.trans (hb3.mono HP.out))
        have HBX3 := Aside0.mk ((hk3.2 wr.heap.size HLT.out HNS.out).trans HBX.out)
        have hx1 := blk_cell HBX3.out 1
        clear hw3 hk3 hb3 hx0
        go_wp2_with fail
        (with_reducible refine (U32_any P P _ _ e.i _ HW3.out (fun k hk => .inr (Nat.le_trans (Kept.size' HK3.out) hk)) (HW.out e HME.out).i0 (HW.out e HME.out).i1 (by have := HF.out; simp only [List.length_append, be64, be32, List.length_cons, List.length_nil]; omega)).mono ?_)
        rintro e' w4 ⟨rfl, hw4, hk4, hb4⟩
        have HW4 := Aside0.mk hw4
        have HK4 := Aside0.mk (Kept.trans' HK3.out hk4)
        have HB4 := Aside0.mk (HB3.out.trans (hb4.mono HP.out))
        have HBX4 := Aside0.mk ((Kept.blk' HK4.out wr.heap.size HLT.out HNS.out).trans HBX.out)
        clear hw4 hk4 hb4 hx1
        have hx2 := blk_cell HBX4.out 2
        go_wp2_with fail
        (with_reducible refine (U32_any P P _ _ e.g _ HW4.out (fun k hk => .inr (Nat.le_trans (Kept.size' HK4.out) hk)) (HW.out e HME.out).g0 (HW.out e HME.out).g1 (by have := HF.out; simp only [List.length_append, be64, be32, List.length_cons, List.length_nil]; omega)).mono ?_)
        rintro e' w5 ⟨rfl, hw5, hk5, hb5⟩
        have HW5 := Aside0.mk hw5
        have HK5 := Aside0.mk (Kept.trans' HK4.out hk5)
        have HB5 := Aside0.mk (HB4.out.trans (hb5.mono HP.out))
        have HBX5 := Aside0.mk ((Kept.blk' HK5.out wr.heap.size HLT.out HNS.out).trans HBX.out)
        clear hw5 hk5 hb5 hx2
        have hx3 := blk_cell HBX5.out 3
        have hsz : e.s.size ≤ 9223372036854775807 := by have := HLN.out e HME.out; rw [bytesOf_length] at this; omega
        go_wp2_with (first | ((with_reducible refine gate_dst (N := 34) rfl ?_); refine V_conv_str ?hg (N' := 34) ?hd _ rfl e.s ?hx ?hl ?_; (case hd => rfl); (case hg => rfl); (case hx => rfl); (case hl => exact hsz); intro v34 w6 hv hb6; have HV := Aside0.mk hv; have HA6 := Aside0.mk (Wr.apart HW5.out hb6); have HB6 := Aside0.mk hb6; clear hv hb6; obtain ⟨A34, c34, e34, hc34, hF34⟩ := HV.out; subst e34) | fail)
        (with_reducible refine (Opaque_any P P _ _ _ A34 c34 (bytesOf e.s) w6 HA6.out (fun k hk => .inr hk) hF34 hc34 (fun k h1 h2 => by have := HW5.out.lt; omega) (bytesOf_range _) (by have := HF.out; simp only [List.length_append, be64, be32, List.length_cons, List.length_nil]; omega) (by have := HLN.out e HME.out; omega)).mono ?_)
        rintro e' w7 ⟨rfl, hw7, hk7, hb7⟩
        have HW7 := Aside0.mk (hw7.mono (S' := fun _ => True) (fun _ _ => trivial))
        have HB7 := Aside0.mk ((below_step HB5.out HB6.out).trans (hb7.mono HP.out))
        clear hw7 hk7 hb7 hx3
        go_wp2
        go_roundg (l.length - k - 1)
        case measure => omega
        case rel => exact ⟨k + 1, by omega, by go_num, ⟨HW7.out.len (by
          obtain ⟨hlt', hv⟩ := List.getElem?_eq_some_iff.1 HE.out
          rw [List.take_succ_eq_append_getElem hlt', hv, List.flatMap_append, List.flatMap_singleton, encE]
          simp only [List.append_assoc])⟩, HB7⟩
      · have hd : decide ((k : Int) < (l.length : Int)) = false := decide_eq_false (by omega)
        have hk' : k = l.length := by omega
        subst hk'
        have HWl := Aside0.mk (HWr.out.len (show (l.take l.length).flatMap encE = l.flatMap encE by rw [List.take_length]))
        have HF := Aside0.mk (by have := flat_len l HLN.out; omega : (l.flatMap encE).length ≤ 48000000)
        go_wp2_with fail
        (with_reducible refine (Out_any P P _ _ wr HWl.out (by have := HF.out; omega)).mono ?_)
        rintro e' w3 ⟨v3, rfl, hr3, hb3⟩
        have HR3 := Aside0.mk (Kd.R_lower hr3 HB.out.size)
        have HB3 := Aside0.mk (below_step HB.out hb3)
        clear hr3 hb3
        go_wp2
        go_ret2
        exact ⟨_, rfl, HR3.out, HB3.out⟩
end Go.Proofs.YtanemmcddgkpdaaGreat.Hm
end
section
/- The Go package dir: the entries of bytes; conditions: those that each theorem names. -/
namespace Go.Proofs.YtanemmcddgkpdaaGreat.Hm
open Go.RowKit Go.Proofs.YtanemmcddgkpdaaGreatW.PrintWords Go.Proofs.YtanemmcddgkpdaaGreatW.PrintLast Go.Proofs.YtanemmcddgkpdaaGreatW.PrintMore
set_option linter.unusedVariables false
set_option linter.unusedSimpArgs false
/-- One entry is read: it; what is left; the error. -/
def rdE (xs : List Int) : Ent × List Int × Int :=
  ((⟨(rdM xs 0 8).1, (rdM (rdM xs 0 8).2.1 (rdM xs 0 8).2.2 4).1, (rdM (rdM (rdM xs 0 8).2.1 (rdM xs 0 8).2.2 4).2.1 (rdM (rdM xs 0 8).2.1 (rdM xs 0 8).2.2 4).2.2 4).1,
      strOfNums (opM (rdM (rdM (rdM xs 0 8).2.1 (rdM xs 0 8).2.2 4).2.1 (rdM (rdM xs 0 8).2.1 (rdM xs 0 8).2.2 4).2.2 4).2.1 (rdM (rdM (rdM xs 0 8).2.1 (rdM xs 0 8).2.2 4).2.1 (rdM (rdM xs 0 8).2.1 (rdM xs 0 8).2.2 4).2.2 4).2.2 24).1⟩ : Ent),
    (opM (rdM (rdM (rdM xs 0 8).2.1 (rdM xs 0 8).2.2 4).2.1 (rdM (rdM xs 0 8).2.1 (rdM xs 0 8).2.2 4).2.2 4).2.1 (rdM (rdM (rdM xs 0 8).2.1 (rdM xs 0 8).2.2 4).2.1 (rdM (rdM xs 0 8).2.1 (rdM xs 0 8).2.2 4).2.2 4).2.2 24).2)
theorem rdE_eq {xs y1 y2 y3 y4 s : List Int} {c i g e1 e2 e3 e4 : Int} (h1 : rdM xs 0 8 = (c, y1, e1)) (h2 : rdM y1 e1 4 = (i, y2, e2)) (h3 : rdM y2 e2 4 = (g, y3, e3)) (h4 : opM y3 e3 24 = (s, y4, e4)) :
    rdE xs = (⟨c, i, g, strOfNums s⟩, y4, e4) := by
  unfold rdE
  rw [h1]
  dsimp only
  rw [h2]
  dsimp only
  rw [h3]
  dsimp only
  rw [h4]
/-- All entries are read. -/
def getL : Nat → List Int → List Ent → List Ent × Int
  | 0, _, out => (out, 0)
  | n + 1, xs, out => if xs.length = 0 then (out, 0) else if (rdE xs).2.2 ≠ 0 then ([], (rdE xs).2.2) else getL n (rdE xs).2.1 (out ++ [(rdE xs).1])
def getM (b : List Int) : List Ent × Int :=
  if (getL (b.length + 1) b []).2 ≠ 0 then ([], (getL (b.length + 1) b []).2) else if mayB (getL (b.length + 1) b []).1 = true then ((getL (b.length + 1) b []).1, 0) else ([], 11)
theorem takeM_e (xs : List Int) (e : Int) (n : Nat) (h : (takeM xs e n).2.2 = 0) : e = 0 ∧ (takeM xs e n).2.1 = xs.drop n ∧ n ≤ xs.length := by
  unfold takeM at h ⊢
  by_cases he : e = 0
  · subst he
    rw [if_neg (by simp)] at h ⊢
    by_cases hx : xs.length < n
    · rw [if_pos hx] at h
      cases h
    · rw [if_neg hx] at h ⊢
      exact ⟨rfl, rfl, by omega⟩
  · rw [if_pos he] at h
    exact absurd h he
theorem rdM_e (xs : List Int) (e : Int) (n : Nat) (h : (rdM xs e n).2.2 = 0) : e = 0 ∧ (rdM xs e n).2.1 = xs.drop n ∧ n ≤ xs.length := takeM_e xs e n h
theorem takeM_le (xs : List Int) (e : Int) (n : Nat) : (takeM xs e n).2.1.length ≤ xs.length := by
  unfold takeM
  split
  · exact Nat.le_refl _
  · split
    · exact Nat.le_refl _
    · simp
theorem opM_le (xs : List Int) (e most : Int) : (opM xs e most).2.1.length ≤ xs.length := by
  have h1 : (rdM xs e 4).2.1.length ≤ xs.length := takeM_le xs e 4
  unfold opM
  split
  rename_i n ys e1 h
  rw [h] at h1
  split
  · exact h1
  · split
    · exact h1
    · have h2 := takeM_le ys 0 (n.toNat + (4 - n.toNat % 4) % 4)
      split
      rename_i b zs e2 h3
      rw [h3] at h2
      split
      · exact Nat.le_trans h2 h1
      · split
        · exact Nat.le_trans h2 h1
        · exact Nat.le_trans h2 h1
theorem opM_e (xs : List Int) (e most : Int) (h : (opM xs e most).2.2 = 0) : e = 0 := by
  have h1 := rdM_e xs e 4
  unfold opM at h
  split at h
  rename_i n ys e1 h2
  rw [h2] at h1
  split at h
  · rename_i h3
    exact absurd h h3
  · rename_i h3
    exact (h1 (Decidable.not_not.1 h3)).1
theorem rdE_shrink {xs : List Int} (h : (rdE xs).2.2 = 0) : (rdE xs).2.1.length + 8 ≤ xs.length := by
  obtain ⟨⟨c, y1, e1⟩, h1⟩ : ∃ r, rdM xs 0 8 = r := ⟨_, rfl⟩
  obtain ⟨⟨i, y2, e2⟩, h2⟩ : ∃ r, rdM y1 e1 4 = r := ⟨_, rfl⟩
  obtain ⟨⟨g, y3, e3⟩, h3⟩ : ∃ r, rdM y2 e2 4 = r := ⟨_, rfl⟩
  obtain ⟨⟨s, y4, e4⟩, h4⟩ : ∃ r, opM y3 e3 24 = r := ⟨_, rfl⟩
  rw [rdE_eq h1 h2 h3 h4] at h ⊢
  dsimp only at h ⊢
  have l4 := opM_le y3 e3 24
  have k4 := opM_e y3 e3 24
  rw [h4] at l4 k4
  have k3 := rdM_e y2 e2 4
  rw [h3] at k3
  obtain ⟨z3, d3, n3⟩ := k3 (k4 h)
  have k2 := rdM_e y1 e1 4
  rw [h2] at k2
  obtain ⟨z2, d2, n2⟩ := k2 z3
  have k1 := rdM_e xs 0 8
  rw [h1] at k1
  obtain ⟨z1, d1, n1⟩ := k1 z2
  dsimp only at d1 d2 d3 l4
  rw [d3, List.length_drop] at l4
  rw [d2, List.length_drop] at l4
  rw [d1, List.length_drop] at l4
  omega
theorem getL_hit {f : Nat} {xs : List Int} {out : List Ent} (hx : xs.length ≠ 0) : getL (f + 1) xs out = if (rdE xs).2.2 ≠ 0 then ([], (rdE xs).2.2) else getL f (rdE xs).2.1 (out ++ [(rdE xs).1]) := by
  rw [getL, if_neg hx]
set_option maxHeartbeats 4000000 in
set_option maxRecDepth 100000 in
theorem Get_any (A : Option Addr) (c : Nat) (b : List Int) (w : World) (hr : Kd.C (Kd.int .u8) w A b.length b) (hc : b.length ≤ c) (hb : bytesB b = true) (hl : b.length ≤ 4000000000) :
    Calls Tryz.prog 64 #[.slice A b.length c] w fun e' w' => ∃ v, e' = .returned (.tuple #[v, .int .i64 (getM b).2]) ∧ kE.R 87 w' w.heap.size (fun _ => True) v (getM b).1 ∧ Below w.heap.size w w' := by
  have HR := Aside0.mk hr
  have HBY := Aside0.mk hb
  clear hr hb
  obtain ⟨R, hR⟩ : ∃ R, getL (b.length + 1) b [] = R := ⟨_, rfl⟩
  have HM : Aside0 (getM b = if R.2 ≠ 0 then ([], R.2) else if mayB R.1 = true then (R.1, 0) else ([], 11)) := ⟨by unfold getM; rw [hR]⟩
  have HG := Aside0.mk hR
  clear hR
  go_enter Tryz.func64, Tryz.ntmps64
  go_wp2_with fail
  (with_reducible refine (NewReader_any A c b w HR.out hc HBY.out (by omega)).mono ?_)
  rintro e' w1 ⟨P, rfl, hr1, hb1⟩
  obtain ⟨L, hL⟩ : ∃ L, w1.heap.size = L := ⟨_, rfl⟩
  have hPL := hr1.lt
  rw [hL] at hr1 hPL
  have HR1 := Aside0.mk hr1
  have HPL := Aside0.mk hPL
  have HB1 := Aside0.mk hb1
  have HLL := Aside0.mk (Nat.le_of_eq hL.symm)
  clear hr1 hb1 hL hPL
  go_wp2
  go_loopg [5] b.length (fun kq v5 w' => ∃ (xs : List Int) (out : List Ent) (f : Nat), xs.length = kq ∧ xs.length < f ∧ Aside0 (getL f xs out = R) ∧ Aside0 (out.length + xs.length ≤ b.length) ∧ Aside0 (Rd w' w.heap.size P L xs 0) ∧ Aside0 (kE.R 87 w' w.heap.size (fun k => L ≤ k) v5 out) ∧ Aside0 (Below w.heap.size w w') ∧ Aside0 (L ≤ w'.heap.size))
  case atStart => exact ⟨b, [], b.length + 1, rfl, by omega, HG, ⟨by simp⟩, HR1, ⟨Kd.R_nil _ _ _ _ _⟩, HB1, HLL⟩
  case round =>
    obtain ⟨xs, out, f, hk, hf, HL, HN, HRd, HO, HB, HLW⟩ := hrel
    obtain ⟨f, rfl⟩ : ∃ g, f = g + 1 := ⟨f - 1, by omega⟩
    have HK := Aside0.mk hk
    have HF := Aside0.mk hf
    clear hk hf
    by_cases hx : xs.length = 0
    · have hd1 : decide ((0 : Int) < (xs.length : Int)) = false := decide_eq_false (by omega)
      have hd2 : decide (0 < xs.length) = false := decide_eq_false (by omega)
      have HRR : Aside0 (R = (out, 0)) := ⟨by rw [← HL.out, getL, if_pos hx]⟩
      obtain ⟨A5, c5, e5, hc5, hC5⟩ := Kd.R_reads HO.out
      subst e5
      have HC5 := Aside0.mk hC5
      clear hC5 hx
      cases hmy : mayB out with
      | true =>
        have HMY := Aside0.mk hmy
        clear hmy
        go_wp2_with fail
        (with_reducible refine (Left_any _ P L xs 0 wr HRd.out).mono ?_)
        rintro e' w2 ⟨rfl, rfl⟩
        go_wp2_with fail
        (with_reducible refine (may_any A5 c5 out w2 HC5.out hc5 (by have := HN.out; omega)).mono ?_)
        rintro e' w3 ⟨rfl, hb3⟩
        rw [HMY.out]
        have HO3 := Aside0.mk (Kd.R_below HO.out hb3)
        have HB3 := Aside0.mk (below_step HB.out hb3)
        clear hb3
        go_wp2
        go_ret2
        have HMM : Aside0 (getM b = (out, 0)) := ⟨by rw [HM.out, HRR.out, if_neg (by simp), if_pos HMY.out]⟩
        exact ⟨_, by rw [HMM.out]; rfl, by rw [HMM.out]; exact Kd.R_mono HO3.out (fun _ _ => trivial), HB3.out⟩
      | false =>
        have HMY := Aside0.mk hmy
        clear hmy
        go_wp2_with fail
        (with_reducible refine (Left_any _ P L xs 0 wr HRd.out).mono ?_)
        rintro e' w2 ⟨rfl, rfl⟩
        go_wp2_with fail
        (with_reducible refine (may_any A5 c5 out w2 HC5.out hc5 (by have := HN.out; omega)).mono ?_)
        rintro e' w3 ⟨rfl, hb3⟩
        rw [HMY.out]
        have HB3 := Aside0.mk (below_step HB.out hb3)
        clear hb3
        go_wp2
        go_ret2
        have HMM : Aside0 (getM b = ([], 11)) := ⟨by rw [HM.out, HRR.out, if_neg (by simp), if_neg (by rw [HMY.out]; decide)]⟩
        exact ⟨_, by rw [HMM.out]; rfl, by rw [HMM.out]; exact Kd.R_nil _ _ _ _ _, HB3.out⟩
    · have hd1 : decide ((0 : Int) < (xs.length : Int)) = true := decide_eq_true (by omega)
      have hd2 : decide (0 < xs.length) = true := decide_eq_true (by omega)
      have HX := Aside0.mk hx
      obtain ⟨⟨c8, y1, e1⟩, h1⟩ : ∃ r, rdM xs 0 8 = r := ⟨_, rfl⟩
      obtain ⟨⟨i4, y2, e2⟩, h2⟩ : ∃ r, rdM y1 e1 4 = r := ⟨_, rfl⟩
      obtain ⟨⟨g4, y3, e3⟩, h3⟩ : ∃ r, rdM y2 e2 4 = r := ⟨_, rfl⟩
      obtain ⟨⟨sb, y4, e4⟩, h4⟩ : ∃ r, opM y3 e3 24 = r := ⟨_, rfl⟩
      have HE := Aside0.mk (rdE_eq h1 h2 h3 h4)
      have H1 := Aside0.mk h1
      have H2 := Aside0.mk h2
      have H3 := Aside0.mk h3
      have H4 := Aside0.mk h4
      obtain ⟨A5, c5, e5, hc5, hC5⟩ := Kd.R_reads HO.out
      subst e5
      have HC5 := Aside0.mk hc5
      have HPlt := Aside0.mk HRd.out.lt
      have HLG := Aside0.mk HLW.out
      have hbx := blk_new wr (.cells #[.int .u64 0, .int .u32 0, .int .u32 0, .string ⟨#[]⟩] 87)
      have HBX := Aside0.mk hbx
      have hfz := blk_frozen hbx 0
      have hx0 := blk_cell hbx 0
      have HRa := Aside0.mk (HRd.out.below (below_alloc (Below.refl _ _) (.cells #[.int .u64 0, .int .u32 0, .int .u32 0, .string ⟨#[]⟩] 87)))
      have HOa := Aside0.mk (Kd.R_alloc (Kd.R_elderB HO.out wr.heap.size (Nat.le_refl _)) (.cells #[.int .u64 0, .int .u32 0, .int .u32 0, .string ⟨#[]⟩] 87))
      have HBa := Aside0.mk (below_alloc HB.out (.cells #[.int .u64 0, .int .u32 0, .int .u32 0, .string ⟨#[]⟩] 87))
      obtain ⟨G, hG⟩ : ∃ G, wr.heap.size = G := ⟨_, rfl⟩
      rw [hG] at HBX HPlt HOa HLG hfz hx0
      have HGL : Aside0 (w.heap.size ≤ G) := ⟨by rw [← hG]; exact HB.out.size⟩
      clear h1 h2 h3 h4 hbx hc5 hC5 hx
      go_wp2_with fail
      (with_reducible refine (Left_any _ P L xs 0 wr HRd.out).mono ?_)
      rintro e' w2 ⟨rfl, rfl⟩
      go_wp2_with fail
      have hr8 := RU64_any _ P L xs 0 _ HRa.out
      rw [H1.out] at hr8
      simp only [hG] at hr8 ⊢
      (with_reducible refine hr8.mono ?_)
      rintro e' w3 ⟨rfl, hr3, hk3, hb3⟩
      have hbx := (hk3.2 G (by rw [← hG, World.size_alloc]; omega) (by have := HPlt.out; omega)).trans HBX.out
      have hfz := blk_frozen hbx 0
      have hx0 := blk_cell hbx 0
      have HRd3 := Aside0.mk (Rd.put hr3 HLG.out (by have := HPlt.out; omega) 0 (.int .u64 c8))
      have HBX3 := Aside0.mk (blk_put hbx 0 (.int .u64 c8) rfl)
      have HO3 := Aside0.mk (Kd.R_far (p := ⟨G, 0, none⟩) (Kd.R_step HOa.out (fun k ho hlt => hk3.2 k hlt (by have := ho.1; have := HPL.out; omega))) (fun k ho => ho.2) (.int .u64 c8))
      have HB3 := Aside0.mk ((HBa.out.trans hb3).setCell (p := ⟨G, 0, none⟩) HGL.out (.int .u64 c8))
      have hG3 : G < w3.heap.size := blk_lt hbx
      clear hr8 hr3 hk3 hb3 hbx hG3
      go_wp2_with fail
      clear hx0 hfz
      have hri := RU32_any _ P L y1 e1 _ HRd3.out
      rw [H2.out] at hri
      (with_reducible refine hri.mono ?_)
      rintro e' w4 ⟨rfl, hrib, hkib, hbib⟩
      have hbx := (hkib.2 G (blk_lt HBX3.out) (by have := HPlt.out; omega)).trans HBX3.out
      have hfz := blk_frozen hbx 1
      have hx0 := blk_cell hbx 1
      have HRd4 := Aside0.mk (Rd.put hrib HLG.out (by have := HPlt.out; omega) 1 (.int .u32 i4))
      have HBX4 := Aside0.mk (blk_put hbx 1 (.int .u32 i4) rfl)
      have HO4 := Aside0.mk (Kd.R_far (p := ⟨G, 1, none⟩) (Kd.R_step HO3.out (fun k ho hlt => hkib.2 k hlt (by have := ho.1; have := HPL.out; omega))) (fun k ho => ho.2) (.int .u32 i4))
      have HB4 := Aside0.mk ((HB3.out.trans hbib).setCell (p := ⟨G, 1, none⟩) HGL.out (.int .u32 i4))
      clear hri hrib hkib hbib hbx
      go_wp2_with fail
      clear hx0 hfz
      have hrg := RU32_any _ P L y2 e2 _ HRd4.out
      rw [H3.out] at hrg
      (with_reducible refine hrg.mono ?_)
      rintro e' w5 ⟨rfl, hrgb, hkgb, hbgb⟩
      have hbx := (hkgb.2 G (blk_lt HBX4.out) (by have := HPlt.out; omega)).trans HBX4.out
      have hfz := blk_frozen hbx 2
      have hx0 := blk_cell hbx 2
      have HRd5 := Aside0.mk (Rd.put hrgb HLG.out (by have := HPlt.out; omega) 2 (.int .u32 g4))
      have HBX5 := Aside0.mk (blk_put hbx 2 (.int .u32 g4) rfl)
      have HO5 := Aside0.mk (Kd.R_far (p := ⟨G, 2, none⟩) (Kd.R_step HO4.out (fun k ho hlt => hkgb.2 k hlt (by have := ho.1; have := HPL.out; omega))) (fun k ho => ho.2) (.int .u32 g4))
      have HB5 := Aside0.mk ((HB4.out.trans hbgb).setCell (p := ⟨G, 2, none⟩) HGL.out (.int .u32 g4))
      clear hrg hrgb hkgb hbgb hbx
      go_wp2_with fail
      clear hx0 hfz
      (with_reducible refine (ROpaque_any _ P L y3 e3 24 sb y4 e4 _ HRd5.out (by decide) (by decide) H4.out).mono ?_)
      rintro e' w6 ⟨v6, rfl, hv6, hr6, hk6, hb6⟩
      obtain ⟨A6, c6, e6, hc6, hC6⟩ := Kd.R_reads hv6
      subst e6
      have hcv := Kd.C_string (P := Tryz.prog) (src := 38) (dst := 9) (e := 5) (c := c6) Tryz.underlying38 Tryz.underlying5 Tryz.underlying9 hC6
      have hbx := (hk6.2 G (blk_lt HBX5.out) (by have := HPlt.out; omega)).trans HBX5.out
      have hfz := blk_frozen hbx 3
      have hx0 := blk_cell hbx 3
      have HRd6 := Aside0.mk (Rd.put hr6 HLG.out (by have := HPlt.out; omega) 3 (.string (strOfNums sb)))
      have HBX6 := Aside0.mk (blk_put hbx 3 (.string (strOfNums sb)) rfl)
      have HO6 := Aside0.mk (Kd.R_far (p := ⟨G, 3, none⟩) (Kd.R_step HO5.out (fun k ho hlt => hk6.2 k hlt (by have := ho.1; have := HPL.out; omega))) (fun k ho => ho.2) (.string (strOfNums sb)))
      have HB6 := Aside0.mk ((HB5.out.trans hb6).setCell (p := ⟨G, 3, none⟩) HGL.out (.string (strOfNums sb)))
      clear hv6 hr6 hk6 hb6 hbx hc6 hC6
      by_cases h40 : e4 = 0
      · subst h40
        go_wp2_with fail
        (with_reducible refine (Err_any _ P L y4 0 _ HRd6.out).mono ?_)
        rintro e' w7 ⟨rfl, hw7⟩
        rw [← hw7] at HRd6 HBX6 HO6 HB6
        clear hw7 hx0 hfz hcv
        have hx0 := blk_cell HBX6.out 0
        have hx1 := blk_cell HBX6.out 1
        have hx2 := blk_cell HBX6.out 2
        have hx3 := blk_cell HBX6.out 3
        have HFR : Aside0 (∀ k, (w7.alloc (.cells #[.int .u64 c8, .int .u32 i4, .int .u32 g4, .string (strOfNums sb)] 87)).heap.size ≤ k → L ≤ k ∧ k ≠ G) := ⟨fun k hk => by have h1 := HLG.out; have h2 := blk_lt HBX6.out; rw [World.size_alloc] at hk; omega⟩
        go_wp2_with ((at_builtin; refine Kd.R_append_rows kE (Rr := kE.K (w7.alloc (.cells #[.int .u64 c8, .int .u32 i4, .int .u32 g4, .string (strOfNums sb)] 87))) (w0 := w) w.heap.size rfl (.tmp 33) (.tmp 35) 47 87 (.agg #[.int .u64 0, .int .u32 0, .int .u32 0, .string ⟨#[]⟩]) 32 rfl Tryz.underlying47 infoE rfl (by decide) (by decide) (.slice A5 out.length c5) out [⟨c8, i4, g4, strOfNums sb⟩] (some ⟨w7.heap.size, 0, none⟩) 1 1 (fun k => L ≤ k ∧ k ≠ G) (fun _ => False) rfl rfl (Kd.R_alloc HO6.out _) (kE_one (blk_new w7 (.cells #[.int .u64 c8, .int .u32 i4, .int .u32 g4, .string (strOfNums sb)] 87))) (fun _ _ h => kE_MK h) (fun _ h => h.elim) HFR.out (below_alloc HB6.out _) (below_alloc HB6.out _).size (by have := HN.out; omega) ?_; intro v8 w8 hr8 hb8 hg8 hat8))
        have HR8 := Aside0.mk (Kd.R_mono hr8 (ok' := fun k => L ≤ k) (fun k hk => hk.1))
        have HB8 := Aside0.mk hb8
        have HRd8 := Aside0.mk (Rd.grown (HRd6.out.below (below_alloc (Below.refl _ _) _)) hg8 (fun k hk => by have h1 := (HO6.out.1 k hk).1; have h2 := HPL.out; omega))
        have HLW8 := Aside0.mk (Nat.le_trans (Nat.le_of_lt (Nat.lt_of_le_of_lt HLG.out (blk_lt HBX6.out))) (Nat.le_trans (below_alloc (Below.refl _ w7) _).size hg8.size))
        obtain ⟨A8, c8', e8⟩ := Kd.R_slice hr8
        rw [List.length_append, List.length_singleton] at e8
        subst e8
        clear hr8 hb8 hg8 hat8
        have hsh := rdE_shrink (xs := xs) (by rw [HE.out])
        rw [HE.out] at hsh
        have HSH := Aside0.mk hsh
        clear hsh
        go_wp2
        go_roundg y4.length
        case measure => have := HSH.out; have := HK.out; omega
        case rel => exact ⟨y4, out ++ [⟨c8, i4, g4, strOfNums sb⟩], f, rfl, by have := HSH.out; have := HF.out; omega, ⟨by rw [← HL.out, getL_hit HX.out, HE.out, if_neg (by simp)]⟩, ⟨by have := HN.out; have := HSH.out; simp; omega⟩, HRd8, HR8, HB8, HLW8⟩
      · have hne : (e4 != 0) = true := by simp [h40]
        have HE4 := Aside0.mk h40
        clear h40
        go_wp2_with fail
        (with_reducible refine (Err_any _ P L y4 e4 _ HRd6.out).mono ?_)
        rintro e' w7 ⟨rfl, hw7⟩
        rw [← hw7] at HB6
        clear hw7 hx0 hfz hcv
        have HRR : Aside0 (R = ([], e4)) := ⟨by rw [← HL.out, getL_hit HX.out, HE.out, if_pos HE4.out]⟩
        have HMM : Aside0 (getM b = ([], e4)) := ⟨by rw [HM.out, HRR.out, if_pos HE4.out]⟩
        go_wp2
        go_ret2
        exact ⟨_, by rw [HMM.out]; rfl, by rw [HMM.out]; exact Kd.R_nil _ _ _ _ _, HB6.out⟩
end Go.Proofs.YtanemmcddgkpdaaGreat.Hm
end
section
/- The Go package dir at the document's example; conditions: those that each theorem names. -/
namespace Go.Proofs.YtanemmcddgkpdaaGreat.Hm
open Go.RowKit Go.Proofs.YtanemmcddgkpdaaGreatW.PrintWords Go.Proofs.YtanemmcddgkpdaaGreatW.PrintLast Go.Proofs.YtanemmcddgkpdaaGreatW.PrintMore
set_option linter.unusedVariables false
set_option linter.unusedSimpArgs false
def xd : Ent := ⟨3, 0, 0, ⟨#[100]⟩⟩
end Go.Proofs.YtanemmcddgkpdaaGreat.Hm
end
section
/- Chapter 8's law of names; conditions: those that each theorem names. -/
namespace Go.Proofs.YtanemmcddgkpdaaGreat.Hm
open Go.RowKit Go.Proofs.YtanemmcddgkpdaaGreatW.PrintWords Go.Proofs.YtanemmcddgkpdaaGreatW.PrintLast Go.Proofs.YtanemmcddgkpdaaGreatW.PrintMore
set_option linter.unusedVariables false
set_option linter.unusedSimpArgs false
end Go.Proofs.YtanemmcddgkpdaaGreat.Hm
end
