/- The Go package dir: whether entries may be; conditions: those that each theorem names. -/
import Derived.Test.YtlpjchighfdomaaGi
namespace Go.Proofs.Ytlpjchighfdomaa.Hm
open Go.RowKit Go.Shelf Go.Proofs.YtlpjchighfdomaaW.PrintWords Go.Proofs.YtlpjchighfdomaaW.PrintLast Go.Proofs.YtlpjchighfdomaaW.PrintMore
set_option linter.unusedVariables false
set_option linter.unusedSimpArgs false
attribute [local go_sem] Oper.semAt_some

/-- Each entry could be added behind those ahead of it. -/
def mayOk (l : List Ent) : Prop := ∀ k e, l[k]? = some e → (addM (l.take k) e).2 = 0
theorem mayOk_nil : mayOk [] := fun k e h => by simp at h
theorem mayOk_snoc {l : List Ent} {e : Ent} : mayOk (l ++ [e]) ↔ mayOk l ∧ (addM l e).2 = 0 := by
  constructor
  · intro h
    refine ⟨fun k x hx => ?_, ?_⟩
    · have hk := (List.getElem?_eq_some_iff.1 hx).1
      have := h k x (by rw [List.getElem?_append_left hk]; exact hx)
      rwa [List.take_append_of_le_length (by omega)] at this
    · have := h l.length e (by simp)
      rwa [List.take_append_of_le_length (Nat.le_refl _), List.take_length] at this
  · rintro ⟨h1, h2⟩ k x hx
    by_cases hk : k < l.length
    · rw [List.getElem?_append_left hk] at hx
      rw [List.take_append_of_le_length (by omega)]
      exact h1 k x hx
    · have hk2 := (List.getElem?_eq_some_iff.1 hx).1
      rw [List.length_append, List.length_singleton] at hk2
      obtain rfl : k = l.length := by omega
      obtain rfl : e = x := by simpa using hx
      rw [List.take_append_of_le_length (Nat.le_refl _), List.take_length]
      exact h2
theorem mayOk_take {l : List Ent} (h : mayOk l) {p : List Ent} (hp : p <+: l) : mayOk p := by
  obtain ⟨q, rfl⟩ := hp
  intro k e hk
  have hlt := (List.getElem?_eq_some_iff.1 hk).1
  have := h k e (by rw [List.getElem?_append_left hlt]; exact hk)
  rwa [List.take_append_of_le_length (by omega)] at this
def mayB (l : List Ent) : Bool := (List.range l.length).all fun k => match l[k]? with | some e => (addM (l.take k) e).2 == 0 | none => true
theorem mayB_iff (l : List Ent) : mayB l = true ↔ mayOk l := by
  unfold mayB mayOk
  rw [List.all_eq_true]
  constructor
  · intro h k e he
    have := h k (List.mem_range.2 (List.getElem?_eq_some_iff.1 he).1)
    rw [he] at this
    simpa using this
  · intro h k hk
    split
    · rename_i e he
      rw [h k e he]; rfl
    · rfl
theorem addM_ok {l r : List Ent} {e : Ent} (h : addM l e = (r, 0)) : r = l ++ [e] := by
  unfold addM at h
  split at h
  · injection h with h1 h2
    exact absurd h2 (by assumption)
  · split at h
    · injection h with h1 h2; cases h2
    · split at h
      · injection h with h1 h2; cases h2
      · injection h with h1 h2; exact h1.symm
theorem keeps_below {B : Nat} {W W' : World} (h : Below W.heap.size W W') : KeepsFrom B W W' := ⟨h.size, fun k o _ hk _ => (h.block k (Array.getElem?_eq_some_iff.1 hk).1).trans hk⟩
theorem R_own {α : Type} (d : Kd α) (e base : Nat) : Own (fun (p : Value × List α) W => d.R e W base (fun _ => True) p.1 p.2) := fun p A B row hs hg hr =>
  Kd.R_mono (Kd.R_grown (Kd.R_bound hs) hg (fun k hk e' => by
    obtain ⟨_, _, _, q, _, cells, hc⟩ := hk
    obtain ⟨o, ho, hn⟩ := hr k e'.symm
    rw [hc] at ho
    cases ho
    cases hn)) (fun _ _ => trivial)
set_option maxRecDepth 100000 in
set_option maxHeartbeats 4000000 in
theorem may_any (A : Option Addr) (c : Nat) (l : List Ent) (w : World) (hr : kE.C w A l.length l) (hc : l.length ≤ c) (hl : l.length ≤ 4398046511000) :
    Calls Try.prog 50 #[.slice A l.length c] w fun e' w' => e' = .returned (.bool (mayB l)) ∧ Below w.heap.size w w' := by
  have HR := Aside0.mk hr
  clear hr
  refine (callsIn_wide (n := 3)).1 ?_
  refine callsIn_of_wp_marks Try.func50 rfl trivial ?_ rfl
  simp only [Try.ntmps50, List.size_toArray, List.length_cons, List.length_nil, Nat.reduceAdd, Nat.reduceSub, Array.replicate_succ, Array.replicate_zero, List.push_toArray, List.append_toArray, List.nil_append, List.cons_append]
  gi_wp2_with (refine ⟨trivial, ?_⟩; gi_at_call 88; refine (callsIn_wide.2 (Values_any A l.length c _)).mono ?_; rintro e w' ⟨rfl, rfl⟩)
  obtain ⟨W0, hW0⟩ : ∃ W0, ((w.alloc (.cells #[.bool false] 4)).alloc (.cells #[.slice none 0 0] 24)).alloc (.cells #[.slice A l.length c] 24) = W0 := ⟨_, rfl⟩
  have bR := ((Boxed.new w 4 (.bool false)).alloc (.cells #[.slice none 0 0] 24)).alloc (.cells #[.slice A l.length c] 24)
  have bO := (Boxed.new (w.alloc (.cells #[.bool false] 4)) 24 (.slice none 0 0)).alloc (.cells #[.slice A l.length c] 24)
  have bN := Boxed.new ((w.alloc (.cells #[.bool false] 4)).alloc (.cells #[.slice none 0 0] 24)) 24 (.slice A l.length c)
  simp only [World.size_alloc] at bO bN
  have hB0 : Below w.heap.size w (((w.alloc (.cells #[.bool false] 4)).alloc (.cells #[.slice none 0 0] 24)).alloc (.cells #[.slice A l.length c] 24)) := below_alloc (below_alloc (below_alloc (Below.refl _ _) _) _) _
  have hsz : (((w.alloc (.cells #[.bool false] 4)).alloc (.cells #[.slice none 0 0] 24)).alloc (.cells #[.slice A l.length c] 24)).heap.size = w.heap.size + 3 := by simp
  rw [hW0] at bR bO bN hB0 hsz ⊢
  clear hW0
  refine wpIn_rangeFunc_ownH rfl (by decide) (gf := 95) (lb := #[.pointer (some ⟨w.heap.size + 1 + 1, 0, none⟩)]) rfl trivial (enters_of Try.func95 (by kernel_rfl) rfl)
    (values_stops Fence.wide (3 - 1) trivial rfl (by decide) (w.heap.size + 1 + 1) A c l w W0 HR.out hB0 bN) belowK_t (belowK_b (by omega)) (Below.refl _ _) (fun _ => rfl)
    (fun pre W => ((Boxed W w.heap.size 4 (.bool false) ∧ ∃ v, Boxed W (w.heap.size + 1) 24 v ∧ kE.R 41 W w.heap.size (fun _ => True) v pre) ∧ mayOk pre) ∧ Below w.heap.size w W)
    (fun c pre W => ((c = .ret ∧ ¬ mayOk pre) ∧ Boxed W w.heap.size 4 (.bool false)) ∧ Below w.heap.size w W)
    (OwnFrom.and (OwnFrom.and (OwnFrom.and (Own.from (boxed_own _ _ _) _) (Own.from (fun pre X Y row hs hg hr => by
      obtain ⟨v, h1, h2⟩ := hs
      exact ⟨v, boxed_own (w.heap.size + 1) 24 (fun (_ : Unit) => v) () X Y row h1 hg hr, R_own kE _ _ (v, pre) X Y row h2 hg hr⟩) _)) (ownFrom_pure _ _)) (ownFrom_below (Nat.le_refl _) (by omega)))
    (fun c => OwnFrom.and (OwnFrom.and (ownFrom_pure _ _) (Own.from (boxed_own _ _ _) _)) (ownFrom_below (Nat.le_refl _) (by omega)))
    ⟨⟨⟨bR, _, bO, Kd.R_nil _ _ _ _ _⟩, mayOk_nil⟩, hB0⟩
    (fun x a' W => ∃ Bx, w.heap.size + 1 < Bx ∧ W.heap[Bx]? = some (.cells #[.int .u64 x.c, .int .u32 x.i, .int .u32 x.g, .string x.s] 41 (0, 0)) ∧ a' = { tmps := #[.slice A l.length c, undef, .pointer (some ⟨w.heap.size, 0, none⟩), .pointer (some ⟨w.heap.size + 1, 0, none⟩), .pointer (some ⟨Bx, 0, none⟩), undef, undef, .slice A l.length c, .func (.func 95) #[] #[.pointer (some ⟨w.heap.size + 1 + 1, 0, none⟩)], .agg #[.int .u64 x.c, .int .u32 x.i, .int .u32 x.g, .string x.s], undef, undef, undef, undef, undef, undef, undef, undef, undef], defers := [] })
    (fun x a' _ X Y row hs hg hr => by
      obtain ⟨Bx, h1, h2, h3⟩ := hs
      exact ⟨Bx, h1, (hg.block Bx (Array.getElem?_eq_some_iff.1 h2).1 (fun e' => by obtain ⟨_, o, ho, hn⟩ := hr Bx e'.symm; rw [h2] at ho; cases ho; cases hn)).trans h2, h3⟩)
    ?assign ?body ?done ?stop
  case assign =>
    rintro lp pre x W K ⟨⟨⟨bR1, v, bO1, hR1⟩, hok⟩, hB1⟩ hK
    simp only [entV]
    gi_wp2
    exact hK _ _ ((KeepsOthers.alloc _ _).from _) ((Below.refl _ W).alloc hB1.size _) ⟨⟨⟨bR1.alloc _, v, bO1.alloc _, Kd.R_alloc hR1 _⟩, hok⟩, below_alloc hB1 _⟩ ⟨W.heap.size, bO1.lt, World.alloc_heap_new W _, rfl⟩
  case body =>
    rintro lp pre x a' W hlp ⟨r, hr⟩ ⟨⟨⟨bR1, v, bO1, hR1⟩, hok⟩, hB1⟩ ⟨Bx, hBx, bX, rfl⟩ hlt
    obtain ⟨A1, c1, e1, hc1, hC1⟩ := Kd.R_reads hR1
    subst e1
    obtain ⟨m, n1, hm⟩ : ∃ m n1, addM pre x = (m, n1) := ⟨_, _, rfl⟩
    have cO := bO1.cell
    have x0 := blk_cell bX 0; have x1 := blk_cell bX 1; have x2 := blk_cell bX 2; have x3 := blk_cell bX 3
    have hadd := Add_any A1 c1 pre x m n1 W hC1 hc1 (by omega) hm
    have hnot : mayOk (pre ++ [x]) ↔ n1 = 0 := by rw [mayOk_snoc, hm]; exact ⟨fun h => h.2, fun h => ⟨hok, h⟩⟩
    have HNOT := Aside0.mk hnot
    have HM := Aside0.mk hm
    have HL := Aside0.mk (Nat.le_trans (Nat.succ_le_of_lt hlt) hl)
    clear hnot hm hlt hlp
    have bR2 := Aside0.mk bR1
    have bO2 := Aside0.mk bO1
    have HB1 := Aside0.mk hB1
    have HR1 := Aside0.mk hR1
    clear bR1 bO1 hB1 hR1 hC1 bX hr
    by_cases hz : n1 = 0
    · subst hz
      gi_wp2_with (refine ⟨trivial, ?_⟩; gi_at_call 28; refine (CallsIn.inRound lp (callsIn_wide.2 hadd)).mono ?_; rintro e' w1 ⟨v1, rfl, hro, hb⟩; obtain ⟨A2, c2, rfl⟩ := Kd.R_slice hro; have bR3 : Boxed w1 w.heap.size 4 (.bool false) := blk_below bR2.out hb; have bO3 : Boxed w1 (w.heap.size + 1) 24 (.slice A1 pre.length c1) := blk_below bO2.out hb; have cO3 := bO3.cell; have fO3 := bO3.frozen)
      have hbb := hb.mono HB1.out.size
      obtain rfl := addM_ok HM.out
      exact ⟨(keeps_below hb).trans ((KeepsOthers.setCell _ _ _).from _), hbb.setCell (p := ⟨w.heap.size + 1, 0, none⟩) (by simp) _,
        ⟨⟨bR3.other (by omega) _, _, bO3.set _, Kd.R_set (Kd.R_lower hro HB1.out.size) bO3 (fun q hq => by simp [kE, Kd.iso, Kd.pair, Kd.int, Kd.string, Kd.scalar] at hq; omega) 0 _⟩, HNOT.out.2 (by trivial)⟩, (HB1.out.trans hbb).setCell (p := ⟨w.heap.size + 1, 0, none⟩) (by simp) _⟩
    · have hne : (n1 != 0) = true := by simp [hz]
      gi_wp2_with (refine ⟨trivial, ?_⟩; gi_at_call 28; refine (CallsIn.inRound lp (callsIn_wide.2 hadd)).mono ?_; rintro e' w1 ⟨v1, rfl, hro, hb⟩; obtain ⟨A2, c2, rfl⟩ := Kd.R_slice hro; have bR3 : Boxed w1 w.heap.size 4 (.bool false) := blk_below bR2.out hb; have cR3 := bR3.cell; have fR3 := bR3.frozen)
      have hbb := hb.mono HB1.out.size
      exact ⟨(keeps_below hb).trans ((KeepsOthers.setCell _ _ _).from _), ⟨⟨rfl, fun h => hz (HNOT.out.1 h)⟩, bR3.set _⟩, (HB1.out.trans hbb).setCell (p := ⟨w.heap.size, 0, none⟩) (Nat.le_refl _) _⟩
  case done =>
    rintro D zs W hD rfl ⟨⟨⟨bR1, v, bO1, hR1⟩, hok⟩, hB1⟩ hK
    have cR := bR1.cell
    have fR := bR1.frozen
    gi_wp2
    have hK' := (KeepsOthers.setCell W ⟨w.heap.size, 0, none⟩ (.bool true)).same D _ hK rfl
    refine ⟨by simp, .inl ⟨_, _, rfl, run_takeDeferred hK', ?_⟩⟩
    have hc5 := cell_kept (World.cell?_setCell_same' W ⟨w.heap.size, 0, none⟩ (.bool true) (by rw [cR]; rfl)) (grownBy_putObj' _ D (.deferred none)) (fun r e => by cases e; exact ⟨_, hK', rfl⟩)
    refine ⟨.bool true, ?_, by rw [(mayB_iff zs).2 hok], (hB1.setCell (p := ⟨w.heap.size, 0, none⟩) (Nat.le_refl _) _).trans (belowK_b (w := w) (Nat.le_refl _) _ D _ _ (by omega) hK' rfl rfl)⟩
    simp [results, Try.f50, go_sem, hc5]
  case stop =>
    rintro D c' pre W hD hpre ⟨⟨⟨rfl, hno⟩, bR1⟩, hB1⟩ hK
    have cR := bR1.cell
    gi_wp2
    refine ⟨by simp, .inl ⟨_, _, rfl, run_takeDeferred hK, ?_⟩⟩
    have hc5 := cell_kept cR (grownBy_putObj' _ D (.deferred none)) (fun r e => by cases e; exact ⟨_, hK, rfl⟩)
    have hf : mayB l = false := Bool.eq_false_iff.2 (fun h => hno (mayOk_take ((mayB_iff l).1 h) hpre))
    refine ⟨.bool false, ?_, by rw [hf], hB1.trans (belowK_b (w := w) (Nat.le_refl _) W D _ _ (by omega) hK rfl rfl)⟩
    simp [results, Try.f50, go_sem, hc5]
end Go.Proofs.Ytlpjchighfdomaa.Hm
