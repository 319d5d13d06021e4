/- Part Z5 of the lemmas and walks of the Go functions that these statements reach; conditions: those that each theorem names. -/
import Derived.Test.YtgjajalneknagaaJX2
import Derived.Test.YtgjajalneknagaaJZ3
section
/- Go code walked by what is known of slots and memory: rows whose elements hold rows: each element's cells, and what they lead to; conditions: those that each theorem names. -/
namespace Go.Proofs.Ytgjajalneknagaa.Sx
open Go.RowKit Go.Proofs.Ytgjajalneknagaa.Hm Go.Proofs.YtgjajalneknagaaW.PrintWords Go.Proofs.YtgjajalneknagaaW.PrintLast Go.Proofs.YtgjajalneknagaaW.PrintMore
set_option linter.unusedVariables false
set_option linter.unusedSimpArgs false

abbrev CellsN (n : Nat) := {l : List Value // l.length = n ∧ ∀ u ∈ l, u.oneCell' = true}
/-- Elements told by their cells. -/
def cellsK (n : Nat) : Kd (CellsN n) where
  sz := n
  E := []
  K := fun _ x cs => cs = x.1
  M := fun _ _ _ x cs => cs = x.1
  K_len := by rintro w x cs rfl; exact x.2.1
  K_one := by rintro w x cs rfl; exact x.2.2
  K_below := fun _ h => h
  K_of_M := fun h => h
  M_mono := fun _ h => h
  M_bound := fun h => h
  M_move := fun _ h => h
  M_lower := fun _ h => h
instance flatCells (n : Nat) : Flat (cellsK n) (fun x => x.1) := ⟨fun h => h, fun _ _ => rfl, fun _ _ _ _ => rfl⟩
/-- What the elements' cells lead to. -/
def fksR {α : Type} (D : Kd α) (xs : List α) (css : List (CellsN D.sz)) : Res where
  P := fun w S => ∀ (i : Nat) (e : α) (c : CellsN D.sz), xs[i]? = some e → css[i]? = some c → Kd.FK D w S e c.1
  mono := fun h hs i e c h1 h2 => Kd.FK_mono (h i e c h1 h2) hs
  loc := fun h _ hs i e c h1 h2 => Kd.FK_step (h i e c h1 h2) (fun k hk hlt => hs k hk hlt)
theorem flat_rows {α : Type} {D : Kd α} {w : World} {S : Nat → Prop} {A : Option Addr} {xs : List α} (hs : 0 < D.sz) (h : Kd.F D w S A xs.length xs) :
    ∃ css : List (CellsN D.sz), css.length = xs.length ∧ Kd.F (cellsK D.sz) w S A css.length css ∧ ∀ (i : Nat) (e : α) (c : CellsN D.sz), xs[i]? = some e → css[i]? = some c → Kd.FK D w S e c.1 := by
  by_cases hp : 0 < xs.length
  · have hC := Kd.F_now h
    obtain ⟨ad, rfl, -⟩ := hC.2.2 hp
    have hin := Kd.F_in h rfl hp hs
    have key : ∀ j : Fin xs.length, ∃ c : CellsN D.sz, Kd.FK D w S xs[j] c.1 ∧ ∀ i u, c.1[i]? = some u → w.cell? (ad.add (j * D.sz + i)) = some u := by
      intro j
      obtain ⟨ad', c, he, hcl, hK, hcc, -⟩ := Kd.F_get h xs[j] (j : Int) (by omega) (by omega)
      injection he with he
      subst he
      rw [Int.toNat_natCast] at hK hcc
      have hj : xs.getD j xs[j] = xs[j] := by rw [List.getD_eq_getElem?_getD, List.getElem?_eq_getElem j.2]; rfl
      rw [hj] at hK
      exact ⟨⟨c, hcl, D.K_one (Kd.FK_now hK)⟩, hK, hcc⟩
    have hlen : (List.ofFn fun j : Fin xs.length => Classical.choose (key j)).length = xs.length := List.length_ofFn
    refine ⟨List.ofFn fun j : Fin xs.length => Classical.choose (key j), hlen, fun W' hW => ?_, fun i e c h1 h2 => ?_⟩
    · refine ⟨rfl, by rw [hlen]; exact hC.2.1, fun _ => ⟨ad, rfl, fun j p hj => ⟨p.1, p.2.1, rfl, fun i u hu => ?_⟩⟩⟩
      have hjl : j < xs.length := by have := (List.getElem?_eq_some_iff.1 hj).1; rwa [hlen] at this
      rw [List.getElem?_ofFn, dif_pos hjl] at hj
      obtain rfl := Option.some.inj hj
      have h5 := (Classical.choose_spec (key ⟨j, hjl⟩)).2 i u hu
      have h6 := World.block_lt_of_cell? w _ h5
      rw [add_block] at h6
      have hb := hW ad.block hin h6
      have h7 : W'.cell? (ad.add (j * D.sz + i)) = w.cell? (ad.add (j * D.sz + i)) := by simp [World.cell?, add_block, hb]
      show W'.cell? (ad.add (j * D.sz + i)) = some u
      rw [h7]
      exact h5
    · have hil : i < xs.length := (List.getElem?_eq_some_iff.1 h1).1
      rw [List.getElem?_ofFn, dif_pos hil] at h2
      obtain rfl := Option.some.inj h2
      have h3 := (Classical.choose_spec (key ⟨i, hil⟩)).1
      have h4 : xs[i] = e := (List.getElem?_eq_some_iff.1 h1).2
      have h5 : xs[(⟨i, hil⟩ : Fin xs.length)] = e := h4
      rw [h5] at h3
      exact h3
  · obtain rfl : xs = [] := List.eq_nil_of_length_eq_zero (by omega)
    refine ⟨[], rfl, fun W' hW => ⟨rfl, Nat.zero_le _, fun h => absurd h (Nat.lt_irrefl 0)⟩, fun i e c h1 _ => by simp at h1⟩
section
variable {P : Program} {fn : Func} {K : Ending → List Thing → Prop} {N : Nat} {k : List It} {a : Fr} {M : List Thing} {α : Type} {D : Kd α} {xs : List α}
theorem Fn.flat {f : FuncId} {args : List Value} {A : Option Addr} (D : Kd α) (hs : 0 < D.sz) [hr : Has (roR D A xs) M] (h : ∀ css : List (CellsN D.sz), css.length = xs.length → Fn P f args (.per (roR (cellsK D.sz) A css) :: .per (fksR D xs css) :: M) K) (hc : ∀ w, (callFunc f args.toArray).run P w = .ok (.enter f args.toArray) w) : Fn P f args M K :=
  ⟨hc, fun w hw => by
    obtain ⟨I, hI, hL⟩ := hw
    obtain ⟨css, h1, h2, h3⟩ := flat_rows hs (hr.h _ _ _ hL)
    exact (h css h1).runs w ⟨I, hI, h2, h3, hL⟩⟩
theorem SX.flat {A : Option Addr} (D : Kd α) (hs : 0 < D.sz) [hr : Has (roR D A xs) M] (h : ∀ css : List (CellsN D.sz), css.length = xs.length → SX P fn K N k a (.per (roR (cellsK D.sz) A css) :: .per (fksR D xs css) :: M)) : SX P fn K N k a M := fun act w s => by
  obtain ⟨I, hI, hL⟩ := s.holds
  obtain ⟨css, h1, h2, h3⟩ := flat_rows hs (hr.h _ _ _ hL)
  exact h css h1 act w (s.keep ⟨I, hI, h2, h3, hL⟩)
theorem SX.fk {ι : Type} {css : List (CellsN D.sz)} {i : Nat} {e : α} {c : CellsN D.sz} (vals : ι → List Value) (L : ι → List Res) [hr : Has (fksR D xs css) M] (h1 : xs[i]? = some e) (h2 : css[i]? = some c)
    (himp : ∀ w S, Kd.FK D w S e c.1 → ∃ x, c.1 = vals x ∧ ∀ r ∈ L x, r.P w S) (h : ∀ x, c.1 = vals x → SX P fn K N k a ((L x).map Thing.per ++ M)) : SX P fn K N k a M := fun act w s => by
  obtain ⟨I, hI, hL⟩ := s.holds
  obtain ⟨x, h3, h4⟩ := himp w I (hr.h _ _ _ hL i e c h1 h2)
  have key : ∀ l : List Res, (∀ r ∈ l, r.P w I) → HoldsU w I (l.map Thing.per ++ M) (fun k => k < w.heap.size ∧ ¬ I k) := by
    intro l
    induction l with
    | nil => intro _; exact hL
    | cons r l ih => intro hl; exact ⟨hl r List.mem_cons_self, ih (fun q hq => hl q (List.mem_cons_of_mem _ hq))⟩
  exact h x h3 act w (s.keep ⟨I, hI, key _ h4⟩)
end
/-- What is so of no memory. -/
def pureR (p : Prop) : Res where
  P := fun _ _ => p
  mono := fun h _ => h
  loc := fun h _ _ => h
theorem SX.pure {P : Program} {fn : Func} {K : Ending → List Thing → Prop} {N : Nat} {k : List It} {a : Fr} {M : List Thing} (p : Prop) [hr : Has (pureR p) M] (h : p → SX P fn K N k a M) : SX P fn K N k a M := fun act w s => by
  obtain ⟨I, hI, hL⟩ := s.holds
  exact h (hr.h _ _ _ hL) act w s
/-! ### what an element's cells lead to, part by part -/
section
variable {α β : Type} {w : World} {S : Nat → Prop} {cs : List Value}
theorem fk_pair {a : Kd α} {b : Kd β} {x : α × β} (h : Kd.FK (Kd.pair a b) w S x cs) : ∃ c0 c1, cs = c0 ++ c1 ∧ Kd.FK a w S x.1 c0 ∧ Kd.FK b w S x.2 c1 := by
  obtain ⟨c0, c1, rfl, h0, h1⟩ := Kd.FK_now h
  have hl := a.K_len h0
  refine ⟨c0, c1, rfl, fun W' hW => ?_, fun W' hW => ?_⟩
  · obtain ⟨d0, d1, he, g0, g1⟩ := h W' hW
    obtain ⟨rfl, rfl⟩ := List.append_inj he (by rw [hl, a.K_len g0])
    exact g0
  · obtain ⟨d0, d1, he, g0, g1⟩ := h W' hW
    obtain ⟨rfl, rfl⟩ := List.append_inj he (by rw [hl, a.K_len g0])
    exact g1
theorem fk_flat {D : Kd α} {enc : α → List Value} [hf : Flat D enc] {x : α} (h : Kd.FK D w S x cs) : cs = enc x := hf.out (Kd.FK_now h)
theorem fk_row {D : Kd α} {e : Nat} {l : List α} (h : Kd.FK (Kd.slice e D) w S l cs) : ∃ A c, cs = [.slice A l.length c] ∧ l.length ≤ c ∧ (roR D A l).P w S := Kd.FK_slice_open h
end
end Go.Proofs.Ytgjajalneknagaa.Sx
end
section
/- Chapter 21's reference, walked, and a client that isn't there; conditions: those that each theorem names. -/
namespace Go.Proofs.Ytgjajalneknagaa.Sx
open Go.RowKit Go.Proofs.Ytgjajalneknagaa.Hm Go.Proofs.YtgjajalneknagaaW.PrintWords Go.Proofs.YtgjajalneknagaaW.PrintLast Go.Proofs.YtgjajalneknagaaW.PrintMore
set_option linter.unusedVariables false
set_option linter.unusedSimpArgs false
attribute [local irreducible] SX SXL SXA St callK Post Evals

/-- A client as the reference has it. -/
abbrev rclC (s : Cl) : List Value := [.int .u32 s.id, .int .i64 s.pl, .int .u32 s.last, .bool s.op,
  .int .u32 s.c.client, .int .u32 s.c.xid, .int .u32 s.c.op, .int .u32 s.c.ai, .int .u32 s.c.ag, .string s.c.name, .int .u32 s.c.ti, .int .u32 s.c.tg, .string s.c.toName, .int .u64 s.c.off, .int .u64 s.c.verf, .int .u32 s.c.cnt, .int .u32 s.c.mode, .string (strOfNums s.c.d),
  .int .i64 s.pa, .int .i64 s.le]
def fitsR (s : Cl) (m : Msg) : Bool := s.op && (decide (m.k = 2) && (decide (m.r.client = s.id) && decide (m.r.xid = s.c.xid)))
section
variable {F R : List Thing} {K : Ending → List Thing → Prop} {A B C D A1 A2 A3 A4 : Option Addr} {b d c a1 a2 a3 a4 : Nat} {s : Cl} {x : Ca} {m : Msg}
theorem RNew21_S {id pl : Int} (h1 : clOk id pl = false → K (.returned (.tuple #[.agg (rclC (clN 0 0)).toArray, .int .i64 1])) F)
    (h2 : clOk id pl = true → K (.returned (.tuple #[.agg (rclC (clN id pl)).toArray, .int .i64 0])) F) :
    Fn (Try.prog) 10 [.int .u32 id, .int .i64 pl] F K := by
  refine Fn.enter Try.call10 Try.func10 rfl rfl rfl ?_
  repeat (first | refine Qa ?_ | refine Qb ?_ | refine Qc ?_ | refine Qd ?_ | refine Qe ?_ | refine Qf ?_ | refine Qg ?_ | refine Qh ?_ | refine Qi ?_ | refine Qj ?_ | refine Qk ?_ | refine Ql ?_ | refine Qm ?_ | refine Qn ?_ | refine Qo ?_ | refine Qp ?_ | refine Qq ?_ | fail)
  refine SXL.alloc rfl rfl (fun z => ?_)
  repeat (first | refine Qa ?_ | refine Qb ?_ | refine Qc ?_ | refine Qd ?_ | refine Qe ?_ | refine Qf ?_ | refine Qg ?_ | refine Qh ?_ | refine Qi ?_ | refine Qj ?_ | refine Qk ?_ | refine Ql ?_ | refine Qm ?_ | refine Qn ?_ | refine Qo ?_ | refine Qp ?_ | refine Qq ?_ | fail)
  refine SXL.split (s := 8) rfl (fun e1 => ?_) (fun e1 => ?_)
  · repeat (first | refine Qa ?_ | refine Qb ?_ | refine Qc ?_ | refine Qd ?_ | refine Qe ?_ | refine Qf ?_ | refine Qg ?_ | refine Qh ?_ | refine Qi ?_ | refine Qj ?_ | refine Qk ?_ | refine Ql ?_ | refine Qm ?_ | refine Qn ?_ | refine Qo ?_ | refine Qp ?_ | refine Qq ?_ | fail)
    refine SX.ret (M' := F) rfl (Evals.cell rfl inferInstance rfl (Evals.tmp rfl Evals.nil)) ?_ inferInstance
    exact h1 (by unfold clOk; simp only [decide_eq_true_eq] at e1; rw [decide_eq_false (by omega)]; rfl)
  repeat (first | refine Qa ?_ | refine Qb ?_ | refine Qc ?_ | refine Qd ?_ | refine Qe ?_ | refine Qf ?_ | refine Qg ?_ | refine Qh ?_ | refine Qi ?_ | refine Qj ?_ | refine Qk ?_ | refine Ql ?_ | refine Qm ?_ | refine Qn ?_ | refine Qo ?_ | refine Qp ?_ | refine Qq ?_ | fail)
  refine SXL.split (s := 12) rfl (fun e2 => ?_) (fun e2 => ?_)
  · repeat (first | refine Qa ?_ | refine Qb ?_ | refine Qc ?_ | refine Qd ?_ | refine Qe ?_ | refine Qf ?_ | refine Qg ?_ | refine Qh ?_ | refine Qi ?_ | refine Qj ?_ | refine Qk ?_ | refine Ql ?_ | refine Qm ?_ | refine Qn ?_ | refine Qo ?_ | refine Qp ?_ | refine Qq ?_ | fail)
    refine SX.ret (M' := F) rfl (Evals.cell rfl inferInstance rfl (Evals.tmp rfl Evals.nil)) ?_ inferInstance
    exact h1 (by unfold clOk; simp only [decide_eq_true_eq] at e2; rw [decide_eq_false (by omega : ¬ 0 ≤ pl), Bool.false_and, Bool.and_false])
  repeat (first | refine Qa ?_ | refine Qb ?_ | refine Qc ?_ | refine Qd ?_ | refine Qe ?_ | refine Qf ?_ | refine Qg ?_ | refine Qh ?_ | refine Qi ?_ | refine Qj ?_ | refine Qk ?_ | refine Ql ?_ | refine Qm ?_ | refine Qn ?_ | refine Qo ?_ | refine Qp ?_ | refine Qq ?_ | fail)
  refine SX.cond rfl (fun e3 => ?_) (fun e3 => ?_)
  · repeat (first | refine Qa ?_ | refine Qb ?_ | refine Qc ?_ | refine Qd ?_ | refine Qe ?_ | refine Qf ?_ | refine Qg ?_ | refine Qh ?_ | refine Qi ?_ | refine Qj ?_ | refine Qk ?_ | refine Ql ?_ | refine Qm ?_ | refine Qn ?_ | refine Qo ?_ | refine Qp ?_ | refine Qq ?_ | fail)
    refine SX.ret (M' := F) rfl (Evals.cell rfl inferInstance rfl (Evals.tmp rfl Evals.nil)) ?_ inferInstance
    exact h1 (by unfold clOk; simp only [decide_eq_true_eq] at e3; rw [decide_eq_false (by omega : ¬ pl ≤ 15), Bool.and_false, Bool.and_false])
  repeat (first | refine Qa ?_ | refine Qb ?_ | refine Qc ?_ | refine Qd ?_ | refine Qe ?_ | refine Qf ?_ | refine Qg ?_ | refine Qh ?_ | refine Qi ?_ | refine Qj ?_ | refine Qk ?_ | refine Ql ?_ | refine Qm ?_ | refine Qn ?_ | refine Qo ?_ | refine Qp ?_ | refine Qq ?_ | fail)
  refine SX.ret (M' := F) rfl (Evals.cell rfl inferInstance rfl (Evals.tmp rfl Evals.nil)) ?_ inferInstance
  refine h2 ?_
  unfold clOk
  simp only [decide_eq_false_iff_not] at e1 e2 e3
  rw [decide_eq_true (by omega), decide_eq_true (by omega), decide_eq_true (by omega)]
  rfl
theorem RBegin21_S (hi : u32ok s.id) (hx : x.wf)
    (h1 : s.op = true → K (.returned (.tuple #[.agg (rclC s).toArray, .int .u32 0, .int .i64 22])) F)
    (h2 : s.op = false → ∀ r n, putMs ⟨1, asked s x, Re0, Ctl0⟩ = (r, n) → n ≠ 0 → K (.returned (.tuple #[.agg (rclC s).toArray, .int .u32 0, .int .i64 n])) F)
    (h3 : s.op = false → ∀ r, putMs ⟨1, asked s x, Re0, Ctl0⟩ = (r, 0) → K (.returned (.tuple #[.agg (rclC (begunC s x)).toArray, .int .u32 ((s.last + 1) % 4294967296), .int .i64 0])) F) :
    Fn (Try.prog) 12 [.agg (rclC s).toArray, .agg (raC x).toArray] F K := by
  have hwr : IntKind.u32.wrap (s.last + 1) = (s.last + 1) % 4294967296 := rfl
  unfold raC
  refine Fn.enter Try.call12 Try.func12 rfl rfl rfl ?_
  repeat (first | refine Qa ?_ | refine Qb ?_ | refine Qc ?_ | refine Qd ?_ | refine Qe ?_ | refine Qf ?_ | refine Qg ?_ | refine Qh ?_ | refine Qi ?_ | refine Qj ?_ | refine Qk ?_ | refine Ql ?_ | refine Qm ?_ | refine Qn ?_ | refine Qo ?_ | refine Qp ?_ | refine Qq ?_ | fail)
  refine SXL.box rfl rfl rfl (fun p => ?_)
  repeat (first | refine Qa ?_ | refine Qb ?_ | refine Qc ?_ | refine Qd ?_ | refine Qe ?_ | refine Qf ?_ | refine Qg ?_ | refine Qh ?_ | refine Qi ?_ | refine Qj ?_ | refine Qk ?_ | refine Ql ?_ | refine Qm ?_ | refine Qn ?_ | refine Qo ?_ | refine Qp ?_ | refine Qq ?_ | fail)
  refine SXL.box rfl rfl rfl (fun q => ?_)
  repeat (first | refine Qa ?_ | refine Qb ?_ | refine Qc ?_ | refine Qd ?_ | refine Qe ?_ | refine Qf ?_ | refine Qg ?_ | refine Qh ?_ | refine Qi ?_ | refine Qj ?_ | refine Qk ?_ | refine Ql ?_ | refine Qm ?_ | refine Qn ?_ | refine Qo ?_ | refine Qp ?_ | refine Qq ?_ | fail)
  refine SXL.alloc rfl rfl (fun z => ?_)
  repeat (first | refine Qa ?_ | refine Qb ?_ | refine Qc ?_ | refine Qd ?_ | refine Qe ?_ | refine Qf ?_ | refine Qg ?_ | refine Qh ?_ | refine Qi ?_ | refine Qj ?_ | refine Qk ?_ | refine Ql ?_ | refine Qm ?_ | refine Qn ?_ | refine Qo ?_ | refine Qp ?_ | refine Qq ?_ | fail)
  refine SX.cond rfl (fun hs => ?_) (fun hs => ?_)
  · repeat (first | refine Qa ?_ | refine Qb ?_ | refine Qc ?_ | refine Qd ?_ | refine Qe ?_ | refine Qf ?_ | refine Qg ?_ | refine Qh ?_ | refine Qi ?_ | refine Qj ?_ | refine Qk ?_ | refine Ql ?_ | refine Qm ?_ | refine Qn ?_ | refine Qo ?_ | refine Qp ?_ | refine Qq ?_ | fail)
    refine SX.ret (M' := F) rfl (Evals.cell rfl inferInstance rfl (Evals.tmp rfl (Evals.tmp rfl Evals.nil))) ?_ inferInstance
    exact h1 (by simpa using hs)
  have hs : s.op = false := by simpa using hs
  repeat (first | refine Qa ?_ | refine Qb ?_ | refine Qc ?_ | refine Qd ?_ | refine Qe ?_ | refine Qf ?_ | refine Qg ?_ | refine Qh ?_ | refine Qi ?_ | refine Qj ?_ | refine Qk ?_ | refine Ql ?_ | refine Qm ?_ | refine Qn ?_ | refine Qo ?_ | refine Qp ?_ | refine Qq ?_ | fail)
  rw [hwr]
  refine SXL.call rfl rfl rfl ?_
  refine (RPut16_S (m := ⟨1, asked s x, Re0, Ctl0⟩) (B := none) (c2 := 0) inferInstance (Nat.le_refl _) ⟨⟨by show (0 : Int) ≤ 1; omega, by show (1 : Int) < 4294967296; omega⟩, asked_wf hi hx, Re0_wf, Ctl0_wf⟩ (fun r n hm => callK.ret ?_))
  repeat (first | refine Qa ?_ | refine Qb ?_ | refine Qc ?_ | refine Qd ?_ | refine Qe ?_ | refine Qf ?_ | refine Qg ?_ | refine Qh ?_ | refine Qi ?_ | refine Qj ?_ | refine Qk ?_ | refine Ql ?_ | refine Qm ?_ | refine Qn ?_ | refine Qo ?_ | refine Qp ?_ | refine Qq ?_ | fail)
  refine SX.cond rfl (fun hn => ?_) (fun hn => ?_)
  · repeat (first | refine Qa ?_ | refine Qb ?_ | refine Qc ?_ | refine Qd ?_ | refine Qe ?_ | refine Qf ?_ | refine Qg ?_ | refine Qh ?_ | refine Qi ?_ | refine Qj ?_ | refine Qk ?_ | refine Ql ?_ | refine Qm ?_ | refine Qn ?_ | refine Qo ?_ | refine Qp ?_ | refine Qq ?_ | fail)
    refine SX.ret (M' := F) rfl (Evals.cell rfl inferInstance rfl (Evals.tmp rfl (Evals.tmp rfl Evals.nil))) ?_ inferInstance
    exact h2 hs r n hm (by simpa using hn)
  obtain rfl : n = 0 := by simpa using hn
  repeat (first | refine Qa ?_ | refine Qb ?_ | refine Qc ?_ | refine Qd ?_ | refine Qe ?_ | refine Qf ?_ | refine Qg ?_ | refine Qh ?_ | refine Qi ?_ | refine Qj ?_ | refine Qk ?_ | refine Ql ?_ | refine Qm ?_ | refine Qn ?_ | refine Qo ?_ | refine Qp ?_ | refine Qq ?_ | fail)
  refine SXA.begin (.own (some ⟨p, 0, none⟩) (cellsR p (rclC (begunC s x)) 35) :: .own (some ⟨q, 0, none⟩) (cellsR q (raC (asked s x)) 33) :: F) [] ?_
  unfold raC
  (first | refine Qr 0 ?_ | refine Qs 0 ?_ | refine Qt 0 ?_ | refine Qu 0 ?_ | fail)
  (first | refine Qr 1 ?_ | refine Qs 1 ?_ | refine Qt 1 ?_ | refine Qu 1 ?_ | fail)
  (first | refine Qr 2 ?_ | refine Qs 2 ?_ | refine Qt 2 ?_ | refine Qu 2 ?_ | fail)
  (first | refine Qr 3 ?_ | refine Qs 3 ?_ | refine Qt 3 ?_ | refine Qu 3 ?_ | fail)
  (first | refine Qr 4 ?_ | refine Qs 4 ?_ | refine Qt 4 ?_ | refine Qu 4 ?_ | fail)
  (first | refine Qr 5 ?_ | refine Qs 5 ?_ | refine Qt 5 ?_ | refine Qu 5 ?_ | fail)
  refine Qv ?_
  refine SX.ret (M' := F) rfl (Evals.cell rfl inferInstance rfl (Evals.tmp rfl (Evals.tmp rfl Evals.nil))) ?_ inferInstance
  exact h3 hs r hm
theorem RHandle21_S (hf : u32ok m.r.free)
    (h1 : fitsR s m = false → K (.returned (.tuple #[.agg (rclC s).toArray, .bool false, .bool false])) F)
    (h2 : fitsR s m = true → m.r.st ≠ 71 → K (.returned (.tuple #[.agg (rclC (shut s)).toArray, .bool true, .bool false])) F)
    (h3 : fitsR s m = true → m.r.st = 71 → 16 ≤ m.r.free → K (.returned (.tuple #[.agg (rclC s).toArray, .bool false, .bool false])) F)
    (h4 : fitsR s m = true → m.r.st = 71 → m.r.free < 16 → K (.returned (.tuple #[.agg (rclC (moved s m.r.free)).toArray, .bool false, .bool true])) F) :
    Fn (Try.prog) 16 [.agg (rclC s).toArray, .agg (mrC m B b).toArray] F K := by
  have hwf : IntKind.i64.wrap m.r.free = m.r.free := IntWalk.i64_in _ (by have := hf.1; have := hf.2; omega)
  unfold mrC
  refine Fn.enter Try.call16 Try.func16 rfl rfl rfl ?_
  repeat (first | refine Qa ?_ | refine Qb ?_ | refine Qc ?_ | refine Qd ?_ | refine Qe ?_ | refine Qf ?_ | refine Qg ?_ | refine Qh ?_ | refine Qi ?_ | refine Qj ?_ | refine Qk ?_ | refine Ql ?_ | refine Qm ?_ | refine Qn ?_ | refine Qo ?_ | refine Qp ?_ | refine Qq ?_ | fail)
  refine SXL.box rfl rfl rfl (fun p => ?_)
  repeat (first | refine Qa ?_ | refine Qb ?_ | refine Qc ?_ | refine Qd ?_ | refine Qe ?_ | refine Qf ?_ | refine Qg ?_ | refine Qh ?_ | refine Qi ?_ | refine Qj ?_ | refine Qk ?_ | refine Ql ?_ | refine Qm ?_ | refine Qn ?_ | refine Qo ?_ | refine Qp ?_ | refine Qq ?_ | fail)
  refine SXL.box rfl rfl rfl (fun q => ?_)
  repeat (first | refine Qa ?_ | refine Qb ?_ | refine Qc ?_ | refine Qd ?_ | refine Qe ?_ | refine Qf ?_ | refine Qg ?_ | refine Qh ?_ | refine Qi ?_ | refine Qj ?_ | refine Qk ?_ | refine Ql ?_ | refine Qm ?_ | refine Qn ?_ | refine Qo ?_ | refine Qp ?_ | refine Qq ?_ | fail)
  refine SXL.alloc rfl rfl (fun z => ?_)
  repeat (first | refine Qa ?_ | refine Qb ?_ | refine Qc ?_ | refine Qd ?_ | refine Qe ?_ | refine Qf ?_ | refine Qg ?_ | refine Qh ?_ | refine Qi ?_ | refine Qj ?_ | refine Qk ?_ | refine Ql ?_ | refine Qm ?_ | refine Qn ?_ | refine Qo ?_ | refine Qp ?_ | refine Qq ?_ | fail)
  refine SXL.split (s := 10) rfl (fun e1 => ?_) (fun e1 => ?_)
  · repeat (first | refine Qa ?_ | refine Qb ?_ | refine Qc ?_ | refine Qd ?_ | refine Qe ?_ | refine Qf ?_ | refine Qg ?_ | refine Qh ?_ | refine Qi ?_ | refine Qj ?_ | refine Qk ?_ | refine Ql ?_ | refine Qm ?_ | refine Qn ?_ | refine Qo ?_ | refine Qp ?_ | refine Qq ?_ | fail)
    refine SX.ret (M' := F) rfl (Evals.cell rfl inferInstance rfl (Evals.tmp rfl (Evals.tmp rfl Evals.nil))) ?_ inferInstance
    refine h1 ?_
    unfold fitsR
    simp only [Bool.not_eq_true'] at e1
    simp [e1]
  repeat (first | refine Qa ?_ | refine Qb ?_ | refine Qc ?_ | refine Qd ?_ | refine Qe ?_ | refine Qf ?_ | refine Qg ?_ | refine Qh ?_ | refine Qi ?_ | refine Qj ?_ | refine Qk ?_ | refine Ql ?_ | refine Qm ?_ | refine Qn ?_ | refine Qo ?_ | refine Qp ?_ | refine Qq ?_ | fail)
  refine SXL.split (s := 15) rfl (fun e2 => ?_) (fun e2 => ?_)
  · repeat (first | refine Qa ?_ | refine Qb ?_ | refine Qc ?_ | refine Qd ?_ | refine Qe ?_ | refine Qf ?_ | refine Qg ?_ | refine Qh ?_ | refine Qi ?_ | refine Qj ?_ | refine Qk ?_ | refine Ql ?_ | refine Qm ?_ | refine Qn ?_ | refine Qo ?_ | refine Qp ?_ | refine Qq ?_ | fail)
    refine SX.ret (M' := F) rfl (Evals.cell rfl inferInstance rfl (Evals.tmp rfl (Evals.tmp rfl Evals.nil))) ?_ inferInstance
    refine h1 ?_
    unfold fitsR
    simp only [bne_iff_ne, ne_eq] at e2
    simp [e2]
  repeat (first | refine Qa ?_ | refine Qb ?_ | refine Qc ?_ | refine Qd ?_ | refine Qe ?_ | refine Qf ?_ | refine Qg ?_ | refine Qh ?_ | refine Qi ?_ | refine Qj ?_ | refine Qk ?_ | refine Ql ?_ | refine Qm ?_ | refine Qn ?_ | refine Qo ?_ | refine Qp ?_ | refine Qq ?_ | fail)
  refine SXL.split (s := 23) rfl (fun e3 => ?_) (fun e3 => ?_)
  · repeat (first | refine Qa ?_ | refine Qb ?_ | refine Qc ?_ | refine Qd ?_ | refine Qe ?_ | refine Qf ?_ | refine Qg ?_ | refine Qh ?_ | refine Qi ?_ | refine Qj ?_ | refine Qk ?_ | refine Ql ?_ | refine Qm ?_ | refine Qn ?_ | refine Qo ?_ | refine Qp ?_ | refine Qq ?_ | fail)
    refine SX.ret (M' := F) rfl (Evals.cell rfl inferInstance rfl (Evals.tmp rfl (Evals.tmp rfl Evals.nil))) ?_ inferInstance
    refine h1 ?_
    unfold fitsR
    simp only [bne_iff_ne, ne_eq] at e3
    simp [e3]
  repeat (first | refine Qa ?_ | refine Qb ?_ | refine Qc ?_ | refine Qd ?_ | refine Qe ?_ | refine Qf ?_ | refine Qg ?_ | refine Qh ?_ | refine Qi ?_ | refine Qj ?_ | refine Qk ?_ | refine Ql ?_ | refine Qm ?_ | refine Qn ?_ | refine Qo ?_ | refine Qp ?_ | refine Qq ?_ | fail)
  refine SX.cond rfl (fun e4 => ?_) (fun e4 => ?_)
  · repeat (first | refine Qa ?_ | refine Qb ?_ | refine Qc ?_ | refine Qd ?_ | refine Qe ?_ | refine Qf ?_ | refine Qg ?_ | refine Qh ?_ | refine Qi ?_ | refine Qj ?_ | refine Qk ?_ | refine Ql ?_ | refine Qm ?_ | refine Qn ?_ | refine Qo ?_ | refine Qp ?_ | refine Qq ?_ | fail)
    refine SX.ret (M' := F) rfl (Evals.cell rfl inferInstance rfl (Evals.tmp rfl (Evals.tmp rfl Evals.nil))) ?_ inferInstance
    refine h1 ?_
    unfold fitsR
    simp only [bne_iff_ne, ne_eq] at e4
    simp [e4]
  have hfit : fitsR s m = true := by
    unfold fitsR
    simp only [Bool.not_eq_false', bne_eq_false_iff_eq] at e1 e2 e3 e4
    simp [e1, e2, e3, e4]
  repeat (first | refine Qa ?_ | refine Qb ?_ | refine Qc ?_ | refine Qd ?_ | refine Qe ?_ | refine Qf ?_ | refine Qg ?_ | refine Qh ?_ | refine Qi ?_ | refine Qj ?_ | refine Qk ?_ | refine Ql ?_ | refine Qm ?_ | refine Qn ?_ | refine Qo ?_ | refine Qp ?_ | refine Qq ?_ | fail)
  refine SX.cond rfl (fun e5 => ?_) (fun e5 => ?_)
  · repeat (first | refine Qa ?_ | refine Qb ?_ | refine Qc ?_ | refine Qd ?_ | refine Qe ?_ | refine Qf ?_ | refine Qg ?_ | refine Qh ?_ | refine Qi ?_ | refine Qj ?_ | refine Qk ?_ | refine Ql ?_ | refine Qm ?_ | refine Qn ?_ | refine Qo ?_ | refine Qp ?_ | refine Qq ?_ | fail)
    refine SX.ret (M' := F) rfl (Evals.cell rfl inferInstance rfl (Evals.tmp rfl (Evals.tmp rfl Evals.nil))) ?_ inferInstance
    exact h2 hfit (by simpa using e5)
  have hst : m.r.st = 71 := by simpa using e5
  repeat (first | refine Qa ?_ | refine Qb ?_ | refine Qc ?_ | refine Qd ?_ | refine Qe ?_ | refine Qf ?_ | refine Qg ?_ | refine Qh ?_ | refine Qi ?_ | refine Qj ?_ | refine Qk ?_ | refine Ql ?_ | refine Qm ?_ | refine Qn ?_ | refine Qo ?_ | refine Qp ?_ | refine Qq ?_ | fail)
  refine SX.condp rfl (fun e6 => ?_) (fun e6 => ?_)
  · repeat (first | refine Qa ?_ | refine Qb ?_ | refine Qc ?_ | refine Qd ?_ | refine Qe ?_ | refine Qf ?_ | refine Qg ?_ | refine Qh ?_ | refine Qi ?_ | refine Qj ?_ | refine Qk ?_ | refine Ql ?_ | refine Qm ?_ | refine Qn ?_ | refine Qo ?_ | refine Qp ?_ | refine Qq ?_ | fail)
    refine SX.ret (M' := F) rfl (Evals.cell rfl inferInstance rfl (Evals.tmp rfl (Evals.tmp rfl Evals.nil))) ?_ inferInstance
    exact h3 hfit hst (by omega)
  repeat (first | refine Qa ?_ | refine Qb ?_ | refine Qc ?_ | refine Qd ?_ | refine Qe ?_ | refine Qf ?_ | refine Qg ?_ | refine Qh ?_ | refine Qi ?_ | refine Qj ?_ | refine Qk ?_ | refine Ql ?_ | refine Qm ?_ | refine Qn ?_ | refine Qo ?_ | refine Qp ?_ | refine Qq ?_ | fail)
  rw [hwf]
  refine SX.ret (M' := F) rfl (Evals.cell rfl inferInstance rfl (Evals.tmp rfl (Evals.tmp rfl Evals.nil))) ?_ inferInstance
  exact h4 hfit hst (by omega)
theorem RTick21_S (hw : s.op = true → (1 ≤ s.pa ∧ s.pa ≤ 8) ∧ (1 ≤ s.le ∧ s.le ≤ 8))
    (h1 : s.op = false → K (.returned (.tuple #[.agg (rclC s).toArray, .bool false])) F)
    (h2 : s.op = true → 1 < s.le → K (.returned (.tuple #[.agg (rclC (waits s)).toArray, .bool false])) F)
    (h3 : s.op = true → s.le ≤ 1 → K (.returned (.tuple #[.agg (rclC (again s)).toArray, .bool true])) F) :
    Fn (Try.prog) 21 [.agg (rclC s).toArray] F K := by
  refine Fn.enter Try.call21 Try.func21 rfl rfl rfl ?_
  repeat (first | refine Qa ?_ | refine Qb ?_ | refine Qc ?_ | refine Qd ?_ | refine Qe ?_ | refine Qf ?_ | refine Qg ?_ | refine Qh ?_ | refine Qi ?_ | refine Qj ?_ | refine Qk ?_ | refine Ql ?_ | refine Qm ?_ | refine Qn ?_ | refine Qo ?_ | refine Qp ?_ | refine Qq ?_ | fail)
  refine SXL.box rfl rfl rfl (fun p => ?_)
  repeat (first | refine Qa ?_ | refine Qb ?_ | refine Qc ?_ | refine Qd ?_ | refine Qe ?_ | refine Qf ?_ | refine Qg ?_ | refine Qh ?_ | refine Qi ?_ | refine Qj ?_ | refine Qk ?_ | refine Ql ?_ | refine Qm ?_ | refine Qn ?_ | refine Qo ?_ | refine Qp ?_ | refine Qq ?_ | fail)
  refine SXL.alloc rfl rfl (fun z => ?_)
  repeat (first | refine Qa ?_ | refine Qb ?_ | refine Qc ?_ | refine Qd ?_ | refine Qe ?_ | refine Qf ?_ | refine Qg ?_ | refine Qh ?_ | refine Qi ?_ | refine Qj ?_ | refine Qk ?_ | refine Ql ?_ | refine Qm ?_ | refine Qn ?_ | refine Qo ?_ | refine Qp ?_ | refine Qq ?_ | fail)
  refine SX.cond rfl (fun e1 => ?_) (fun e1 => ?_)
  · repeat (first | refine Qa ?_ | refine Qb ?_ | refine Qc ?_ | refine Qd ?_ | refine Qe ?_ | refine Qf ?_ | refine Qg ?_ | refine Qh ?_ | refine Qi ?_ | refine Qj ?_ | refine Qk ?_ | refine Ql ?_ | refine Qm ?_ | refine Qn ?_ | refine Qo ?_ | refine Qp ?_ | refine Qq ?_ | fail)
    refine SX.ret (M' := F) rfl (Evals.cell rfl inferInstance rfl (Evals.tmp rfl Evals.nil)) ?_ inferInstance
    exact h1 (by simpa using e1)
  have ho : s.op = true := by simpa using e1
  obtain ⟨hp, hl⟩ := hw ho
  have hw1 : IntKind.i64.wrap (s.le - 1) = s.le - 1 := IntWalk.i64_in _ (by omega)
  have hw2 : IntKind.i64.wrap (2 * s.pa) = 2 * s.pa := IntWalk.i64_in _ (by omega)
  repeat (first | refine Qa ?_ | refine Qb ?_ | refine Qc ?_ | refine Qd ?_ | refine Qe ?_ | refine Qf ?_ | refine Qg ?_ | refine Qh ?_ | refine Qi ?_ | refine Qj ?_ | refine Qk ?_ | refine Ql ?_ | refine Qm ?_ | refine Qn ?_ | refine Qo ?_ | refine Qp ?_ | refine Qq ?_ | fail)
  rw [hw1]
  refine SX.condp rfl (fun e2 => ?_) (fun e2 => ?_)
  · repeat (first | refine Qa ?_ | refine Qb ?_ | refine Qc ?_ | refine Qd ?_ | refine Qe ?_ | refine Qf ?_ | refine Qg ?_ | refine Qh ?_ | refine Qi ?_ | refine Qj ?_ | refine Qk ?_ | refine Ql ?_ | refine Qm ?_ | refine Qn ?_ | refine Qo ?_ | refine Qp ?_ | refine Qq ?_ | fail)
    refine SX.ret (M' := F) rfl (Evals.cell rfl inferInstance rfl (Evals.tmp rfl Evals.nil)) ?_ inferInstance
    exact h2 ho (by omega)
  repeat (first | refine Qa ?_ | refine Qb ?_ | refine Qc ?_ | refine Qd ?_ | refine Qe ?_ | refine Qf ?_ | refine Qg ?_ | refine Qh ?_ | refine Qi ?_ | refine Qj ?_ | refine Qk ?_ | refine Ql ?_ | refine Qm ?_ | refine Qn ?_ | refine Qo ?_ | refine Qp ?_ | refine Qq ?_ | fail)
  rw [hw2]
  refine SX.condp rfl (fun e3 => ?_) (fun e3 => ?_)
  · have hm : more8 s.pa = 8 := by unfold more8; rw [if_neg (by omega)]
    repeat (first | refine Qa ?_ | refine Qb ?_ | refine Qc ?_ | refine Qd ?_ | refine Qe ?_ | refine Qf ?_ | refine Qg ?_ | refine Qh ?_ | refine Qi ?_ | refine Qj ?_ | refine Qk ?_ | refine Ql ?_ | refine Qm ?_ | refine Qn ?_ | refine Qo ?_ | refine Qp ?_ | refine Qq ?_ | fail)
    refine SX.ret (M' := F) rfl (Evals.cell rfl inferInstance rfl (Evals.tmp rfl Evals.nil)) ?_ inferInstance
    have h9 := h3 ho (by omega)
    simp only [again, hm] at h9
    exact h9
  · have hm : more8 s.pa = 2 * s.pa := by unfold more8; rw [if_pos (by omega)]
    repeat (first | refine Qa ?_ | refine Qb ?_ | refine Qc ?_ | refine Qd ?_ | refine Qe ?_ | refine Qf ?_ | refine Qg ?_ | refine Qh ?_ | refine Qi ?_ | refine Qj ?_ | refine Qk ?_ | refine Ql ?_ | refine Qm ?_ | refine Qn ?_ | refine Qo ?_ | refine Qp ?_ | refine Qq ?_ | fail)
    refine SX.ret (M' := F) rfl (Evals.cell rfl inferInstance rfl (Evals.tmp rfl Evals.nil)) ?_ inferInstance
    have h9 := h3 ho (by omega)
    simp only [again, hm] at h9
    exact h9
/-! ### what is sent -/
theorem asksNo21_S (h : K (.returned (.bool true)) F) : Fn (Try.prog) 14 [.slice none 0 0, .agg (rclC s).toArray, .bool false] F K := by
  refine Fn.enter Try.call14 Try.func14 rfl rfl rfl ?_
  repeat (first | refine Qa ?_ | refine Qb ?_ | refine Qc ?_ | refine Qd ?_ | refine Qe ?_ | refine Qf ?_ | refine Qg ?_ | refine Qh ?_ | refine Qi ?_ | refine Qj ?_ | refine Qk ?_ | refine Ql ?_ | refine Qm ?_ | refine Qn ?_ | refine Qo ?_ | refine Qp ?_ | refine Qq ?_ | fail)
  refine SXL.box rfl rfl rfl (fun p => ?_)
  repeat (first | refine Qa ?_ | refine Qb ?_ | refine Qc ?_ | refine Qd ?_ | refine Qe ?_ | refine Qf ?_ | refine Qg ?_ | refine Qh ?_ | refine Qi ?_ | refine Qj ?_ | refine Qk ?_ | refine Ql ?_ | refine Qm ?_ | refine Qn ?_ | refine Qo ?_ | refine Qp ?_ | refine Qq ?_ | fail)
  refine SX.ret (M' := F) rfl (Evals.tmp rfl Evals.nil) ?_ inferInstance
  exact h
theorem asks21_S {g : Nat} (hat : At (some ⟨g, 0, none⟩) F (cellsR g (ouC s.pl s.c A a1) 82) R) (hr : Ro (Kd.int .u8) A R s.c.d) (h : K (.returned (.bool true)) (.own (some ⟨g, 0, none⟩) (cellsR g (ouC s.pl s.c A a1) 82) :: R)) :
    Fn (Try.prog) 14 [.slice (some ⟨g, 0, none⟩) 1 1, .agg (rclC s).toArray, .bool true] F K := by
  refine Fn.at_ hat ?_
  refine Fn.enter Try.call14 Try.func14 rfl rfl rfl ?_
  repeat (first | refine Qa ?_ | refine Qb ?_ | refine Qc ?_ | refine Qd ?_ | refine Qe ?_ | refine Qf ?_ | refine Qg ?_ | refine Qh ?_ | refine Qi ?_ | refine Qj ?_ | refine Qk ?_ | refine Ql ?_ | refine Qm ?_ | refine Qn ?_ | refine Qo ?_ | refine Qp ?_ | refine Qq ?_ | fail)
  refine SXL.box rfl rfl rfl (fun p => ?_)
  repeat (first | refine Qa ?_ | refine Qb ?_ | refine Qc ?_ | refine Qd ?_ | refine Qe ?_ | refine Qf ?_ | refine Qg ?_ | refine Qh ?_ | refine Qi ?_ | refine Qj ?_ | refine Qk ?_ | refine Ql ?_ | refine Qm ?_ | refine Qn ?_ | refine Qo ?_ | refine Qp ?_ | refine Qq ?_ | fail)
  refine SXA.begin (.own (some ⟨p, 0, none⟩) (cellsR p (rclC s) 35) :: .own (some ⟨g, 0, none⟩) (cellsR g (ouC s.pl s.c A a1) 82) :: R) [] ?_
  (first | refine Qr 0 ?_ | refine Qs 0 ?_ | refine Qt 0 ?_ | refine Qu 0 ?_ | fail)
  (first | refine Qr 1 ?_ | refine Qs 1 ?_ | refine Qt 1 ?_ | refine Qu 1 ?_ | fail)
  (first | refine Qr 2 ?_ | refine Qs 2 ?_ | refine Qt 2 ?_ | refine Qu 2 ?_ | fail)
  (first | refine Qr 3 ?_ | refine Qs 3 ?_ | refine Qt 3 ?_ | refine Qu 3 ?_ | fail)
  (first | refine Qr 4 ?_ | refine Qs 4 ?_ | refine Qt 4 ?_ | refine Qu 4 ?_ | fail)
  refine SXA.idx 5 rfl (by decide +kernel) rfl rfl rfl rfl rfl rfl (by omega) (by omega) rfl inferInstance ?_
  (first | refine Qr 6 ?_ | refine Qs 6 ?_ | refine Qt 6 ?_ | refine Qu 6 ?_ | fail)
  (first | refine Qr 7 ?_ | refine Qs 7 ?_ | refine Qt 7 ?_ | refine Qu 7 ?_ | fail)
  (first | refine Qr 8 ?_ | refine Qs 8 ?_ | refine Qt 8 ?_ | refine Qu 8 ?_ | fail)
  (first | refine Qr 9 ?_ | refine Qs 9 ?_ | refine Qt 9 ?_ | refine Qu 9 ?_ | fail)
  (first | refine Qr 10 ?_ | refine Qs 10 ?_ | refine Qt 10 ?_ | refine Qu 10 ?_ | fail)
  (first | refine Qr 11 ?_ | refine Qs 11 ?_ | refine Qt 11 ?_ | refine Qu 11 ?_ | fail)
  (first | refine Qr 12 ?_ | refine Qs 12 ?_ | refine Qt 12 ?_ | refine Qu 12 ?_ | fail)
  refine SXA.know 24 true rfl (by simp) ?_
  (first | refine Qr 13 ?_ | refine Qs 13 ?_ | refine Qt 13 ?_ | refine Qu 13 ?_ | fail)
  refine SXA.idx 14 rfl (by decide +kernel) rfl rfl rfl rfl rfl rfl (by omega) (by omega) rfl inferInstance ?_
  (first | refine Qr 15 ?_ | refine Qs 15 ?_ | refine Qt 15 ?_ | refine Qu 15 ?_ | fail)
  (first | refine Qr 16 ?_ | refine Qs 16 ?_ | refine Qt 16 ?_ | refine Qu 16 ?_ | fail)
  (first | refine Qr 17 ?_ | refine Qs 17 ?_ | refine Qt 17 ?_ | refine Qu 17 ?_ | fail)
  (first | refine Qr 18 ?_ | refine Qs 18 ?_ | refine Qt 18 ?_ | refine Qu 18 ?_ | fail)
  (first | refine Qr 19 ?_ | refine Qs 19 ?_ | refine Qt 19 ?_ | refine Qu 19 ?_ | fail)
  (first | refine Qr 20 ?_ | refine Qs 20 ?_ | refine Qt 20 ?_ | refine Qu 20 ?_ | fail)
  (first | refine Qr 21 ?_ | refine Qs 21 ?_ | refine Qt 21 ?_ | refine Qu 21 ?_ | fail)
  refine SXA.idx 22 rfl (by decide +kernel) rfl rfl rfl rfl rfl rfl (by omega) (by omega) rfl inferInstance ?_
  (first | refine Qr 23 ?_ | refine Qs 23 ?_ | refine Qt 23 ?_ | refine Qu 23 ?_ | fail)
  (first | refine Qr 24 ?_ | refine Qs 24 ?_ | refine Qt 24 ?_ | refine Qu 24 ?_ | fail)
  (first | refine Qr 25 ?_ | refine Qs 25 ?_ | refine Qt 25 ?_ | refine Qu 25 ?_ | fail)
  (first | refine Qr 27 ?_ | refine Qs 27 ?_ | refine Qt 27 ?_ | refine Qu 27 ?_ | fail)
  (first | refine Qr 28 ?_ | refine Qs 28 ?_ | refine Qt 28 ?_ | refine Qu 28 ?_ | fail)
  refine Qw 26 ?_
  refine Qm ?_
  refine SXL.call rfl rfl rfl ?_
  refine (callOf21_S (s := s.c) (A := A) inferInstance (callK.ret ?_))
  refine SXL.nil (SXA.next inferInstance ?_)
  refine Qw 29 ?_
  refine Qm ?_
  refine SXL.eqStr rfl rfl inferInstance inferInstance rfl rfl rfl rfl ?_
  refine SXL.nil (SXA.next inferInstance ?_)
  (first | refine Qr 30 ?_ | refine Qs 30 ?_ | refine Qt 30 ?_ | refine Qu 30 ?_ | fail)
  (first | refine Qr 31 ?_ | refine Qs 31 ?_ | refine Qt 31 ?_ | refine Qu 31 ?_ | fail)
  refine Qv ?_
  refine SX.same 6 (.bool true) rfl (by simp) ?_
  refine SX.ret (M' := (.own (some ⟨g, 0, none⟩) (cellsR g (ouC s.pl s.c A a1) 82) :: R)) rfl (Evals.tmp rfl Evals.nil) ?_ inferInstance
  exact h
/-! ### a client that isn't there -/
theorem BeginNil_S {x : Ca} {a : Nat} (h : K (.returned (.tuple #[.int .u32 0, .slice none 0 0, .int .i64 1])) F) : Fn (Try.prog) 11 [.pointer none, .agg (caC x A a).toArray] F K := by
  unfold caC
  refine Fn.enter Try.call11 Try.func11 rfl rfl rfl ?_
  repeat (first | refine Qa ?_ | refine Qb ?_ | refine Qc ?_ | refine Qd ?_ | refine Qe ?_ | refine Qf ?_ | refine Qg ?_ | refine Qh ?_ | refine Qi ?_ | refine Qj ?_ | refine Qk ?_ | refine Ql ?_ | refine Qm ?_ | refine Qn ?_ | refine Qo ?_ | refine Qp ?_ | refine Qq ?_ | fail)
  refine SXL.box rfl rfl rfl (fun p => ?_)
  repeat (first | refine Qa ?_ | refine Qb ?_ | refine Qc ?_ | refine Qd ?_ | refine Qe ?_ | refine Qf ?_ | refine Qg ?_ | refine Qh ?_ | refine Qi ?_ | refine Qj ?_ | refine Qk ?_ | refine Ql ?_ | refine Qm ?_ | refine Qn ?_ | refine Qo ?_ | refine Qp ?_ | refine Qq ?_ | fail)
  refine SX.ret (M' := F) rfl (Evals.tmp rfl (Evals.tmp rfl (Evals.tmp rfl Evals.nil))) ?_ inferInstance
  exact h
theorem HandleNil_S {from' : Int} (h : K (.returned (.tuple #[.agg (reC Re0 none 0 none 0).toArray, .bool false, .slice none 0 0])) F) : Fn (Try.prog) 15 [.pointer none, .int .i64 from', .agg (msC m A1 a1 A2 a2 A3 a3 A4 a4).toArray] F K := by
  unfold msC
  refine Fn.enter Try.call15 Try.func15 rfl rfl rfl ?_
  repeat (first | refine Qa ?_ | refine Qb ?_ | refine Qc ?_ | refine Qd ?_ | refine Qe ?_ | refine Qf ?_ | refine Qg ?_ | refine Qh ?_ | refine Qi ?_ | refine Qj ?_ | refine Qk ?_ | refine Ql ?_ | refine Qm ?_ | refine Qn ?_ | refine Qo ?_ | refine Qp ?_ | refine Qq ?_ | fail)
  refine SXL.box rfl rfl rfl (fun q => ?_)
  repeat (first | refine Qa ?_ | refine Qb ?_ | refine Qc ?_ | refine Qd ?_ | refine Qe ?_ | refine Qf ?_ | refine Qg ?_ | refine Qh ?_ | refine Qi ?_ | refine Qj ?_ | refine Qk ?_ | refine Ql ?_ | refine Qm ?_ | refine Qn ?_ | refine Qo ?_ | refine Qp ?_ | refine Qq ?_ | fail)
  refine SXL.alloc rfl rfl (fun z => ?_)
  repeat (first | refine Qa ?_ | refine Qb ?_ | refine Qc ?_ | refine Qd ?_ | refine Qe ?_ | refine Qf ?_ | refine Qg ?_ | refine Qh ?_ | refine Qi ?_ | refine Qj ?_ | refine Qk ?_ | refine Ql ?_ | refine Qm ?_ | refine Qn ?_ | refine Qo ?_ | refine Qp ?_ | refine Qq ?_ | fail)
  refine SXL.alloc rfl rfl (fun y => ?_)
  repeat (first | refine Qa ?_ | refine Qb ?_ | refine Qc ?_ | refine Qd ?_ | refine Qe ?_ | refine Qf ?_ | refine Qg ?_ | refine Qh ?_ | refine Qi ?_ | refine Qj ?_ | refine Qk ?_ | refine Ql ?_ | refine Qm ?_ | refine Qn ?_ | refine Qo ?_ | refine Qp ?_ | refine Qq ?_ | fail)
  refine SXA.begin F [] ?_
  (first | refine Qr 0 ?_ | refine Qs 0 ?_ | refine Qt 0 ?_ | refine Qu 0 ?_ | fail)
  (first | refine Qr 1 ?_ | refine Qs 1 ?_ | refine Qt 1 ?_ | refine Qu 1 ?_ | fail)
  (first | refine Qr 2 ?_ | refine Qs 2 ?_ | refine Qt 2 ?_ | refine Qu 2 ?_ | fail)
  (first | refine Qr 3 ?_ | refine Qs 3 ?_ | refine Qt 3 ?_ | refine Qu 3 ?_ | fail)
  (first | refine Qr 4 ?_ | refine Qs 4 ?_ | refine Qt 4 ?_ | refine Qu 4 ?_ | fail)
  (first | refine Qr 5 ?_ | refine Qs 5 ?_ | refine Qt 5 ?_ | refine Qu 5 ?_ | fail)
  (first | refine Qr 6 ?_ | refine Qs 6 ?_ | refine Qt 6 ?_ | refine Qu 6 ?_ | fail)
  (first | refine Qr 7 ?_ | refine Qs 7 ?_ | refine Qt 7 ?_ | refine Qu 7 ?_ | fail)
  (first | refine Qr 8 ?_ | refine Qs 8 ?_ | refine Qt 8 ?_ | refine Qu 8 ?_ | fail)
  (first | refine Qr 9 ?_ | refine Qs 9 ?_ | refine Qt 9 ?_ | refine Qu 9 ?_ | fail)
  (first | refine Qr 10 ?_ | refine Qs 10 ?_ | refine Qt 10 ?_ | refine Qu 10 ?_ | fail)
  (first | refine Qr 11 ?_ | refine Qs 11 ?_ | refine Qt 11 ?_ | refine Qu 11 ?_ | fail)
  (first | refine Qr 12 ?_ | refine Qs 12 ?_ | refine Qt 12 ?_ | refine Qu 12 ?_ | fail)
  (first | refine Qr 13 ?_ | refine Qs 13 ?_ | refine Qt 13 ?_ | refine Qu 13 ?_ | fail)
  (first | refine Qr 14 ?_ | refine Qs 14 ?_ | refine Qt 14 ?_ | refine Qu 14 ?_ | fail)
  (first | refine Qr 15 ?_ | refine Qs 15 ?_ | refine Qt 15 ?_ | refine Qu 15 ?_ | fail)
  (first | refine Qr 16 ?_ | refine Qs 16 ?_ | refine Qt 16 ?_ | refine Qu 16 ?_ | fail)
  (first | refine Qr 17 ?_ | refine Qs 17 ?_ | refine Qt 17 ?_ | refine Qu 17 ?_ | fail)
  (first | refine Qr 18 ?_ | refine Qs 18 ?_ | refine Qt 18 ?_ | refine Qu 18 ?_ | fail)
  (first | refine Qr 19 ?_ | refine Qs 19 ?_ | refine Qt 19 ?_ | refine Qu 19 ?_ | fail)
  (first | refine Qr 20 ?_ | refine Qs 20 ?_ | refine Qt 20 ?_ | refine Qu 20 ?_ | fail)
  (first | refine Qr 21 ?_ | refine Qs 21 ?_ | refine Qt 21 ?_ | refine Qu 21 ?_ | fail)
  (first | refine Qr 22 ?_ | refine Qs 22 ?_ | refine Qt 22 ?_ | refine Qu 22 ?_ | fail)
  (first | refine Qr 23 ?_ | refine Qs 23 ?_ | refine Qt 23 ?_ | refine Qu 23 ?_ | fail)
  (first | refine Qr 24 ?_ | refine Qs 24 ?_ | refine Qt 24 ?_ | refine Qu 24 ?_ | fail)
  (first | refine Qr 25 ?_ | refine Qs 25 ?_ | refine Qt 25 ?_ | refine Qu 25 ?_ | fail)
  (first | refine Qr 26 ?_ | refine Qs 26 ?_ | refine Qt 26 ?_ | refine Qu 26 ?_ | fail)
  (first | refine Qr 27 ?_ | refine Qs 27 ?_ | refine Qt 27 ?_ | refine Qu 27 ?_ | fail)
  (first | refine Qr 28 ?_ | refine Qs 28 ?_ | refine Qt 28 ?_ | refine Qu 28 ?_ | fail)
  (first | refine Qr 29 ?_ | refine Qs 29 ?_ | refine Qt 29 ?_ | refine Qu 29 ?_ | fail)
  (first | refine Qr 30 ?_ | refine Qs 30 ?_ | refine Qt 30 ?_ | refine Qu 30 ?_ | fail)
  (first | refine Qr 31 ?_ | refine Qs 31 ?_ | refine Qt 31 ?_ | refine Qu 31 ?_ | fail)
  (first | refine Qr 32 ?_ | refine Qs 32 ?_ | refine Qt 32 ?_ | refine Qu 32 ?_ | fail)
  refine Qv ?_
  repeat (first | refine Qa ?_ | refine Qb ?_ | refine Qc ?_ | refine Qd ?_ | refine Qe ?_ | refine Qf ?_ | refine Qg ?_ | refine Qh ?_ | refine Qi ?_ | refine Qj ?_ | refine Qk ?_ | refine Ql ?_ | refine Qm ?_ | refine Qn ?_ | refine Qo ?_ | refine Qp ?_ | refine Qq ?_ | fail)
  refine SX.ret (M' := F) rfl (Evals.cell rfl inferInstance rfl (Evals.tmp rfl (Evals.tmp rfl Evals.nil))) ?_ inferInstance
  exact h
theorem TickNil_S (h : K (.returned (.slice none 0 0)) F) : Fn (Try.prog) 20 [.pointer none] F K := by
  refine Fn.enter Try.call20 Try.func20 rfl rfl rfl ?_
  repeat (first | refine Qa ?_ | refine Qb ?_ | refine Qc ?_ | refine Qd ?_ | refine Qe ?_ | refine Qf ?_ | refine Qg ?_ | refine Qh ?_ | refine Qi ?_ | refine Qj ?_ | refine Qk ?_ | refine Ql ?_ | refine Qm ?_ | refine Qn ?_ | refine Qo ?_ | refine Qp ?_ | refine Qq ?_ | fail)
  refine SX.ret (M' := F) rfl (Evals.tmp rfl Evals.nil) ?_ inferInstance
  exact h
theorem OpenNil_S (h : K (.returned (.tuple #[.agg (caC Ca0 none 0).toArray, .bool false])) F) : Fn (Try.prog) 22 [.pointer none] F K := by
  refine Fn.enter Try.call22 Try.func22 rfl rfl rfl ?_
  repeat (first | refine Qa ?_ | refine Qb ?_ | refine Qc ?_ | refine Qd ?_ | refine Qe ?_ | refine Qf ?_ | refine Qg ?_ | refine Qh ?_ | refine Qi ?_ | refine Qj ?_ | refine Qk ?_ | refine Ql ?_ | refine Qm ?_ | refine Qn ?_ | refine Qo ?_ | refine Qp ?_ | refine Qq ?_ | fail)
  refine SXL.alloc rfl rfl (fun z => ?_)
  repeat (first | refine Qa ?_ | refine Qb ?_ | refine Qc ?_ | refine Qd ?_ | refine Qe ?_ | refine Qf ?_ | refine Qg ?_ | refine Qh ?_ | refine Qi ?_ | refine Qj ?_ | refine Qk ?_ | refine Ql ?_ | refine Qm ?_ | refine Qn ?_ | refine Qo ?_ | refine Qp ?_ | refine Qq ?_ | fail)
  refine SX.ret (M' := F) rfl (Evals.cell rfl inferInstance rfl (Evals.tmp rfl Evals.nil)) ?_ inferInstance
  exact h
theorem PlaceNil_S (h : K (.returned (.int .i64 0)) F) : Fn (Try.prog) 23 [.pointer none] F K := by
  refine Fn.enter Try.call23 Try.func23 rfl rfl rfl ?_
  repeat (first | refine Qa ?_ | refine Qb ?_ | refine Qc ?_ | refine Qd ?_ | refine Qe ?_ | refine Qf ?_ | refine Qg ?_ | refine Qh ?_ | refine Qi ?_ | refine Qj ?_ | refine Qk ?_ | refine Ql ?_ | refine Qm ?_ | refine Qn ?_ | refine Qo ?_ | refine Qp ?_ | refine Qq ?_ | fail)
  refine SX.ret (M' := F) rfl (Evals.tmp rfl Evals.nil) ?_ inferInstance
  exact h
end
end Go.Proofs.Ytgjajalneknagaa.Sx
end
section
/- Chapter 21: what a script's acts are: their kind, their cells, the rows that these lead to; conditions: those that each theorem names. -/
namespace Go.Proofs.Ytgjajalneknagaa.Sx
open Go.RowKit Go.Proofs.Ytgjajalneknagaa.Hm Go.Proofs.YtgjajalneknagaaW.PrintWords Go.Proofs.YtgjajalneknagaaW.PrintLast Go.Proofs.YtgjajalneknagaaW.PrintMore
set_option linter.unusedVariables false
set_option linter.unusedSimpArgs false
attribute [local irreducible] SX SXL SXA St callK Post Evals

structure Act where
  k : Int
  c : Ca
  m : Msg
  st : Int
  fr : Int
def kAct : Kd Act := Kd.iso (Kd.pair (Kd.int .i64) (Kd.pair (Kd.iso (Kd.pair (Kd.int .u32) (Kd.pair (Kd.int .u32) (Kd.pair (Kd.int .u32) (Kd.pair (Kd.iso (Kd.pair (Kd.int .u32) (Kd.int .u32)) id) (Kd.pair Kd.string (Kd.pair (Kd.iso (Kd.pair (Kd.int .u32) (Kd.int .u32)) id) (Kd.pair Kd.string (Kd.pair (Kd.int .u64) (Kd.pair (Kd.int .u64) (Kd.pair (Kd.int .u32) (Kd.pair (Kd.int .u32) (Kd.slice 5 (Kd.int .u8))))))))))))) id) (Kd.pair (Kd.iso (Kd.pair (Kd.int .u32) (Kd.pair (Kd.iso (Kd.pair (Kd.int .u32) (Kd.pair (Kd.int .u32) (Kd.pair (Kd.int .u32) (Kd.pair (Kd.iso (Kd.pair (Kd.int .u32) (Kd.int .u32)) id) (Kd.pair Kd.string (Kd.pair (Kd.iso (Kd.pair (Kd.int .u32) (Kd.int .u32)) id) (Kd.pair Kd.string (Kd.pair (Kd.int .u64) (Kd.pair (Kd.int .u64) (Kd.pair (Kd.int .u32) (Kd.pair (Kd.int .u32) (Kd.slice 5 (Kd.int .u8))))))))))))) id) (Kd.pair (Kd.iso (Kd.pair (Kd.int .u32) (Kd.pair (Kd.int .u32) (Kd.pair (Kd.int .i64) (Kd.pair (Kd.iso (Kd.pair (Kd.int .u32) (Kd.int .u32)) id) (Kd.pair (Kd.iso (Kd.pair (Kd.int .u32) (Kd.pair (Kd.int .u32) (Kd.pair (Kd.int .u32) (Kd.pair (Kd.int .u32) (Kd.int .u64))))) id) (Kd.pair (Kd.slice 5 (Kd.int .u8)) (Kd.pair (Kd.slice 101 kE) (Kd.pair Kd.bool (Kd.pair (Kd.int .u64) (Kd.int .u32)))))))))) id) (Kd.iso (Kd.pair (Kd.int .u32) (Kd.pair (Kd.int .u64) (Kd.pair (Kd.int .u64) (Kd.pair (Kd.int .u32) (Kd.slice 5 (Kd.int .u8)))))) id)))) id) (Kd.pair (Kd.int .i64) (Kd.int .u32))))) (fun a => (a.k, (a.c.client, a.c.xid, a.c.op, (a.c.ai, a.c.ag), a.c.name, (a.c.ti, a.c.tg), a.c.toName, a.c.off, a.c.verf, a.c.cnt, a.c.mode, a.c.d), (a.m.k, (a.m.c.client, a.m.c.xid, a.m.c.op, (a.m.c.ai, a.m.c.ag), a.m.c.name, (a.m.c.ti, a.m.c.tg), a.m.c.toName, a.m.c.off, a.m.c.verf, a.m.c.cnt, a.m.c.mode, a.m.c.d), (a.m.r.client, a.m.r.xid, a.m.r.st, (a.m.r.ai, a.m.r.ag), (a.m.r.ak, a.m.r.am, a.m.r.al, a.m.r.sz, a.m.r.ac), a.m.r.d, a.m.r.e, a.m.r.eof, a.m.r.verf, a.m.r.free), (a.m.t.k, a.m.t.ep, a.m.t.sq, a.m.t.pl, a.m.t.d)), a.st, a.fr))
def okAct (a : Act) : Prop := (Lit.int .i64 a.k).wf = true ∧ ((Lit.int .u32 a.c.client).wf = true ∧ (Lit.int .u32 a.c.xid).wf = true ∧ (Lit.int .u32 a.c.op).wf = true ∧ ((Lit.int .u32 a.c.ai).wf = true ∧ (Lit.int .u32 a.c.ag).wf = true) ∧ a.c.name.size ≤ maxLen ∧ ((Lit.int .u32 a.c.ti).wf = true ∧ (Lit.int .u32 a.c.tg).wf = true) ∧ a.c.toName.size ≤ maxLen ∧ (Lit.int .u64 a.c.off).wf = true ∧ (Lit.int .u64 a.c.verf).wf = true ∧ (Lit.int .u32 a.c.cnt).wf = true ∧ (Lit.int .u32 a.c.mode).wf = true ∧ (a.c.d.length ≤ maxLen ∧ ∀ x ∈ a.c.d, (Lit.int .u8 x).wf = true)) ∧ ((Lit.int .u32 a.m.k).wf = true ∧ ((Lit.int .u32 a.m.c.client).wf = true ∧ (Lit.int .u32 a.m.c.xid).wf = true ∧ (Lit.int .u32 a.m.c.op).wf = true ∧ ((Lit.int .u32 a.m.c.ai).wf = true ∧ (Lit.int .u32 a.m.c.ag).wf = true) ∧ a.m.c.name.size ≤ maxLen ∧ ((Lit.int .u32 a.m.c.ti).wf = true ∧ (Lit.int .u32 a.m.c.tg).wf = true) ∧ a.m.c.toName.size ≤ maxLen ∧ (Lit.int .u64 a.m.c.off).wf = true ∧ (Lit.int .u64 a.m.c.verf).wf = true ∧ (Lit.int .u32 a.m.c.cnt).wf = true ∧ (Lit.int .u32 a.m.c.mode).wf = true ∧ (a.m.c.d.length ≤ maxLen ∧ ∀ x ∈ a.m.c.d, (Lit.int .u8 x).wf = true)) ∧ ((Lit.int .u32 a.m.r.client).wf = true ∧ (Lit.int .u32 a.m.r.xid).wf = true ∧ (Lit.int .i64 a.m.r.st).wf = true ∧ ((Lit.int .u32 a.m.r.ai).wf = true ∧ (Lit.int .u32 a.m.r.ag).wf = true) ∧ ((Lit.int .u32 a.m.r.ak).wf = true ∧ (Lit.int .u32 a.m.r.am).wf = true ∧ (Lit.int .u32 a.m.r.al).wf = true ∧ (Lit.int .u32 a.m.r.sz).wf = true ∧ (Lit.int .u64 a.m.r.ac).wf = true) ∧ (a.m.r.d.length ≤ maxLen ∧ ∀ x ∈ a.m.r.d, (Lit.int .u8 x).wf = true) ∧ (a.m.r.e.length ≤ maxLen ∧ a.m.r.e.length * (Try.prog).bytesOf 101 ≤ reachBytes ∧ ∀ e ∈ a.m.r.e, (Lit.int .u64 e.c).wf = true ∧ ((Lit.int .u32 e.i).wf = true ∧ (Lit.int .u32 e.g).wf = true) ∧ e.s.size ≤ maxLen) ∧ True ∧ (Lit.int .u64 a.m.r.verf).wf = true ∧ (Lit.int .u32 a.m.r.free).wf = true) ∧ ((Lit.int .u32 a.m.t.k).wf = true ∧ (Lit.int .u64 a.m.t.ep).wf = true ∧ (Lit.int .u64 a.m.t.sq).wf = true ∧ (Lit.int .u32 a.m.t.pl).wf = true ∧ (a.m.t.d.length ≤ maxLen ∧ ∀ x ∈ a.m.t.d, (Lit.int .u8 x).wf = true))) ∧ (Lit.int .i64 a.st).wf = true ∧ (Lit.int .u32 a.fr).wf = true
structure Act.wf (a : Act) : Prop where
  c : a.c.wf
  m : a.m.wf
  fr : u32ok a.fr
  fit : a.m.r.e.length ≤ 4398046510976
theorem ents_fit' {n : Nat} (h : n * (Try.prog).bytesOf 101 ≤ reachBytes) : n ≤ 4398046510976 := by
  rw [show (Try.prog).bytesOf 101 = 32 from by kernel_rfl] at h
  unfold reachBytes at h
  omega
theorem Act.of_ok {a : Act} (h : okAct a) : a.wf := by
  obtain ⟨-, ⟨c0, c1, c2, ⟨c3, c4⟩, _, ⟨c6, c7⟩, _, c9, ca, cb, cc, ⟨_, cd⟩⟩, ⟨mk, ⟨d0, d1, d2, ⟨d3, d4⟩, _, ⟨d6, d7⟩, _, d9, da, db, dc, ⟨_, dd⟩⟩, ⟨r0, r1, _, ⟨r3, r4⟩, ⟨r5, r6, r7, r8, r9⟩, ⟨_, ra⟩, ⟨_, rl, re⟩, _, rv, rf⟩, ⟨t0, t1, t2, t3, ⟨_, t4⟩⟩⟩, -, hf⟩ := h
  exact ⟨⟨u32_of_wf _ c0, u32_of_wf _ c1, u32_of_wf _ c2, u32_of_wf _ c3, u32_of_wf _ c4, u32_of_wf _ c6, u32_of_wf _ c7, u64_of_wf _ c9, u64_of_wf _ ca, u32_of_wf _ cb, u32_of_wf _ cc, bytesB_of_wf _ cd⟩, ⟨u32_of_wf _ mk, ⟨u32_of_wf _ d0, u32_of_wf _ d1, u32_of_wf _ d2, u32_of_wf _ d3, u32_of_wf _ d4, u32_of_wf _ d6, u32_of_wf _ d7, u64_of_wf _ d9, u64_of_wf _ da, u32_of_wf _ db, u32_of_wf _ dc, bytesB_of_wf _ dd⟩, ⟨u32_of_wf _ r0, u32_of_wf _ r1, u32_of_wf _ r3, u32_of_wf _ r4, u32_of_wf _ r5, u32_of_wf _ r6, u32_of_wf _ r7, u32_of_wf _ r8, u64_of_wf _ r9, u64_of_wf _ rv, u32_of_wf _ rf, bytesB_of_wf _ ra, fun e he => wf_of_ok (re e he)⟩, ⟨u32_of_wf _ t0, u64_of_wf _ t1, u64_of_wf _ t2, u32_of_wf _ t3, bytesB_of_wf _ t4⟩⟩, u32_of_wf _ hf, ents_fit' rl⟩
structure ActX where
  A : Option Addr
  a : Nat
  A1 : Option Addr
  a1 : Nat
  A2 : Option Addr
  a2 : Nat
  A3 : Option Addr
  a3 : Nat
  A4 : Option Addr
  a4 : Nat
def actC (a : Act) (x : ActX) : List Value := [.int .i64 a.k, .int .u32 a.c.client, .int .u32 a.c.xid, .int .u32 a.c.op, .int .u32 a.c.ai, .int .u32 a.c.ag, .string a.c.name, .int .u32 a.c.ti, .int .u32 a.c.tg, .string a.c.toName, .int .u64 a.c.off, .int .u64 a.c.verf, .int .u32 a.c.cnt, .int .u32 a.c.mode, .slice x.A a.c.d.length x.a, .int .u32 a.m.k, .int .u32 a.m.c.client, .int .u32 a.m.c.xid, .int .u32 a.m.c.op, .int .u32 a.m.c.ai, .int .u32 a.m.c.ag, .string a.m.c.name, .int .u32 a.m.c.ti, .int .u32 a.m.c.tg, .string a.m.c.toName, .int .u64 a.m.c.off, .int .u64 a.m.c.verf, .int .u32 a.m.c.cnt, .int .u32 a.m.c.mode, .slice x.A1 a.m.c.d.length x.a1, .int .u32 a.m.r.client, .int .u32 a.m.r.xid, .int .i64 a.m.r.st, .int .u32 a.m.r.ai, .int .u32 a.m.r.ag, .int .u32 a.m.r.ak, .int .u32 a.m.r.am, .int .u32 a.m.r.al, .int .u32 a.m.r.sz, .int .u64 a.m.r.ac, .slice x.A2 a.m.r.d.length x.a2, .slice x.A3 a.m.r.e.length x.a3, .bool a.m.r.eof, .int .u64 a.m.r.verf, .int .u32 a.m.r.free, .int .u32 a.m.t.k, .int .u64 a.m.t.ep, .int .u64 a.m.t.sq, .int .u32 a.m.t.pl, .slice x.A4 a.m.t.d.length x.a4, .int .i64 a.st, .int .u32 a.fr]
structure ActX.fits (a : Act) (x : ActX) : Prop where
  c : a.c.d.length ≤ x.a
  m1 : a.m.c.d.length ≤ x.a1
  m2 : a.m.r.d.length ≤ x.a2
  m3 : a.m.r.e.length ≤ x.a3
  m4 : a.m.t.d.length ≤ x.a4
abbrev actL (a : Act) (x : ActX) : List Res := [pureR (x.fits a), roR (Kd.int .u8) x.A a.c.d, roR (Kd.int .u8) x.A1 a.m.c.d, roR (Kd.int .u8) x.A2 a.m.r.d, roR kE x.A3 a.m.r.e, roR (Kd.int .u8) x.A4 a.m.t.d]
theorem fk_iso {α β : Type} {w : World} {S : Nat → Prop} {cs : List Value} {d : Kd α} {f : β → α} {x : β} (h : Kd.FK (Kd.iso d f) w S x cs) : Kd.FK d w S (f x) cs := h
theorem act_open {w : World} {S : Nat → Prop} {a : Act} {cs : List Value} (h : Kd.FK kAct w S a cs) : ∃ x, cs = actC a x ∧ ∀ r ∈ actL a x, r.P w S := by
  have h0 := fk_iso h
  obtain ⟨c0, r0, rfl, h0, g0⟩ := fk_pair h0
  obtain rfl := fk_flat h0
  obtain ⟨c2, r2, rfl, h2, g2⟩ := fk_pair g0
  have s3 := fk_iso h2
  obtain ⟨c4, r4, rfl, h4, g4⟩ := fk_pair s3
  obtain rfl := fk_flat h4
  obtain ⟨c6, r6, rfl, h6, g6⟩ := fk_pair g4
  obtain rfl := fk_flat h6
  obtain ⟨c8, r8, rfl, h8, g8⟩ := fk_pair g6
  obtain rfl := fk_flat h8
  obtain ⟨c10, r10, rfl, h10, g10⟩ := fk_pair g8
  have s11 := fk_iso h10
  obtain ⟨c12, r12, rfl, h12, g12⟩ := fk_pair s11
  obtain rfl := fk_flat h12
  obtain rfl := fk_flat g12
  obtain ⟨c15, r15, rfl, h15, g15⟩ := fk_pair g10
  obtain rfl := fk_flat h15
  obtain ⟨c17, r17, rfl, h17, g17⟩ := fk_pair g15
  have s18 := fk_iso h17
  obtain ⟨c19, r19, rfl, h19, g19⟩ := fk_pair s18
  obtain rfl := fk_flat h19
  obtain rfl := fk_flat g19
  obtain ⟨c22, r22, rfl, h22, g22⟩ := fk_pair g17
  obtain rfl := fk_flat h22
  obtain ⟨c24, r24, rfl, h24, g24⟩ := fk_pair g22
  obtain rfl := fk_flat h24
  obtain ⟨c26, r26, rfl, h26, g26⟩ := fk_pair g24
  obtain rfl := fk_flat h26
  obtain ⟨c28, r28, rfl, h28, g28⟩ := fk_pair g26
  obtain rfl := fk_flat h28
  obtain ⟨c30, r30, rfl, h30, g30⟩ := fk_pair g28
  obtain rfl := fk_flat h30
  obtain ⟨A32, k32, rfl, l32, o32⟩ := fk_row g30
  obtain ⟨c33, r33, rfl, h33, g33⟩ := fk_pair g2
  have s34 := fk_iso h33
  obtain ⟨c35, r35, rfl, h35, g35⟩ := fk_pair s34
  obtain rfl := fk_flat h35
  obtain ⟨c37, r37, rfl, h37, g37⟩ := fk_pair g35
  have s38 := fk_iso h37
  obtain ⟨c39, r39, rfl, h39, g39⟩ := fk_pair s38
  obtain rfl := fk_flat h39
  obtain ⟨c41, r41, rfl, h41, g41⟩ := fk_pair g39
  obtain rfl := fk_flat h41
  obtain ⟨c43, r43, rfl, h43, g43⟩ := fk_pair g41
  obtain rfl := fk_flat h43
  obtain ⟨c45, r45, rfl, h45, g45⟩ := fk_pair g43
  have s46 := fk_iso h45
  obtain ⟨c47, r47, rfl, h47, g47⟩ := fk_pair s46
  obtain rfl := fk_flat h47
  obtain rfl := fk_flat g47
  obtain ⟨c50, r50, rfl, h50, g50⟩ := fk_pair g45
  obtain rfl := fk_flat h50
  obtain ⟨c52, r52, rfl, h52, g52⟩ := fk_pair g50
  have s53 := fk_iso h52
  obtain ⟨c54, r54, rfl, h54, g54⟩ := fk_pair s53
  obtain rfl := fk_flat h54
  obtain rfl := fk_flat g54
  obtain ⟨c57, r57, rfl, h57, g57⟩ := fk_pair g52
  obtain rfl := fk_flat h57
  obtain ⟨c59, r59, rfl, h59, g59⟩ := fk_pair g57
  obtain rfl := fk_flat h59
  obtain ⟨c61, r61, rfl, h61, g61⟩ := fk_pair g59
  obtain rfl := fk_flat h61
  obtain ⟨c63, r63, rfl, h63, g63⟩ := fk_pair g61
  obtain rfl := fk_flat h63
  obtain ⟨c65, r65, rfl, h65, g65⟩ := fk_pair g63
  obtain rfl := fk_flat h65
  obtain ⟨A67, k67, rfl, l67, o67⟩ := fk_row g65
  obtain ⟨c68, r68, rfl, h68, g68⟩ := fk_pair g37
  have s69 := fk_iso h68
  obtain ⟨c70, r70, rfl, h70, g70⟩ := fk_pair s69
  obtain rfl := fk_flat h70
  obtain ⟨c72, r72, rfl, h72, g72⟩ := fk_pair g70
  obtain rfl := fk_flat h72
  obtain ⟨c74, r74, rfl, h74, g74⟩ := fk_pair g72
  obtain rfl := fk_flat h74
  obtain ⟨c76, r76, rfl, h76, g76⟩ := fk_pair g74
  have s77 := fk_iso h76
  obtain ⟨c78, r78, rfl, h78, g78⟩ := fk_pair s77
  obtain rfl := fk_flat h78
  obtain rfl := fk_flat g78
  obtain ⟨c81, r81, rfl, h81, g81⟩ := fk_pair g76
  have s82 := fk_iso h81
  obtain ⟨c83, r83, rfl, h83, g83⟩ := fk_pair s82
  obtain rfl := fk_flat h83
  obtain ⟨c85, r85, rfl, h85, g85⟩ := fk_pair g83
  obtain rfl := fk_flat h85
  obtain ⟨c87, r87, rfl, h87, g87⟩ := fk_pair g85
  obtain rfl := fk_flat h87
  obtain ⟨c89, r89, rfl, h89, g89⟩ := fk_pair g87
  obtain rfl := fk_flat h89
  obtain rfl := fk_flat g89
  obtain ⟨c92, r92, rfl, h92, g92⟩ := fk_pair g81
  obtain ⟨A93, k93, rfl, l93, o93⟩ := fk_row h92
  obtain ⟨c94, r94, rfl, h94, g94⟩ := fk_pair g92
  obtain ⟨A95, k95, rfl, l95, o95⟩ := fk_row h94
  obtain ⟨c96, r96, rfl, h96, g96⟩ := fk_pair g94
  obtain rfl := fk_flat h96
  obtain ⟨c98, r98, rfl, h98, g98⟩ := fk_pair g96
  obtain rfl := fk_flat h98
  obtain rfl := fk_flat g98
  have s101 := fk_iso g68
  obtain ⟨c102, r102, rfl, h102, g102⟩ := fk_pair s101
  obtain rfl := fk_flat h102
  obtain ⟨c104, r104, rfl, h104, g104⟩ := fk_pair g102
  obtain rfl := fk_flat h104
  obtain ⟨c106, r106, rfl, h106, g106⟩ := fk_pair g104
  obtain rfl := fk_flat h106
  obtain ⟨c108, r108, rfl, h108, g108⟩ := fk_pair g106
  obtain rfl := fk_flat h108
  obtain ⟨A110, k110, rfl, l110, o110⟩ := fk_row g108
  obtain ⟨c111, r111, rfl, h111, g111⟩ := fk_pair g33
  obtain rfl := fk_flat h111
  obtain rfl := fk_flat g111
  refine ⟨⟨A32, k32, A67, k67, A93, k93, A95, k95, A110, k110⟩, rfl, ?_⟩
  intro r hr
  simp only [actL, List.mem_cons, List.not_mem_nil, or_false] at hr
  rcases hr with rfl | rfl | rfl | rfl | rfl | rfl
  · exact ⟨l32, l67, l93, l95, l110⟩
  · exact o32
  · exact o67
  · exact o93
  · exact o95
  · exact o110
end Go.Proofs.Ytgjajalneknagaa.Sx
end
