/- Go code walked by what is known of slots and memory: rows whose elements hold rows: each element's cells, and what they lead to; conditions: those that each theorem names. -/
import Derived.Test.YtanemmcddgkpdaaGreatJX2
namespace Go.Proofs.YtanemmcddgkpdaaGreat.Sx
open Go.RowKit Go.Proofs.YtanemmcddgkpdaaGreat.Hm Go.Proofs.YtanemmcddgkpdaaGreatW.PrintWords Go.Proofs.YtanemmcddgkpdaaGreatW.PrintLast Go.Proofs.YtanemmcddgkpdaaGreatW.PrintMore
set_option linter.unusedVariables false
set_option linter.unusedSimpArgs false
abbrev CellsN (n : Nat) := {l : List Value // l.length = n ∧ ∀ u ∈ l, u.oneCell' = true}
/-- Elements told by their cells. -/
def cellsK (n : Nat) : Kd (CellsN n) where
  sz := n
  E := []
  K := fun _ x cs => cs = x.1
  M := fun _ _ _ x cs => cs = x.1
  K_len := by rintro w x cs rfl; exact x.2.1
  K_one := by rintro w x cs rfl; exact x.2.2
  K_below := fun _ h => h
  K_of_M := fun h => h
  M_mono := fun _ h => h
  M_bound := fun h => h
  M_move := fun _ h => h
  M_lower := fun _ h => h
instance flatCells (n : Nat) : Flat (cellsK n) (fun x => x.1) := ⟨fun h => h, fun _ _ => rfl, fun _ _ _ _ => rfl⟩
/-- What the elements' cells lead to. -/
def fksR {α : Type} (D : Kd α) (xs : List α) (css : List (CellsN D.sz)) : Res where
  P := fun w S => ∀ (i : Nat) (e : α) (c : CellsN D.sz), xs[i]? = some e → css[i]? = some c → Kd.FK D w S e c.1
  mono := fun h hs i e c h1 h2 => Kd.FK_mono (h i e c h1 h2) hs
  loc := fun h _ hs i e c h1 h2 => Kd.FK_step (h i e c h1 h2) (fun k hk hlt => hs k hk hlt)
theorem flat_rows {α : Type} {D : Kd α} {w : World} {S : Nat → Prop} {A : Option Addr} {xs : List α} (hs : 0 < D.sz) (h : Kd.F D w S A xs.length xs) :
    ∃ css : List (CellsN D.sz), css.length = xs.length ∧ Kd.F (cellsK D.sz) w S A css.length css ∧ ∀ (i : Nat) (e : α) (c : CellsN D.sz), xs[i]? = some e → css[i]? = some c → Kd.FK D w S e c.1 := by
  by_cases hp : 0 < xs.length
  · have hC := Kd.F_now h
    obtain ⟨ad, rfl, -⟩ := hC.2.2 hp
    have hin := Kd.F_in h rfl hp hs
    have key : ∀ j : Fin xs.length, ∃ c : CellsN D.sz, Kd.FK D w S xs[j] c.1 ∧ ∀ i u, c.1[i]? = some u → w.cell? (ad.add (j * D.sz + i)) = some u := by
      intro j
      obtain ⟨ad', c, he, hcl, hK, hcc, -⟩ := Kd.F_get h xs[j] (j : Int) (by omega) (by omega)
      injection he with he
      subst he
      rw [Int.toNat_natCast] at hK hcc
      have hj : xs.getD j xs[j] = xs[j] := by rw [List.getD_eq_getElem?_getD, List.getElem?_eq_getElem j.2]; rfl
      rw [hj] at hK
      exact ⟨⟨c, hcl, D.K_one (Kd.FK_now hK)⟩, hK, hcc⟩
    have hlen : (List.ofFn fun j : Fin xs.length => Classical.choose (key j)).length = xs.length := List.length_ofFn
    refine ⟨List.ofFn fun j : Fin xs.length => Classical.choose (key j), hlen, fun W' hW => ?_, fun i e c h1 h2 => ?_⟩
    · refine ⟨rfl, by rw [hlen]; exact hC.2.1, fun _ => ⟨ad, rfl, fun j p hj => ⟨p.1, p.2.1, rfl, fun i u hu => ?_⟩⟩⟩
      have hjl : j < xs.length := by have := (List.getElem?_eq_some_iff.1 hj).1; rwa [hlen] at this
      rw [List.getElem?_ofFn, dif_pos hjl] at hj
      obtain rfl := Option.some.inj hj
      have h5 := (Classical.choose_spec (key ⟨j, hjl⟩)).2 i u hu
      have h6 := World.block_lt_of_cell? w _ h5
      rw [add_block] at h6
      have hb := hW ad.block hin h6
      have h7 : W'.cell? (ad.add (j * D.sz + i)) = w.cell? (ad.add (j * D.sz + i)) := by simp [World.cell?, add_block, hb]
      show W'.cell? (ad.add (j * D.sz + i)) = some u
      rw [h7]
      exact h5
    · have hil : i < xs.length := (List.getElem?_eq_some_iff.1 h1).1
      rw [List.getElem?_ofFn, dif_pos hil] at h2
      obtain rfl := Option.some.inj h2
      have h3 := (Classical.choose_spec (key ⟨i, hil⟩)).1
      have h4 : xs[i] = e := (List.getElem?_eq_some_iff.1 h1).2
      have h5 : xs[(⟨i, hil⟩ : Fin xs.length)] = e := h4
      rw [h5] at h3
      exact h3
  · obtain rfl : xs = [] := List.eq_nil_of_length_eq_zero (by omega)
    refine ⟨[], rfl, fun W' hW => ⟨rfl, Nat.zero_le _, fun h => absurd h (Nat.lt_irrefl 0)⟩, fun i e c h1 _ => by simp at h1⟩
section
variable {P : Program} {fn : Func} {K : Ending → List Thing → Prop} {N : Nat} {k : List It} {a : Fr} {M : List Thing} {α : Type} {D : Kd α} {xs : List α}
theorem Fn.flat {f : FuncId} {args : List Value} {A : Option Addr} (D : Kd α) (hs : 0 < D.sz) [hr : Has (roR D A xs) M] (h : ∀ css : List (CellsN D.sz), css.length = xs.length → Fn P f args (.per (roR (cellsK D.sz) A css) :: .per (fksR D xs css) :: M) K) (hc : ∀ w, (callFunc f args.toArray).run P w = .ok (.enter f args.toArray) w) : Fn P f args M K :=
  ⟨hc, fun w hw => by
    obtain ⟨I, hI, hL⟩ := hw
    obtain ⟨css, h1, h2, h3⟩ := flat_rows hs (hr.h _ _ _ hL)
    exact (h css h1).runs w ⟨I, hI, h2, h3, hL⟩⟩
theorem SX.fk {ι : Type} {css : List (CellsN D.sz)} {i : Nat} {e : α} {c : CellsN D.sz} (vals : ι → List Value) (L : ι → List Res) [hr : Has (fksR D xs css) M] (h1 : xs[i]? = some e) (h2 : css[i]? = some c)
    (himp : ∀ w S, Kd.FK D w S e c.1 → ∃ x, c.1 = vals x ∧ ∀ r ∈ L x, r.P w S) (h : ∀ x, c.1 = vals x → SX P fn K N k a ((L x).map Thing.per ++ M)) : SX P fn K N k a M := fun act w s => by
  obtain ⟨I, hI, hL⟩ := s.holds
  obtain ⟨x, h3, h4⟩ := himp w I (hr.h _ _ _ hL i e c h1 h2)
  have key : ∀ l : List Res, (∀ r ∈ l, r.P w I) → HoldsU w I (l.map Thing.per ++ M) (fun k => k < w.heap.size ∧ ¬ I k) := by
    intro l
    induction l with
    | nil => intro _; exact hL
    | cons r l ih => intro hl; exact ⟨hl r List.mem_cons_self, ih (fun q hq => hl q (List.mem_cons_of_mem _ hq))⟩
  exact h x h3 act w (s.keep ⟨I, hI, key _ h4⟩)
end
/-- What is so of no memory. -/
def pureR (p : Prop) : Res where
  P := fun _ _ => p
  mono := fun h _ => h
  loc := fun h _ _ => h
theorem SX.pure {P : Program} {fn : Func} {K : Ending → List Thing → Prop} {N : Nat} {k : List It} {a : Fr} {M : List Thing} (p : Prop) [hr : Has (pureR p) M] (h : p → SX P fn K N k a M) : SX P fn K N k a M := fun act w s => by
  obtain ⟨I, hI, hL⟩ := s.holds
  exact h (hr.h _ _ _ hL) act w s
/-! ### what an element's cells lead to, part by part -/
section
variable {α β : Type} {w : World} {S : Nat → Prop} {cs : List Value}
theorem fk_pair {a : Kd α} {b : Kd β} {x : α × β} (h : Kd.FK (Kd.pair a b) w S x cs) : ∃ c0 c1, cs = c0 ++ c1 ∧ Kd.FK a w S x.1 c0 ∧ Kd.FK b w S x.2 c1 := by
  obtain ⟨c0, c1, rfl, h0, h1⟩ := Kd.FK_now h
  have hl := a.K_len h0
  refine ⟨c0, c1, rfl, fun W' hW => ?_, fun W' hW => ?_⟩
  · obtain ⟨d0, d1, he, g0, g1⟩ := h W' hW
    obtain ⟨rfl, rfl⟩ := List.append_inj he (by rw [hl, a.K_len g0])
    exact g0
  · obtain ⟨d0, d1, he, g0, g1⟩ := h W' hW
    obtain ⟨rfl, rfl⟩ := List.append_inj he (by rw [hl, a.K_len g0])
    exact g1
theorem fk_flat {D : Kd α} {enc : α → List Value} [hf : Flat D enc] {x : α} (h : Kd.FK D w S x cs) : cs = enc x := hf.out (Kd.FK_now h)
theorem fk_row {D : Kd α} {e : Nat} {l : List α} (h : Kd.FK (Kd.slice e D) w S l cs) : ∃ A c, cs = [.slice A l.length c] ∧ l.length ≤ c ∧ (roR D A l).P w S := Kd.FK_slice_open h
end
end Go.Proofs.YtanemmcddgkpdaaGreat.Sx
