/- Part Y6 of the lemmas and walks of the Go functions that these statements reach; conditions: those that each theorem names. -/
import Derived.Test.YtanemmcddgkpdaaGreatJX2
import Derived.Deep.DeepAppendWide
import Derived.Test.YtanemmcddgkpdaaGreatJWZeros
section
/- Go code walked by what is known of slots and memory: append onto rows that are nearly as large as may be; conditions: those that each theorem names. -/
namespace Go.Proofs.YtanemmcddgkpdaaGreat.Sx
open Go.RowKit Go.Proofs.YtanemmcddgkpdaaGreat.Hm Go.Proofs.YtanemmcddgkpdaaGreatW.PrintWords Go.Proofs.YtanemmcddgkpdaaGreatW.PrintLast Go.Proofs.YtanemmcddgkpdaaGreatW.PrintMore
set_option linter.unusedVariables false
set_option linter.unusedSimpArgs false
section
variable {P : Program} (w : World)
/-- append within the wide bound: where the new row lies. -/
theorem append_at_wide (base : Nat) (t ty e : TypeId) (i : TypeInfo) (z : Value) (size bytes : Nat) (ht : P.underlying t = some (.slice e)) (hi : P.info? e = some i) (hz : i.zero = some z)
    (hsize : i.size = size) (hby : i.bytes = bytes) (hzs : z.cells.size = size) (hsz : 0 < size) (v : Value) (n : Nat) (xs : List Value) (hown : w.ownsRow base e size v n xs)
    (a : Addr) (m c : Nat) (news : List Value) (hl : news.length = m * size) (hnews : ∀ j u, news[j]? = some u → w.cell? (a.add j) = some u) (h1 : ∀ u ∈ news, u.oneCell' = true)
    (h63 : n + m ≤ maxLen) (hbytes : ((n + m) + (n + m) / 4 + 192) * bytes ≤ 281474976710656) (hbase : base ≤ w.heap.size) :
    ∃ v' w', (Builtin.append_ #[t, t] ty #[v, .slice (some a) m c]).run P w = .ok v' w' ∧ w'.ownsRow base e size v' (n + m) (xs ++ news) ∧ w.grownBy w' v.ownBlock ∧ (v'.ownBlock = v.ownBlock ∨ v'.ownBlock = some w.heap.size) := by
  obtain ⟨v', w', hr, h2, h3, h4⟩ := run_append_own_wide (P := P) w base t ty e i z size bytes ht hi hz hsize hby hzs hsz v n xs hown a m c news hl hnews h1 h63 hbytes hbase
  refine ⟨v', w', hr, h2, h3, ?_⟩
  subst hsize
  subst hby
  have hm63 : n + m ≤ 9223372036854775807 := by simp only [maxLen] at h63; omega
  rcases hown.2 with ⟨rfl, rfl⟩ | ⟨g, cap, cur, rfl, hbg, hg, hnc, hcm, hcs, htake⟩
  · by_cases hm : m = 0
    · rw [h4.2 ⟨rfl, hm⟩]
      exact .inl rfl
    · have hx := run_append_nil (P := P) w t ty e i z ht hi hz a m c news hl hnews (by omega) (by omega) (by have hb := hbytes; simp only [Nat.zero_add] at hb; exact Nat.le_trans (Nat.mul_le_mul_right _ (by omega)) hb)
      rw [hr] at hx
      injection hx with hx _
      subst hx
      exact .inr rfl
  · by_cases hroom : n + m ≤ cap
    · have hx := run_append_room (P := P) w t ty e i ht hi g n cap cur hg a m c news hl hnews h1 hroom (by rw [hl, hcs, ← Nat.add_mul]; exact Nat.mul_le_mul_right _ hroom)
      rw [hr] at hx
      injection hx with hx _
      subst hx
      exact .inl rfl
    · have holds : ∀ j u, xs[j]? = some u → w.cell? ((⟨g, 0, none⟩ : Addr).add j) = some u := hown.cells (g := g) rfl
      have hx := run_append_grow (P := P) w t ty e i z ht hi hz ⟨g, 0, none⟩ n cap xs hown.1 holds a m c news hl hnews (by omega) (by omega) (growslice_fits_wide (by omega) hbytes)
      rw [hr] at hx
      injection hx with hx _
      subst hx
      exact .inr rfl
end
section
open Kd
variable {P : Program} {ops : Array Oper} {rest : List Oper} {o : Oper} {a : Act} {Q : Exit → Act → World → Prop} {α : Type}
theorem R_append_rowsW (d : Kd α) {Rr : α → List Value → Prop} {w0 W : World} (base : Nat) (hgd : o.guard = none) (s x : Operand) (t e : TypeId) (z : Value) (bytes : Nat)
    (ho : o.op = .call { callee := .builtin .append, args := #[s, x], argTypes := #[t, t] })
    (ht : P.underlying t = some (.slice e)) (hinfo : (P.info? e).map (fun i => (i.zero, i.size, i.bytes)) = some (some z, d.sz, bytes)) (hz : z.cells.size = d.sz) (hs0 : 0 < d.sz) (hb0 : 0 < bytes)
    (v : Value) (xs ys : List α) (A : Option Addr) (m c : Nat) (ok okp : Nat → Prop) (hs : a.eval s = v) (hx : a.eval x = .slice A m c)
    (HO : d.R e W base ok v xs) (HR : ReadsRow Rr d.sz W A m ys) (hKM : ∀ x cs, Rr x cs → d.M W base okp x cs) (hokp : ∀ k, okp k → ok k ∧ some k ≠ v.ownBlock) (hfresh : ∀ k, W.heap.size ≤ k → ok k)
    (HB : Below base w0 W) (hbase : base ≤ W.heap.size) (hl : ((xs.length + m) + (xs.length + m) / 4 + 192) * bytes ≤ 281474976710656)
    (h : ∀ v1 w1, d.R e w1 base ok v1 (xs ++ ys) → Below base w0 w1 → W.grownBy w1 v.ownBlock → (v1.ownBlock = v.ownBlock ∨ ∃ b, v1.ownBlock = some b ∧ W.heap.size ≤ b) → wpList P ops Q rest (a.put o.dst v1) w1) :
    wpList P ops Q (o :: rest) a W := by
  obtain ⟨i0, hi, hzz⟩ := Option.map_eq_some_iff.1 hinfo
  simp only [Prod.mk.injEq] at hzz
  obtain ⟨hz0, hz1, hz2⟩ := hzz
  have hm : ys.length = m := HR.1
  have hlen : (xs.length + m) + (xs.length + m) / 4 + 192 ≤ 281474976710656 := Nat.le_trans (Nat.le_mul_of_pos_right _ hb0) hl
  obtain ⟨hok, inner, hown, hr⟩ := HO
  have hrun : ∃ v1 w1, (Builtin.append_ #[t, t] o.type #[v, .slice A m c]).run P W = .ok v1 w1 ∧ d.R e w1 base ok v1 (xs ++ ys) ∧ W.grownBy w1 v.ownBlock ∧ (v1.ownBlock = v.ownBlock ∨ ∃ b, v1.ownBlock = some b ∧ W.heap.size ≤ b) := by
    rcases A with _ | ad
    · have h0 : m = 0 := by
        rcases Nat.eq_zero_or_pos m with h0 | h0
        · exact h0
        · obtain ⟨ad, h, _⟩ := HR.2.2 h0
          cases h
      subst h0
      obtain rfl : ys = [] := List.eq_nil_of_length_eq_zero hm
      refine ⟨v, W, ?_, by rw [List.append_nil]; exact ⟨hok, inner, hown, hr⟩, World.grownBy.refl W _, .inl rfl⟩
      rcases hown.2 with ⟨rfl, hn⟩ | ⟨g, cap, cur, rfl, _, _, hnc, _⟩
      · simp [Builtin.append_, run_underlying ht, sizeOf, typeInfo, hi, Builtin.lenOf, Builtin.firstCells]
      · simp [Builtin.append_, run_underlying ht, sizeOf, typeInfo, hi, Builtin.lenOf, Builtin.firstCells, hnc, storeCells]
    · obtain ⟨news, hnr, hnc⟩ := ReadsRow.inner_ HR
      have hnM : Reps (d.M W base okp) d.sz ys news := hnr.imp_ (fun p c hp => hKM p c hp)
      have hone : ∀ u ∈ news, u.oneCell' = true := by
        intro u hu
        obtain ⟨q, hq, rfl⟩ := List.mem_iff_getElem.1 hu
        have hql : q / d.sz < ys.length := by
          rw [Nat.div_lt_iff_lt_mul hs0]
          rw [← hnM.1]
          exact hq
        have hc := hnM.2 (q / d.sz) _ (List.getElem?_eq_getElem hql)
        refine d.K_one (d.K_of_M hc) _ ?_
        rw [List.mem_iff_getElem?]
        refine ⟨q % d.sz, ?_⟩
        rw [List.getElem?_take, if_pos (Nat.mod_lt _ hs0), List.getElem?_drop, Nat.mul_comm, Nat.div_add_mod, List.getElem?_eq_getElem hq]
      obtain ⟨v1, w1, hrun, h2, hg, hat⟩ := append_at_wide (P := P) W base t o.type e i0 z d.sz bytes ht hi hz0 hz1 hz2 hz hs0 v xs.length inner hown ad m c news (by rw [hnM.1, hm]) hnc hone (by simp only [maxLen]; omega) hl hbase
      have hat' : v1.ownBlock = v.ownBlock ∨ ∃ b, v1.ownBlock = some b ∧ W.heap.size ≤ b := by
        rcases hat with hat | hat
        · exact .inl hat
        · exact .inr ⟨_, hat, Nat.le_refl _⟩
      have hne : ∀ k, some k ≠ v.ownBlock → k < W.heap.size → some k ≠ v1.ownBlock := by
        intro k hk hlt
        rcases hat' with hat | ⟨b, hb, hle⟩
        · rw [hat]; exact hk
        · rw [hb]
          intro he
          injection he with he
          omega
      have step : ∀ {q : α} {c : List Value} {o : Nat → Prop}, d.M W base o q c → (∀ k, o k → ok k ∧ some k ≠ v.ownBlock) → d.M w1 base (fun k => ok k ∧ some k ≠ v1.ownBlock) q c := by
        intro q c o hq ho
        have h1 := d.M_move (w1 := w1) (fun k hk => hg.block k hk.2.2.1 (ho k hk.1).2) (d.M_bound hq)
        exact d.M_mono (fun k hk => ⟨(ho k hk.1).1, hne k (ho k hk.1).2 hk.2.2.1⟩) h1
      refine ⟨v1, w1, hrun, ⟨fun k hk => ?_, inner ++ news, by rw [List.length_append, hm]; exact h2, reps_append (hr.imp_ (fun _ _ hq => step hq (fun _ hk => hk))) (hnM.imp_ (fun _ _ hq => step hq hokp))⟩, hg, hat'⟩
      rcases hat' with hat | ⟨b, hb, hle⟩
      · exact hok k (hat ▸ hk)
      · rw [hb] at hk
        injection hk with hk
        exact hfresh k (by omega)
  obtain ⟨v1, w1, hr1, h1, hg, hat⟩ := hrun
  refine wpList_plain hgd fun K hK => ?_
  unfold Oper.wp execOp
  simp only [ho, resolve, invoke, builtin, Sem.run_bind, Sem.run_pure, Result.andThen_ok, List.map_toArray, List.map_cons, List.map_nil, hs, hx, hr1]
  exact hK _ _ (h v1 w1 h1 (HB.grown hg hbase (own_base hown)) hg hat)
end
section
variable {P : Program} {fn : Func} {K : Ending → List Thing → Prop} {N : Nat} {k : List It} {a : Fr} {M M0 R : List Thing} {ops : Array Oper} {rest : List Oper} {T : List (Nat × TI)}
variable {d : Nat} {op : Op} {ty : TypeId} {pos : String} {af : Array Edge} {α : Type} {D : Kd α} {enc : α → List Value}
theorem SXL.appendW {t e bytes n c m cc : Nat} {s x : Operand} {A B : Option Addr} (D : Kd α) [hf : Flat D enc] {xs ys : List α} (hs : evalO a s = some (.slice A n c)) (hx : evalO a x = some (.slice B m cc)) (hat : At A M (rowR D e (.slice A n c) xs) R) (hy : Ro D B R ys) (hm : m = ys.length)
    (hrt : RowT P D t e bytes) (hl : ((xs.length + ys.length) + (xs.length + ys.length) / 4 + 192) * bytes ≤ 281474976710656) (hd : Nat.blt d N = true)
    (hK : ∀ A' c', (xs ++ ys).length ≤ c' → SXL P fn K N k ops rest ((d, .slice A' (xs ++ ys).length c') :: a) (.own A' (rowR D e (.slice A' (xs ++ ys).length c') (xs ++ ys)) :: R)) :
    SXL P fn K N k ops (⟨some d, .call ⟨.builtin .append, #[s, x], #[t, t]⟩, ty, pos, af, none⟩ :: rest) a M := by
  intro act w st
  have hM := st.holds.at_ hat
  obtain ⟨I, hI, S, hS, hr, hL⟩ := hM
  obtain ⟨S2, hC, _⟩ := hy.h _ _ _ hL
  obtain ⟨z, hz, hz2⟩ := hrt.z
  subst hm
  refine R_append_rowsW D (Rr := D.K w) (w0 := w) 0 rfl s x t e z bytes rfl hrt.u hz hz2 hrt.s0 hrt.b0 (.slice A n c) xs ys B ys.length cc (fun k => S k ∨ w.heap.size ≤ k) (fun _ => False) (evalO_ok st.fits hs) (evalO_ok st.fits hx)
    (Kd.R_mono hr (fun _ h => .inl h)) hC (fun x cs h => by rw [hf.out h]; exact hf.inM _ _ _ _) (fun _ h => h.elim) (fun k hk => .inr hk) (Below.refl 0 w) (Nat.zero_le _) hl ?_
  intro v1 w1 hr1 hb1 hg1 hat1
  obtain ⟨A', c', e1, hc', _⟩ := Kd.R_reads hr1
  subst e1
  refine hK A' c' hc' _ _ (st.put hd ?_)
  exact Holds.act1 hI hS hL ⟨hg1.os, hg1.tape, hg1.output⟩ hg1.size (fun k hk hn => hg1.block k hk (fun e => hn (hr.1 k e.symm))) (S' := fun k => (S k ∨ w.heap.size ≤ k) ∧ k < w1.heap.size) (fun k hk => hk)
    (Kd.R_mono (Kd.R_bound hr1) (fun k hk => ⟨hk.1, hk.2.2.1⟩))
end
end Go.Proofs.YtanemmcddgkpdaaGreat.Sx
end
section
/- Go code walked by what is known of slots and memory: noughts appended onto rows that are nearly as large as may be (the lemmas on the run are the printed words' own, with the wide bound); conditions: those that each theorem names. -/
namespace Go.Proofs.YtanemmcddgkpdaaGreat.Sx
open Go.RowKit Go.Proofs.YtanemmcddgkpdaaGreat.Hm Go.Proofs.YtanemmcddgkpdaaGreatW.PrintWords Go.Proofs.YtanemmcddgkpdaaGreatW.PrintLast Go.Proofs.YtanemmcddgkpdaaGreatW.PrintMore
set_option linter.unusedVariables false
set_option linter.unusedSimpArgs false
section
variable {P : Program}
end
section
open Kd
variable {P : Program} {α : Type}
end
section
variable {P : Program} {fn : Func} {K : Ending → List Thing → Prop} {N : Nat} {k : List It} {a : Fr} {M M0 R : List Thing} {ops : Array Oper} {rest : List Oper} {T : List (Nat × TI)}
variable {d : Nat} {op : Op} {ty : TypeId} {pos : String} {af : Array Edge} {α : Type} {D : Kd α} {enc : α → List Value}
/-- A literal of no elements. -/
theorem SXL.lit0 [hT : TOk P T] {t : Nat} {e : TypeId} {ti te : TI} (hl : lookT T t = some ti) (hs : ti.desc = .slice e) (hl2 : lookT T e = some te) (hd : Nat.blt d N = true)
    (hK : ∀ b, SXL P fn K N k ops rest ((d, .slice (some ⟨b, 0, none⟩) 0 0) :: a) (.own (some ⟨b, 0, none⟩) (cellsR b [] e) :: M)) : SXL P fn K N k ops (⟨some d, .buildSlice t 0 #[], ty, pos, af, none⟩ :: rest) a M :=
  SXL.step rfl (fun act w st => by
    have ht := tok (P := P) hl
    have ht2 := tok (P := P) hl2
    have h9 := ht.desc
    rw [hs] at h9
    have hr : (execOp act.eval ⟨some d, .buildSlice t 0 #[], ty, pos, af, none⟩).run P w = .ok (.value (.slice (some ⟨w.heap.size, 0, none⟩) 0 0)) (w.alloc (.cells #[] e)) := by
      simp [execOp, Instr.buildSlice, Sem.run_bind, h9, ht2.size, ht2.zero, Result.andThen_ok]
      rw [show Array.range 0 = #[] from rfl]
      simp [Instr.fill, newRow]
    unfold Oper.wp
    rw [hr]
    exact hK w.heap.size _ _ (st.put hd (st.holds.alloc #[] e)))
theorem SXL.emptyRow {l : List Oper} {e b : Nat} (D : Kd α) (hat : At (some ⟨b, 0, none⟩) M (cellsR b [] e) R)
    (h : SXL P fn K N k ops l a (.own (some ⟨b, 0, none⟩) (rowR D e (.slice (some ⟨b, 0, none⟩) ([] : List α).length 0) []) :: R)) : SXL P fn K N k ops l a M := by
  refine SXL.mem h (fun w hw => ?_)
  obtain ⟨I, hI, S, hS, hr, hL⟩ := hw.at_ hat
  refine ⟨I, hI, S, hS, ⟨fun k hk => ?_, [], ⟨by simp, .inr ⟨b, 0, #[], rfl, Nat.zero_le _, hr.2, Nat.le_refl _, Nat.zero_le _, by simp, by simp⟩⟩, Reps.none _ _⟩, hL⟩
  have h1 : b = k := by simpa [Value.ownBlock] using hk
  exact h1 ▸ hr.1
end
end Go.Proofs.YtanemmcddgkpdaaGreat.Sx
end
