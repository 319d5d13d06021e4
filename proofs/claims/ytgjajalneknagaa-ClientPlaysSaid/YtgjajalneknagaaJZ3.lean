/- Part Z3 of the lemmas and walks of the Go functions that these statements reach; conditions: those that each theorem names. -/
import Derived.Test.YtgjajalneknagaaJX2
import Derived.Deep.DeepAppendWide
import Derived.Test.YtgjajalneknagaaJZ2
section
/- Go code walked by what is known of slots and memory: append onto rows that are nearly as large as may be; conditions: those that each theorem names. -/
namespace Go.Proofs.Ytgjajalneknagaa.Sx
open Go.RowKit Go.Proofs.Ytgjajalneknagaa.Hm Go.Proofs.YtgjajalneknagaaW.PrintWords Go.Proofs.YtgjajalneknagaaW.PrintLast Go.Proofs.YtgjajalneknagaaW.PrintMore
set_option linter.unusedVariables false
set_option linter.unusedSimpArgs false

section
variable {P : Program} (w : World)
/-- append within the wide bound: where the new row lies. -/
theorem append_at_wide (base : Nat) (t ty e : TypeId) (i : TypeInfo) (z : Value) (size bytes : Nat) (ht : P.underlying t = some (.slice e)) (hi : P.info? e = some i) (hz : i.zero = some z)
    (hsize : i.size = size) (hby : i.bytes = bytes) (hzs : z.cells.size = size) (hsz : 0 < size) (v : Value) (n : Nat) (xs : List Value) (hown : w.ownsRow base e size v n xs)
    (a : Addr) (m c : Nat) (news : List Value) (hl : news.length = m * size) (hnews : ∀ j u, news[j]? = some u → w.cell? (a.add j) = some u) (h1 : ∀ u ∈ news, u.oneCell' = true)
    (h63 : n + m ≤ maxLen) (hbytes : ((n + m) + (n + m) / 4 + 192) * bytes ≤ 281474976710656) (hbase : base ≤ w.heap.size) :
    ∃ v' w', (Builtin.append_ #[t, t] ty #[v, .slice (some a) m c]).run P w = .ok v' w' ∧ w'.ownsRow base e size v' (n + m) (xs ++ news) ∧ w.grownBy w' v.ownBlock ∧ (v'.ownBlock = v.ownBlock ∨ v'.ownBlock = some w.heap.size) := by
  obtain ⟨v', w', hr, h2, h3, h4⟩ := run_append_own_wide (P := P) w base t ty e i z size bytes ht hi hz hsize hby hzs hsz v n xs hown a m c news hl hnews h1 h63 hbytes hbase
  refine ⟨v', w', hr, h2, h3, ?_⟩
  subst hsize
  subst hby
  have hm63 : n + m ≤ 9223372036854775807 := by simp only [maxLen] at h63; omega
  rcases hown.2 with ⟨rfl, rfl⟩ | ⟨g, cap, cur, rfl, hbg, hg, hnc, hcm, hcs, htake⟩
  · by_cases hm : m = 0
    · rw [h4.2 ⟨rfl, hm⟩]
      exact .inl rfl
    · have hx := run_append_nil (P := P) w t ty e i z ht hi hz a m c news hl hnews (by omega) (by omega) (by have hb := hbytes; simp only [Nat.zero_add] at hb; exact Nat.le_trans (Nat.mul_le_mul_right _ (by omega)) hb)
      rw [hr] at hx
      injection hx with hx _
      subst hx
      exact .inr rfl
  · by_cases hroom : n + m ≤ cap
    · have hx := run_append_room (P := P) w t ty e i ht hi g n cap cur hg a m c news hl hnews h1 hroom (by rw [hl, hcs, ← Nat.add_mul]; exact Nat.mul_le_mul_right _ hroom)
      rw [hr] at hx
      injection hx with hx _
      subst hx
      exact .inl rfl
    · have holds : ∀ j u, xs[j]? = some u → w.cell? ((⟨g, 0, none⟩ : Addr).add j) = some u := hown.cells (g := g) rfl
      have hx := run_append_grow (P := P) w t ty e i z ht hi hz ⟨g, 0, none⟩ n cap xs hown.1 holds a m c news hl hnews (by omega) (by omega) (growslice_fits_wide (by omega) hbytes)
      rw [hr] at hx
      injection hx with hx _
      subst hx
      exact .inr rfl
end
section
open Kd
variable {P : Program} {ops : Array Oper} {rest : List Oper} {o : Oper} {a : Act} {Q : Exit → Act → World → Prop} {α : Type}
theorem R_append_rowsW (d : Kd α) {Rr : α → List Value → Prop} {w0 W : World} (base : Nat) (hgd : o.guard = none) (s x : Operand) (t e : TypeId) (z : Value) (bytes : Nat)
    (ho : o.op = .call { callee := .builtin .append, args := #[s, x], argTypes := #[t, t] })
    (ht : P.underlying t = some (.slice e)) (hinfo : (P.info? e).map (fun i => (i.zero, i.size, i.bytes)) = some (some z, d.sz, bytes)) (hz : z.cells.size = d.sz) (hs0 : 0 < d.sz) (hb0 : 0 < bytes)
    (v : Value) (xs ys : List α) (A : Option Addr) (m c : Nat) (ok okp : Nat → Prop) (hs : a.eval s = v) (hx : a.eval x = .slice A m c)
    (HO : d.R e W base ok v xs) (HR : ReadsRow Rr d.sz W A m ys) (hKM : ∀ x cs, Rr x cs → d.M W base okp x cs) (hokp : ∀ k, okp k → ok k ∧ some k ≠ v.ownBlock) (hfresh : ∀ k, W.heap.size ≤ k → ok k)
    (HB : Below base w0 W) (hbase : base ≤ W.heap.size) (hl : ((xs.length + m) + (xs.length + m) / 4 + 192) * bytes ≤ 281474976710656)
    (h : ∀ v1 w1, d.R e w1 base ok v1 (xs ++ ys) → Below base w0 w1 → W.grownBy w1 v.ownBlock → (v1.ownBlock = v.ownBlock ∨ ∃ b, v1.ownBlock = some b ∧ W.heap.size ≤ b) → wpList P ops Q rest (a.put o.dst v1) w1) :
    wpList P ops Q (o :: rest) a W := by
  obtain ⟨i0, hi, hzz⟩ := Option.map_eq_some_iff.1 hinfo
  simp only [Prod.mk.injEq] at hzz
  obtain ⟨hz0, hz1, hz2⟩ := hzz
  have hm : ys.length = m := HR.1
  have hlen : (xs.length + m) + (xs.length + m) / 4 + 192 ≤ 281474976710656 := Nat.le_trans (Nat.le_mul_of_pos_right _ hb0) hl
  obtain ⟨hok, inner, hown, hr⟩ := HO
  have hrun : ∃ v1 w1, (Builtin.append_ #[t, t] o.type #[v, .slice A m c]).run P W = .ok v1 w1 ∧ d.R e w1 base ok v1 (xs ++ ys) ∧ W.grownBy w1 v.ownBlock ∧ (v1.ownBlock = v.ownBlock ∨ ∃ b, v1.ownBlock = some b ∧ W.heap.size ≤ b) := by
    rcases A with _ | ad
    · have h0 : m = 0 := by
        rcases Nat.eq_zero_or_pos m with h0 | h0
        · exact h0
        · obtain ⟨ad, h, _⟩ := HR.2.2 h0
          cases h
      subst h0
      obtain rfl : ys = [] := List.eq_nil_of_length_eq_zero hm
      refine ⟨v, W, ?_, by rw [List.append_nil]; exact ⟨hok, inner, hown, hr⟩, World.grownBy.refl W _, .inl rfl⟩
      rcases hown.2 with ⟨rfl, hn⟩ | ⟨g, cap, cur, rfl, _, _, hnc, _⟩
      · simp [Builtin.append_, run_underlying ht, sizeOf, typeInfo, hi, Builtin.lenOf, Builtin.firstCells]
      · simp [Builtin.append_, run_underlying ht, sizeOf, typeInfo, hi, Builtin.lenOf, Builtin.firstCells, hnc, storeCells]
    · obtain ⟨news, hnr, hnc⟩ := ReadsRow.inner_ HR
      have hnM : Reps (d.M W base okp) d.sz ys news := hnr.imp_ (fun p c hp => hKM p c hp)
      have hone : ∀ u ∈ news, u.oneCell' = true := by
        intro u hu
        obtain ⟨q, hq, rfl⟩ := List.mem_iff_getElem.1 hu
        have hql : q / d.sz < ys.length := by
          rw [Nat.div_lt_iff_lt_mul hs0]
          rw [← hnM.1]
          exact hq
        have hc := hnM.2 (q / d.sz) _ (List.getElem?_eq_getElem hql)
        refine d.K_one (d.K_of_M hc) _ ?_
        rw [List.mem_iff_getElem?]
        refine ⟨q % d.sz, ?_⟩
        rw [List.getElem?_take, if_pos (Nat.mod_lt _ hs0), List.getElem?_drop, Nat.mul_comm, Nat.div_add_mod, List.getElem?_eq_getElem hq]
      obtain ⟨v1, w1, hrun, h2, hg, hat⟩ := append_at_wide (P := P) W base t o.type e i0 z d.sz bytes ht hi hz0 hz1 hz2 hz hs0 v xs.length inner hown ad m c news (by rw [hnM.1, hm]) hnc hone (by simp only [maxLen]; omega) hl hbase
      have hat' : v1.ownBlock = v.ownBlock ∨ ∃ b, v1.ownBlock = some b ∧ W.heap.size ≤ b := by
        rcases hat with hat | hat
        · exact .inl hat
        · exact .inr ⟨_, hat, Nat.le_refl _⟩
      have hne : ∀ k, some k ≠ v.ownBlock → k < W.heap.size → some k ≠ v1.ownBlock := by
        intro k hk hlt
        rcases hat' with hat | ⟨b, hb, hle⟩
        · rw [hat]; exact hk
        · rw [hb]
          intro he
          injection he with he
          omega
      have step : ∀ {q : α} {c : List Value} {o : Nat → Prop}, d.M W base o q c → (∀ k, o k → ok k ∧ some k ≠ v.ownBlock) → d.M w1 base (fun k => ok k ∧ some k ≠ v1.ownBlock) q c := by
        intro q c o hq ho
        have h1 := d.M_move (w1 := w1) (fun k hk => hg.block k hk.2.2.1 (ho k hk.1).2) (d.M_bound hq)
        exact d.M_mono (fun k hk => ⟨(ho k hk.1).1, hne k (ho k hk.1).2 hk.2.2.1⟩) h1
      refine ⟨v1, w1, hrun, ⟨fun k hk => ?_, inner ++ news, by rw [List.length_append, hm]; exact h2, reps_append (hr.imp_ (fun _ _ hq => step hq (fun _ hk => hk))) (hnM.imp_ (fun _ _ hq => step hq hokp))⟩, hg, hat'⟩
      rcases hat' with hat | ⟨b, hb, hle⟩
      · exact hok k (hat ▸ hk)
      · rw [hb] at hk
        injection hk with hk
        exact hfresh k (by omega)
  obtain ⟨v1, w1, hr1, h1, hg, hat⟩ := hrun
  refine wpList_plain hgd fun K hK => ?_
  unfold Oper.wp execOp
  simp only [ho, resolve, invoke, builtin, Sem.run_bind, Sem.run_pure, Result.andThen_ok, List.map_toArray, List.map_cons, List.map_nil, hs, hx, hr1]
  exact hK _ _ (h v1 w1 h1 (HB.grown hg hbase (own_base hown)) hg hat)
end
section
variable {P : Program} {fn : Func} {K : Ending → List Thing → Prop} {N : Nat} {k : List It} {a : Fr} {M M0 R : List Thing} {ops : Array Oper} {rest : List Oper} {T : List (Nat × TI)}
variable {d : Nat} {op : Op} {ty : TypeId} {pos : String} {af : Array Edge} {α : Type} {D : Kd α} {enc : α → List Value}
theorem SXL.appendW {t e bytes n c m cc : Nat} {s x : Operand} {A B : Option Addr} (D : Kd α) [hf : Flat D enc] {xs ys : List α} (hs : evalO a s = some (.slice A n c)) (hx : evalO a x = some (.slice B m cc)) (hat : At A M (rowR D e (.slice A n c) xs) R) (hy : Ro D B R ys) (hm : m = ys.length)
    (hrt : RowT P D t e bytes) (hl : ((xs.length + ys.length) + (xs.length + ys.length) / 4 + 192) * bytes ≤ 281474976710656) (hd : Nat.blt d N = true)
    (hK : ∀ A' c', (xs ++ ys).length ≤ c' → SXL P fn K N k ops rest ((d, .slice A' (xs ++ ys).length c') :: a) (.own A' (rowR D e (.slice A' (xs ++ ys).length c') (xs ++ ys)) :: R)) :
    SXL P fn K N k ops (⟨some d, .call ⟨.builtin .append, #[s, x], #[t, t]⟩, ty, pos, af, none⟩ :: rest) a M := by
  intro act w st
  have hM := st.holds.at_ hat
  obtain ⟨I, hI, S, hS, hr, hL⟩ := hM
  obtain ⟨S2, hC, _⟩ := hy.h _ _ _ hL
  obtain ⟨z, hz, hz2⟩ := hrt.z
  subst hm
  refine R_append_rowsW D (Rr := D.K w) (w0 := w) 0 rfl s x t e z bytes rfl hrt.u hz hz2 hrt.s0 hrt.b0 (.slice A n c) xs ys B ys.length cc (fun k => S k ∨ w.heap.size ≤ k) (fun _ => False) (evalO_ok st.fits hs) (evalO_ok st.fits hx)
    (Kd.R_mono hr (fun _ h => .inl h)) hC (fun x cs h => by rw [hf.out h]; exact hf.inM _ _ _ _) (fun _ h => h.elim) (fun k hk => .inr hk) (Below.refl 0 w) (Nat.zero_le _) hl ?_
  intro v1 w1 hr1 hb1 hg1 hat1
  obtain ⟨A', c', e1, hc', _⟩ := Kd.R_reads hr1
  subst e1
  refine hK A' c' hc' _ _ (st.put hd ?_)
  exact Holds.act1 hI hS hL ⟨hg1.os, hg1.tape, hg1.output⟩ hg1.size (fun k hk hn => hg1.block k hk (fun e => hn (hr.1 k e.symm))) (S' := fun k => (S k ∨ w.heap.size ≤ k) ∧ k < w1.heap.size) (fun k hk => hk)
    (Kd.R_mono (Kd.R_bound hr1) (fun k hk => ⟨hk.1, hk.2.2.1⟩))
end
end Go.Proofs.Ytgjajalneknagaa.Sx
end
section
/- Chapter 21's law: what it calls, walked: calls, replies, messages as the model has them; conditions: those that each theorem names. -/
namespace Go.Proofs.Ytgjajalneknagaa.Sx
open Go.RowKit Go.Proofs.Ytgjajalneknagaa.Hm Go.Proofs.YtgjajalneknagaaW.PrintWords Go.Proofs.YtgjajalneknagaaW.PrintLast Go.Proofs.YtgjajalneknagaaW.PrintMore
set_option linter.unusedVariables false
set_option linter.unusedSimpArgs false
attribute [local irreducible] SX SXL SXA St callK Post Evals

section
variable {F R : List Thing} {K : Ending → List Thing → Prop} {A B C D : Option Addr} {c c2 a1 a2 a3 a4 : Nat}
theorem callOf21_S {s : Ca} (hr : Ro (Kd.int .u8) A F s.d) (h : K (.returned (.agg (raC s).toArray)) F) : Fn (Try.prog) 13 [.agg (caC s A c).toArray] F K := by
  unfold caC
  refine Fn.enter Try.call13 Try.func13 rfl rfl rfl ?_
  repeat (first | refine Qa ?_ | refine Qb ?_ | refine Qc ?_ | refine Qd ?_ | refine Qe ?_ | refine Qf ?_ | refine Qg ?_ | refine Qh ?_ | refine Qi ?_ | refine Qj ?_ | refine Qk ?_ | refine Ql ?_ | refine Qm ?_ | refine Qn ?_ | refine Qo ?_ | refine Qp ?_ | refine Qq ?_ | fail)
  refine SXL.box rfl rfl rfl (fun b => ?_)
  repeat (first | refine Qa ?_ | refine Qb ?_ | refine Qc ?_ | refine Qd ?_ | refine Qe ?_ | refine Qf ?_ | refine Qg ?_ | refine Qh ?_ | refine Qi ?_ | refine Qj ?_ | refine Qk ?_ | refine Ql ?_ | refine Qm ?_ | refine Qn ?_ | refine Qo ?_ | refine Qp ?_ | refine Qq ?_ | fail)
  refine SXL.alloc rfl rfl (fun q => ?_)
  repeat (first | refine Qa ?_ | refine Qb ?_ | refine Qc ?_ | refine Qd ?_ | refine Qe ?_ | refine Qf ?_ | refine Qg ?_ | refine Qh ?_ | refine Qi ?_ | refine Qj ?_ | refine Qk ?_ | refine Ql ?_ | refine Qm ?_ | refine Qn ?_ | refine Qo ?_ | refine Qp ?_ | refine Qq ?_ | fail)
  refine SXL.bytesStr rfl inferInstance rfl Try.underlying38 Try.underlying5 Try.underlying9 rfl ?_
  repeat (first | refine Qa ?_ | refine Qb ?_ | refine Qc ?_ | refine Qd ?_ | refine Qe ?_ | refine Qf ?_ | refine Qg ?_ | refine Qh ?_ | refine Qi ?_ | refine Qj ?_ | refine Qk ?_ | refine Ql ?_ | refine Qm ?_ | refine Qn ?_ | refine Qo ?_ | refine Qp ?_ | refine Qq ?_ | fail)
  refine SX.ret (M' := F) rfl (Evals.cell rfl inferInstance rfl Evals.nil) ?_ inferInstance
  exact h
set_option maxHeartbeats 1000000 in
set_option maxRecDepth 20000 in
theorem replyOf21_S {s : Re} (hr : Ro (Kd.int .u8) A F s.d) (hre : Ro kE B F s.e) (hl : s.e.length ≤ 4398046510976) (hc2 : s.e.length ≤ c2) (h : ∀ B' c', s.e.length ≤ c' → K (.returned (.agg (rrC s B' c').toArray)) (.own B' (rowR kE 102 (.slice B' s.e.length c') s.e) :: F)) : Fn (Try.prog) 19 [.agg (reC s A c B c2).toArray] F K := by
  unfold reC
  refine Fn.enter Try.call19 Try.func19 rfl rfl rfl ?_
  repeat (first | refine Qa ?_ | refine Qb ?_ | refine Qc ?_ | refine Qd ?_ | refine Qe ?_ | refine Qf ?_ | refine Qg ?_ | refine Qh ?_ | refine Qi ?_ | refine Qj ?_ | refine Qk ?_ | refine Ql ?_ | refine Qm ?_ | refine Qn ?_ | refine Qo ?_ | refine Qp ?_ | refine Qq ?_ | fail)
  refine SXL.box rfl rfl rfl (fun b => ?_)
  repeat (first | refine Qa ?_ | refine Qb ?_ | refine Qc ?_ | refine Qd ?_ | refine Qe ?_ | refine Qf ?_ | refine Qg ?_ | refine Qh ?_ | refine Qi ?_ | refine Qj ?_ | refine Qk ?_ | refine Ql ?_ | refine Qm ?_ | refine Qn ?_ | refine Qo ?_ | refine Qp ?_ | refine Qq ?_ | fail)
  refine SXL.alloc rfl rfl (fun q => ?_)
  repeat (first | refine Qa ?_ | refine Qb ?_ | refine Qc ?_ | refine Qd ?_ | refine Qe ?_ | refine Qf ?_ | refine Qg ?_ | refine Qh ?_ | refine Qi ?_ | refine Qj ?_ | refine Qk ?_ | refine Ql ?_ | refine Qm ?_ | refine Qn ?_ | refine Qo ?_ | refine Qp ?_ | refine Qq ?_ | fail)
  refine SXL.bytesStr rfl inferInstance rfl Try.underlying38 Try.underlying5 Try.underlying9 rfl ?_
  repeat (first | refine Qa ?_ | refine Qb ?_ | refine Qc ?_ | refine Qd ?_ | refine Qe ?_ | refine Qf ?_ | refine Qg ?_ | refine Qh ?_ | refine Qi ?_ | refine Qj ?_ | refine Qk ?_ | refine Ql ?_ | refine Qm ?_ | refine Qn ?_ | refine Qo ?_ | refine Qp ?_ | refine Qq ?_ | fail)
  refine SXL.alloc rfl rfl (fun b3 => ?_)
  repeat (first | refine Qa ?_ | refine Qb ?_ | refine Qc ?_ | refine Qd ?_ | refine Qe ?_ | refine Qf ?_ | refine Qg ?_ | refine Qh ?_ | refine Qi ?_ | refine Qj ?_ | refine Qk ?_ | refine Ql ?_ | refine Qm ?_ | refine Qn ?_ | refine Qo ?_ | refine Qp ?_ | refine Qq ?_ | fail)
  refine SX.loop (fun z a M => ∃ (i : Nat) (B' : Option Addr) (c' : Nat), i + z = s.e.length ∧ (s.e.take i).length ≤ c' ∧ a = [(1, .pointer (some ⟨b, 0, none⟩)), (2, .pointer (some ⟨q, 0, none⟩)), (3, .pointer (some ⟨b3, 0, none⟩)), (4, .int .i64 i)] ∧
      .own B' (rowR kE 102 (.slice B' (s.e.take i).length c') (s.e.take i)) :: .own (some ⟨b3, 0, none⟩) (cellsR b3 (rrC { s with e := s.e.take i } B' c') 66) :: .own (some ⟨q, 0, none⟩) (cellsR q (rrC Re0 none 0) 66) :: .own (some ⟨b, 0, none⟩) (cellsR b (reC s A c B c2) 45) :: F = M)
    s.e.length ⟨0, none, 0, by omega, Nat.le_refl _, rfl, rfl⟩ (by repeat (first | exact trivial | refine ⟨rfl, ?_⟩)) (show Sub _ (.own none (rowR kE 102 (.slice none ([] : List Ent).length 0) []) :: .own (some ⟨b3, 0, none⟩) (cellsR b3 [.int .u32 s.client, .int .u32 s.xid, .int .i64 s.st, .int .u32 s.ai, .int .u32 s.ag, .int .u32 s.ak, .int .u32 s.am, .int .u32 s.al, .int .u32 s.sz, .int .u64 s.ac, .string (strOfNums s.d), .slice none 0 0, .bool s.eof, .int .u64 s.verf, .int .u32 s.free] 66) :: .own (some ⟨q, 0, none⟩) (cellsR q [.int .u32 0, .int .u32 0, .int .i64 0, .int .u32 0, .int .u32 0, .int .u32 0, .int .u32 0, .int .u32 0, .int .u32 0, .int .u64 0, .string ⟨#[]⟩, .slice none 0 0, .bool false, .int .u64 0, .int .u32 0] 66) :: .own (some ⟨b, 0, none⟩) (cellsR b (reC s A c B c2) 45) :: F) from by unfold reC; infer_instance) ?_
  rintro z _ _ ⟨i, B', c', hz, hc', rfl, rfl⟩
  have hti : (s.e.take i).length = i := by rw [List.length_take]; omega
  unfold rrC reC
  repeat (first | refine Qa ?_ | refine Qb ?_ | refine Qc ?_ | refine Qd ?_ | refine Qe ?_ | refine Qf ?_ | refine Qg ?_ | refine Qh ?_ | refine Qi ?_ | refine Qj ?_ | refine Qk ?_ | refine Ql ?_ | refine Qm ?_ | refine Qn ?_ | refine Qo ?_ | refine Qp ?_ | refine Qq ?_ | fail)
  refine SX.condp rfl (fun hi => ?_) (fun hi => ?_)
  · obtain ⟨e, he⟩ : ∃ e, s.e[i]? = some e := ⟨_, List.getElem?_eq_getElem (by omega)⟩
    refine SX.addr (A := B) kE (by decide) (xs := s.e) (by omega) (fun b4 o4 e4 => ?_)
    subst e4
    repeat (first | refine Qa ?_ | refine Qb ?_ | refine Qc ?_ | refine Qd ?_ | refine Qe ?_ | refine Qf ?_ | refine Qg ?_ | refine Qh ?_ | refine Qi ?_ | refine Qj ?_ | refine Qk ?_ | refine Ql ?_ | refine Qm ?_ | refine Qn ?_ | refine Qo ?_ | refine Qp ?_ | refine Qq ?_ | fail)
    refine SXA.begin (.own (some ⟨b3, 0, none⟩) (cellsR b3 (rrC { s with e := s.e.take i } B' c') 66) :: .own (some ⟨b, 0, none⟩) (cellsR b (reC s A c (some ⟨b4, o4, none⟩) c2) 45) :: F) [24] ?_
    unfold rrC reC
    (first | refine Qr 0 ?_ | refine Qs 0 ?_ | refine Qt 0 ?_ | refine Qu 0 ?_ | fail)
    (first | refine Qr 1 ?_ | refine Qs 1 ?_ | refine Qt 1 ?_ | refine Qu 1 ?_ | fail)
    (first | refine Qr 2 ?_ | refine Qs 2 ?_ | refine Qt 2 ?_ | refine Qu 2 ?_ | fail)
    (first | refine Qr 3 ?_ | refine Qs 3 ?_ | refine Qt 3 ?_ | refine Qu 3 ?_ | fail)
    (first | refine Qr 4 ?_ | refine Qs 4 ?_ | refine Qt 4 ?_ | refine Qu 4 ?_ | fail)
    (first | refine Qr 8 ?_ | refine Qs 8 ?_ | refine Qt 8 ?_ | refine Qu 8 ?_ | fail)
    (first | refine Qr 9 ?_ | refine Qs 9 ?_ | refine Qt 9 ?_ | refine Qu 9 ?_ | fail)
    (first | refine Qr 10 ?_ | refine Qs 10 ?_ | refine Qt 10 ?_ | refine Qu 10 ?_ | fail)
    (first | refine Qr 14 ?_ | refine Qs 14 ?_ | refine Qt 14 ?_ | refine Qu 14 ?_ | fail)
    (first | refine Qr 15 ?_ | refine Qs 15 ?_ | refine Qt 15 ?_ | refine Qu 15 ?_ | fail)
    (first | refine Qr 16 ?_ | refine Qs 16 ?_ | refine Qt 16 ?_ | refine Qu 16 ?_ | fail)
    refine SXA.idx 5 rfl (by decide +kernel) rfl rfl rfl rfl rfl rfl (by omega) (by omega) rfl inferInstance ?_
    refine SXA.idx 11 rfl (by decide +kernel) rfl rfl rfl rfl rfl rfl (by omega) (by omega) rfl inferInstance ?_
    refine SXA.idx 17 rfl (by decide +kernel) rfl rfl rfl rfl rfl rfl (by omega) (by omega) rfl inferInstance ?_
    (first | refine Qr 6 ?_ | refine Qs 6 ?_ | refine Qt 6 ?_ | refine Qu 6 ?_ | fail)
    (first | refine Qr 12 ?_ | refine Qs 12 ?_ | refine Qt 12 ?_ | refine Qu 12 ?_ | fail)
    (first | refine Qr 18 ?_ | refine Qs 18 ?_ | refine Qt 18 ?_ | refine Qu 18 ?_ | fail)
    refine SXA.loadRow1 7 kE rfl (by decide +kernel) rfl rfl rfl inferInstance (by rw [Int.toNat_natCast]; exact he) rfl rfl inferInstance ?_
    refine SXA.loadRow1 13 kE rfl (by decide +kernel) rfl rfl rfl inferInstance (by rw [Int.toNat_natCast]; exact he) rfl rfl inferInstance ?_
    refine SXA.loadRow1 19 kE rfl (by decide +kernel) rfl rfl rfl inferInstance (by rw [Int.toNat_natCast]; exact he) rfl rfl inferInstance ?_
    (first | refine Qr 20 ?_ | refine Qs 20 ?_ | refine Qt 20 ?_ | refine Qu 20 ?_ | fail)
    refine Qw 21 ?_
    refine SXL.lit rfl rfl (fun g => ?_)
    refine SXL.litRow kE g [e] inferInstance rfl (fun _ => rfl) (by simp) ?_
    refine SXL.nil (SXA.next inferInstance ?_)
    refine Qw 22 ?_
    refine SXL.appendW kE rfl rfl inferInstance inferInstance rfl inferInstance (by simp; omega) rfl (fun A' d' hd' => ?_)
    refine SXL.nil (SXA.next inferInstance ?_)
    (first | refine Qr 23 ?_ | refine Qs 23 ?_ | refine Qt 23 ?_ | refine Qu 23 ?_ | fail)
    have htk : s.e.take i ++ [e] = s.e.take (i + 1) := by
      obtain ⟨hil, hv⟩ := List.getElem?_eq_some_iff.1 he
      rw [List.take_succ_eq_append_getElem hil, hv]
    rw [htk] at hd' ⊢
    refine SXA.storeLast 24 rfl (by decide +kernel) rfl rfl inferInstance rfl rfl ?_
    refine Qv ?_
    repeat (first | refine Qa ?_ | refine Qb ?_ | refine Qc ?_ | refine Qd ?_ | refine Qe ?_ | refine Qf ?_ | refine Qg ?_ | refine Qh ?_ | refine Qi ?_ | refine Qj ?_ | refine Qk ?_ | refine Ql ?_ | refine Qm ?_ | refine Qn ?_ | refine Qo ?_ | refine Qp ?_ | refine Qq ?_ | fail)
    refine SX.same 4 (.int .i64 ((i + 1 : Nat) : Int)) rfl (by simp (disch := omega) only [IntWalk.i64_in, IntWalk.u8_in, IntWalk.u32_in, IntWalk.u64_in, IntWalk.rem_in, Int.natCast_add, Int.natCast_one]) ?_
    refine SX.again (z - 1) (by omega) ⟨i + 1, A', d', by omega, hd', rfl, rfl⟩ (by repeat (first | exact trivial | refine ⟨rfl, ?_⟩)) inferInstance
  · have hi' : i = s.e.length := by omega
    rw [hi', List.take_length] at hc' ⊢
    repeat (first | refine Qa ?_ | refine Qb ?_ | refine Qc ?_ | refine Qd ?_ | refine Qe ?_ | refine Qf ?_ | refine Qg ?_ | refine Qh ?_ | refine Qi ?_ | refine Qj ?_ | refine Qk ?_ | refine Ql ?_ | refine Qm ?_ | refine Qn ?_ | refine Qo ?_ | refine Qp ?_ | refine Qq ?_ | fail)
    refine SX.ret (M' := (.own B' (rowR kE 102 (.slice B' s.e.length c') s.e) :: F)) rfl (Evals.cell rfl inferInstance rfl Evals.nil) ?_ inferInstance
    exact h B' c' hc'
theorem ctlOf21_S {s : Ctl} (hr : Ro (Kd.int .u8) A F s.d) (h : K (.returned (.agg (rtC s).toArray)) F) : Fn (Try.prog) 30 [.agg (ctC s A c).toArray] F K := by
  unfold ctC
  refine Fn.enter Try.call30 Try.func30 rfl rfl rfl ?_
  repeat (first | refine Qa ?_ | refine Qb ?_ | refine Qc ?_ | refine Qd ?_ | refine Qe ?_ | refine Qf ?_ | refine Qg ?_ | refine Qh ?_ | refine Qi ?_ | refine Qj ?_ | refine Qk ?_ | refine Ql ?_ | refine Qm ?_ | refine Qn ?_ | refine Qo ?_ | refine Qp ?_ | refine Qq ?_ | fail)
  refine SXL.box rfl rfl rfl (fun b => ?_)
  repeat (first | refine Qa ?_ | refine Qb ?_ | refine Qc ?_ | refine Qd ?_ | refine Qe ?_ | refine Qf ?_ | refine Qg ?_ | refine Qh ?_ | refine Qi ?_ | refine Qj ?_ | refine Qk ?_ | refine Ql ?_ | refine Qm ?_ | refine Qn ?_ | refine Qo ?_ | refine Qp ?_ | refine Qq ?_ | fail)
  refine SXL.alloc rfl rfl (fun q => ?_)
  repeat (first | refine Qa ?_ | refine Qb ?_ | refine Qc ?_ | refine Qd ?_ | refine Qe ?_ | refine Qf ?_ | refine Qg ?_ | refine Qh ?_ | refine Qi ?_ | refine Qj ?_ | refine Qk ?_ | refine Ql ?_ | refine Qm ?_ | refine Qn ?_ | refine Qo ?_ | refine Qp ?_ | refine Qq ?_ | fail)
  refine SXL.bytesStr rfl inferInstance rfl Try.underlying38 Try.underlying5 Try.underlying9 rfl ?_
  repeat (first | refine Qa ?_ | refine Qb ?_ | refine Qc ?_ | refine Qd ?_ | refine Qe ?_ | refine Qf ?_ | refine Qg ?_ | refine Qh ?_ | refine Qi ?_ | refine Qj ?_ | refine Qk ?_ | refine Ql ?_ | refine Qm ?_ | refine Qn ?_ | refine Qo ?_ | refine Qp ?_ | refine Qq ?_ | fail)
  refine SX.ret (M' := F) rfl (Evals.cell rfl inferInstance rfl Evals.nil) ?_ inferInstance
  exact h
set_option maxHeartbeats 1000000 in
set_option maxRecDepth 20000 in
theorem msgOf21_S {m : Msg} (hrA : Ro (Kd.int .u8) A F m.c.d) (hrB : Ro (Kd.int .u8) B F m.r.d) (hrC : Ro kE C F m.r.e) (hrD : Ro (Kd.int .u8) D F m.t.d) (hl : m.r.e.length ≤ 4398046510976) (hC : m.r.e.length ≤ a3) (h : ∀ B' c', m.r.e.length ≤ c' → K (.returned (.agg (mrC m B' c').toArray)) (.own B' (rowR kE 102 (.slice B' m.r.e.length c') m.r.e) :: F)) : Fn (Try.prog) 17 [.agg (msC m A a1 B a2 C a3 D a4).toArray] F K := by
  unfold msC
  refine Fn.enter Try.call17 Try.func17 rfl rfl rfl ?_
  repeat (first | refine Qa ?_ | refine Qb ?_ | refine Qc ?_ | refine Qd ?_ | refine Qe ?_ | refine Qf ?_ | refine Qg ?_ | refine Qh ?_ | refine Qi ?_ | refine Qj ?_ | refine Qk ?_ | refine Ql ?_ | refine Qm ?_ | refine Qn ?_ | refine Qo ?_ | refine Qp ?_ | refine Qq ?_ | fail)
  refine SXL.box rfl rfl rfl (fun b => ?_)
  repeat (first | refine Qa ?_ | refine Qb ?_ | refine Qc ?_ | refine Qd ?_ | refine Qe ?_ | refine Qf ?_ | refine Qg ?_ | refine Qh ?_ | refine Qi ?_ | refine Qj ?_ | refine Qk ?_ | refine Ql ?_ | refine Qm ?_ | refine Qn ?_ | refine Qo ?_ | refine Qp ?_ | refine Qq ?_ | fail)
  refine SXL.alloc rfl rfl (fun q => ?_)
  repeat (first | refine Qa ?_ | refine Qb ?_ | refine Qc ?_ | refine Qd ?_ | refine Qe ?_ | refine Qf ?_ | refine Qg ?_ | refine Qh ?_ | refine Qi ?_ | refine Qj ?_ | refine Qk ?_ | refine Ql ?_ | refine Qm ?_ | refine Qn ?_ | refine Qo ?_ | refine Qp ?_ | refine Qq ?_ | fail)
  refine SXA.begin (.own (some ⟨b, 0, none⟩) (cellsR b (msC m A a1 B a2 C a3 D a4) 49) :: F) [12] ?_
  unfold msC
  (first | refine Qr 0 ?_ | refine Qs 0 ?_ | refine Qt 0 ?_ | refine Qu 0 ?_ | fail)
  (first | refine Qr 1 ?_ | refine Qs 1 ?_ | refine Qt 1 ?_ | refine Qu 1 ?_ | fail)
  (first | refine Qr 2 ?_ | refine Qs 2 ?_ | refine Qt 2 ?_ | refine Qu 2 ?_ | fail)
  (first | refine Qr 3 ?_ | refine Qs 3 ?_ | refine Qt 3 ?_ | refine Qu 3 ?_ | fail)
  (first | refine Qr 5 ?_ | refine Qs 5 ?_ | refine Qt 5 ?_ | refine Qu 5 ?_ | fail)
  (first | refine Qr 6 ?_ | refine Qs 6 ?_ | refine Qt 6 ?_ | refine Qu 6 ?_ | fail)
  (first | refine Qr 8 ?_ | refine Qs 8 ?_ | refine Qt 8 ?_ | refine Qu 8 ?_ | fail)
  (first | refine Qr 9 ?_ | refine Qs 9 ?_ | refine Qt 9 ?_ | refine Qu 9 ?_ | fail)
  refine Qw 4 ?_
  refine SXL.call rfl rfl rfl ?_
  refine (callOf21_S (s := m.c) (A := A) inferInstance (callK.ret ?_))
  refine SXL.nil (SXA.next inferInstance ?_)
  refine Qw 7 ?_
  refine SXL.call rfl rfl rfl ?_
  refine (replyOf21_S (s := m.r) (A := B) (B := C) inferInstance inferInstance hl hC (fun B' d' hd' => callK.ret ?_))
  refine SXL.nil (SXA.next inferInstance ?_)
  refine Qw 10 ?_
  refine SXL.call rfl rfl rfl ?_
  refine (ctlOf21_S (s := m.t) (A := D) inferInstance (callK.ret ?_))
  refine SXL.nil (SXA.next inferInstance ?_)
  (first | refine Qr 11 ?_ | refine Qs 11 ?_ | refine Qt 11 ?_ | refine Qu 11 ?_ | fail)
  refine SXA.storeLast 12 rfl (by decide +kernel) rfl rfl inferInstance rfl rfl ?_
  refine Qv ?_
  repeat (first | refine Qa ?_ | refine Qb ?_ | refine Qc ?_ | refine Qd ?_ | refine Qe ?_ | refine Qf ?_ | refine Qg ?_ | refine Qh ?_ | refine Qi ?_ | refine Qj ?_ | refine Qk ?_ | refine Ql ?_ | refine Qm ?_ | refine Qn ?_ | refine Qo ?_ | refine Qp ?_ | refine Qq ?_ | fail)
  refine SX.ret (M' := (.own B' (rowR kE 102 (.slice B' m.r.e.length d') m.r.e) :: F)) rfl (Evals.cell rfl inferInstance rfl Evals.nil) ?_ inferInstance
  exact h B' d' hd'
end
end Go.Proofs.Ytgjajalneknagaa.Sx
end
section
/- Chapter 21's law ClientDeaf, walked; conditions: those that each theorem names. -/
namespace Go.Proofs.Ytgjajalneknagaa.Sx
open Go.RowKit Go.Proofs.Ytgjajalneknagaa.Hm Go.Proofs.YtgjajalneknagaaW.PrintWords Go.Proofs.YtgjajalneknagaaW.PrintLast Go.Proofs.YtgjajalneknagaaW.PrintMore
set_option linter.unusedVariables false
set_option linter.unusedSimpArgs false
attribute [local irreducible] SX SXL SXA St callK Post Evals

section
variable {F R : List Thing} {K : Ending → List Thing → Prop} {A B C D A1 A2 A3 A4 : Option Addr} {b d c a1 a2 a3 a4 : Nat} {s : Cl} {m : Msg}
theorem fits_begun {m : Msg} (h : ¬ (m.k = 2 ∧ m.r.client = 2 ∧ m.r.xid = 1)) : fitsB (begunC (clN 2 0) (caOf 2 ⟨#[]⟩)) m = false := by
  unfold fitsB
  show (true && (decide (m.k = 2) && (decide (m.r.client = 2) && decide (m.r.xid = 1)))) = false
  simpa using h
set_option maxHeartbeats 1000000 in
set_option maxRecDepth 20000 in
theorem ClientDeaf_S {from' : Int} (hrA : Ro (Kd.int .u8) A F m.c.d) (hrB : Ro (Kd.int .u8) B F m.r.d) (hrC : Ro kE C F m.r.e) (hrD : Ro (Kd.int .u8) D F m.t.d) (hC : m.r.e.length ≤ a3) (hl : m.r.e.length ≤ 4398046510976) (hf : u32ok m.r.free) (h : K (.returned (.bool true)) F) :
    Fn (Try.prog) 7 [.agg (msC m A a1 B a2 C a3 D a4).toArray, .int .i64 from'] F K := by
  unfold msC
  refine Fn.enter Try.call7 Try.func7 rfl rfl rfl ?_
  repeat (first | refine Qa ?_ | refine Qb ?_ | refine Qc ?_ | refine Qd ?_ | refine Qe ?_ | refine Qf ?_ | refine Qg ?_ | refine Qh ?_ | refine Qi ?_ | refine Qj ?_ | refine Qk ?_ | refine Ql ?_ | refine Qm ?_ | refine Qn ?_ | refine Qo ?_ | refine Qp ?_ | refine Qq ?_ | fail)
  refine SXL.box rfl rfl rfl (fun b => ?_)
  repeat (first | refine Qa ?_ | refine Qb ?_ | refine Qc ?_ | refine Qd ?_ | refine Qe ?_ | refine Qf ?_ | refine Qg ?_ | refine Qh ?_ | refine Qi ?_ | refine Qj ?_ | refine Qk ?_ | refine Ql ?_ | refine Qm ?_ | refine Qn ?_ | refine Qo ?_ | refine Qp ?_ | refine Qq ?_ | fail)
  refine SXL.call rfl rfl rfl ?_
  refine (awake21_S (callK.ret ?_))
  repeat (first | refine Qa ?_ | refine Qb ?_ | refine Qc ?_ | refine Qd ?_ | refine Qe ?_ | refine Qf ?_ | refine Qg ?_ | refine Qh ?_ | refine Qi ?_ | refine Qj ?_ | refine Qk ?_ | refine Ql ?_ | refine Qm ?_ | refine Qn ?_ | refine Qo ?_ | refine Qp ?_ | refine Qq ?_ | fail)
  refine SXL.split (s := 27) rfl (fun e1 => ?_) (fun e1 => ?_)
  · repeat (first | refine Qa ?_ | refine Qb ?_ | refine Qc ?_ | refine Qd ?_ | refine Qe ?_ | refine Qf ?_ | refine Qg ?_ | refine Qh ?_ | refine Qi ?_ | refine Qj ?_ | refine Qk ?_ | refine Ql ?_ | refine Qm ?_ | refine Qn ?_ | refine Qo ?_ | refine Qp ?_ | refine Qq ?_ | fail)
    refine SX.ret (M' := F) rfl (Evals.tmp rfl Evals.nil) ?_ inferInstance
    exact h
  repeat (first | refine Qa ?_ | refine Qb ?_ | refine Qc ?_ | refine Qd ?_ | refine Qe ?_ | refine Qf ?_ | refine Qg ?_ | refine Qh ?_ | refine Qi ?_ | refine Qj ?_ | refine Qk ?_ | refine Ql ?_ | refine Qm ?_ | refine Qn ?_ | refine Qo ?_ | refine Qp ?_ | refine Qq ?_ | fail)
  refine SXL.split (s := 34) rfl (fun e2 => ?_) (fun e2 => ?_)
  · repeat (first | refine Qa ?_ | refine Qb ?_ | refine Qc ?_ | refine Qd ?_ | refine Qe ?_ | refine Qf ?_ | refine Qg ?_ | refine Qh ?_ | refine Qi ?_ | refine Qj ?_ | refine Qk ?_ | refine Ql ?_ | refine Qm ?_ | refine Qn ?_ | refine Qo ?_ | refine Qp ?_ | refine Qq ?_ | fail)
    refine SX.ret (M' := F) rfl (Evals.tmp rfl Evals.nil) ?_ inferInstance
    exact h
  repeat (first | refine Qa ?_ | refine Qb ?_ | refine Qc ?_ | refine Qd ?_ | refine Qe ?_ | refine Qf ?_ | refine Qg ?_ | refine Qh ?_ | refine Qi ?_ | refine Qj ?_ | refine Qk ?_ | refine Ql ?_ | refine Qm ?_ | refine Qn ?_ | refine Qo ?_ | refine Qp ?_ | refine Qq ?_ | fail)
  refine SXL.split (s := 41) rfl (fun e3 => ?_) (fun e3 => ?_)
  · repeat (first | refine Qa ?_ | refine Qb ?_ | refine Qc ?_ | refine Qd ?_ | refine Qe ?_ | refine Qf ?_ | refine Qg ?_ | refine Qh ?_ | refine Qi ?_ | refine Qj ?_ | refine Qk ?_ | refine Ql ?_ | refine Qm ?_ | refine Qn ?_ | refine Qo ?_ | refine Qp ?_ | refine Qq ?_ | fail)
    refine SX.ret (M' := F) rfl (Evals.tmp rfl Evals.nil) ?_ inferInstance
    exact h
  repeat (first | refine Qa ?_ | refine Qb ?_ | refine Qc ?_ | refine Qd ?_ | refine Qe ?_ | refine Qf ?_ | refine Qg ?_ | refine Qh ?_ | refine Qi ?_ | refine Qj ?_ | refine Qk ?_ | refine Ql ?_ | refine Qm ?_ | refine Qn ?_ | refine Qo ?_ | refine Qp ?_ | refine Qq ?_ | fail)
  refine SXL.split (s := 48) rfl (fun e4 => ?_) (fun e4 => ?_)
  · repeat (first | refine Qa ?_ | refine Qb ?_ | refine Qc ?_ | refine Qd ?_ | refine Qe ?_ | refine Qf ?_ | refine Qg ?_ | refine Qh ?_ | refine Qi ?_ | refine Qj ?_ | refine Qk ?_ | refine Ql ?_ | refine Qm ?_ | refine Qn ?_ | refine Qo ?_ | refine Qp ?_ | refine Qq ?_ | fail)
    refine SX.ret (M' := F) rfl (Evals.tmp rfl Evals.nil) ?_ inferInstance
    exact h
  repeat (first | refine Qa ?_ | refine Qb ?_ | refine Qc ?_ | refine Qd ?_ | refine Qe ?_ | refine Qf ?_ | refine Qg ?_ | refine Qh ?_ | refine Qi ?_ | refine Qj ?_ | refine Qk ?_ | refine Ql ?_ | refine Qm ?_ | refine Qn ?_ | refine Qo ?_ | refine Qp ?_ | refine Qq ?_ | fail)
  refine SX.cond rfl (fun e5 => ?_) (fun e5 => ?_)
  · repeat (first | refine Qa ?_ | refine Qb ?_ | refine Qc ?_ | refine Qd ?_ | refine Qe ?_ | refine Qf ?_ | refine Qg ?_ | refine Qh ?_ | refine Qi ?_ | refine Qj ?_ | refine Qk ?_ | refine Ql ?_ | refine Qm ?_ | refine Qn ?_ | refine Qo ?_ | refine Qp ?_ | refine Qq ?_ | fail)
    refine SX.ret (M' := F) rfl (Evals.tmp rfl Evals.nil) ?_ inferInstance
    exact h
  clear e1 e2 e3 e4 e5
  repeat (first | refine Qa ?_ | refine Qb ?_ | refine Qc ?_ | refine Qd ?_ | refine Qe ?_ | refine Qf ?_ | refine Qg ?_ | refine Qh ?_ | refine Qi ?_ | refine Qj ?_ | refine Qk ?_ | refine Ql ?_ | refine Qm ?_ | refine Qn ?_ | refine Qo ?_ | refine Qp ?_ | refine Qq ?_ | fail)
  refine SXL.call rfl rfl rfl ?_
  refine (New_S (fun hk => absurd hk (by decide)) (fun hk p => callK.ret ?_))
  repeat (first | refine Qa ?_ | refine Qb ?_ | refine Qc ?_ | refine Qd ?_ | refine Qe ?_ | refine Qf ?_ | refine Qg ?_ | refine Qh ?_ | refine Qi ?_ | refine Qj ?_ | refine Qk ?_ | refine Ql ?_ | refine Qm ?_ | refine Qn ?_ | refine Qo ?_ | refine Qp ?_ | refine Qq ?_ | fail)
  refine SXL.call rfl rfl rfl ?_
  refine (ClHandle_S (b := p) (s := clN 2 0) (D := none) (d := 0) (m := m) (A1 := A) (a1 := a1) (A2 := B) (a2 := a2) (A3 := C) (a3 := a3) (A4 := D) (a4 := a4) inferInstance inferInstance (Nat.zero_le _) (Nat.zero_le _) hf (fun _ => callK.ret ?_) (fun hf => Bool.noConfusion (show false = true from hf)) (fun hf => Bool.noConfusion (show false = true from hf)) (fun hf => Bool.noConfusion (show false = true from hf)))
  repeat (first | refine Qa ?_ | refine Qb ?_ | refine Qc ?_ | refine Qd ?_ | refine Qe ?_ | refine Qf ?_ | refine Qg ?_ | refine Qh ?_ | refine Qi ?_ | refine Qj ?_ | refine Qk ?_ | refine Ql ?_ | refine Qm ?_ | refine Qn ?_ | refine Qo ?_ | refine Qp ?_ | refine Qq ?_ | fail)
  refine SXL.alloc rfl rfl (fun z1 => ?_)
  repeat (first | refine Qa ?_ | refine Qb ?_ | refine Qc ?_ | refine Qd ?_ | refine Qe ?_ | refine Qf ?_ | refine Qg ?_ | refine Qh ?_ | refine Qi ?_ | refine Qj ?_ | refine Qk ?_ | refine Ql ?_ | refine Qm ?_ | refine Qn ?_ | refine Qo ?_ | refine Qp ?_ | refine Qq ?_ | fail)
  refine SXL.call rfl rfl rfl ?_
  refine (BeginOk_S (b := p) (D := none) (d := 0) (s := clN 2 0) (x := caOf 2 ⟨#[]⟩) (A := none) (a := 0) inferInstance inferInstance (Nat.le_refl _) ⟨by decide, by decide⟩ ⟨by decide, by decide⟩ (caOf_wf ⟨by decide, by decide⟩) rfl (by decide) (fun g B1 b1 B2 b2 hb1 hb2 => callK.ret ?_))
  repeat (first | refine Qa ?_ | refine Qb ?_ | refine Qc ?_ | fail)
  refine Qd ?_
  repeat (first | refine Qf ?_ | refine Qg ?_ | refine Qh ?_ | refine Qi ?_ | refine Qj ?_ | refine Qk ?_ | refine Ql ?_ | fail)
  refine Qe ?_
  repeat (first | refine Qa ?_ | refine Qb ?_ | refine Qc ?_ | fail)
  refine Qd ?_
  repeat (first | refine Qf ?_ | refine Qg ?_ | refine Qh ?_ | refine Qi ?_ | refine Qj ?_ | refine Qk ?_ | refine Ql ?_ | fail)
  refine SX.same 11 (.int .u32 1) rfl rfl ?_
  refine SX.cut (fun a M => a = [(1, .int .i64 from'), (2, .pointer (some ⟨b, 0, none⟩)), (6, .pointer (some ⟨p, 0, none⟩)), (11, .int .u32 1), (99, .bool (decide (m.k = 2 ∧ m.r.client = 2 ∧ m.r.xid = 1)))] ∧
      .own (some ⟨b, 0, none⟩) (cellsR b (msC m A a1 B a2 C a3 D a4) 49) :: .own (some ⟨p, 0, none⟩) (cellsR p (clC (begunC (clN 2 0) (caOf 2 ⟨#[]⟩)) B1 b1) 91) :: .own B1 (rowR (Kd.int .u8) 5 (.slice B1 (caOf 2 ⟨#[]⟩).d.length b1) (caOf 2 ⟨#[]⟩).d) :: F = M) ?_ ?_
  · by_cases hk : m.k = 2
    · by_cases hc : m.r.client = 2
      · repeat (first | refine Qa ?_ | refine Qb ?_ | refine Qc ?_ | refine Qd ?_ | refine Qe ?_ | refine Qf ?_ | refine Qg ?_ | refine Qh ?_ | refine Qi ?_ | refine Qj ?_ | refine Qk ?_ | refine Ql ?_ | refine Qm ?_ | refine Qn ?_ | refine Qo ?_ | refine Qp ?_ | refine Qq ?_ | fail)
        refine SXL.know 87 true rfl (by simpa using hk) ?_
        repeat (first | refine Qa ?_ | refine Qb ?_ | refine Qc ?_ | refine Qd ?_ | refine Qe ?_ | refine Qf ?_ | refine Qg ?_ | refine Qh ?_ | refine Qi ?_ | refine Qj ?_ | refine Qk ?_ | refine Ql ?_ | refine Qm ?_ | refine Qn ?_ | refine Qo ?_ | refine Qp ?_ | refine Qq ?_ | fail)
        refine SXL.know 93 true rfl (by simpa using hc) ?_
        repeat (first | refine Qa ?_ | refine Qb ?_ | refine Qc ?_ | refine Qd ?_ | refine Qe ?_ | refine Qf ?_ | refine Qg ?_ | refine Qh ?_ | refine Qi ?_ | refine Qj ?_ | refine Qk ?_ | refine Ql ?_ | refine Qm ?_ | refine Qn ?_ | refine Qo ?_ | refine Qp ?_ | refine Qq ?_ | fail)
        refine SX.same 99 (.bool (decide (m.k = 2 ∧ m.r.client = 2 ∧ m.r.xid = 1))) rfl (by congr 1; simp [hk, hc]; rw [Bool.eq_iff_iff]; simp) ?_
        refine SX.meet ⟨rfl, rfl⟩ (by repeat (first | exact trivial | refine ⟨rfl, ?_⟩)) (by unfold msC; infer_instance)
      · repeat (first | refine Qa ?_ | refine Qb ?_ | refine Qc ?_ | refine Qd ?_ | refine Qe ?_ | refine Qf ?_ | refine Qg ?_ | refine Qh ?_ | refine Qi ?_ | refine Qj ?_ | refine Qk ?_ | refine Ql ?_ | refine Qm ?_ | refine Qn ?_ | refine Qo ?_ | refine Qp ?_ | refine Qq ?_ | fail)
        refine SXL.know 87 true rfl (by simpa using hk) ?_
        repeat (first | refine Qa ?_ | refine Qb ?_ | refine Qc ?_ | refine Qd ?_ | refine Qe ?_ | refine Qf ?_ | refine Qg ?_ | refine Qh ?_ | refine Qi ?_ | refine Qj ?_ | refine Qk ?_ | refine Ql ?_ | refine Qm ?_ | refine Qn ?_ | refine Qo ?_ | refine Qp ?_ | refine Qq ?_ | fail)
        refine SXL.know 93 false rfl (by simpa using hc) ?_
        repeat (first | refine Qa ?_ | refine Qb ?_ | refine Qc ?_ | refine Qd ?_ | refine Qe ?_ | refine Qf ?_ | refine Qg ?_ | refine Qh ?_ | refine Qi ?_ | refine Qj ?_ | refine Qk ?_ | refine Ql ?_ | refine Qm ?_ | refine Qn ?_ | refine Qo ?_ | refine Qp ?_ | refine Qq ?_ | fail)
        refine SX.same 99 (.bool (decide (m.k = 2 ∧ m.r.client = 2 ∧ m.r.xid = 1))) rfl (by simp [hk, hc]) ?_
        refine SX.meet ⟨rfl, rfl⟩ (by repeat (first | exact trivial | refine ⟨rfl, ?_⟩)) (by unfold msC; infer_instance)
    · repeat (first | refine Qa ?_ | refine Qb ?_ | refine Qc ?_ | refine Qd ?_ | refine Qe ?_ | refine Qf ?_ | refine Qg ?_ | refine Qh ?_ | refine Qi ?_ | refine Qj ?_ | refine Qk ?_ | refine Ql ?_ | refine Qm ?_ | refine Qn ?_ | refine Qo ?_ | refine Qp ?_ | refine Qq ?_ | fail)
      refine SXL.know 87 false rfl (by simpa using hk) ?_
      repeat (first | refine Qa ?_ | refine Qb ?_ | refine Qc ?_ | refine Qd ?_ | refine Qe ?_ | refine Qf ?_ | refine Qg ?_ | refine Qh ?_ | refine Qi ?_ | refine Qj ?_ | refine Qk ?_ | refine Ql ?_ | refine Qm ?_ | refine Qn ?_ | refine Qo ?_ | refine Qp ?_ | refine Qq ?_ | fail)
      refine SX.same 99 (.bool (decide (m.k = 2 ∧ m.r.client = 2 ∧ m.r.xid = 1))) rfl (by simp [hk]) ?_
      refine SX.meet ⟨rfl, rfl⟩ (by repeat (first | exact trivial | refine ⟨rfl, ?_⟩)) (by unfold msC; infer_instance)
  rintro _ _ ⟨rfl, rfl⟩
  unfold msC
  repeat (first | refine Qa ?_ | refine Qb ?_ | refine Qc ?_ | refine Qd ?_ | refine Qe ?_ | refine Qf ?_ | refine Qg ?_ | refine Qh ?_ | refine Qi ?_ | refine Qj ?_ | refine Qk ?_ | refine Ql ?_ | refine Qm ?_ | refine Qn ?_ | refine Qo ?_ | refine Qp ?_ | refine Qq ?_ | fail)
  refine SX.condp rfl (fun hq => ?_) (fun hq => ?_)
  · repeat (first | refine Qa ?_ | refine Qb ?_ | refine Qc ?_ | refine Qd ?_ | refine Qe ?_ | refine Qf ?_ | refine Qg ?_ | refine Qh ?_ | refine Qi ?_ | refine Qj ?_ | refine Qk ?_ | refine Ql ?_ | refine Qm ?_ | refine Qn ?_ | refine Qo ?_ | refine Qp ?_ | refine Qq ?_ | fail)
    refine SX.ret (M' := F) rfl (Evals.tmp rfl Evals.nil) ?_ inferInstance
    exact h
  repeat (first | refine Qa ?_ | refine Qb ?_ | refine Qc ?_ | refine Qd ?_ | refine Qe ?_ | refine Qf ?_ | refine Qg ?_ | refine Qh ?_ | refine Qi ?_ | refine Qj ?_ | refine Qk ?_ | refine Ql ?_ | refine Qm ?_ | refine Qn ?_ | refine Qo ?_ | refine Qp ?_ | refine Qq ?_ | fail)
  refine SXL.call rfl rfl rfl ?_
  refine (ClHandle_S (b := p) (s := begunC (clN 2 0) (caOf 2 ⟨#[]⟩)) (D := B1) (d := b1) (m := m) (A1 := A) (a1 := a1) (A2 := B) (a2 := a2) (A3 := C) (a3 := a3) (A4 := D) (a4 := a4) inferInstance inferInstance hb1 (Nat.zero_le _) hf (fun _ => callK.ret ?_) (fun hf => Bool.noConfusion ((fits_begun hq).symm.trans hf)) (fun hf => Bool.noConfusion ((fits_begun hq).symm.trans hf)) (fun hf => Bool.noConfusion ((fits_begun hq).symm.trans hf)))
  repeat (first | refine Qa ?_ | refine Qb ?_ | refine Qc ?_ | refine Qd ?_ | refine Qe ?_ | refine Qf ?_ | refine Qg ?_ | refine Qh ?_ | refine Qi ?_ | refine Qj ?_ | refine Qk ?_ | refine Ql ?_ | refine Qm ?_ | refine Qn ?_ | refine Qo ?_ | refine Qp ?_ | refine Qq ?_ | fail)
  refine SXL.alloc rfl rfl (fun z2 => ?_)
  repeat (first | refine Qa ?_ | refine Qb ?_ | refine Qc ?_ | refine Qd ?_ | refine Qe ?_ | refine Qf ?_ | refine Qg ?_ | refine Qh ?_ | refine Qi ?_ | refine Qj ?_ | refine Qk ?_ | refine Ql ?_ | refine Qm ?_ | refine Qn ?_ | refine Qo ?_ | refine Qp ?_ | refine Qq ?_ | fail)
  refine SXL.call rfl rfl rfl ?_
  refine (Open_S (b := p) (s := begunC (clN 2 0) (caOf 2 ⟨#[]⟩)) (D := B1) (d := b1) inferInstance (fun ho => by cases ho) (fun ho => callK.ret ?_))
  repeat (first | refine Qa ?_ | refine Qb ?_ | refine Qc ?_ | refine Qd ?_ | refine Qe ?_ | refine Qf ?_ | refine Qg ?_ | refine Qh ?_ | refine Qi ?_ | refine Qj ?_ | refine Qk ?_ | refine Ql ?_ | refine Qm ?_ | refine Qn ?_ | refine Qo ?_ | refine Qp ?_ | refine Qq ?_ | fail)
  refine SXL.alloc rfl rfl (fun z3 => ?_)
  repeat (first | refine Qa ?_ | refine Qb ?_ | refine Qc ?_ | refine Qd ?_ | refine Qe ?_ | refine Qf ?_ | refine Qg ?_ | refine Qh ?_ | refine Qi ?_ | refine Qj ?_ | refine Qk ?_ | refine Ql ?_ | refine Qm ?_ | refine Qn ?_ | refine Qo ?_ | refine Qp ?_ | refine Qq ?_ | fail)
  refine SXA.begin (.own (some ⟨z3, 0, none⟩) (cellsR z3 (caC (asked (clN 2 0) (caOf 2 ⟨#[]⟩)) B1 b1) 40) :: .own (some ⟨b, 0, none⟩) (cellsR b (msC m A a1 B a2 C a3 D a4) 49) :: .own (some ⟨p, 0, none⟩) (cellsR p (clC (begunC (clN 2 0) (caOf 2 ⟨#[]⟩)) B1 b1) 91) :: .own B1 (rowR (Kd.int .u8) 5 (.slice B1 (caOf 2 ⟨#[]⟩).d.length b1) (caOf 2 ⟨#[]⟩).d) :: F) [] ?_
  unfold msC caC
  (first | refine Qr 0 ?_ | refine Qs 0 ?_ | refine Qt 0 ?_ | refine Qu 0 ?_ | fail)
  (first | refine Qr 1 ?_ | refine Qs 1 ?_ | refine Qt 1 ?_ | refine Qu 1 ?_ | fail)
  (first | refine Qr 2 ?_ | refine Qs 2 ?_ | refine Qt 2 ?_ | refine Qu 2 ?_ | fail)
  (first | refine Qr 3 ?_ | refine Qs 3 ?_ | refine Qt 3 ?_ | refine Qu 3 ?_ | fail)
  (first | refine Qr 4 ?_ | refine Qs 4 ?_ | refine Qt 4 ?_ | refine Qu 4 ?_ | fail)
  (first | refine Qr 5 ?_ | refine Qs 5 ?_ | refine Qt 5 ?_ | refine Qu 5 ?_ | fail)
  (first | refine Qr 6 ?_ | refine Qs 6 ?_ | refine Qt 6 ?_ | refine Qu 6 ?_ | fail)
  (first | refine Qr 7 ?_ | refine Qs 7 ?_ | refine Qt 7 ?_ | refine Qu 7 ?_ | fail)
  (first | refine Qr 8 ?_ | refine Qs 8 ?_ | refine Qt 8 ?_ | refine Qu 8 ?_ | fail)
  (first | refine Qr 9 ?_ | refine Qs 9 ?_ | refine Qt 9 ?_ | refine Qu 9 ?_ | fail)
  (first | refine Qr 10 ?_ | refine Qs 10 ?_ | refine Qt 10 ?_ | refine Qu 10 ?_ | fail)
  (first | refine Qr 11 ?_ | refine Qs 11 ?_ | refine Qt 11 ?_ | refine Qu 11 ?_ | fail)
  (first | refine Qr 12 ?_ | refine Qs 12 ?_ | refine Qt 12 ?_ | refine Qu 12 ?_ | fail)
  (first | refine Qr 13 ?_ | refine Qs 13 ?_ | refine Qt 13 ?_ | refine Qu 13 ?_ | fail)
  (first | refine Qr 14 ?_ | refine Qs 14 ?_ | refine Qt 14 ?_ | refine Qu 14 ?_ | fail)
  (first | refine Qr 15 ?_ | refine Qs 15 ?_ | refine Qt 15 ?_ | refine Qu 15 ?_ | fail)
  (first | refine Qr 16 ?_ | refine Qs 16 ?_ | refine Qt 16 ?_ | refine Qu 16 ?_ | fail)
  (first | refine Qr 17 ?_ | refine Qs 17 ?_ | refine Qt 17 ?_ | refine Qu 17 ?_ | fail)
  refine Qw 18 ?_
  refine Qm ?_
  refine SXL.call rfl rfl rfl ?_
  refine (Place_S (b := p) (s := begunC (clN 2 0) (caOf 2 ⟨#[]⟩)) (D := B1) (d := b1) inferInstance (callK.ret ?_))
  refine SXL.nil (SXA.next inferInstance ?_)
  (first | refine Qr 19 ?_ | refine Qs 19 ?_ | refine Qt 19 ?_ | refine Qu 19 ?_ | fail)
  (first | refine Qr 20 ?_ | refine Qs 20 ?_ | refine Qt 20 ?_ | refine Qu 20 ?_ | fail)
  (first | refine Qr 21 ?_ | refine Qs 21 ?_ | refine Qt 21 ?_ | refine Qu 21 ?_ | fail)
  (first | refine Qr 22 ?_ | refine Qs 22 ?_ | refine Qt 22 ?_ | refine Qu 22 ?_ | fail)
  refine Qw 23 ?_
  refine Qm ?_
  refine SXL.call rfl rfl rfl ?_
  refine (callOf21_S (s := asked (clN 2 0) (caOf 2 ⟨#[]⟩)) (A := B1) inferInstance (callK.ret ?_))
  refine SXL.nil (SXA.next inferInstance ?_)
  (first | refine Qr 24 ?_ | refine Qs 24 ?_ | refine Qt 24 ?_ | refine Qu 24 ?_ | fail)
  (first | refine Qr 25 ?_ | refine Qs 25 ?_ | refine Qt 25 ?_ | refine Qu 25 ?_ | fail)
  (first | refine Qr 26 ?_ | refine Qs 26 ?_ | refine Qt 26 ?_ | refine Qu 26 ?_ | fail)
  (first | refine Qr 27 ?_ | refine Qs 27 ?_ | refine Qt 27 ?_ | refine Qu 27 ?_ | fail)
  (first | refine Qr 28 ?_ | refine Qs 28 ?_ | refine Qt 28 ?_ | refine Qu 28 ?_ | fail)
  (first | refine Qr 31 ?_ | refine Qs 31 ?_ | refine Qt 31 ?_ | refine Qu 31 ?_ | fail)
  (first | refine Qr 32 ?_ | refine Qs 32 ?_ | refine Qt 32 ?_ | refine Qu 32 ?_ | fail)
  refine Qw 29 ?_
  refine Qm ?_
  refine SXL.call rfl rfl rfl ?_
  refine (msgOf21_S (m := m) inferInstance inferInstance inferInstance inferInstance hl hC (fun B5 d5 hd5 => callK.ret ?_))
  refine SXL.nil (SXA.next inferInstance ?_)
  (first | refine Qr 30 ?_ | refine Qs 30 ?_ | refine Qt 30 ?_ | refine Qu 30 ?_ | fail)
  (first | refine Qr 33 ?_ | refine Qs 33 ?_ | refine Qt 33 ?_ | refine Qu 33 ?_ | fail)
  (first | refine Qr 34 ?_ | refine Qs 34 ?_ | refine Qt 34 ?_ | refine Qu 34 ?_ | fail)
  (first | refine Qr 35 ?_ | refine Qs 35 ?_ | refine Qt 35 ?_ | refine Qu 35 ?_ | fail)
  refine SXA.know 148 true rfl (by simp) ?_
  (first | refine Qr 36 ?_ | refine Qs 36 ?_ | refine Qt 36 ?_ | refine Qu 36 ?_ | fail)
  (first | refine Qr 37 ?_ | refine Qs 37 ?_ | refine Qt 37 ?_ | refine Qu 37 ?_ | fail)
  (first | refine Qr 40 ?_ | refine Qs 40 ?_ | refine Qt 40 ?_ | refine Qu 40 ?_ | fail)
  (first | refine Qr 41 ?_ | refine Qs 41 ?_ | refine Qt 41 ?_ | refine Qu 41 ?_ | fail)
  (first | refine Qr 42 ?_ | refine Qs 42 ?_ | refine Qt 42 ?_ | refine Qu 42 ?_ | fail)
  refine Qw 38 ?_
  refine Qm ?_
  refine SXL.call rfl rfl rfl ?_
  refine (replyOf21_S (s := m.r) (A := B) (B := C) inferInstance inferInstance hl hC (fun B6 d6 hd6 => callK.ret ?_))
  refine SXL.nil (SXA.next inferInstance ?_)
  (first | refine Qr 39 ?_ | refine Qs 39 ?_ | refine Qt 39 ?_ | refine Qu 39 ?_ | fail)
  (first | refine Qr 43 ?_ | refine Qs 43 ?_ | refine Qt 43 ?_ | refine Qu 43 ?_ | fail)
  (first | refine Qr 44 ?_ | refine Qs 44 ?_ | refine Qt 44 ?_ | refine Qu 44 ?_ | fail)
  (first | refine Qr 45 ?_ | refine Qs 45 ?_ | refine Qt 45 ?_ | refine Qu 45 ?_ | fail)
  refine Qv ?_
  refine SX.same 4 (.bool true) rfl (by simp) ?_
  refine SX.ret (M' := F) rfl (Evals.tmp rfl Evals.nil) ?_ inferInstance
  exact h
end
end Go.Proofs.Ytgjajalneknagaa.Sx
end
section
/- Chapter 21's law ClientDeaf, for every input; conditions: those that each theorem names. -/
namespace Go.Proofs.Ytgjajalneknagaa.Sx
open Go.RowKit Go.Proofs.Ytgjajalneknagaa.Hm Go.Proofs.YtgjajalneknagaaW.PrintWords Go.Proofs.YtgjajalneknagaaW.PrintLast Go.Proofs.YtgjajalneknagaaW.PrintMore
set_option linter.unusedVariables false
set_option linter.unusedSimpArgs false
attribute [local irreducible] SX SXL SXA St callK Post Evals

theorem ents_fit {n : Nat} (h : n * (Try.prog).bytesOf 101 ≤ reachBytes) : n ≤ 4398046510976 := by
  rw [show (Try.prog).bytesOf 101 = 32 from by kernel_rfl] at h
  unfold reachBytes at h
  omega
theorem ClientDeaf_any (mk : Int) (mc0 : Int) (mc1 : Int) (mc2 : Int) (mc3 : Int) (mc4 : Int) (mc5 : ByteArray) (mc6 : Int) (mc7 : Int) (mc8 : ByteArray) (mc9 : Int) (mca : Int) (mcb : Int) (mcd : Int) (Amce : Option Addr) (cmce : Nat) (lmce : List Int) (mr0 : Int) (mr1 : Int) (mr2 : Int) (mr3 : Int) (mr4 : Int) (mr5 : Int) (mr6 : Int) (mr7 : Int) (mr8 : Int) (mr9 : Int) (Amra : Option Addr) (cmra : Nat) (lmra : List Int) (Amrb : Option Addr) (cmrb : Nat) (lmrb : List Ent) (mrd : Bool) (mre : Int) (mrf : Int) (mt0 : Int) (mt1 : Int) (mt2 : Int) (mt3 : Int) (Amt4 : Option Addr) (cmt4 : Nat) (lmt4 : List Int) (f : Int) (W : World) (wmk : (Lit.int .u32 mk).wf = true) (wmc0 : (Lit.int .u32 mc0).wf = true) (wmc1 : (Lit.int .u32 mc1).wf = true) (wmc2 : (Lit.int .u32 mc2).wf = true) (wmc3 : (Lit.int .u32 mc3).wf = true) (wmc4 : (Lit.int .u32 mc4).wf = true) (wmc5 : mc5.size ≤ maxLen) (wmc6 : (Lit.int .u32 mc6).wf = true) (wmc7 : (Lit.int .u32 mc7).wf = true) (wmc8 : mc8.size ≤ maxLen) (wmc9 : (Lit.int .u64 mc9).wf = true) (wmca : (Lit.int .u64 mca).wf = true) (wmcb : (Lit.int .u32 mcb).wf = true) (wmcd : (Lit.int .u32 mcd).wf = true) (rmce : Kd.C (Kd.int .u8) W Amce lmce.length lmce) (hmce : lmce.length ≤ cmce) (wmce : lmce.length ≤ maxLen ∧ ∀ x ∈ lmce, (Lit.int .u8 x).wf = true) (wmr0 : (Lit.int .u32 mr0).wf = true) (wmr1 : (Lit.int .u32 mr1).wf = true) (wmr2 : (Lit.int .i64 mr2).wf = true) (wmr3 : (Lit.int .u32 mr3).wf = true) (wmr4 : (Lit.int .u32 mr4).wf = true) (wmr5 : (Lit.int .u32 mr5).wf = true) (wmr6 : (Lit.int .u32 mr6).wf = true) (wmr7 : (Lit.int .u32 mr7).wf = true) (wmr8 : (Lit.int .u32 mr8).wf = true) (wmr9 : (Lit.int .u64 mr9).wf = true) (rmra : Kd.C (Kd.int .u8) W Amra lmra.length lmra) (hmra : lmra.length ≤ cmra) (wmra : lmra.length ≤ maxLen ∧ ∀ x ∈ lmra, (Lit.int .u8 x).wf = true) (rmrb : kE.C W Amrb lmrb.length lmrb) (hmrb : lmrb.length ≤ cmrb) (wmrb : lmrb.length ≤ maxLen ∧ lmrb.length * (Try.prog).bytesOf 101 ≤ reachBytes ∧ ∀ e ∈ lmrb, (Lit.int .u64 e.c).wf = true ∧ ((Lit.int .u32 e.i).wf = true ∧ (Lit.int .u32 e.g).wf = true) ∧ e.s.size ≤ maxLen) (wmre : (Lit.int .u64 mre).wf = true) (wmrf : (Lit.int .u32 mrf).wf = true) (wmt0 : (Lit.int .u32 mt0).wf = true) (wmt1 : (Lit.int .u64 mt1).wf = true) (wmt2 : (Lit.int .u64 mt2).wf = true) (wmt3 : (Lit.int .u32 mt3).wf = true) (rmt4 : Kd.C (Kd.int .u8) W Amt4 lmt4.length lmt4) (hmt4 : lmt4.length ≤ cmt4) (wmt4 : lmt4.length ≤ maxLen ∧ ∀ x ∈ lmt4, (Lit.int .u8 x).wf = true) (wf : (Lit.int .i64 f).wf = true) :
    Calls Try.prog 7 #[.agg #[.int .u32 mk, .int .u32 mc0, .int .u32 mc1, .int .u32 mc2, .int .u32 mc3, .int .u32 mc4, .string mc5, .int .u32 mc6, .int .u32 mc7, .string mc8, .int .u64 mc9, .int .u64 mca, .int .u32 mcb, .int .u32 mcd, .slice Amce lmce.length cmce, .int .u32 mr0, .int .u32 mr1, .int .i64 mr2, .int .u32 mr3, .int .u32 mr4, .int .u32 mr5, .int .u32 mr6, .int .u32 mr7, .int .u32 mr8, .int .u64 mr9, .slice Amra lmra.length cmra, .slice Amrb lmrb.length cmrb, .bool mrd, .int .u64 mre, .int .u32 mrf, .int .u32 mt0, .int .u64 mt1, .int .u64 mt2, .int .u32 mt3, .slice Amt4 lmt4.length cmt4], .int .i64 f] W fun e w' => e = .returned (.bool true) ∧ Below W.heap.size W w' :=
  Fn.out W [.per (roR (Kd.int .u8) Amce lmce), .per (roR (Kd.int .u8) Amra lmra), .per (roR kE Amrb lmrb), .per (roR (Kd.int .u8) Amt4 lmt4), .per (oldR W)] (Holds.ofStart (Holds.startRow (Holds.startRow (Holds.startRow (Holds.startRow (Holds.start0 W) (Kd.C_F (Kd.heap_int _) rmt4)) (Kd.C_F heapE rmrb)) (Kd.C_F (Kd.heap_int _) rmra)) (Kd.C_F (Kd.heap_int _) rmce))) inferInstance
    (ClientDeaf_S (m := (⟨mk, (⟨mc0, mc1, mc2, mc3, mc4, mc5, mc6, mc7, mc8, mc9, mca, mcb, mcd, lmce⟩ : Ca), (⟨mr0, mr1, mr2, mr3, mr4, mr5, mr6, mr7, mr8, mr9, lmra, lmrb, mrd, mre, mrf⟩ : Re), (⟨mt0, mt1, mt2, mt3, lmt4⟩ : Ctl)⟩ : Msg)) Ro.here (Ro.there (a := Ro.here)) (Ro.there (a := (Ro.there (a := Ro.here)))) (Ro.there (a := (Ro.there (a := (Ro.there (a := Ro.here)))))) hmrb (ents_fit wmrb.2.1) (u32_of_wf _ wmrf) ⟨rfl, inferInstance⟩)
end Go.Proofs.Ytgjajalneknagaa.Sx
end
