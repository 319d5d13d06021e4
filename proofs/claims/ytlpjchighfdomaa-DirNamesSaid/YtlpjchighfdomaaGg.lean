/- The Go package dir: entries without one; conditions: those that each theorem names. -/
import Derived.Test.YtlpjchighfdomaaGf
namespace Go.Proofs.Ytlpjchighfdomaa.Hm
open Go.RowKit Go.Proofs.YtlpjchighfdomaaW.PrintWords Go.Proofs.YtlpjchighfdomaaW.PrintLast Go.Proofs.YtlpjchighfdomaaW.PrintMore
set_option linter.unusedVariables false
set_option linter.unusedSimpArgs false

theorem R_tail {α : Type} (d : Kd α) {E : TypeId} {W : World} {base g n c : Nat} {ok : Nat → Prop} {xs : List α} (h : d.R E W base ok (.slice (some ⟨g, 0, none⟩) n c) xs) (zs : List Value) (hfit : n * d.sz + zs.length ≤ c * d.sz) :
    d.R E (W.setCells g (n * d.sz) zs) base ok (.slice (some ⟨g, 0, none⟩) n c) xs ∧ W.grownBy (W.setCells g (n * d.sz) zs) (some g) := by
  obtain ⟨hn, hnc, _⟩ := Kd.R_reads' h
  obtain ⟨hok, inner, hown, hr⟩ := h
  have hin : inner.length = n * d.sz := by rw [hr.1, hn]
  rcases hown.2 with ⟨hv, _⟩ | ⟨g', cap', cur, hv, hb, hh, h7, hcm, hcs, htake⟩
  · cases hv
  injection hv with ha hn' hc
  injection ha with ha
  injection ha with hg
  subst hg; subst hc
  rw [← hn] at htake
  obtain ⟨cur', h3, h4, h5⟩ := setCells_row zs (n * d.sz) W cur hh (by omega)
  obtain ⟨s1, s2, s3, s4⟩ := setCells_same g zs (n * d.sz) W
  have hfar : ∀ k', k' ≠ g → (W.setCells g (n * d.sz) zs).heap[k']? = W.heap[k']? := fun k' hk' => setCells_far zs _ k' hk'
  have hgo : ∀ m c, some g = (Value.slice (some ⟨g, 0, none⟩) m c).ownBlock := fun m c => by simp [Value.ownBlock]
  refine ⟨⟨hok, inner, ⟨hown.1, .inr ⟨g, c, cur', by rw [← hn], hb, h3, h7, hcm, by rw [h4, hcs], ?_⟩⟩, hr.imp_ (fun p q hp => d.M_move (fun k' hk' => hfar k' (fun he => hk'.2 (by rw [← hgo, he]))) hp)⟩, ⟨s1, s2, s3, by rw [s4]; exact Nat.le_refl _, fun k' _ hk' => hfar k' (fun he => hk' (by rw [he]))⟩⟩
  rw [← hn, h5, List.append_assoc, List.take_left' (by rw [List.length_take, Array.length_toList]; omega), htake]
set_option maxRecDepth 100000 in
theorem clearE_run {W : World} {base g m c : Nat} {ok : Nat → Prop} {xs : List Ent} (h : kE.R 41 W base ok (.slice (some ⟨g, 0, none⟩) m c) xs) (hm : m < c) (ty : TypeId) (c2 : Nat) :
    (Builtin.clear_ #[24] ty #[.slice (some ⟨g, m * 4, none⟩) 1 c2]).run Try.prog W = .ok (.tuple #[]) (W.setCells g (m * 4) [.int .u64 0, .int .u32 0, .int .u32 0, .string ⟨#[]⟩]) := by
  obtain ⟨i0, hi, hzz⟩ := Option.map_eq_some_iff.1 infoE
  simp only [Prod.mk.injEq] at hzz
  obtain ⟨hz0, hz1, hz2⟩ := hzz
  obtain ⟨hn, hnc, _⟩ := Kd.R_reads' h
  obtain ⟨hok, inner, hown, hr⟩ := h
  rcases hown.2 with ⟨hv, _⟩ | ⟨g', cap', cur, hv, hb, hh, h7, hcm, hcs, htake⟩
  · cases hv
  injection hv with ha hn' hc
  injection ha with ha
  injection ha with hg
  subst hg; subst hc
  have hst := run_storeCells_cells (P := Try.prog) g (m * 4) [.int .u64 0, .int .u32 0, .int .u32 0, .string ⟨#[]⟩] 0 W (fun j hj => by rw [cell_of_row W g _ cur 41 (0, 0) hh]; simp only [kE_sz] at hcs; simp only [List.length_cons, List.length_nil] at hj; rw [Array.getElem?_eq_getElem (by omega)]; rfl) (fun j _ => blk_frozen hh _) (by simp [Value.oneCell'])
  rw [Nat.add_zero] at hst
  have hzc : (Builtin.zeroCells (Value.cells (.agg #[.int .u64 0, .int .u32 0, .int .u32 0, .string ⟨#[]⟩])) 1).toList = [.int .u64 0, .int .u32 0, .int .u32 0, .string ⟨#[]⟩] := by kernel_rfl
  have hv : ∀ w, (zeroValue 41).run Try.prog w = .ok (.agg #[.int .u64 0, .int .u32 0, .int .u32 0, .string ⟨#[]⟩]) w := fun w => by simp [zeroValue, typeInfo, hi, hz0]
  simp [Builtin.clear_, run_underlying Try.underlying24, hv, hzc, hst]
set_option maxHeartbeats 1000000 in
set_option maxRecDepth 100000 in
theorem Delete_any (g cap k base n : Nat) (ok : Nat → Prop) (l : List Ent) (w : World) (hr : kE.R 41 w base ok (.slice (some ⟨g, 0, none⟩) n cap) l) (hk : k < n) (hb : base ≤ w.heap.size) (hl : l.length ≤ 4398046511000) :
    Calls Try.prog 68 #[.slice (some ⟨g, 0, none⟩) n cap, .int .i64 k, .int .i64 ((k : Int) + 1)] w fun e' w' => ∃ v, e' = .returned v ∧ kE.R 41 w' base ok v (l.eraseIdx k) ∧ Below base w w' := by
  have HR := Aside0.mk hr
  obtain ⟨hn, hnc, hcl⟩ := Kd.R_reads' hr
  have hcm := hcl.2.1
  have HL := Aside0.mk hn
  have p0 : (0 : Int) ≤ (k : Int) := by omega
  have p1 : (k : Int) + 1 ≤ (n : Int) := by omega
  have p2 : (k : Int) ≤ (k : Int) + 1 := by omega
  have p3 : (n : Int) ≤ (cap : Int) := by omega
  have p4 : ((k : Int) == (k : Int) + 1) = false := by rw [beq_eq_false_iff_ne]; omega
  have p5 : k ≤ cap := by omega
  have p6 : k + 1 ≤ n := by omega
  have p7 : (0 : Int) ≤ (k : Int) + 1 := by omega
  obtain ⟨m, hm⟩ : ∃ m, n - 1 = m := ⟨_, rfl⟩
  have p8 : (m : Int) ≤ (n : Int) := by omega
  have p9 : (0 : Int) ≤ (m : Int) := by omega
  have p10 : n - m = 1 := by omega
  have pm : ¬ cap = m := by omega
  obtain ⟨ad, had⟩ : ∃ ad : Addr, (if cap = k + 1 then (⟨g, 0, none⟩ : Addr) else ⟨g, (k + 1) * 4, none⟩) = ad := ⟨_, rfl⟩
  have hsome : (if cap = k + 1 then some (⟨g, 0, none⟩ : Addr) else some ⟨g, (k + 1) * 4, none⟩) = some ad := by rw [← had]; split <;> rfl
  have HA : Aside0 (some ad = (if cap = k + 1 then some ⟨g, 0, none⟩ else (some (⟨g, 0, none⟩ : Addr)).map (·.add ((k + 1) * kE.sz)))) := ⟨by
    rw [← hsome, kE_sz, Option.map_some]
    split
    · rfl
    · rw [add_plain]⟩
  clear hr hcl hn had
  go_enter Try.func68, Try.ntmps68
  go_wp2_with fail
  go_region_law ((refine Kd.R_delete_step kE (w0 := w) base (by rfl) (.tmp 22) (.tmp 25) 24 41 rfl Try.underlying24 rfl (by rfl) (by rfl) HA.out rfl (Kd.R_below HR.out (below_drew1 (Below.refl _ _))) hk (below_drew1 (Below.refl _ _)) hb ?_; intro w1 hr1 hb1 hg1; rw [hm] at hr1 ⊢; have HR1 := Aside0.mk hr1; have HB1 := Aside0.mk hb1; clear hr1 hb1 hg1))
  have hx := fun ty c2 => clearE_run HR1.out (by omega) ty c2
  obtain ⟨hr2, hg2⟩ := R_tail kE HR1.out [.int .u64 0, .int .u32 0, .int .u32 0, .string ⟨#[]⟩] (by rw [kE_sz]; simp only [List.length_cons, List.length_nil]; omega)
  rw [kE_sz] at hr2 hg2
  have HR2 := Aside0.mk hr2
  have HB2 := Aside0.mk (HB1.out.grown hg2 (by have := HB1.out.size; omega) (fun k hk => by injection hk with hk; subst hk; exact Kd.R_base HR1.out _ (by simp [Value.ownBlock])))
  clear hr2 hg2 hm
  go_wp2_with fail
  go_ret
  exact ⟨_, rfl, HR2.out, HB2.out⟩
end Go.Proofs.Ytlpjchighfdomaa.Hm
