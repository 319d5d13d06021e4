/- Part N5 of the lemmas and walks of the Go functions that these statements reach; conditions: those that each theorem names. -/
import Derived.Test.YtanemmcddgkpdaaGreatJN3
import Derived.Test.YtanemmcddgkpdaaGreatJN4
section
/- Chapter 13: entries kept, entered, let go; a link less; bytes as so many, walked; conditions: those that each theorem names. -/
namespace Go.Proofs.YtanemmcddgkpdaaGreat.Sx
open Go.RowKit Go.Proofs.YtanemmcddgkpdaaGreat.Hm Go.Proofs.YtanemmcddgkpdaaGreatW.PrintWords Go.Proofs.YtanemmcddgkpdaaGreatW.PrintLast Go.Proofs.YtanemmcddgkpdaaGreatW.PrintMore
set_option linter.unusedVariables false
set_option linter.unusedSimpArgs false
attribute [local irreducible] SX SXL SXA St callK Post Evals
abbrev thR (b m cap : Nat) (ts : List Sl) (ps : List Pl) : Res := rowR (cellsK 9) 92 (.slice (some ⟨b, 0, none⟩) m cap) (slZ ts ps)
theorem datR_set {ts : List Sl} {ps : List Pl} {j : Nat} {s2 : Sl} {A : Option Addr} {c : Nat} (hc : s2.d.length ≤ c) (w : World) (S : Nat → Prop) (h : (datR ts ps).P w S) (h2 : (roR (Kd.int .u8) A s2.d).P w S) : (datR (ts.set j s2) (ps.set j (A, c))).P w S := by
  refine ⟨by simp [h.1], fun i s x h3 h4 => ?_⟩
  rw [List.getElem?_set] at h3 h4
  by_cases hij : j = i
  · subst hij
    simp only [if_true] at h3 h4
    split at h3
    · split at h4
      · injection h3 with h3
        injection h4 with h4
        subst h3; subst h4
        exact ⟨hc, h2⟩
      · cases h4
    · cases h3
  · rw [if_neg hij] at h3 h4
    exact h.2 i s x h3 h4
theorem datR_same {ts : List Sl} {ps : List Pl} {j : Nat} {s s2 : Sl} (hs : ts[j]? = some s) (hd : s2.d = s.d) (w : World) (S : Nat → Prop) (h : (datR ts ps).P w S) : (datR (ts.set j s2) ps).P w S := by
  refine ⟨by simp [h.1], fun i q x h3 h4 => ?_⟩
  rw [List.getElem?_set] at h3
  by_cases hij : j = i
  · subst hij
    simp only [if_true] at h3
    split at h3
    · injection h3 with h3
      subst h3
      rw [hd]
      exact h.2 j s x hs h4
    · cases h3
  · rw [if_neg hij] at h3
    exact h.2 i q x h3 h4
section
variable {F R : List Thing} {K : Ending → List Thing → Prop} {b m cap j n : Nat} {ts : List Sl} {ps : List Pl} {s : Sl} {x : Pl} {l : List Ent} {A : Option Addr} {c : Nat} {name : ByteArray} {i g : Int}
theorem keep_S (hr : Ro kE A R l) (hc : l.length ≤ c) (hl : l.length ≤ 1000000) (hw : ∀ e ∈ l, e.wf) (hd : Has (datR ts ps) R) (hs : ts[j]? = some s) (hx : ps[j]? = some x)
    (h1 : ∀ s' x', keepE s l = .ok s' → K (.returned (.tuple #[])) (.own (some ⟨b, 0, none⟩) (thR b m cap (ts.set j s') (ps.set j x')) :: .per (datR (ts.set j s') (ps.set j x')) :: R)) (h2 : ∀ e M', keepE s l = .error e → Sub M' R → K (.panicked (failP e)) M') :
    Fn (Tryz.prog) 124 [.pointer (some ⟨b, j * 9, none⟩), .slice A l.length c] (.own (some ⟨b, 0, none⟩) (thR b m cap ts ps) :: R) K := by
  unfold keepE at h1 h2
  refine Fn.enter Tryz.call124 Tryz.func124 rfl rfl rfl ?_
  repeat (first|refine Qa ?_|refine Qe ?_|refine Qf ?_|fail)
  refine SXL.call rfl rfl rfl ?_
  refine (Put_S (l := l) inferInstance hc hl hw (fun r n hm A' c' hc' => callK.ret ?_))
  rw [hm] at h2
  simp only [hm] at h1
  repeat (first|refine Qa ?_|refine Qd ?_|refine Qe ?_|refine Qf ?_|fail)
  refine SXL.call rfl rfl rfl ?_
  refine (need_S (F' := .own A' (rowR (Kd.int .u8) 5 (.slice A' r.length c') r) :: .own (some ⟨b, 0, none⟩) (thR b m cap ts ps) :: R) inferInstance (fun hg => callK.ret ?_) (fun hg => callK.panic (h2 _ _ (by rw [show (n == 0) = false from hg]; rfl) inferInstance)))
  have hg9 : (n == 0) = true := hg
  rw [hg9] at h2
  simp only [hg9] at h1
  repeat (first|refine Qa ?_|refine Qd ?_|refine Qe ?_|refine Qf ?_|fail)
  refine SXL.call rfl rfl rfl ?_
  refine (need_S (F' := .own A' (rowR (Kd.int .u8) 5 (.slice A' r.length c') r) :: .own (some ⟨b, 0, none⟩) (thR b m cap ts ps) :: R) inferInstance (fun hg2 => callK.ret ?_) (fun hg2 => callK.panic (h2 _ _ (by rw [show decide (r.length ≤ 768) = false from decide_eq_false (by have := of_decide_eq_false hg2; omega)]; rfl) inferInstance)))
  have hr9 : decide (r.length ≤ 768) = true := decide_eq_true (by have := of_decide_eq_true hg2; omega)
  repeat (first|refine Qa ?_|refine Qd ?_|refine Qe ?_|fail)
  refine SXL.stSl (ts := ts) (ps := ps) { s with d := r } (A', c') rfl rfl inferInstance hs hx rfl ?_
  refine SXL.keepRow A' inferInstance ?_
  refine SXL.derive2 (datR ts ps) (roR (Kd.int .u8) A' r) (datR (ts.set j { s with d := r }) (ps.set j (A', c'))) (datR_set (s2 := { s with d := r }) hc') ?_
  repeat (first|refine Qd ?_|fail)
  refine SX.fin (M' := (.own (some ⟨b, 0, none⟩) (thR b m cap (ts.set j { s with d := r }) (ps.set j (A', c'))) :: .per (datR (ts.set j { s with d := r }) (ps.set j (A', c'))) :: R)) rfl Evals.nil ?_ inferInstance
  exact h1 { s with d := r } (A', c') (by rw [hr9]; rfl)
theorem enter_S (hd : Has (datR ts ps) R) (hs : ts[j]? = some s) (hx : ps[j]? = some x) (hm : s.mid) (hi : u32ok i) (hg : u32ok g)
    (h1 : ∀ s' x', enterS s name i g = .ok s' → K (.returned (.tuple #[])) (.own (some ⟨b, 0, none⟩) (thR b m cap (ts.set j s') (ps.set j x')) :: .per (datR (ts.set j s') (ps.set j x')) :: R)) (h2 : ∀ e M', enterS s name i g = .error e → Sub M' R → K (.panicked (failP e)) M') :
    Fn (Tryz.prog) 84 [.pointer (some ⟨b, j * 9, none⟩), .string name, .agg #[.int .u32 i, .int .u32 g]] (.own (some ⟨b, 0, none⟩) (thR b m cap ts ps) :: R) K := by
  haveI g1 : GetIs ts j s := ⟨hs⟩
  haveI g2 : GetIs ps j x := ⟨hx⟩
  unfold enterS at h1 h2
  dsimp only at h1 h2
  obtain ⟨s1, hs1⟩ : ∃ s1 : Sl, s1 = { s with cookie := up64 s.cookie } := ⟨_, rfl⟩
  have hwr : IntKind.u64.wrap (s.cookie + 1) = up64 s.cookie := rfl
  have hc := up64_ok s.cookie
  have hw1 : s1.wf := by rw [hs1]; exact ⟨hm.w.ino, hm.w.kind, hm.w.gen, hm.w.links, hm.w.mode, hm.w.change, hc, hm.w.verf, hm.w.d⟩
  have hd1 : s1.d = s.d := by rw [hs1]
  have hck : up64 s.cookie = s1.cookie := by rw [hs1]
  have hjl : j < ts.length := (List.getElem?_eq_some_iff.1 hs).1
  have hs2 : (ts.set j s1)[j]? = some s1 := by simp [hjl]
  haveI g3 : GetIs (ts.set j s1) j s1 := ⟨hs2⟩
  rw [← hs1, hck] at h2
  simp only [← hs1] at h1
  simp only [hck] at h1
  refine Fn.enter Tryz.call84 Tryz.func84 rfl rfl rfl ?_
  repeat (first|refine Qe ?_|refine Qf ?_|fail)
  refine SXL.box rfl rfl rfl (fun q => ?_)
  repeat (first|refine Qa ?_|refine Qd ?_|refine Qe ?_|refine Qf ?_|refine Qx ?_|fail)
  rw [hwr]
  refine SXL.stSl (ts := ts) (ps := ps) s1 x rfl rfl inferInstance hs hx (by rw [hs1]; rfl) ?_
  rw [set_same hx]
  refine SXL.derive (datR ts ps) (datR (ts.set j s1) ps) (datR_same hs hd1) ?_
  repeat (first|refine Qd ?_|refine Qf ?_|fail)
  refine SXA.begin (.own (some ⟨b, 0, none⟩) (thR b m cap (ts.set j s1) ps) :: .own (some ⟨q, 0, none⟩) (cellsR q [.int .u32 i, .int .u32 g] 35) :: []) [] ?_
  refine Qr 0 ?_
  refine Qr 2 ?_
  refine Qr 3 ?_
  refine Qr 4 ?_
  refine Qxa 5 ?_
  refine Qt 6 ?_
  refine Qr 7 ?_
  refine Qr 8 ?_
  refine Qw 1 ?_
  refine SXL.call rfl rfl rfl ?_
  refine (entries_S (ts := ts.set j s1) (ps := ps) inferInstance inferInstance hs2 hx hw1.d (by rw [hd1]; have := hm.l; omega) (fun A' c' hc' => callK.ret ?_))
  refine SXL.nil (SXA.next inferInstance ?_)
  refine Qw 9 ?_
  refine SXL.call rfl rfl rfl ?_
  refine (Add_S ⟨s1.cookie, i, g, name⟩ (l := entS s1) (A := A') (c := c') inferInstance hc' (by have := (entS_ok hw1).2; rw [hd1] at this; have := hm.l; omega) (fun r n hr A2 c2 hc2 => callK.ret ?_))
  refine SXL.nil (SXA.next inferInstance ?_)
  have hlen := (addM_wf (e := ⟨s1.cookie, i, g, name⟩) (entS_ok hw1).1 ⟨by rw [← hck]; exact hc.1, by rw [← hck]; exact hc.2, hi.1, hi.2, hg.1, hg.2⟩)
  have hl9 := (entS_ok hw1).2
  rw [hr] at hlen h2
  simp only [hr] at h1
  have hrl : r.length ≤ (entS s1).length + 1 := hlen.2
  rw [hd1] at hl9
  have hl8 := hm.l
  refine Qr 10 ?_
  refine Qr 11 ?_
  refine Qr 12 ?_
  refine Qr 13 ?_
  refine Qr 14 ?_
  refine Qv ?_
  repeat (first|refine Qa ?_|refine Qe ?_|refine Qf ?_|fail)
  refine SXL.call rfl rfl rfl ?_
  refine (need_S (F' := .per (datR (ts.set j s1) ps) :: R) inferInstance (fun hg => callK.ret ?_) (fun hg => callK.panic (h2 _ _ (by rw [show (n == 0) = false from hg]; rfl) inferInstance)))
  rw [show (n == 0) = true from hg] at h2
  simp only [show (n == 0) = true from hg] at h1
  repeat (first|refine Qa ?_|refine Qd ?_|refine Qe ?_|fail)
  refine SXL.call rfl rfl rfl ?_
  refine (Fn.sub (keep_S (R := .own A2 (rowR kE 87 (.slice A2 r.length c2) r) :: .per (datR (ts.set j s1) ps) :: R) (ts := ts.set j s1) (ps := ps) (l := r) (A := A2) (c := c2) (m := m) (cap := cap) (b := b) inferInstance hc2 (by omega) hlen.1 inferInstance hs2 hx (fun s' x' hk => callK.ret ?_) (fun e M' he hM' => callK.panic (h2 e M' he (hM'.trans inferInstance)))) inferInstance)
  rw [List.set_set]
  repeat (first|refine Qd ?_|fail)
  refine SX.fin (M' := (.own (some ⟨b, 0, none⟩) (thR b m cap (ts.set j s') (ps.set j x')) :: .per (datR (ts.set j s') (ps.set j x')) :: R)) rfl Evals.nil ?_ inferInstance
  exact h1 s' x' hk
theorem leave_S (hd : Has (datR ts ps) R) (hs : ts[j]? = some s) (hx : ps[j]? = some x) (hm : s.mid)
    (h1 : ∀ s' x', leaveS s name = .ok s' → K (.returned (.tuple #[])) (.own (some ⟨b, 0, none⟩) (thR b m cap (ts.set j s') (ps.set j x')) :: .per (datR (ts.set j s') (ps.set j x')) :: R)) (h2 : ∀ e M', leaveS s name = .error e → Sub M' R → K (.panicked (failP e)) M') :
    Fn (Tryz.prog) 82 [.pointer (some ⟨b, j * 9, none⟩), .string name] (.own (some ⟨b, 0, none⟩) (thR b m cap ts ps) :: R) K := by
  unfold leaveS at h1 h2
  dsimp only at h1 h2
  have hl8 := hm.l
  have hl9 := (entS_ok hm.w).2
  refine Fn.enter Tryz.call82 Tryz.func82 rfl rfl rfl ?_
  repeat (first|refine Qa ?_|refine Qe ?_|refine Qf ?_|fail)
  refine SXL.call rfl rfl rfl ?_
  refine (entries_S (ts := ts) (ps := ps) inferInstance inferInstance hs hx hm.w.d (by omega) (fun A' c' hc' => callK.ret ?_))
  repeat (first|refine Qa ?_|fail)
  refine SXL.call rfl rfl rfl ?_
  refine (Remove_S name (l := entS s) (A := A') (c := c') inferInstance hc' (by omega) (fun r n hr A2 c2 hc2 => callK.ret ?_))
  have hlen := (removeM_wf (s := name) (entS_ok hm.w).1)
  rw [hr] at hlen h2
  simp only [hr] at h1
  have hrl : r.length ≤ (entS s).length := hlen.2
  repeat (first|refine Qa ?_|refine Qd ?_|refine Qe ?_|refine Qf ?_|fail)
  refine SXL.call rfl rfl rfl ?_
  refine (need_S (F' := R) inferInstance (fun hg => callK.ret ?_) (fun hg => callK.panic (h2 _ _ (by rw [show (n == 0) = false from hg]; rfl) inferInstance)))
  rw [show (n == 0) = true from hg] at h2
  simp only [show (n == 0) = true from hg] at h1
  repeat (first|refine Qa ?_|refine Qd ?_|refine Qe ?_|fail)
  refine SXL.call rfl rfl rfl ?_
  refine (Fn.sub (keep_S (R := .own A2 (rowR kE 87 (.slice A2 r.length c2) r) :: R) (ts := ts) (ps := ps) (l := r) (A := A2) (c := c2) (m := m) (cap := cap) (b := b) inferInstance hc2 (by omega) hlen.1 inferInstance hs hx (fun s' x' hk => callK.ret ?_) (fun e M' he hM' => callK.panic (h2 e M' he (hM'.trans inferInstance)))) inferInstance)
  repeat (first|refine Qd ?_|fail)
  refine SX.fin (M' := (.own (some ⟨b, 0, none⟩) (thR b m cap (ts.set j s') (ps.set j x')) :: .per (datR (ts.set j s') (ps.set j x')) :: R)) rfl Evals.nil ?_ inferInstance
  exact h1 s' x' hk
theorem unlink_S (hd : Has (datR ts ps) R) (hs : ts[j]? = some s) (hx : ps[j]? = some x)
    (h : ∀ x', K (.returned (.tuple #[])) (.own (some ⟨b, 0, none⟩) (thR b m cap (ts.set j (unlinkS s)) (ps.set j x')) :: .per (datR (ts.set j (unlinkS s)) (ps.set j x')) :: R)) :
    Fn (Tryz.prog) 83 [.pointer (some ⟨b, j * 9, none⟩)] (.own (some ⟨b, 0, none⟩) (thR b m cap ts ps) :: R) K := by
  haveI g1 : GetIs ts j s := ⟨hs⟩
  haveI g2 : GetIs ps j x := ⟨hx⟩
  have hwr : IntKind.u32.wrap (s.links - 1) = (s.links - 1) % 4294967296 := rfl
  obtain ⟨s1, hs1⟩ : ∃ s1 : Sl, s1 = { s with links := (s.links - 1) % 4294967296 } := ⟨_, rfl⟩
  have hjl : j < ts.length := (List.getElem?_eq_some_iff.1 hs).1
  have hs2 : (ts.set j s1)[j]? = some s1 := by simp [hjl]
  haveI g3 : GetIs (ts.set j s1) j s1 := ⟨hs2⟩
  have hd1 : s1.d = s.d := by rw [hs1]
  have hlk : (s.links - 1) % 4294967296 = s1.links := by rw [hs1]
  refine Fn.enter Tryz.call83 Tryz.func83 rfl rfl rfl ?_
  repeat (first|refine Qa ?_|refine Qe ?_|refine Qf ?_|refine Qx ?_|fail)
  rw [hwr]
  refine SXL.stSl (ts := ts) (ps := ps) s1 x rfl rfl inferInstance hs hx (by rw [hs1]; rfl) ?_
  rw [set_same hx]
  refine SXL.derive (datR ts ps) (datR (ts.set j s1) ps) (datR_same hs hd1) ?_
  repeat (first|refine Qa ?_|refine Qd ?_|refine Qe ?_|refine Qf ?_|refine Qx ?_|fail)
  refine SX.cond rfl (fun hz => ?_) (fun hz => ?_)
  · have hz2 : (s.links - 1) % 4294967296 = 0 := by rw [hlk]; simpa using hz
    obtain ⟨s0, hs0⟩ : ∃ s0 : Sl, s0 = ⟨s1.ino, 0, s1.gen, 0, 0, s1.change, 0, 0, []⟩ := ⟨_, rfl⟩
    have hu : unlinkS s = s0 := by unfold unlinkS; rw [if_pos hz2, hs0, hs1]
    rw [hu] at h
    skip
    refine SXA.begin (.own (some ⟨b, 0, none⟩) (thR b m cap (ts.set j s1) ps) :: []) [15] ?_
    refine Qr 0 ?_
    refine Qr 1 ?_
    refine Qr 2 ?_
    refine Qr 3 ?_
    refine Qxa 4 ?_
    refine Qr 5 ?_
    refine Qr 6 ?_
    refine Qr 7 ?_
    refine Qxa 8 ?_
    refine Qr 9 ?_
    refine Qr 10 ?_
    refine Qr 11 ?_
    refine Qxa 12 ?_
    refine Qr 13 ?_
    refine Qr 14 ?_
    refine Qw 15 ?_
    refine SXL.stSl (f := 0) (ts := ts.set j s1) (ps := ps) s0 (none, 0) rfl rfl inferInstance hs2 hx (by rw [hs0]; rfl) ?_
    refine SXL.derive (datR (ts.set j s1) ps) (datR ((ts.set j s1).set j s0) (ps.set j (none, 0))) (fun w S h => datR_set (by rw [hs0]; exact Nat.le_refl _) w S h (by rw [hs0]; exact Kd.F_nil _ w S)) ?_
    rw [List.set_set]
    refine SXL.nil (SXA.nextLast rfl ?_)
    refine Qv ?_
    skip
    refine SX.fin (M' := (.own (some ⟨b, 0, none⟩) (thR b m cap (ts.set j s0) (ps.set j (none, 0))) :: .per (datR (ts.set j s0) (ps.set j (none, 0))) :: R)) rfl Evals.nil ?_ inferInstance
    exact h (none, 0)
  · have hz2 : ¬ (s.links - 1) % 4294967296 = 0 := by rw [hlk]; simpa using hz
    have hu : unlinkS s = s1 := by unfold unlinkS; rw [if_neg hz2, hs1]
    rw [hu] at h
    repeat (first|refine Qg ?_|fail)
    have h9 := h x
    rw [set_same hx] at h9
    refine SX.fin (M' := (.own (some ⟨b, 0, none⟩) (thR b m cap (ts.set j s1) ps) :: .per (datR (ts.set j s1) ps) :: R)) rfl Evals.nil ?_ inferInstance
    exact h9
theorem sized_S {xs : List Int} (hr : Ro (Kd.int .u8) A F xs) (hn : n ≤ 100000)
    (h : ∀ g, K (.returned (.slice (some ⟨g, 0, none⟩) n n)) (.own (some ⟨g, 0, none⟩) (cellsR g (u8s (sizedL xs n)) 5) :: F)) : Fn (Tryz.prog) 72 [.slice A xs.length c, .int .i64 (n : Int)] F K := by
  refine Fn.enter Tryz.call72 Tryz.func72 rfl rfl rfl ?_
  repeat (first|refine Qa ?_|refine Qd ?_|refine Qe ?_|refine Qf ?_|fail)
  refine SXL.make (nb := 1) rfl rfl rfl rfl rfl rfl rfl rfl (by kernel_rfl) (by omega) (by omega) (by omega) rfl (fun g => ?_)
  rw [Int.toNat_natCast]
  repeat (first|refine Qa ?_|refine Qd ?_|refine Qe ?_|refine Qf ?_|fail)
  refine SXL.copy (ys := xs) rfl rfl inferInstance inferInstance rfl Tryz.underlying38 (by kernel_rfl) (by simp; omega) rfl ?_
  have e1 : (List.replicate n (Value.int .u8 0)).take 0 ++ u8s (xs.take (min xs.length n)) ++ (List.replicate n (Value.int .u8 0)).drop (0 + min xs.length n) = u8s (sizedL xs n) := by
    have e2 : xs.take (min xs.length n) = xs.take n := by
      rcases Nat.le_total xs.length n with h1 | h1
      · rw [Nat.min_eq_left h1, List.take_length, List.take_of_length_le h1]
      · rw [Nat.min_eq_right h1]
    have e3 : n - min xs.length n = n - xs.length := by omega
    rw [e2, List.take_zero, Nat.zero_add, List.drop_replicate, e3]
    simp [sizedL, u8s]
  rw [e1]
  repeat (first|refine Qa ?_|refine Qd ?_|refine Qe ?_|refine Qf ?_|fail)
  refine SX.ret (M' := (.own (some ⟨g, 0, none⟩) (cellsR g (u8s (sizedL xs n)) 5) :: F)) rfl (Evals.tmp rfl Evals.nil) ?_ inferInstance
  exact h g
end
end Go.Proofs.YtanemmcddgkpdaaGreat.Sx
end
section
/- Chapter 13: an op as a contract; the ops that ask, walked; conditions: those that each theorem names. -/
namespace Go.Proofs.YtanemmcddgkpdaaGreat.Sx
open Go.RowKit Go.Proofs.YtanemmcddgkpdaaGreat.Hm Go.Proofs.YtanemmcddgkpdaaGreatW.PrintWords Go.Proofs.YtanemmcddgkpdaaGreatW.PrintLast Go.Proofs.YtanemmcddgkpdaaGreatW.PrintMore
set_option linter.unusedVariables false
set_option linter.unusedSimpArgs false
attribute [local irreducible] SX SXL SXA St callK Post Evals
theorem datR_d {ts ts' : List Sl} {ps : List Pl} (h : ts'.map Sl.d = ts.map Sl.d) (w : World) (S : Nat → Prop) (hd : (datR ts ps).P w S) : (datR ts' ps).P w S := by
  have hl : ts'.length = ts.length := by simpa using congrArg List.length h
  refine ⟨by rw [hd.1, hl], fun j s x h3 h4 => ?_⟩
  have h5 : (ts'.map Sl.d)[j]? = some s.d := by rw [List.getElem?_map, h3]; rfl
  rw [h, List.getElem?_map] at h5
  cases hq : ts[j]? with
  | none => rw [hq] at h5; cases h5
  | some q =>
    rw [hq] at h5
    have h6 : q.d = s.d := by injection h5
    have h7 := hd.2 j q x hq h4
    rw [h6] at h7
    exact h7
class IsNil {α : Type} (xs : List α) : Prop where
  h : xs = []
instance (priority := 500) Has.nilIs {α : Type} {D : Kd α} {xs : List α} {M : List Thing} [h : IsNil xs] : Has (roR D none xs) M := ⟨fun w I U _ => by rw [h.h]; exact Kd.F_nil D w _⟩
abbrev wkM (pw b cap : Nat) (t : Th) (c : Ca) (Ac : Option Addr) (cc : Nat) (r : Re) (Ad : Option Addr) (cd : Nat) (Ae : Option Addr) (ce : Nat) : Res := cellsR pw (wkC (some ⟨b, 0, none⟩) 24 cap t.ch t.room c Ac cc r Ad cd Ae ce) 100
/-- What an op does: things, reply, or how it ends. -/
def OpS (P : Program) (f : FuncId) (E : Th → Re → Ca → Ex (Th × Re)) : Prop :=
  ∀ {R : List Thing} {K : Ending → List Thing → Prop} {b pw cap cc : Nat} {Ac : Option Addr} {t : Th} {ps : List Pl} {c : Ca} {r : Re}, ps.length = 24 → 24 ≤ cap → t.mid → c.wf → c.d.length ≤ 4000000000 → c.d.length ≤ cc → Has (datR t.l ps) R → Ro (Kd.int .u8) Ac R c.d → r.d = [] → r.e = [] →
    (∀ t' r' ps' Ad cd Ae ce, E t r c = .ok (t', r') → r'.d.length ≤ cd → r'.e.length ≤ ce → ps'.length = 24 → t'.mid → K (.returned (.tuple #[])) (.own (some ⟨pw, 0, none⟩) (wkM pw b cap t' c Ac cc r' Ad cd Ae ce) :: .own (some ⟨b, 0, none⟩) (thR b 24 cap t'.l ps') :: .per (datR t'.l ps') :: .per (roR (Kd.int .u8) Ad r'.d) :: .per (roR kE Ae r'.e) :: R)) →
    (∀ e M', E t r c = .error e → Sub M' R → K (.panicked (failP e)) M') →
    Fn P f [.pointer (some ⟨pw, 0, none⟩)] (.own (some ⟨pw, 0, none⟩) (wkM pw b cap t c Ac cc r none 0 none 0) :: .own (some ⟨b, 0, none⟩) (thR b 24 cap t.l ps) :: R) K
section
variable {F R : List Thing} {K : Ending → List Thing → Prop} {i g : Int} {b pw cap cc cd ce j : Nat} {Ac Ad Ae : Option Addr} {t : Th} {ps : List Pl} {c : Ca} {r : Re} {s : Sl} {x : Pl} {name : ByteArray}
theorem thing_P (t : Th) (ps : List Pl) (hm : t.mid) (hps : ps.length = 24) (hcap : 24 ≤ cap) (hat : At (some ⟨pw, 0, none⟩) F (wkM pw b cap t c Ac cc r Ad cd Ae ce) R) (hr : Ro (cellsK 9) (some ⟨b, 0, none⟩) F (slZ t.l ps)) (hi : 0 ≤ i)
    (h1 : ∀ k s x, thingE t i g = .ok k → t.l[k]? = some s → ps[k]? = some x → atT t k = s → s.mid → k < 24 → GetIs t.l k s → GetIs ps k x → K (.returned (.pointer (some ⟨b, k * 9, none⟩))) F) (h2 : ∀ e, thingE t i g = .error e → K (.panicked (failP e)) F) :
    Fn (Tryz.prog) 69 [.pointer (some ⟨pw, 0, none⟩), .agg #[.int .u32 i, .int .u32 g]] F K := by
  have hn := hm.n
  unfold wkM at hat
  rw [← hn] at hat
  exact thing_S hat hr (by omega) hn hcap hi (fun k s x hk hs hx => h1 k s x hk hs hx (atT_get hs) (hm.at hs) (by have := (List.getElem?_eq_some_iff.1 hs).1; omega) ⟨hs⟩ ⟨hx⟩) h2
theorem folder_P (t : Th) (ps : List Pl) (hm : t.mid) (hps : ps.length = 24) (hcap : 24 ≤ cap) (hat : At (some ⟨pw, 0, none⟩) F (wkM pw b cap t c Ac cc r Ad cd Ae ce) R) (hr : Ro (cellsK 9) (some ⟨b, 0, none⟩) F (slZ t.l ps)) (hi : 0 ≤ i)
    (h1 : ∀ k s x, folderE t i g = .ok k → t.l[k]? = some s → ps[k]? = some x → atT t k = s → s.mid → k < 24 → GetIs t.l k s → GetIs ps k x → K (.returned (.pointer (some ⟨b, k * 9, none⟩))) F) (h2 : ∀ e, folderE t i g = .error e → K (.panicked (failP e)) F) :
    Fn (Tryz.prog) 65 [.pointer (some ⟨pw, 0, none⟩), .agg #[.int .u32 i, .int .u32 g]] F K := by
  have hn := hm.n
  unfold wkM at hat
  rw [← hn] at hat
  exact folder_S hat hr (by omega) hn hcap hi (fun k s x hk hs hx => h1 k s x hk hs hx (atT_get hs) (hm.at hs) (by have := (List.getElem?_eq_some_iff.1 hs).1; omega) ⟨hs⟩ ⟨hx⟩) h2
theorem file_P (t : Th) (ps : List Pl) (hm : t.mid) (hps : ps.length = 24) (hcap : 24 ≤ cap) (hat : At (some ⟨pw, 0, none⟩) F (wkM pw b cap t c Ac cc r Ad cd Ae ce) R) (hr : Ro (cellsK 9) (some ⟨b, 0, none⟩) F (slZ t.l ps)) (hi : 0 ≤ i)
    (h1 : ∀ k s x, fileE t i g = .ok k → t.l[k]? = some s → ps[k]? = some x → atT t k = s → s.mid → k < 24 → GetIs t.l k s → GetIs ps k x → K (.returned (.pointer (some ⟨b, k * 9, none⟩))) F) (h2 : ∀ e, fileE t i g = .error e → K (.panicked (failP e)) F) :
    Fn (Tryz.prog) 70 [.pointer (some ⟨pw, 0, none⟩), .agg #[.int .u32 i, .int .u32 g]] F K := by
  have hn := hm.n
  unfold wkM at hat
  rw [← hn] at hat
  exact file_S hat hr (by omega) hn hcap hi (fun k s x hk hs hx => h1 k s x hk hs hx (atT_get hs) (hm.at hs) (by have := (List.getElem?_eq_some_iff.1 hs).1; omega) ⟨hs⟩ ⟨hx⟩) h2
theorem child_P (t : Th) (ps : List Pl) (hm : t.mid) (hps : ps.length = 24) (hcap : 24 ≤ cap) (hat : At (some ⟨pw, 0, none⟩) F (wkM pw b cap t c Ac cc r Ad cd Ae ce) R) (hr : Ro (cellsK 9) (some ⟨b, 0, none⟩) F (slZ t.l ps)) (hd : Has (datR t.l ps) F) (hs : t.l[j]? = some s) (hx : ps[j]? = some x)
    (h1 : ∀ k s x, childE t j name = .ok k → t.l[k]? = some s → ps[k]? = some x → atT t k = s → s.mid → k < 24 → GetIs t.l k s → GetIs ps k x → K (.returned (.pointer (some ⟨b, k * 9, none⟩))) F) (h2 : ∀ e, childE t j name = .error e → K (.panicked (failP e)) F) :
    Fn (Tryz.prog) 68 [.pointer (some ⟨pw, 0, none⟩), .pointer (some ⟨b, j * 9, none⟩), .string name] F K := by
  have hn := hm.n
  have hsm := hm.at hs
  have hsl := hsm.l
  unfold wkM at hat
  rw [← hn] at hat
  exact child_S hat hr hd (by omega) hn hcap hs hx hsm.w.d (by omega) (fun e he => by obtain ⟨_, _, h, _⟩ := (entS_ok hsm.w).1 e he; exact h) (fun k s x hk hs hx => h1 k s x hk hs hx (atT_get hs) (hm.at hs) (by have := (List.getElem?_eq_some_iff.1 hs).1; omega) ⟨hs⟩ ⟨hx⟩) h2
theorem Used_P {ts : List Sl} {ch room : Int} (hr : Ro (cellsK 9) (some ⟨b, 0, none⟩) F (slZ ts ps)) (hn : ts.length = 24) (hps : ps.length = 24) (hcap : 24 ≤ cap) (hd : ∀ s ∈ ts, s.mid) (h : K (.returned (.int .i64 (usedT ts : Nat))) F) :
    Fn (Tryz.prog) 28 [.agg #[.slice (some ⟨b, 0, none⟩) 24 cap, .int .u64 ch, .int .i64 room]] F K := by
  rw [← hn]
  exact Used_S hr (by omega) (by omega) (by omega) (fun s hs => by have := (hd s hs).l; omega) h
theorem tell_P (t : Th) (ps : List Pl) (hat : At (some ⟨pw, 0, none⟩) F (wkM pw b cap t c Ac cc r Ad cd Ae ce) R) (hr : Ro (cellsK 9) (some ⟨b, 0, none⟩) R (slZ t.l ps)) (hs : t.l[j]? = some s) (hx : ps[j]? = some x) (hsm : s.mid)
    (h : K (.returned (.tuple #[])) (.own (some ⟨pw, 0, none⟩) (wkM pw b cap t c Ac cc (tellS s r) Ad cd Ae ce) :: R)) :
    Fn (Tryz.prog) 67 [.pointer (some ⟨pw, 0, none⟩), .pointer (some ⟨b, j * 9, none⟩)] F K :=
  tell_S (ts := t.l) (ps := ps) hat hr hs hx (by have := hsm.l; omega) h
end
section
theorem getattr_S : OpS (Tryz.prog) 34 getattrE := by
  intro R K b pw cap cc Ac t ps c r hps hcap hm hcw hcl hcc hd hro hrd hre h1 h2
  haveI n1 : IsNil r.d := ⟨hrd⟩
  haveI n2 : IsNil r.e := ⟨hre⟩
  refine Fn.enter Tryz.call34 Tryz.func34 rfl rfl rfl ?_
  repeat (first|refine Qa ?_|refine Qb ?_|refine Qe ?_|fail)
  refine SXL.call rfl rfl rfl ?_
  refine (thing_P t ps (c := c) (r := r) hm hps hcap inferInstance inferInstance hcw.ai.1 (fun k s x hk hs hx ha hsm hk24 g1 g2 => callK.ret ?_) (fun e he => callK.panic (h2 e _ (by unfold getattrE; simp only [he, erE]) inferInstance)))
  skip
  refine SXL.call rfl rfl rfl ?_
  refine (tell_P t ps (c := c) (r := r) inferInstance inferInstance hs hx hsm (callK.ret ?_))
  repeat (first|refine Qd ?_|fail)
  refine SX.fin (M' := (.own (some ⟨pw, 0, none⟩) (wkM pw b cap t c Ac cc (tellS s r) none 0 none 0) :: .own (some ⟨b, 0, none⟩) (thR b 24 cap t.l ps) :: .per (datR t.l ps) :: .per (roR (Kd.int .u8) none (tellS s r).d) :: .per (roR kE none (tellS s r).e) :: R)) rfl Evals.nil ?_ inferInstance
  exact h1 t (tellS s r) ps none 0 none 0 (by unfold getattrE; simp only [hk, okE, puE, ha]) (by rw [hrd]; exact Nat.le_refl _) (by rw [hre]; exact Nat.le_refl _) hps hm
theorem lookup_S : OpS (Tryz.prog) 33 lookupE := by
  intro R K b pw cap cc Ac t ps c r hps hcap hm hcw hcl hcc hd hro hrd hre h1 h2
  haveI n1 : IsNil r.d := ⟨hrd⟩
  haveI n2 : IsNil r.e := ⟨hre⟩
  refine Fn.enter Tryz.call33 Tryz.func33 rfl rfl rfl ?_
  repeat (first|refine Qa ?_|refine Qb ?_|refine Qe ?_|refine Qf ?_|fail)
  refine SXL.call rfl rfl rfl ?_
  refine (folder_P t ps (c := c) (r := r) hm hps hcap inferInstance inferInstance hcw.ai.1 (fun k s x hk hs hx ha hsm hk24 g1 g2 => callK.ret ?_) (fun e he => callK.panic (h2 e _ (by unfold lookupE; simp only [he, erE]) inferInstance)))
  repeat (first|refine Qa ?_|refine Qb ?_|refine Qd ?_|refine Qe ?_|refine Qf ?_|fail)
  refine SXL.call rfl rfl rfl ?_
  refine (named_S (fun hn => callK.ret ?_) (fun e he => callK.panic (h2 e _ (by unfold lookupE; simp only [hk, okE, he, erE]) inferInstance)))
  repeat (first|refine Qa ?_|refine Qb ?_|refine Qd ?_|refine Qe ?_|fail)
  refine SXL.call rfl rfl rfl ?_
  refine (child_P t ps (c := c) (r := r) hm hps hcap inferInstance inferInstance inferInstance hs hx (fun k' s' x' hk' hs' hx' ha' hsm' hk24' g1' g2' => callK.ret ?_) (fun e he => callK.panic (h2 e _ (by unfold lookupE; simp only [hk, hn, okE, he, erE]) inferInstance)))
  skip
  refine SXL.call rfl rfl rfl ?_
  refine (tell_P t ps (c := c) (r := r) inferInstance inferInstance hs' hx' hsm' (callK.ret ?_))
  repeat (first|refine Qd ?_|fail)
  refine SX.fin (M' := (.own (some ⟨pw, 0, none⟩) (wkM pw b cap t c Ac cc (tellS s' r) none 0 none 0) :: .own (some ⟨b, 0, none⟩) (thR b 24 cap t.l ps) :: .per (datR t.l ps) :: .per (roR (Kd.int .u8) none (tellS s' r).d) :: .per (roR kE none (tellS s' r).e) :: R)) rfl Evals.nil ?_ inferInstance
  exact h1 t (tellS s' r) ps none 0 none 0 (by unfold lookupE; simp only [hk, hn, hk', okE, puE, ha']) (by rw [hrd]; exact Nat.le_refl _) (by rw [hre]; exact Nat.le_refl _) hps hm
theorem commit_S : OpS (Tryz.prog) 48 commitE := by
  intro R K b pw cap cc Ac t ps c r hps hcap hm hcw hcl hcc hd hro hrd hre h1 h2
  haveI n1 : IsNil r.d := ⟨hrd⟩
  haveI n2 : IsNil r.e := ⟨hre⟩
  refine Fn.enter Tryz.call48 Tryz.func48 rfl rfl rfl ?_
  repeat (first|refine Qa ?_|refine Qe ?_|refine Qf ?_|fail)
  refine SXL.call rfl rfl rfl ?_
  refine (getattr_S hps hcap hm hcw hcl hcc hd hro hrd hre (fun t' r' ps' Ad cd Ae ce he hc1 hc2 hps' hm' => callK.ret ?_) (fun e M' he hM => callK.panic (h2 e M' (by
      unfold getattrE at he
      unfold commitE
      cases hq : thingE t c.ai c.ag with
      | error e' => rw [hq] at he; exact he
      | ok k => rw [hq] at he; cases he) hM)))
  unfold wkM wkC
  repeat (first|refine Qa ?_|refine Qc ?_|refine Qd ?_|refine Qe ?_|fail)
  have e9 : commitE t r c = .ok (t', { r' with verf := 1 }) := by
    unfold getattrE at he
    unfold commitE
    cases hq : thingE t c.ai c.ag with
    | error e' => rw [hq] at he; cases he
    | ok k =>
      rw [hq] at he
      simp only [okE, puE] at he ⊢
      injection he with he
      injection he with h3 h4
      subst h3; subst h4
      rfl
  refine SX.fin (M' := (.own (some ⟨pw, 0, none⟩) (wkM pw b cap t' c Ac cc { r' with verf := 1 } Ad cd Ae ce) :: .own (some ⟨b, 0, none⟩) (thR b 24 cap t'.l ps') :: .per (datR t'.l ps') :: .per (roR (Kd.int .u8) Ad r'.d) :: .per (roR kE Ae r'.e) :: R)) rfl Evals.nil ?_ inferInstance
  exact h1 t' { r' with verf := 1 } ps' Ad cd Ae ce e9 hc1 hc2 hps' hm'
end
end Go.Proofs.YtanemmcddgkpdaaGreat.Sx
end
