/- Part V5 of the lemmas and walks of the Go functions that these statements reach; conditions: those that each theorem names. -/
import Derived.Test.YtpbhanpblmoepaaGreatJU
import Derived.Test.YtpbhanpblmoepaaGreatJV4
import Derived.Test.YtpbhanpblmoepaaGreatJV
section
/- The Go package xdr's writer, as a thing; conditions: those that each theorem names. -/
namespace Go.Proofs.YtpbhanpblmoepaaGreat.Sx
open Go.RowKit Go.Proofs.YtpbhanpblmoepaaGreat.Hm Go.Proofs.YtpbhanpblmoepaaGreatW.PrintWords Go.Proofs.YtpbhanpblmoepaaGreatW.PrintLast Go.Proofs.YtpbhanpblmoepaaGreatW.PrintMore
set_option linter.unusedVariables false
set_option linter.unusedSimpArgs false
attribute [local irreducible] SX SXL SXA St callK Post Evals

/-- A writer that has put these bytes. -/
def wrR (p : Nat) (xs : List Int) : Res where
  P := fun w S => S p ∧ Wr w 0 p S xs
  mono := fun h hs => ⟨hs _ h.1, h.2.mono hs⟩
  loc := fun h _ hs => by
    obtain ⟨h1, h2⟩ := h
    obtain ⟨v, h3, h4⟩ := h2.ex
    exact ⟨h1, h2.le, ⟨v, (hs p h1 (blk_lt h3)).trans h3, Kd.R_step h4 hs⟩, h2.by_⟩
theorem wr_act {w w' : World} {p : Nat} {ys : List Int} {R : List Thing} {I S : Nat → Prop} (hI : ∀ k, I k → k < w.heap.size) (hS : ∀ k, S k → k < w.heap.size ∧ ¬ I k) (hL : HoldsU w I R (fun k => (k < w.heap.size ∧ ¬ I k) ∧ ¬ S k))
    (hp : S p) (hw : Wr w' 0 p (fun k => S k ∨ w.heap.size ≤ k) ys) (hk : Kept w w' (fun k => (S k ∨ w.heap.size ≤ k) ∨ k = p)) (hb : Below 0 w w') : Holds w' (.own (some ⟨p, 0, none⟩) (wrR p ys) :: R) := by
  obtain ⟨v, h3, h4⟩ := hw.ex
  refine Holds.act1 hI hS hL (Env.of hb) hk.1 (fun k hlt hn => hk.2 k hlt (fun h => ?_)) (S' := fun k => (S k ∨ w.heap.size ≤ k) ∧ k < w'.heap.size) (fun k hk => hk) ?_
  · rcases h with (h | h) | h
    · exact hn h
    · omega
    · exact hn (h ▸ hp)
  · exact ⟨⟨.inl hp, blk_lt h3⟩, hw.le, ⟨v, h3, Kd.R_mono (Kd.R_bound h4) (fun k hk => ⟨hk.1, hk.2.2.1⟩)⟩, hw.by_⟩
section
variable {F R : List Thing} {K : Ending → List Thing → Prop} {p : Nat} {xs : List Int}
theorem NewWriter_S (h : ∀ p, K (.returned (.pointer (some ⟨p, 0, none⟩))) (.own (some ⟨p, 0, none⟩) (wrR p []) :: F)) : Fn (Tryz.prog) 41 [] F K :=
  Fn.of Tryz.call41 (fun w hw => (NewWriter_any w).mono (by
    rintro e w' ⟨rfl, hr, hb⟩
    refine ⟨_, h _, ?_⟩
    obtain ⟨v, h3, h4⟩ := hr.ex
    refine hw.new hb _ (S := fun k => w.heap.size ≤ k ∧ k < w'.heap.size) ?_ (fun k hk => hk)
    exact ⟨⟨Nat.le_refl _, blk_lt h3⟩, Nat.zero_le _, ⟨v, h3, Kd.R_lower (Kd.R_mono (Kd.R_bound h4) (fun k hk => ⟨hk.2.1, hk.2.2.1⟩)) (Nat.zero_le _)⟩, hr.by_⟩))
theorem WU32_S {x : Int} (hat : At (some ⟨p, 0, none⟩) F (wrR p xs) R) (h0 : 0 ≤ x) (h1 : x < 4294967296) (hl : xs.length ≤ 140737488355000) (h : K (.returned (.tuple #[])) (.own (some ⟨p, 0, none⟩) (wrR p (xs ++ be32 x)) :: R)) :
    Fn (Tryz.prog) 42 [.pointer (some ⟨p, 0, none⟩), .int .u32 x] F K :=
  Fn.of Tryz.call42 (fun w hw => by
    obtain ⟨I, hI, S, hS, ⟨hp, hr⟩, hL⟩ := hw.at_ hat
    refine (U32_any 0 p (fun k => S k ∨ w.heap.size ≤ k) xs x w (hr.mono (fun _ h => .inl h)) (fun _ h => .inr h) h0 h1 hl).mono ?_
    rintro e w' ⟨rfl, hr', hk, hb⟩
    exact ⟨_, h, wr_act hI hS hL hp hr' hk hb⟩)
theorem WU64_S {x : Int} (hat : At (some ⟨p, 0, none⟩) F (wrR p xs) R) (h0 : 0 ≤ x) (h1 : x < 18446744073709551616) (hl : xs.length ≤ 140737488355000) (h : K (.returned (.tuple #[])) (.own (some ⟨p, 0, none⟩) (wrR p (xs ++ be64 x)) :: R)) :
    Fn (Tryz.prog) 70 [.pointer (some ⟨p, 0, none⟩), .int .u64 x] F K :=
  Fn.of Tryz.call70 (fun w hw => by
    obtain ⟨I, hI, S, hS, ⟨hp, hr⟩, hL⟩ := hw.at_ hat
    refine (U64_any 0 p (fun k => S k ∨ w.heap.size ≤ k) xs x w (hr.mono (fun _ h => .inl h)) (fun _ h => .inr h) h0 h1 hl).mono ?_
    rintro e w' ⟨rfl, hr', hk, hb⟩
    exact ⟨_, h, wr_act hI hS hL hp hr' hk hb⟩)
theorem WOpaque_S {A : Option Addr} {c : Nat} {l : List Int} (hat : At (some ⟨p, 0, none⟩) F (wrR p xs) R) (hs : Ro (Kd.int .u8) A R l) (hc : l.length ≤ c) (hb : bytesB l = true) (hl : xs.length ≤ 140737488000000) (hll : l.length ≤ 300000) (h : K (.returned (.tuple #[])) (.own (some ⟨p, 0, none⟩) (wrR p (xs ++ opq l)) :: R)) :
    Fn (Tryz.prog) 43 [.pointer (some ⟨p, 0, none⟩), .slice A l.length c] F K :=
  Fn.of Tryz.call43 (fun w hw => by
    obtain ⟨I, hI, S, hS, ⟨hp, hr⟩, hL⟩ := hw.at_ hat
    obtain ⟨T, hC, hF, hT⟩ := hs.h _ _ _ hL
    refine (Opaque_any 0 p (fun k => S k ∨ w.heap.size ≤ k) T xs A c l w (hr.mono (fun _ h => .inl h)) (fun _ h => .inr h) hF hc (fun k hk hlt hn => ?_) hb hl hll).mono ?_
    · have h9 : ¬ S k := by
        rcases hT k hk with h | h
        · exact fun hs => (hS k hs).2 h
        · exact h.2
      rcases hn with (hn | hn) | hn
      · exact h9 hn
      · omega
      · exact h9 (hn ▸ hp)
    rintro e w' ⟨rfl, hr', hk, hb⟩
    exact ⟨_, h, wr_act hI hS hL hp hr' hk hb⟩)
theorem WOut_S (hat : At (some ⟨p, 0, none⟩) F (wrR p xs) R) (hl : xs.length ≤ 140737488355000) (h : ∀ A' c', xs.length ≤ c' → K (.returned (.slice A' xs.length c')) (.own A' (rowR (Kd.int .u8) 5 (.slice A' xs.length c') xs) :: F)) :
    Fn (Tryz.prog) 45 [.pointer (some ⟨p, 0, none⟩)] F K :=
  Fn.ofRow (Kd.int .u8) 5 (fun v => v) xs Tryz.call45 (fun w hw => by
    obtain ⟨I, hI, S, hS, ⟨hp, hr⟩, hL⟩ := hw.at_ hat
    exact Out_any 0 p S xs w hr hl) h
end
end Go.Proofs.YtpbhanpblmoepaaGreat.Sx
end
section
/- The Go package xdr's reader, walked by what is known; conditions: those that each theorem names. -/
namespace Go.Proofs.YtpbhanpblmoepaaGreat.Sx
open Go.RowKit Go.Proofs.YtpbhanpblmoepaaGreat.Hm Go.Proofs.YtpbhanpblmoepaaGreatW.PrintWords Go.Proofs.YtpbhanpblmoepaaGreatW.PrintLast Go.Proofs.YtpbhanpblmoepaaGreatW.PrintMore
set_option linter.unusedVariables false
set_option linter.unusedSimpArgs false
attribute [local irreducible] SX SXL SXA St callK Post Evals

theorem Fn.at_ {P : Program} {f : FuncId} {args : List Value} {F R : List Thing} {K : Ending → List Thing → Prop} {key : Option Addr} {r : Res} (hat : At key F r R) (h : Fn P f args (.own key r :: R) K) : Fn P f args F K := h.mem (fun w hw => hw.at_ hat)
instance (priority := 2000) Sub.nilRo {α : Type} {D : Kd α} {M M' : List Thing} [s : Sub M M'] : Sub M (.per (roR D none ([] : List α)) :: M') := ⟨fun w I U h => ⟨Kd.F_nil D w _, s.h w I U h⟩⟩
theorem shl8_32 {x : Int} (h0 : 0 ≤ x) (h1 : x < 16777216) : shlI .u32 x 8 = x * 256 := by
  unfold shlI
  rw [show min (8 : Int).toNat IntKind.u32.bits = 8 from rfl, show (2 : Int) ^ 8 = 256 from rfl, IntWalk.u32_in _ (by omega)]
theorem shl8_64 {x : Int} (h0 : 0 ≤ x) (h1 : x < 72057594037927936) : shlI .u64 x 8 = x * 256 := by
  unfold shlI
  rw [show min (8 : Int).toNat IntKind.u64.bits = 8 from rfl, show (2 : Int) ^ 8 = 256 from rfl, IntWalk.u64_in _ (by omega)]
theorem or8_32 {x y : Int} (h0 : 0 ≤ x) (h1 : x < 16777216) (h2 : 0 ≤ y) (h3 : y < 256) : orI .u32 (x * 256) y = x * 256 + y := u32_or8' x y h0 (by omega) h2 h3
theorem or8_64 {x y : Int} (h0 : 0 ≤ x) (h1 : x < 72057594037927936) (h2 : 0 ≤ y) (h3 : y < 256) : orI .u64 (x * 256) y = x * 256 + y := u64_or8' x y h0 (by omega) h2 h3
theorem takeM_ok {xs r ys : List Int} {e : Int} {n : Nat} (h : takeM xs e n = (r, ys, 0)) : r.length = n := by
  unfold takeM at h
  split at h
  · rename_i he; simp only [Prod.mk.injEq] at h; exact absurd h.2.2 he
  · split at h
    · simp only [Prod.mk.injEq] at h; exact absurd h.2.2 (by decide)
    · simp only [Prod.mk.injEq] at h; rw [← h.1, List.length_take]; omega
section
variable {F R : List Thing} {K : Ending → List Thing → Prop} {p : Nat} {xs : List Int} {A : Option Addr} {c : Nat} {e : Int}
theorem BClone_S (hr : Ro (Kd.int .u8) A F xs) (hc : xs.length ≤ c) (hl : xs.length ≤ 140737488355327) (h : ∀ A' c', xs.length ≤ c' → K (.returned (.slice A' xs.length c')) (.own A' (rowR (Kd.int .u8) 5 (.slice A' xs.length c') xs) :: F)) :
    Fn (Tryz.prog) 48 [.slice A xs.length c] F K :=
  Fn.ofRow (Kd.int .u8) 5 (fun v => v) xs Tryz.call48 (fun w hw => slices_Clone.calls A c xs xs w (hw.ro hr) hc (by unfold slices_Clone.f; rw [if_pos hl])) h
theorem fill_S (n : Nat) (hn : n ≤ 140737488355328) (h : K (.returned (.int .i64 (((4 - n % 4) % 4 : Nat) : Int))) F) : Fn (Tryz.prog) 53 [.int .i64 (n : Int)] F K :=
  Fn.ofSame _ Tryz.call53 (fun w _ => fill_any n w hn) h
theorem ContainsNz_S (hr : Ro (Kd.int .u8) A F xs) (hc : xs.length ≤ c) (h : K (.returned (.bool (nzB xs))) F) : Fn (Tryz.prog) 54 [.slice A xs.length c, .func (.func 55) #[] #[]] F K :=
  Fn.ofSame _ Tryz.call54 (fun w hw => ContainsNz_any A c xs w (hw.ro hr) hc) h
/-- A reader, with what is left and its first error. -/
abbrev rdT (p : Nat) (A : Option Addr) (n c : Nat) (e : Int) : Thing := .own (some ⟨p, 0, none⟩) (cellsR p [.slice A n c, .int .i64 e] 109)
theorem NewReader_S (hr : Ro (Kd.int .u8) A F xs) (hc : xs.length ≤ c) (hl : xs.length ≤ 140737488355327) (h : ∀ p A' c', xs.length ≤ c' → K (.returned (.pointer (some ⟨p, 0, none⟩))) (rdT p A' xs.length c' 0 :: .per (roR (Kd.int .u8) A' xs) :: F)) :
    Fn (Tryz.prog) 14 [.slice A xs.length c] F K := by
  refine Fn.enter Tryz.call14 Tryz.func14 rfl rfl rfl ?_
  repeat (first | refine Qa ?_ | refine Qb ?_ | refine Qc ?_ | refine Qd ?_ | refine Qe ?_ | refine Qf ?_ | refine Qg ?_ | refine Qh ?_ | refine Qi ?_ | refine Qj ?_ | refine Qk ?_ | refine Ql ?_ | refine Qm ?_ | refine Qn ?_ | refine Qo ?_ | refine Qp ?_ | refine Qq ?_ | fail)
  refine SXL.call rfl rfl rfl ?_
  refine (BClone_S hr hc hl (fun A' c' hc' => callK.ret ?_))
  refine SXL.keepRow A' inferInstance ?_
  repeat (first | refine Qa ?_ | refine Qb ?_ | refine Qc ?_ | refine Qd ?_ | refine Qe ?_ | refine Qf ?_ | refine Qg ?_ | refine Qh ?_ | refine Qi ?_ | refine Qj ?_ | refine Qk ?_ | refine Ql ?_ | refine Qm ?_ | refine Qn ?_ | refine Qo ?_ | refine Qp ?_ | refine Qq ?_ | fail)
  refine SXL.box rfl rfl rfl (fun p => ?_)
  repeat (first | refine Qa ?_ | refine Qb ?_ | refine Qc ?_ | refine Qd ?_ | refine Qe ?_ | refine Qf ?_ | refine Qg ?_ | refine Qh ?_ | refine Qi ?_ | refine Qj ?_ | refine Qk ?_ | refine Ql ?_ | refine Qm ?_ | refine Qn ?_ | refine Qo ?_ | refine Qp ?_ | refine Qq ?_ | fail)
  refine SX.ret (M' := (rdT p A' xs.length c' 0 :: .per (roR (Kd.int .u8) A' xs) :: F)) rfl (Evals.tmp rfl Evals.nil) ?_ inferInstance
  exact h p A' c' hc'
theorem Rfail_S {v : Value} (n : Int) (h1 : v.oneCell' = true) (h : K (.returned (.tuple #[])) (.own (some ⟨p, 0, none⟩) (cellsR p [v, .int .i64 (failM e n)] 109) :: R)) :
    Fn (Tryz.prog) 51 [.pointer (some ⟨p, 0, none⟩), .int .i64 n] (.own (some ⟨p, 0, none⟩) (cellsR p [v, .int .i64 e] 109) :: R) K := by
  refine Fn.enter Tryz.call51 Tryz.func51 rfl rfl rfl ?_
  repeat (first | refine Qa ?_ | refine Qb ?_ | refine Qc ?_ | refine Qd ?_ | refine Qe ?_ | refine Qf ?_ | refine Qg ?_ | refine Qh ?_ | refine Qi ?_ | refine Qj ?_ | refine Qk ?_ | refine Ql ?_ | refine Qm ?_ | refine Qn ?_ | refine Qo ?_ | refine Qp ?_ | refine Qq ?_ | fail)
  refine SX.cond rfl (fun he => ?_) (fun he => ?_)
  · obtain rfl : e = 0 := by simpa using he
    rw [show failM 0 n = n from rfl] at h
    repeat (first | refine Qa ?_ | refine Qb ?_ | refine Qc ?_ | refine Qd ?_ | refine Qe ?_ | refine Qf ?_ | refine Qg ?_ | refine Qh ?_ | refine Qi ?_ | refine Qj ?_ | refine Qk ?_ | refine Ql ?_ | refine Qm ?_ | refine Qn ?_ | refine Qo ?_ | refine Qp ?_ | refine Qq ?_ | fail)
    refine SX.fin (M' := (.own (some ⟨p, 0, none⟩) (cellsR p [v, .int .i64 n] 109) :: R)) rfl Evals.nil ?_ inferInstance
    exact h
  · have he' : e ≠ 0 := by simpa using he
    have h2 : failM e n = e := by unfold failM; rw [if_neg he']
    rw [h2] at h
    repeat (first | refine Qa ?_ | refine Qb ?_ | refine Qc ?_ | refine Qd ?_ | refine Qe ?_ | refine Qf ?_ | refine Qg ?_ | refine Qh ?_ | refine Qi ?_ | refine Qj ?_ | refine Qk ?_ | refine Ql ?_ | refine Qm ?_ | refine Qn ?_ | refine Qo ?_ | refine Qp ?_ | refine Qq ?_ | fail)
    refine SX.fin (M' := (.own (some ⟨p, 0, none⟩) (cellsR p [v, .int .i64 e] 109) :: R)) rfl Evals.nil ?_ inferInstance
    exact h
theorem take_S {n : Nat} {r ys : List Int} {e2 : Int} [hx : Has (roR (Kd.int .u8) A xs) R] (hc : xs.length ≤ c) (hn : n ≤ 1000000) (hl : xs.length ≤ 140737488355328) (hm : takeM xs e n = (r, ys, e2))
    (h : ∀ A1 c1 A2 c2, r.length ≤ c1 → ys.length ≤ c2 → K (.returned (.slice A1 r.length c1)) (rdT p A2 ys.length c2 e2 :: .per (roR (Kd.int .u8) A2 ys) :: .per (roR (Kd.int .u8) A1 r) :: R)) :
    Fn (Tryz.prog) 52 [.pointer (some ⟨p, 0, none⟩), .int .i64 (n : Int)] (rdT p A xs.length c e :: R) K := by
  unfold takeM at hm
  refine Fn.enter Tryz.call52 Tryz.func52 rfl rfl rfl ?_
  repeat (first | refine Qa ?_ | refine Qb ?_ | refine Qc ?_ | refine Qd ?_ | refine Qe ?_ | refine Qf ?_ | refine Qg ?_ | refine Qh ?_ | refine Qi ?_ | refine Qj ?_ | refine Qk ?_ | refine Ql ?_ | refine Qm ?_ | refine Qn ?_ | refine Qo ?_ | refine Qp ?_ | refine Qq ?_ | fail)
  refine SX.condp rfl (fun hlt => ?_) (fun hlt => ?_)
  · repeat (first | refine Qa ?_ | refine Qb ?_ | refine Qc ?_ | refine Qd ?_ | refine Qe ?_ | refine Qf ?_ | refine Qg ?_ | refine Qh ?_ | refine Qi ?_ | refine Qj ?_ | refine Qk ?_ | refine Ql ?_ | refine Qm ?_ | refine Qn ?_ | refine Qo ?_ | refine Qp ?_ | refine Qq ?_ | fail)
    refine SXL.call rfl rfl rfl ?_
    refine (Rfail_S 10 rfl (callK.ret ?_))
    repeat (first | refine Qa ?_ | refine Qb ?_ | refine Qc ?_ | refine Qd ?_ | refine Qe ?_ | refine Qf ?_ | refine Qg ?_ | refine Qh ?_ | refine Qi ?_ | refine Qj ?_ | refine Qk ?_ | refine Ql ?_ | refine Qm ?_ | refine Qn ?_ | refine Qo ?_ | refine Qp ?_ | refine Qq ?_ | fail)
    refine SX.know 19 true rfl (by unfold failM; split <;> simp_all) ?_
    repeat (first | refine Qa ?_ | refine Qb ?_ | refine Qc ?_ | refine Qd ?_ | refine Qe ?_ | refine Qf ?_ | refine Qg ?_ | refine Qh ?_ | refine Qi ?_ | refine Qj ?_ | refine Qk ?_ | refine Ql ?_ | refine Qm ?_ | refine Qn ?_ | refine Qo ?_ | refine Qp ?_ | refine Qq ?_ | fail)
    have h9 : r = [] ∧ ys = xs ∧ e2 = failM e 10 := by
      unfold failM
      by_cases he : e = 0
      · rw [if_neg (by simpa using he), if_pos (by omega)] at hm
        simp only [Prod.mk.injEq] at hm
        rw [if_pos he]
        exact ⟨hm.1.symm, hm.2.1.symm, hm.2.2.symm⟩
      · rw [if_pos he] at hm
        simp only [Prod.mk.injEq] at hm
        rw [if_neg he]
        exact ⟨hm.1.symm, hm.2.1.symm, hm.2.2.symm⟩
    obtain ⟨rfl, rfl, rfl⟩ := h9
    refine SX.ret (M' := (rdT p A ys.length c (failM e 10) :: .per (roR (Kd.int .u8) A ys) :: .per (roR (Kd.int .u8) none []) :: R)) rfl (Evals.tmp rfl Evals.nil) ?_ inferInstance
    exact h none 0 A c (Nat.le_refl _) hc
  · repeat (first | refine Qa ?_ | refine Qb ?_ | refine Qc ?_ | refine Qd ?_ | refine Qe ?_ | refine Qf ?_ | refine Qg ?_ | refine Qh ?_ | refine Qi ?_ | refine Qj ?_ | refine Qk ?_ | refine Ql ?_ | refine Qm ?_ | refine Qn ?_ | refine Qo ?_ | refine Qp ?_ | refine Qq ?_ | fail)
    refine SX.cond rfl (fun he => ?_) (fun he => ?_)
    · have he' : e ≠ 0 := by simpa using he
      rw [if_pos he'] at hm
      simp only [Prod.mk.injEq] at hm
      obtain ⟨rfl, rfl, rfl⟩ := hm
      repeat (first | refine Qa ?_ | refine Qb ?_ | refine Qc ?_ | refine Qd ?_ | refine Qe ?_ | refine Qf ?_ | refine Qg ?_ | refine Qh ?_ | refine Qi ?_ | refine Qj ?_ | refine Qk ?_ | refine Ql ?_ | refine Qm ?_ | refine Qn ?_ | refine Qo ?_ | refine Qp ?_ | refine Qq ?_ | fail)
      refine SX.ret (M' := (rdT p A xs.length c e :: .per (roR (Kd.int .u8) A xs) :: .per (roR (Kd.int .u8) none []) :: R)) rfl (Evals.tmp rfl Evals.nil) ?_ inferInstance
      exact h none 0 A c (Nat.le_refl _) hc
    · obtain rfl : e = 0 := by simpa using he
      rw [if_neg (by simp), if_neg (by omega)] at hm
      simp only [Prod.mk.injEq] at hm
      obtain ⟨rfl, rfl, rfl⟩ := hm
      have htl : (xs.take n).length = n := by rw [List.length_take]; omega
      have hdl : (xs.drop n).length = xs.length - n := List.length_drop
      repeat (first | refine Qa ?_ | refine Qb ?_ | refine Qc ?_ | refine Qd ?_ | refine Qe ?_ | refine Qf ?_ | refine Qg ?_ | refine Qh ?_ | refine Qi ?_ | refine Qj ?_ | refine Qk ?_ | refine Ql ?_ | refine Qm ?_ | refine Qn ?_ | refine Qo ?_ | refine Qp ?_ | refine Qq ?_ | fail)
      refine SXL.cut3 rfl rfl rfl rfl rfl rfl (by omega) (by omega) (by omega) rfl ?_
      refine SXL.same 26 (.slice A (xs.take n).length n) rfl (by rw [htl, Int.toNat_natCast]) ?_
      repeat (first | refine Qa ?_ | refine Qb ?_ | refine Qc ?_ | refine Qd ?_ | refine Qe ?_ | refine Qf ?_ | refine Qg ?_ | refine Qh ?_ | refine Qi ?_ | refine Qj ?_ | refine Qk ?_ | refine Ql ?_ | refine Qm ?_ | refine Qn ?_ | refine Qo ?_ | refine Qp ?_ | refine Qq ?_ | fail)
      refine SXL.cut rfl rfl rfl rfl rfl rfl hc (by omega) (by omega) (by omega) rfl ?_
      refine SXL.takeRow (Kd.int .u8) (A := A) (xs := xs) n inferInstance ?_
      refine SXL.dropRow (Kd.int .u8) (A := A) (xs := xs) n inferInstance hc (fun B hB => ?_)
      refine SXL.same 33 (.slice B (xs.drop n).length (c - n)) rfl (by rw [hdl, hB]; simp only [Int.toNat_natCast]; rfl) ?_
      repeat (first | refine Qa ?_ | refine Qb ?_ | refine Qc ?_ | refine Qd ?_ | refine Qe ?_ | refine Qf ?_ | refine Qg ?_ | refine Qh ?_ | refine Qi ?_ | refine Qj ?_ | refine Qk ?_ | refine Ql ?_ | refine Qm ?_ | refine Qn ?_ | refine Qo ?_ | refine Qp ?_ | refine Qq ?_ | fail)
      refine SX.ret (M' := (rdT p B (xs.drop n).length (c - n) 0 :: .per (roR (Kd.int .u8) B (xs.drop n)) :: .per (roR (Kd.int .u8) A (xs.take n)) :: R)) rfl (Evals.tmp rfl Evals.nil) ?_ inferInstance
      exact h A n B (c - n) (by omega) (by omega)
set_option maxRecDepth 20000 in
theorem get32_S {z : Int} {ys : List Int} {e2 : Int} [hx : Has (roR (Kd.int .u8) A xs) R] (hc : xs.length ≤ c) (hb : bytesB xs = true) (hl : xs.length ≤ 140737488355328) (hm : rdM xs e 4 = (z, ys, e2))
    (h : ∀ A2 c2, ys.length ≤ c2 → K (.returned (.int .u32 z)) (rdT p A2 ys.length c2 e2 :: .per (roR (Kd.int .u8) A2 ys) :: R)) :
    Fn (Tryz.prog) 49 [.pointer (some ⟨p, 0, none⟩), .int .i64 4] (rdT p A xs.length c e :: R) K := by
  obtain ⟨⟨r, ys', e2'⟩, ht⟩ : ∃ r, takeM xs e 4 = r := ⟨_, rfl⟩
  have hrb := takeM_bytes xs e 4 hb
  rw [ht] at hrb
  unfold rdM at hm
  rw [ht] at hm
  simp only [Prod.mk.injEq] at hm
  obtain ⟨rfl, rfl, rfl⟩ := hm
  refine Fn.enter Tryz.call49 Tryz.func49 rfl rfl rfl ?_
  repeat (first | refine Qa ?_ | refine Qb ?_ | refine Qc ?_ | refine Qd ?_ | refine Qe ?_ | refine Qf ?_ | refine Qg ?_ | refine Qh ?_ | refine Qi ?_ | refine Qj ?_ | refine Qk ?_ | refine Ql ?_ | refine Qm ?_ | refine Qn ?_ | refine Qo ?_ | refine Qp ?_ | refine Qq ?_ | fail)
  refine SXL.call rfl rfl rfl ?_
  refine (take_S (n := 4) hc (by decide) hl ht (fun A1 c1 A2 c2 hc1 hc2 => callK.ret ?_))
  repeat (first | refine Qa ?_ | refine Qb ?_ | refine Qc ?_ | refine Qd ?_ | refine Qe ?_ | refine Qf ?_ | refine Qg ?_ | refine Qh ?_ | refine Qi ?_ | refine Qj ?_ | refine Qk ?_ | refine Ql ?_ | refine Qm ?_ | refine Qn ?_ | refine Qo ?_ | refine Qp ?_ | refine Qq ?_ | fail)
  refine SX.loop (fun n a M => ∃ i : Nat, i + n = r.length ∧ a = [(5, .int .u32 (numN 0 (r.take i))), (14, .slice A1 r.length c1), (15, .int .i64 (r.length : Int)), (16, .int .i64 i)] ∧
      rdT p A2 ys'.length c2 e2' :: .per (roR (Kd.int .u8) A2 ys') :: .per (roR (Kd.int .u8) A1 r) :: R = M) r.length ⟨0, by omega, rfl, rfl⟩ ⟨rfl, rfl, rfl, rfl, trivial⟩ inferInstance ?_
  rintro n _ _ ⟨i, hi, rfl, rfl⟩
  dsimp only at hrb
  repeat (first | refine Qa ?_ | refine Qb ?_ | refine Qc ?_ | refine Qd ?_ | refine Qe ?_ | refine Qf ?_ | refine Qg ?_ | refine Qh ?_ | refine Qi ?_ | refine Qj ?_ | refine Qk ?_ | refine Ql ?_ | refine Qm ?_ | refine Qn ?_ | refine Qo ?_ | refine Qp ?_ | refine Qq ?_ | fail)
  refine SX.condp rfl (fun hlt => ?_) (fun hlt => ?_)
  · have hil : i < r.length := by omega
    obtain ⟨x, hx⟩ : ∃ x, r[i]? = some x := ⟨_, List.getElem?_eq_getElem hil⟩
    have hx2 := (bytesB_iff r).1 hrb.1 x (List.mem_of_getElem? hx)
    have hnr := numN_range (r.take i) (bytesB_take _ _ hrb.1) 0 0 (by omega) (by omega)
    have hlk : (r.take i).length = i := by rw [List.length_take]; omega
    rw [hlk, Nat.zero_add] at hnr
    have hbd : numN 0 (r.take i) < 16777216 := Int.lt_of_lt_of_le hnr.2 (p256s i (by omega))
    have hsn : numN 0 (r.take (i + 1)) = numN 0 (r.take i) * 256 + x := by
      obtain ⟨_, hv⟩ := List.getElem?_eq_some_iff.1 hx
      rw [List.take_succ_eq_append_getElem hil, numN_snoc, hv]
    refine SX.addr (A := A1) (Kd.int .u8) (by decide) (xs := r) (by omega) (fun b o e3 => ?_)
    subst e3
    repeat (first | refine Qa ?_ | refine Qb ?_ | refine Qc ?_ | refine Qd ?_ | refine Qe ?_ | refine Qf ?_ | refine Qg ?_ | refine Qh ?_ | refine Qi ?_ | refine Qj ?_ | refine Qk ?_ | refine Ql ?_ | refine Qm ?_ | refine Qn ?_ | refine Qo ?_ | refine Qp ?_ | refine Qq ?_ | fail)
    refine SXL.idx rfl rfl rfl rfl rfl (by omega) (by omega) rfl ?_
    refine SXL.loadRow (Kd.int .u8) rfl rfl inferInstance (by rw [Int.toNat_natCast]; exact hx) rfl rfl ?_
    repeat (first | refine Qa ?_ | refine Qb ?_ | refine Qc ?_ | refine Qd ?_ | refine Qe ?_ | refine Qf ?_ | refine Qg ?_ | refine Qh ?_ | refine Qi ?_ | refine Qj ?_ | refine Qk ?_ | refine Ql ?_ | refine Qm ?_ | refine Qn ?_ | refine Qo ?_ | refine Qp ?_ | refine Qq ?_ | fail)
    refine SX.same 5 (.int .u32 (numN 0 (r.take (i + 1)))) rfl (by rw [IntWalk.u32_in _ (by omega), shl8_32 hnr.1 hbd, or8_32 hnr.1 hbd hx2.1 hx2.2, hsn]) ?_
    refine SX.same 16 (.int .i64 ((i + 1 : Nat) : Int)) rfl (by simp (disch := omega) only [IntWalk.i64_in, IntWalk.u8_in, IntWalk.u32_in, IntWalk.u64_in, IntWalk.rem_in, Int.natCast_add, Int.natCast_one]) ?_
    refine SX.again (n - 1) (by omega) ⟨i + 1, by omega, rfl, rfl⟩ (by repeat (first | exact trivial | refine ⟨rfl, ?_⟩)) inferInstance
  · obtain rfl : i = r.length := by omega
    rw [List.take_length]
    repeat (first | refine Qa ?_ | refine Qb ?_ | refine Qc ?_ | refine Qd ?_ | refine Qe ?_ | refine Qf ?_ | refine Qg ?_ | refine Qh ?_ | refine Qi ?_ | refine Qj ?_ | refine Qk ?_ | refine Ql ?_ | refine Qm ?_ | refine Qn ?_ | refine Qo ?_ | refine Qp ?_ | refine Qq ?_ | fail)
    refine SX.ret (M' := (rdT p A2 ys'.length c2 e2' :: .per (roR (Kd.int .u8) A2 ys') :: R)) rfl (Evals.tmp rfl Evals.nil) ?_ inferInstance
    exact h A2 c2 hc2
theorem RU32_S [hx : Has (roR (Kd.int .u8) A xs) R] (hc : xs.length ≤ c) (hb : bytesB xs = true) (hl : xs.length ≤ 140737488355328)
    (h : ∀ z ys e2, rdM xs e 4 = (z, ys, e2) → ∀ A2 c2, ys.length ≤ c2 → K (.returned (.int .u32 z)) (rdT p A2 ys.length c2 e2 :: .per (roR (Kd.int .u8) A2 ys) :: R)) :
    Fn (Tryz.prog) 15 [.pointer (some ⟨p, 0, none⟩)] (rdT p A xs.length c e :: R) K := by
  obtain ⟨⟨z, ys, e2⟩, hm⟩ : ∃ r, rdM xs e 4 = r := ⟨_, rfl⟩
  refine Fn.enter Tryz.call15 Tryz.func15 rfl rfl rfl ?_
  repeat (first | refine Qa ?_ | refine Qb ?_ | refine Qc ?_ | refine Qd ?_ | refine Qe ?_ | refine Qf ?_ | refine Qg ?_ | refine Qh ?_ | refine Qi ?_ | refine Qj ?_ | refine Qk ?_ | refine Ql ?_ | refine Qm ?_ | refine Qn ?_ | refine Qo ?_ | refine Qp ?_ | refine Qq ?_ | fail)
  refine SXL.call rfl rfl rfl ?_
  refine (get32_S hc hb hl hm (fun A2 c2 hc2 => callK.ret ?_))
  repeat (first | refine Qa ?_ | refine Qb ?_ | refine Qc ?_ | refine Qd ?_ | refine Qe ?_ | refine Qf ?_ | refine Qg ?_ | refine Qh ?_ | refine Qi ?_ | refine Qj ?_ | refine Qk ?_ | refine Ql ?_ | refine Qm ?_ | refine Qn ?_ | refine Qo ?_ | refine Qp ?_ | refine Qq ?_ | fail)
  refine SX.ret (M' := (rdT p A2 ys.length c2 e2 :: .per (roR (Kd.int .u8) A2 ys) :: R)) rfl (Evals.tmp rfl Evals.nil) ?_ inferInstance
  exact h _ _ _ hm A2 c2 hc2
set_option maxRecDepth 20000 in
theorem get64_S {z : Int} {ys : List Int} {e2 : Int} [hx : Has (roR (Kd.int .u8) A xs) R] (hc : xs.length ≤ c) (hb : bytesB xs = true) (hl : xs.length ≤ 140737488355328) (hm : rdM xs e 8 = (z, ys, e2))
    (h : ∀ A2 c2, ys.length ≤ c2 → K (.returned (.int .u64 z)) (rdT p A2 ys.length c2 e2 :: .per (roR (Kd.int .u8) A2 ys) :: R)) :
    Fn (Tryz.prog) 76 [.pointer (some ⟨p, 0, none⟩), .int .i64 8] (rdT p A xs.length c e :: R) K := by
  obtain ⟨⟨r, ys', e2'⟩, ht⟩ : ∃ r, takeM xs e 8 = r := ⟨_, rfl⟩
  have hrb := takeM_bytes xs e 8 hb
  rw [ht] at hrb
  unfold rdM at hm
  rw [ht] at hm
  simp only [Prod.mk.injEq] at hm
  obtain ⟨rfl, rfl, rfl⟩ := hm
  refine Fn.enter Tryz.call76 Tryz.func76 rfl rfl rfl ?_
  repeat (first | refine Qa ?_ | refine Qb ?_ | refine Qc ?_ | refine Qd ?_ | refine Qe ?_ | refine Qf ?_ | refine Qg ?_ | refine Qh ?_ | refine Qi ?_ | refine Qj ?_ | refine Qk ?_ | refine Ql ?_ | refine Qm ?_ | refine Qn ?_ | refine Qo ?_ | refine Qp ?_ | refine Qq ?_ | fail)
  refine SXL.call rfl rfl rfl ?_
  refine (take_S (n := 8) hc (by decide) hl ht (fun A1 c1 A2 c2 hc1 hc2 => callK.ret ?_))
  repeat (first | refine Qa ?_ | refine Qb ?_ | refine Qc ?_ | refine Qd ?_ | refine Qe ?_ | refine Qf ?_ | refine Qg ?_ | refine Qh ?_ | refine Qi ?_ | refine Qj ?_ | refine Qk ?_ | refine Ql ?_ | refine Qm ?_ | refine Qn ?_ | refine Qo ?_ | refine Qp ?_ | refine Qq ?_ | fail)
  refine SX.loop (fun n a M => ∃ i : Nat, i + n = r.length ∧ a = [(5, .int .u64 (numN 0 (r.take i))), (14, .slice A1 r.length c1), (15, .int .i64 (r.length : Int)), (16, .int .i64 i)] ∧
      rdT p A2 ys'.length c2 e2' :: .per (roR (Kd.int .u8) A2 ys') :: .per (roR (Kd.int .u8) A1 r) :: R = M) r.length ⟨0, by omega, rfl, rfl⟩ ⟨rfl, rfl, rfl, rfl, trivial⟩ inferInstance ?_
  rintro n _ _ ⟨i, hi, rfl, rfl⟩
  dsimp only at hrb
  repeat (first | refine Qa ?_ | refine Qb ?_ | refine Qc ?_ | refine Qd ?_ | refine Qe ?_ | refine Qf ?_ | refine Qg ?_ | refine Qh ?_ | refine Qi ?_ | refine Qj ?_ | refine Qk ?_ | refine Ql ?_ | refine Qm ?_ | refine Qn ?_ | refine Qo ?_ | refine Qp ?_ | refine Qq ?_ | fail)
  refine SX.condp rfl (fun hlt => ?_) (fun hlt => ?_)
  · have hil : i < r.length := by omega
    obtain ⟨x, hx⟩ : ∃ x, r[i]? = some x := ⟨_, List.getElem?_eq_getElem hil⟩
    have hx2 := (bytesB_iff r).1 hrb.1 x (List.mem_of_getElem? hx)
    have hnr := numN_range (r.take i) (bytesB_take _ _ hrb.1) 0 0 (by omega) (by omega)
    have hlk : (r.take i).length = i := by rw [List.length_take]; omega
    rw [hlk, Nat.zero_add] at hnr
    have hbd : numN 0 (r.take i) < 72057594037927936 := Int.lt_of_lt_of_le hnr.2 (p256 i (by omega))
    have hsn : numN 0 (r.take (i + 1)) = numN 0 (r.take i) * 256 + x := by
      obtain ⟨_, hv⟩ := List.getElem?_eq_some_iff.1 hx
      rw [List.take_succ_eq_append_getElem hil, numN_snoc, hv]
    refine SX.addr (A := A1) (Kd.int .u8) (by decide) (xs := r) (by omega) (fun b o e3 => ?_)
    subst e3
    repeat (first | refine Qa ?_ | refine Qb ?_ | refine Qc ?_ | refine Qd ?_ | refine Qe ?_ | refine Qf ?_ | refine Qg ?_ | refine Qh ?_ | refine Qi ?_ | refine Qj ?_ | refine Qk ?_ | refine Ql ?_ | refine Qm ?_ | refine Qn ?_ | refine Qo ?_ | refine Qp ?_ | refine Qq ?_ | fail)
    refine SXL.idx rfl rfl rfl rfl rfl (by omega) (by omega) rfl ?_
    refine SXL.loadRow (Kd.int .u8) rfl rfl inferInstance (by rw [Int.toNat_natCast]; exact hx) rfl rfl ?_
    repeat (first | refine Qa ?_ | refine Qb ?_ | refine Qc ?_ | refine Qd ?_ | refine Qe ?_ | refine Qf ?_ | refine Qg ?_ | refine Qh ?_ | refine Qi ?_ | refine Qj ?_ | refine Qk ?_ | refine Ql ?_ | refine Qm ?_ | refine Qn ?_ | refine Qo ?_ | refine Qp ?_ | refine Qq ?_ | fail)
    refine SX.same 5 (.int .u64 (numN 0 (r.take (i + 1)))) rfl (by rw [IntWalk.u64_in _ (by omega), shl8_64 hnr.1 hbd, or8_64 hnr.1 hbd hx2.1 hx2.2, hsn]) ?_
    refine SX.same 16 (.int .i64 ((i + 1 : Nat) : Int)) rfl (by simp (disch := omega) only [IntWalk.i64_in, IntWalk.u8_in, IntWalk.u32_in, IntWalk.u64_in, IntWalk.rem_in, Int.natCast_add, Int.natCast_one]) ?_
    refine SX.again (n - 1) (by omega) ⟨i + 1, by omega, rfl, rfl⟩ (by repeat (first | exact trivial | refine ⟨rfl, ?_⟩)) inferInstance
  · obtain rfl : i = r.length := by omega
    rw [List.take_length]
    repeat (first | refine Qa ?_ | refine Qb ?_ | refine Qc ?_ | refine Qd ?_ | refine Qe ?_ | refine Qf ?_ | refine Qg ?_ | refine Qh ?_ | refine Qi ?_ | refine Qj ?_ | refine Qk ?_ | refine Ql ?_ | refine Qm ?_ | refine Qn ?_ | refine Qo ?_ | refine Qp ?_ | refine Qq ?_ | fail)
    refine SX.ret (M' := (rdT p A2 ys'.length c2 e2' :: .per (roR (Kd.int .u8) A2 ys') :: R)) rfl (Evals.tmp rfl Evals.nil) ?_ inferInstance
    exact h A2 c2 hc2
theorem RU64_S [hx : Has (roR (Kd.int .u8) A xs) R] (hc : xs.length ≤ c) (hb : bytesB xs = true) (hl : xs.length ≤ 140737488355328)
    (h : ∀ z ys e2, rdM xs e 8 = (z, ys, e2) → ∀ A2 c2, ys.length ≤ c2 → K (.returned (.int .u64 z)) (rdT p A2 ys.length c2 e2 :: .per (roR (Kd.int .u8) A2 ys) :: R)) :
    Fn (Tryz.prog) 57 [.pointer (some ⟨p, 0, none⟩)] (rdT p A xs.length c e :: R) K := by
  obtain ⟨⟨z, ys, e2⟩, hm⟩ : ∃ r, rdM xs e 8 = r := ⟨_, rfl⟩
  refine Fn.enter Tryz.call57 Tryz.func57 rfl rfl rfl ?_
  repeat (first | refine Qa ?_ | refine Qb ?_ | refine Qc ?_ | refine Qd ?_ | refine Qe ?_ | refine Qf ?_ | refine Qg ?_ | refine Qh ?_ | refine Qi ?_ | refine Qj ?_ | refine Qk ?_ | refine Ql ?_ | refine Qm ?_ | refine Qn ?_ | refine Qo ?_ | refine Qp ?_ | refine Qq ?_ | fail)
  refine SXL.call rfl rfl rfl ?_
  refine (get64_S hc hb hl hm (fun A2 c2 hc2 => callK.ret ?_))
  repeat (first | refine Qa ?_ | refine Qb ?_ | refine Qc ?_ | refine Qd ?_ | refine Qe ?_ | refine Qf ?_ | refine Qg ?_ | refine Qh ?_ | refine Qi ?_ | refine Qj ?_ | refine Qk ?_ | refine Ql ?_ | refine Qm ?_ | refine Qn ?_ | refine Qo ?_ | refine Qp ?_ | refine Qq ?_ | fail)
  refine SX.ret (M' := (rdT p A2 ys.length c2 e2 :: .per (roR (Kd.int .u8) A2 ys) :: R)) rfl (Evals.tmp rfl Evals.nil) ?_ inferInstance
  exact h _ _ _ hm A2 c2 hc2
theorem RErr_S {v : Value} (h : K (.returned (.int .i64 e)) (.own (some ⟨p, 0, none⟩) (cellsR p [v, .int .i64 e] 109) :: R)) :
    Fn (Tryz.prog) 50 [.pointer (some ⟨p, 0, none⟩)] (.own (some ⟨p, 0, none⟩) (cellsR p [v, .int .i64 e] 109) :: R) K := by
  refine Fn.enter Tryz.call50 Tryz.func50 rfl rfl rfl ?_
  repeat (first | refine Qa ?_ | refine Qb ?_ | refine Qc ?_ | refine Qd ?_ | refine Qe ?_ | refine Qf ?_ | refine Qg ?_ | refine Qh ?_ | refine Qi ?_ | refine Qj ?_ | refine Qk ?_ | refine Ql ?_ | refine Qm ?_ | refine Qn ?_ | refine Qo ?_ | refine Qp ?_ | refine Qq ?_ | fail)
  refine SX.ret (M' := (.own (some ⟨p, 0, none⟩) (cellsR p [v, .int .i64 e] 109) :: R)) rfl (Evals.tmp rfl Evals.nil) ?_ inferInstance
  exact h
theorem REnd_S (h : K (.returned (.int .i64 (endM xs e))) (rdT p A xs.length c e :: R)) :
    Fn (Tryz.prog) 17 [.pointer (some ⟨p, 0, none⟩)] (rdT p A xs.length c e :: R) K := by
  refine Fn.enter Tryz.call17 Tryz.func17 rfl rfl rfl ?_
  repeat (first | refine Qa ?_ | refine Qb ?_ | refine Qc ?_ | refine Qd ?_ | refine Qe ?_ | refine Qf ?_ | refine Qg ?_ | refine Qh ?_ | refine Qi ?_ | refine Qj ?_ | refine Qk ?_ | refine Ql ?_ | refine Qm ?_ | refine Qn ?_ | refine Qo ?_ | refine Qp ?_ | refine Qq ?_ | fail)
  refine SXL.call rfl rfl rfl ?_
  refine (RErr_S (callK.ret ?_))
  repeat (first | refine Qa ?_ | refine Qb ?_ | refine Qc ?_ | refine Qd ?_ | refine Qe ?_ | refine Qf ?_ | refine Qg ?_ | refine Qh ?_ | refine Qi ?_ | refine Qj ?_ | refine Qk ?_ | refine Ql ?_ | refine Qm ?_ | refine Qn ?_ | refine Qo ?_ | refine Qp ?_ | refine Qq ?_ | fail)
  refine SX.cond rfl (fun he => ?_) (fun he => ?_)
  · have he' : e ≠ 0 := by simpa using he
    unfold endM at h
    rw [if_pos he'] at h
    repeat (first | refine Qa ?_ | refine Qb ?_ | refine Qc ?_ | refine Qd ?_ | refine Qe ?_ | refine Qf ?_ | refine Qg ?_ | refine Qh ?_ | refine Qi ?_ | refine Qj ?_ | refine Qk ?_ | refine Ql ?_ | refine Qm ?_ | refine Qn ?_ | refine Qo ?_ | refine Qp ?_ | refine Qq ?_ | fail)
    refine SX.ret (M' := (rdT p A xs.length c e :: R)) rfl (Evals.tmp rfl Evals.nil) ?_ inferInstance
    exact h
  · obtain rfl : e = 0 := by simpa using he
    unfold endM at h
    rw [if_neg (by simp)] at h
    repeat (first | refine Qa ?_ | refine Qb ?_ | refine Qc ?_ | refine Qd ?_ | refine Qe ?_ | refine Qf ?_ | refine Qg ?_ | refine Qh ?_ | refine Qi ?_ | refine Qj ?_ | refine Qk ?_ | refine Ql ?_ | refine Qm ?_ | refine Qn ?_ | refine Qo ?_ | refine Qp ?_ | refine Qq ?_ | fail)
    refine SX.condp rfl (fun hl => ?_) (fun hl => ?_)
    · rw [if_pos (by omega)] at h
      repeat (first | refine Qa ?_ | refine Qb ?_ | refine Qc ?_ | refine Qd ?_ | refine Qe ?_ | refine Qf ?_ | refine Qg ?_ | refine Qh ?_ | refine Qi ?_ | refine Qj ?_ | refine Qk ?_ | refine Ql ?_ | refine Qm ?_ | refine Qn ?_ | refine Qo ?_ | refine Qp ?_ | refine Qq ?_ | fail)
      refine SX.ret (M' := (rdT p A xs.length c 0 :: R)) rfl (Evals.tmp rfl Evals.nil) ?_ inferInstance
      exact h
    · rw [if_neg (by omega)] at h
      repeat (first | refine Qa ?_ | refine Qb ?_ | refine Qc ?_ | refine Qd ?_ | refine Qe ?_ | refine Qf ?_ | refine Qg ?_ | refine Qh ?_ | refine Qi ?_ | refine Qj ?_ | refine Qk ?_ | refine Ql ?_ | refine Qm ?_ | refine Qn ?_ | refine Qo ?_ | refine Qp ?_ | refine Qq ?_ | fail)
      refine SX.ret (M' := (rdT p A xs.length c 0 :: R)) rfl (Evals.tmp rfl Evals.nil) ?_ inferInstance
      exact h
set_option maxRecDepth 20000 in
theorem ROpaque_S {most : Int} [hx : Has (roR (Kd.int .u8) A xs) R] (hc : xs.length ≤ c) (hb : bytesB xs = true) (hl : xs.length ≤ 140737488355328) (h0 : 0 ≤ most) (h1 : most ≤ 100000)
    (h : ∀ r ys e2, opM xs e most = (r, ys, e2) → ∀ A1 c1 A2 c2, r.length ≤ c1 → ys.length ≤ c2 → K (.returned (.slice A1 r.length c1)) (.own A1 (rowR (Kd.int .u8) 5 (.slice A1 r.length c1) r) :: rdT p A2 ys.length c2 e2 :: .per (roR (Kd.int .u8) A2 ys) :: R)) :
    Fn (Tryz.prog) 16 [.pointer (some ⟨p, 0, none⟩), .int .i64 most] (rdT p A xs.length c e :: R) K := by
  obtain ⟨⟨n, ys, e1⟩, hn⟩ : ∃ r, rdM xs e 4 = r := ⟨_, rfl⟩
  unfold opM at h
  rw [hn] at h
  dsimp only at h
  have hnr := rdM_range xs e 4 hb
  have hyb := rdM_rest xs e 4 hb
  have hyl := rdM_le xs e 4
  rw [hn] at hnr hyb hyl
  dsimp only at hnr hyb hyl
  refine Fn.enter Tryz.call16 Tryz.func16 rfl rfl rfl ?_
  repeat (first | refine Qa ?_ | refine Qb ?_ | refine Qc ?_ | refine Qd ?_ | refine Qe ?_ | refine Qf ?_ | refine Qg ?_ | refine Qh ?_ | refine Qi ?_ | refine Qj ?_ | refine Qk ?_ | refine Ql ?_ | refine Qm ?_ | refine Qn ?_ | refine Qo ?_ | refine Qp ?_ | refine Qq ?_ | fail)
  refine SXL.call rfl rfl rfl ?_
  refine (RU32_S hc hb hl (fun z ys' e1' hz A2 c2 hc2 => callK.ret ?_))
  rw [hn] at hz
  simp only [Prod.mk.injEq] at hz
  obtain ⟨rfl, rfl, rfl⟩ := hz
  repeat (first | refine Qa ?_ | refine Qb ?_ | refine Qc ?_ | refine Qd ?_ | refine Qe ?_ | refine Qf ?_ | refine Qg ?_ | refine Qh ?_ | refine Qi ?_ | refine Qj ?_ | refine Qk ?_ | refine Ql ?_ | refine Qm ?_ | refine Qn ?_ | refine Qo ?_ | refine Qp ?_ | refine Qq ?_ | fail)
  refine SXL.call rfl rfl rfl ?_
  refine (RErr_S (callK.ret ?_))
  repeat (first | refine Qa ?_ | refine Qb ?_ | refine Qc ?_ | refine Qd ?_ | refine Qe ?_ | refine Qf ?_ | refine Qg ?_ | refine Qh ?_ | refine Qi ?_ | refine Qj ?_ | refine Qk ?_ | refine Ql ?_ | refine Qm ?_ | refine Qn ?_ | refine Qo ?_ | refine Qp ?_ | refine Qq ?_ | fail)
  refine SX.cond rfl (fun he => ?_) (fun he => ?_)
  · have he' : e1 ≠ 0 := by simpa using he
    rw [if_pos he'] at h
    repeat (first | refine Qa ?_ | refine Qb ?_ | refine Qc ?_ | refine Qd ?_ | refine Qe ?_ | refine Qf ?_ | refine Qg ?_ | refine Qh ?_ | refine Qi ?_ | refine Qj ?_ | refine Qk ?_ | refine Ql ?_ | refine Qm ?_ | refine Qn ?_ | refine Qo ?_ | refine Qp ?_ | refine Qq ?_ | fail)
    refine SX.ret (M' := (.own none (rowR (Kd.int .u8) 5 (.slice none ([] : List Int).length 0) []) :: rdT p A2 ys.length c2 e1 :: .per (roR (Kd.int .u8) A2 ys) :: R)) rfl (Evals.tmp rfl Evals.nil) ?_ inferInstance
    exact h _ _ _ rfl none 0 A2 c2 (Nat.le_refl _) hc2
  · obtain rfl : e1 = 0 := by simpa using he
    rw [if_neg (by simp)] at h
    repeat (first | refine Qa ?_ | refine Qb ?_ | refine Qc ?_ | refine Qd ?_ | refine Qe ?_ | refine Qf ?_ | refine Qg ?_ | refine Qh ?_ | refine Qi ?_ | refine Qj ?_ | refine Qk ?_ | refine Ql ?_ | refine Qm ?_ | refine Qn ?_ | refine Qo ?_ | refine Qp ?_ | refine Qq ?_ | fail)
    refine SXL.know 15 false rfl (by simpa using h0) ?_
    repeat (first | refine Qa ?_ | refine Qb ?_ | refine Qc ?_ | refine Qd ?_ | refine Qe ?_ | refine Qf ?_ | refine Qg ?_ | refine Qh ?_ | refine Qi ?_ | refine Qj ?_ | refine Qk ?_ | refine Ql ?_ | refine Qm ?_ | refine Qn ?_ | refine Qo ?_ | refine Qp ?_ | refine Qq ?_ | fail)
    refine SX.same 21 (.bool (decide (most < n))) rfl (by rw [IntWalk.u64_in n (by omega), IntWalk.u64_in most (by omega)]) ?_
    refine SX.condp rfl (fun hm => ?_) (fun hm => ?_)
    · rw [if_pos hm] at h
      repeat (first | refine Qa ?_ | refine Qb ?_ | refine Qc ?_ | refine Qd ?_ | refine Qe ?_ | refine Qf ?_ | refine Qg ?_ | refine Qh ?_ | refine Qi ?_ | refine Qj ?_ | refine Qk ?_ | refine Ql ?_ | refine Qm ?_ | refine Qn ?_ | refine Qo ?_ | refine Qp ?_ | refine Qq ?_ | fail)
      refine SXL.call rfl rfl rfl ?_
      refine (Rfail_S 13 rfl (callK.ret ?_))
      rw [show failM 0 13 = 13 from rfl]
      repeat (first | refine Qa ?_ | refine Qb ?_ | refine Qc ?_ | refine Qd ?_ | refine Qe ?_ | refine Qf ?_ | refine Qg ?_ | refine Qh ?_ | refine Qi ?_ | refine Qj ?_ | refine Qk ?_ | refine Ql ?_ | refine Qm ?_ | refine Qn ?_ | refine Qo ?_ | refine Qp ?_ | refine Qq ?_ | fail)
      refine SX.ret (M' := (.own none (rowR (Kd.int .u8) 5 (.slice none ([] : List Int).length 0) []) :: rdT p A2 ys.length c2 13 :: .per (roR (Kd.int .u8) A2 ys) :: R)) rfl (Evals.tmp rfl Evals.nil) ?_ inferInstance
      exact h _ _ _ rfl none 0 A2 c2 (Nat.le_refl _) hc2
    · rw [if_neg hm] at h
      obtain ⟨k, rfl⟩ : ∃ k : Nat, n = (k : Int) := ⟨n.toNat, by omega⟩
      rw [Int.toNat_natCast] at h
      obtain ⟨⟨b, zs, e2⟩, ht⟩ : ∃ r, takeM ys 0 (k + (4 - k % 4) % 4) = r := ⟨_, rfl⟩
      rw [ht] at h
      dsimp only at h
      repeat (first | refine Qa ?_ | refine Qb ?_ | refine Qc ?_ | refine Qd ?_ | refine Qe ?_ | refine Qf ?_ | refine Qg ?_ | refine Qh ?_ | refine Qi ?_ | refine Qj ?_ | refine Qk ?_ | refine Ql ?_ | refine Qm ?_ | refine Qn ?_ | refine Qo ?_ | refine Qp ?_ | refine Qq ?_ | fail)
      refine SXL.same 28 (.int .i64 (k : Int)) rfl (by simp (disch := omega) only [IntWalk.i64_in, IntWalk.u8_in, IntWalk.u32_in, IntWalk.u64_in, IntWalk.rem_in, Int.natCast_add, Int.natCast_one]) ?_
      refine SXL.same 27 (.int .i64 (k : Int)) rfl (by simp (disch := omega) only [IntWalk.i64_in, IntWalk.u8_in, IntWalk.u32_in, IntWalk.u64_in, IntWalk.rem_in, Int.natCast_add, Int.natCast_one]) ?_
      refine SXL.same 6 (.int .i64 (k : Int)) rfl (by simp (disch := omega) only [IntWalk.i64_in, IntWalk.u8_in, IntWalk.u32_in, IntWalk.u64_in, IntWalk.rem_in, Int.natCast_add, Int.natCast_one]) ?_
      refine SXL.call rfl rfl rfl ?_
      refine (fill_S k (by omega) (callK.ret ?_))
      repeat (first | refine Qa ?_ | refine Qb ?_ | refine Qc ?_ | refine Qd ?_ | refine Qe ?_ | refine Qf ?_ | refine Qg ?_ | refine Qh ?_ | refine Qi ?_ | refine Qj ?_ | refine Qk ?_ | refine Ql ?_ | refine Qm ?_ | refine Qn ?_ | refine Qo ?_ | refine Qp ?_ | refine Qq ?_ | fail)
      refine SXL.same 30 (.int .i64 ((k + (4 - k % 4) % 4 : Nat) : Int)) rfl (by simp (disch := omega) only [IntWalk.i64_in, IntWalk.u8_in, IntWalk.u32_in, IntWalk.u64_in, IntWalk.rem_in, Int.natCast_add, Int.natCast_one]) ?_
      refine SXL.call rfl rfl rfl ?_
      refine (take_S (n := k + (4 - k % 4) % 4) hc2 (by omega) (by omega) ht (fun A3 c3 A4 c4 hc3 hc4 => callK.ret ?_))
      repeat (first | refine Qa ?_ | refine Qb ?_ | refine Qc ?_ | refine Qd ?_ | refine Qe ?_ | refine Qf ?_ | refine Qg ?_ | refine Qh ?_ | refine Qi ?_ | refine Qj ?_ | refine Qk ?_ | refine Ql ?_ | refine Qm ?_ | refine Qn ?_ | refine Qo ?_ | refine Qp ?_ | refine Qq ?_ | fail)
      refine SX.cond rfl (fun he2 => ?_) (fun he2 => ?_)
      · have he2' : e2 ≠ 0 := by simpa using he2
        rw [if_pos he2'] at h
        repeat (first | refine Qa ?_ | refine Qb ?_ | refine Qc ?_ | refine Qd ?_ | refine Qe ?_ | refine Qf ?_ | refine Qg ?_ | refine Qh ?_ | refine Qi ?_ | refine Qj ?_ | refine Qk ?_ | refine Ql ?_ | refine Qm ?_ | refine Qn ?_ | refine Qo ?_ | refine Qp ?_ | refine Qq ?_ | fail)
        refine SX.ret (M' := (.own none (rowR (Kd.int .u8) 5 (.slice none ([] : List Int).length 0) []) :: rdT p A4 zs.length c4 e2 :: .per (roR (Kd.int .u8) A4 zs) :: R)) rfl (Evals.tmp rfl Evals.nil) ?_ inferInstance
        exact h _ _ _ rfl none 0 A4 c4 (Nat.le_refl _) hc4
      · obtain rfl : e2 = 0 := by simpa using he2
        rw [if_neg (by simp)] at h
        have htk := takeM_ok ht
        have hbk : k ≤ b.length := by rw [htk]; omega
        have hdl : (b.drop k).length = b.length - k := List.length_drop
        have htl : (b.take k).length = k := by rw [List.length_take]; omega
        repeat (first | refine Qa ?_ | refine Qb ?_ | refine Qc ?_ | refine Qd ?_ | refine Qe ?_ | refine Qf ?_ | refine Qg ?_ | refine Qh ?_ | refine Qi ?_ | refine Qj ?_ | refine Qk ?_ | refine Ql ?_ | refine Qm ?_ | refine Qn ?_ | refine Qo ?_ | refine Qp ?_ | refine Qq ?_ | fail)
        refine SXL.cut rfl rfl rfl rfl rfl rfl hc3 (by omega) (by omega) (by omega) rfl ?_
        refine SXL.dropRow (Kd.int .u8) (A := A3) (xs := b) k inferInstance hc3 (fun B hB => ?_)
        refine SXL.same 39 (.slice B (b.drop k).length (c3 - k)) rfl (by rw [hdl, hB]; simp only [Int.toNat_natCast]; rfl) ?_
        refine SXL.call rfl rfl rfl ?_
        refine (ContainsNz_S inferInstance (by omega) (callK.ret ?_))
        refine SXL.nil ?_
        refine SX.cond rfl (fun hz => ?_) (fun hz => ?_)
        · rw [if_pos hz] at h
          repeat (first | refine Qa ?_ | refine Qb ?_ | refine Qc ?_ | refine Qd ?_ | refine Qe ?_ | refine Qf ?_ | refine Qg ?_ | refine Qh ?_ | refine Qi ?_ | refine Qj ?_ | refine Qk ?_ | refine Ql ?_ | refine Qm ?_ | refine Qn ?_ | refine Qo ?_ | refine Qp ?_ | refine Qq ?_ | fail)
          refine SXL.call rfl rfl rfl ?_
          refine (Fn.at_ inferInstance (Rfail_S 11 rfl (callK.ret ?_)))
          rw [show failM 0 11 = 11 from rfl]
          repeat (first | refine Qa ?_ | refine Qb ?_ | refine Qc ?_ | refine Qd ?_ | refine Qe ?_ | refine Qf ?_ | refine Qg ?_ | refine Qh ?_ | refine Qi ?_ | refine Qj ?_ | refine Qk ?_ | refine Ql ?_ | refine Qm ?_ | refine Qn ?_ | refine Qo ?_ | refine Qp ?_ | refine Qq ?_ | fail)
          refine SX.ret (M' := (.own none (rowR (Kd.int .u8) 5 (.slice none ([] : List Int).length 0) []) :: rdT p A4 zs.length c4 11 :: .per (roR (Kd.int .u8) A4 zs) :: R)) rfl (Evals.tmp rfl Evals.nil) ?_ inferInstance
          exact h _ _ _ rfl none 0 A4 c4 (Nat.le_refl _) hc4
        · rw [if_neg (by rw [hz]; decide)] at h
          repeat (first | refine Qa ?_ | refine Qb ?_ | refine Qc ?_ | refine Qd ?_ | refine Qe ?_ | refine Qf ?_ | refine Qg ?_ | refine Qh ?_ | refine Qi ?_ | refine Qj ?_ | refine Qk ?_ | refine Ql ?_ | refine Qm ?_ | refine Qn ?_ | refine Qo ?_ | refine Qp ?_ | refine Qq ?_ | fail)
          refine SXL.cut rfl rfl rfl rfl rfl rfl hc3 (by omega) (by omega) (by omega) rfl ?_
          refine SXL.takeRow (Kd.int .u8) (A := A3) (xs := b) k inferInstance ?_
          refine SXL.same 45 (.slice A3 (b.take k).length c3) rfl (by rw [htl]; simp [Addr.add]) ?_
          refine SXL.call rfl rfl rfl ?_
          refine (BClone_S inferInstance (by omega) (by omega) (fun A5 c5 hc5 => callK.ret ?_))
          repeat (first | refine Qa ?_ | refine Qb ?_ | refine Qc ?_ | refine Qd ?_ | refine Qe ?_ | refine Qf ?_ | refine Qg ?_ | refine Qh ?_ | refine Qi ?_ | refine Qj ?_ | refine Qk ?_ | refine Ql ?_ | refine Qm ?_ | refine Qn ?_ | refine Qo ?_ | refine Qp ?_ | refine Qq ?_ | fail)
          refine SX.ret (M' := (.own A5 (rowR (Kd.int .u8) 5 (.slice A5 (b.take k).length c5) (b.take k)) :: rdT p A4 zs.length c4 0 :: .per (roR (Kd.int .u8) A4 zs) :: R)) rfl (Evals.tmp rfl Evals.nil) ?_ inferInstance
          exact h _ _ _ rfl A5 c5 A4 c4 hc5 hc4
end
end Go.Proofs.YtpbhanpblmoepaaGreat.Sx
end
section
/- Chapter 11: a thing, whole: what it may be, its bytes; conditions: those that each theorem names. -/
namespace Go.Proofs.YtpbhanpblmoepaaGreat.Hm
open Go.RowKit Go.Proofs.YtpbhanpblmoepaaGreatW.PrintWords Go.Proofs.YtpbhanpblmoepaaGreatW.PrintLast Go.Proofs.YtpbhanpblmoepaaGreatW.PrintMore
set_option linter.unusedVariables false
set_option linter.unusedSimpArgs false

structure Sl where
  ino : Int
  kind : Int
  gen : Int
  links : Int
  mode : Int
  change : Int
  cookie : Int
  verf : Int
  d : List Int
def u32ok (x : Int) : Prop := 0 ≤ x ∧ x < 4294967296
def u64ok (x : Int) : Prop := 0 ≤ x ∧ x < 18446744073709551616
structure Sl.wf (s : Sl) : Prop where
  ino : u32ok s.ino
  kind : u32ok s.kind
  gen : u32ok s.gen
  links : u32ok s.links
  mode : u32ok s.mode
  change : u64ok s.change
  cookie : u64ok s.cookie
  verf : u64ok s.verf
  d : bytesB s.d = true
theorem opM_nil {xs r ys : List Int} {e most e2 : Int} (h : opM xs e most = (r, ys, e2)) (he : e2 ≠ 0) : r = [] := by
  unfold opM at h
  split at h
  split at h
  · simp only [Prod.mk.injEq] at h; exact h.1.symm
  · split at h
    · simp only [Prod.mk.injEq] at h; exact h.1.symm
    · split at h
      split at h
      · simp only [Prod.mk.injEq] at h; exact h.1.symm
      · split at h
        · simp only [Prod.mk.injEq] at h; exact h.1.symm
        · simp only [Prod.mk.injEq] at h; exact absurd h.2.2.symm he
theorem opM_bytes {xs r ys : List Int} {e most e2 : Int} (hb : bytesB xs = true) (h0 : 0 ≤ most) (h : opM xs e most = (r, ys, e2)) : bytesB r = true ∧ (r.length : Int) ≤ most := by
  by_cases he : e2 = 0
  · subst he
    obtain ⟨-, -, h1, -, h2⟩ := opM_ok hb h
    exact ⟨h1, h2⟩
  · rw [opM_nil h he]
    exact ⟨rfl, by simpa using h0⟩
end Go.Proofs.YtpbhanpblmoepaaGreat.Hm
end
