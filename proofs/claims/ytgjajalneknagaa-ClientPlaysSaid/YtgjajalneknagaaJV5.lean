/- Part V5 of the lemmas and walks of the Go functions that these statements reach; conditions: those that each theorem names. -/
import Derived.Test.YtgjajalneknagaaJU
import Derived.Test.YtgjajalneknagaaJV4
import Derived.Test.YtgjajalneknagaaJV
section
/- The Go package xdr's writer, as a thing; conditions: those that each theorem names. -/
namespace Go.Proofs.Ytgjajalneknagaa.Sx
open Go.RowKit Go.Proofs.Ytgjajalneknagaa.Hm Go.Proofs.YtgjajalneknagaaW.PrintWords Go.Proofs.YtgjajalneknagaaW.PrintLast Go.Proofs.YtgjajalneknagaaW.PrintMore
set_option linter.unusedVariables false
set_option linter.unusedSimpArgs false
attribute [local irreducible] SX SXL SXA St callK Post Evals

/-- A writer that has put these bytes. -/
def wrR (p : Nat) (xs : List Int) : Res where
  P := fun w S => S p ∧ Wr w 0 p S xs
  mono := fun h hs => ⟨hs _ h.1, h.2.mono hs⟩
  loc := fun h _ hs => by
    obtain ⟨h1, h2⟩ := h
    obtain ⟨v, h3, h4⟩ := h2.ex
    exact ⟨h1, h2.le, ⟨v, (hs p h1 (blk_lt h3)).trans h3, Kd.R_step h4 hs⟩, h2.by_⟩
theorem wr_act {w w' : World} {p : Nat} {ys : List Int} {R : List Thing} {I S : Nat → Prop} (hI : ∀ k, I k → k < w.heap.size) (hS : ∀ k, S k → k < w.heap.size ∧ ¬ I k) (hL : HoldsU w I R (fun k => (k < w.heap.size ∧ ¬ I k) ∧ ¬ S k))
    (hp : S p) (hw : Wr w' 0 p (fun k => S k ∨ w.heap.size ≤ k) ys) (hk : Kept w w' (fun k => (S k ∨ w.heap.size ≤ k) ∨ k = p)) (hb : Below 0 w w') : Holds w' (.own (some ⟨p, 0, none⟩) (wrR p ys) :: R) := by
  obtain ⟨v, h3, h4⟩ := hw.ex
  refine Holds.act1 hI hS hL (Env.of hb) hk.1 (fun k hlt hn => hk.2 k hlt (fun h => ?_)) (S' := fun k => (S k ∨ w.heap.size ≤ k) ∧ k < w'.heap.size) (fun k hk => hk) ?_
  · rcases h with (h | h) | h
    · exact hn h
    · omega
    · exact hn (h ▸ hp)
  · exact ⟨⟨.inl hp, blk_lt h3⟩, hw.le, ⟨v, h3, Kd.R_mono (Kd.R_bound h4) (fun k hk => ⟨hk.1, hk.2.2.1⟩)⟩, hw.by_⟩
section
variable {F R : List Thing} {K : Ending → List Thing → Prop} {p : Nat} {xs : List Int}
theorem NewWriter_S (h : ∀ p, K (.returned (.pointer (some ⟨p, 0, none⟩))) (.own (some ⟨p, 0, none⟩) (wrR p []) :: F)) : Fn (Try.prog) 39 [] F K :=
  Fn.of Try.call39 (fun w hw => (NewWriter_any w).mono (by
    rintro e w' ⟨rfl, hr, hb⟩
    refine ⟨_, h _, ?_⟩
    obtain ⟨v, h3, h4⟩ := hr.ex
    refine hw.new hb _ (S := fun k => w.heap.size ≤ k ∧ k < w'.heap.size) ?_ (fun k hk => hk)
    exact ⟨⟨Nat.le_refl _, blk_lt h3⟩, Nat.zero_le _, ⟨v, h3, Kd.R_lower (Kd.R_mono (Kd.R_bound h4) (fun k hk => ⟨hk.2.1, hk.2.2.1⟩)) (Nat.zero_le _)⟩, hr.by_⟩))
theorem WU32_S {x : Int} (hat : At (some ⟨p, 0, none⟩) F (wrR p xs) R) (h0 : 0 ≤ x) (h1 : x < 4294967296) (hl : xs.length ≤ 140737488355000) (h : K (.returned (.tuple #[])) (.own (some ⟨p, 0, none⟩) (wrR p (xs ++ be32 x)) :: R)) :
    Fn (Try.prog) 40 [.pointer (some ⟨p, 0, none⟩), .int .u32 x] F K :=
  Fn.of Try.call40 (fun w hw => by
    obtain ⟨I, hI, S, hS, ⟨hp, hr⟩, hL⟩ := hw.at_ hat
    refine (U32_any 0 p (fun k => S k ∨ w.heap.size ≤ k) xs x w (hr.mono (fun _ h => .inl h)) (fun _ h => .inr h) h0 h1 hl).mono ?_
    rintro e w' ⟨rfl, hr', hk, hb⟩
    exact ⟨_, h, wr_act hI hS hL hp hr' hk hb⟩)
theorem WU64_S {x : Int} (hat : At (some ⟨p, 0, none⟩) F (wrR p xs) R) (h0 : 0 ≤ x) (h1 : x < 18446744073709551616) (hl : xs.length ≤ 140737488355000) (h : K (.returned (.tuple #[])) (.own (some ⟨p, 0, none⟩) (wrR p (xs ++ be64 x)) :: R)) :
    Fn (Try.prog) 50 [.pointer (some ⟨p, 0, none⟩), .int .u64 x] F K :=
  Fn.of Try.call50 (fun w hw => by
    obtain ⟨I, hI, S, hS, ⟨hp, hr⟩, hL⟩ := hw.at_ hat
    refine (U64_any 0 p (fun k => S k ∨ w.heap.size ≤ k) xs x w (hr.mono (fun _ h => .inl h)) (fun _ h => .inr h) h0 h1 hl).mono ?_
    rintro e w' ⟨rfl, hr', hk, hb⟩
    exact ⟨_, h, wr_act hI hS hL hp hr' hk hb⟩)
theorem WOpaque_S {A : Option Addr} {c : Nat} {l : List Int} (hat : At (some ⟨p, 0, none⟩) F (wrR p xs) R) (hs : Ro (Kd.int .u8) A R l) (hc : l.length ≤ c) (hb : bytesB l = true) (hl : xs.length ≤ 140737488000000) (hll : l.length ≤ 300000) (h : K (.returned (.tuple #[])) (.own (some ⟨p, 0, none⟩) (wrR p (xs ++ opq l)) :: R)) :
    Fn (Try.prog) 41 [.pointer (some ⟨p, 0, none⟩), .slice A l.length c] F K :=
  Fn.of Try.call41 (fun w hw => by
    obtain ⟨I, hI, S, hS, ⟨hp, hr⟩, hL⟩ := hw.at_ hat
    obtain ⟨T, hC, hF, hT⟩ := hs.h _ _ _ hL
    refine (Opaque_any 0 p (fun k => S k ∨ w.heap.size ≤ k) T xs A c l w (hr.mono (fun _ h => .inl h)) (fun _ h => .inr h) hF hc (fun k hk hlt hn => ?_) hb hl hll).mono ?_
    · have h9 : ¬ S k := by
        rcases hT k hk with h | h
        · exact fun hs => (hS k hs).2 h
        · exact h.2
      rcases hn with (hn | hn) | hn
      · exact h9 hn
      · omega
      · exact h9 (hn ▸ hp)
    rintro e w' ⟨rfl, hr', hk, hb⟩
    exact ⟨_, h, wr_act hI hS hL hp hr' hk hb⟩)
theorem WOut_S (hat : At (some ⟨p, 0, none⟩) F (wrR p xs) R) (hl : xs.length ≤ 140737488355000) (h : ∀ A' c', xs.length ≤ c' → K (.returned (.slice A' xs.length c')) (.own A' (rowR (Kd.int .u8) 5 (.slice A' xs.length c') xs) :: F)) :
    Fn (Try.prog) 43 [.pointer (some ⟨p, 0, none⟩)] F K :=
  Fn.ofRow (Kd.int .u8) 5 (fun v => v) xs Try.call43 (fun w hw => by
    obtain ⟨I, hI, S, hS, ⟨hp, hr⟩, hL⟩ := hw.at_ hat
    exact Out_any 0 p S xs w hr hl) h
end
end Go.Proofs.Ytgjajalneknagaa.Sx
end
section
/- The Go package xdr's reader, walked by what is known; conditions: those that each theorem names. -/
namespace Go.Proofs.Ytgjajalneknagaa.Sx
open Go.RowKit Go.Proofs.Ytgjajalneknagaa.Hm Go.Proofs.YtgjajalneknagaaW.PrintWords Go.Proofs.YtgjajalneknagaaW.PrintLast Go.Proofs.YtgjajalneknagaaW.PrintMore
set_option linter.unusedVariables false
set_option linter.unusedSimpArgs false
attribute [local irreducible] SX SXL SXA St callK Post Evals

theorem Fn.at_ {P : Program} {f : FuncId} {args : List Value} {F R : List Thing} {K : Ending → List Thing → Prop} {key : Option Addr} {r : Res} (hat : At key F r R) (h : Fn P f args (.own key r :: R) K) : Fn P f args F K := h.mem (fun w hw => hw.at_ hat)
instance (priority := 2000) Sub.nilRo {α : Type} {D : Kd α} {M M' : List Thing} [s : Sub M M'] : Sub M (.per (roR D none ([] : List α)) :: M') := ⟨fun w I U h => ⟨Kd.F_nil D w _, s.h w I U h⟩⟩
theorem takeM_ok {xs r ys : List Int} {e : Int} {n : Nat} (h : takeM xs e n = (r, ys, 0)) : r.length = n := by
  unfold takeM at h
  split at h
  · rename_i he; simp only [Prod.mk.injEq] at h; exact absurd h.2.2 he
  · split at h
    · simp only [Prod.mk.injEq] at h; exact absurd h.2.2 (by decide)
    · simp only [Prod.mk.injEq] at h; rw [← h.1, List.length_take]; omega
section
variable {F R : List Thing} {K : Ending → List Thing → Prop} {p : Nat} {xs : List Int} {A : Option Addr} {c : Nat} {e : Int}
theorem BClone_S (hr : Ro (Kd.int .u8) A F xs) (hc : xs.length ≤ c) (hl : xs.length ≤ 140737488355327) (h : ∀ A' c', xs.length ≤ c' → K (.returned (.slice A' xs.length c')) (.own A' (rowR (Kd.int .u8) 5 (.slice A' xs.length c') xs) :: F)) :
    Fn (Try.prog) 25 [.slice A xs.length c] F K :=
  Fn.ofRow (Kd.int .u8) 5 (fun v => v) xs Try.call25 (fun w hw => slices_Clone.calls A c xs xs w (hw.ro hr) hc (by unfold slices_Clone.f; rw [if_pos hl])) h
end
end Go.Proofs.Ytgjajalneknagaa.Sx
end
section
/- Chapter 11: a thing, whole: what it may be, its bytes; conditions: those that each theorem names. -/
namespace Go.Proofs.Ytgjajalneknagaa.Hm
open Go.RowKit Go.Proofs.YtgjajalneknagaaW.PrintWords Go.Proofs.YtgjajalneknagaaW.PrintLast Go.Proofs.YtgjajalneknagaaW.PrintMore
set_option linter.unusedVariables false
set_option linter.unusedSimpArgs false

structure Sl where
  ino : Int
  kind : Int
  gen : Int
  links : Int
  mode : Int
  change : Int
  cookie : Int
  verf : Int
  d : List Int
def u32ok (x : Int) : Prop := 0 ≤ x ∧ x < 4294967296
def u64ok (x : Int) : Prop := 0 ≤ x ∧ x < 18446744073709551616
structure Sl.wf (s : Sl) : Prop where
  ino : u32ok s.ino
  kind : u32ok s.kind
  gen : u32ok s.gen
  links : u32ok s.links
  mode : u32ok s.mode
  change : u64ok s.change
  cookie : u64ok s.cookie
  verf : u64ok s.verf
  d : bytesB s.d = true
end Go.Proofs.Ytgjajalneknagaa.Hm
end
