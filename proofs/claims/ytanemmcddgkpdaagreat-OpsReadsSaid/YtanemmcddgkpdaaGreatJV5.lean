/- Part V5 of the lemmas and walks of the Go functions that these statements reach; conditions: those that each theorem names. -/
import Derived.Test.YtanemmcddgkpdaaGreatJU
import Derived.Test.YtanemmcddgkpdaaGreatJV4
import Derived.Test.YtanemmcddgkpdaaGreatJV
section
/- The Go package xdr's writer, as a thing; conditions: those that each theorem names. -/
namespace Go.Proofs.YtanemmcddgkpdaaGreat.Sx
open Go.RowKit Go.Proofs.YtanemmcddgkpdaaGreat.Hm Go.Proofs.YtanemmcddgkpdaaGreatW.PrintWords Go.Proofs.YtanemmcddgkpdaaGreatW.PrintLast Go.Proofs.YtanemmcddgkpdaaGreatW.PrintMore
set_option linter.unusedVariables false
set_option linter.unusedSimpArgs false
attribute [local irreducible] SX SXL SXA St callK Post Evals
section
variable {F R : List Thing} {K : Ending → List Thing → Prop} {p : Nat} {xs : List Int}
end
end Go.Proofs.YtanemmcddgkpdaaGreat.Sx
end
section
/- The Go package xdr's reader, walked by what is known; conditions: those that each theorem names. -/
namespace Go.Proofs.YtanemmcddgkpdaaGreat.Sx
open Go.RowKit Go.Proofs.YtanemmcddgkpdaaGreat.Hm Go.Proofs.YtanemmcddgkpdaaGreatW.PrintWords Go.Proofs.YtanemmcddgkpdaaGreatW.PrintLast Go.Proofs.YtanemmcddgkpdaaGreatW.PrintMore
set_option linter.unusedVariables false
set_option linter.unusedSimpArgs false
attribute [local irreducible] SX SXL SXA St callK Post Evals
theorem Fn.at_ {P : Program} {f : FuncId} {args : List Value} {F R : List Thing} {K : Ending → List Thing → Prop} {key : Option Addr} {r : Res} (hat : At key F r R) (h : Fn P f args (.own key r :: R) K) : Fn P f args F K := h.mem (fun w hw => hw.at_ hat)
instance (priority := 2000) Sub.nilRo {α : Type} {D : Kd α} {M M' : List Thing} [s : Sub M M'] : Sub M (.per (roR D none ([] : List α)) :: M') := ⟨fun w I U h => ⟨Kd.F_nil D w _, s.h w I U h⟩⟩
theorem takeM_ok {xs r ys : List Int} {e : Int} {n : Nat} (h : takeM xs e n = (r, ys, 0)) : r.length = n := by
  unfold takeM at h
  split at h
  · rename_i he; simp only [Prod.mk.injEq] at h; exact absurd h.2.2 he
  · split at h
    · simp only [Prod.mk.injEq] at h; exact absurd h.2.2 (by decide)
    · simp only [Prod.mk.injEq] at h; rw [← h.1, List.length_take]; omega
section
variable {F R : List Thing} {K : Ending → List Thing → Prop} {p : Nat} {xs : List Int} {A : Option Addr} {c : Nat} {e : Int}
theorem BClone_S (hr : Ro (Kd.int .u8) A F xs) (hc : xs.length ≤ c) (hl : xs.length ≤ 140737488355327) (h : ∀ A' c', xs.length ≤ c' → K (.returned (.slice A' xs.length c')) (.own A' (rowR (Kd.int .u8) 5 (.slice A' xs.length c') xs) :: F)) :
    Fn (Tryz.prog) 74 [.slice A xs.length c] F K :=
  Fn.ofRow (Kd.int .u8) 5 (fun v => v) xs Tryz.call74 (fun w hw => slices_Clone.calls A c xs xs w (hw.ro hr) hc (by unfold slices_Clone.f; rw [if_pos hl])) h
end
end Go.Proofs.YtanemmcddgkpdaaGreat.Sx
end
section
/- Chapter 11: a thing, whole: what it may be, its bytes; conditions: those that each theorem names. -/
namespace Go.Proofs.YtanemmcddgkpdaaGreat.Hm
open Go.RowKit Go.Proofs.YtanemmcddgkpdaaGreatW.PrintWords Go.Proofs.YtanemmcddgkpdaaGreatW.PrintLast Go.Proofs.YtanemmcddgkpdaaGreatW.PrintMore
set_option linter.unusedVariables false
set_option linter.unusedSimpArgs false
structure Sl where
  ino : Int
  kind : Int
  gen : Int
  links : Int
  mode : Int
  change : Int
  cookie : Int
  verf : Int
  d : List Int
def Sl0 : Sl := ⟨0, 0, 0, 0, 0, 0, 0, 0, []⟩
def u32ok (x : Int) : Prop := 0 ≤ x ∧ x < 4294967296
def u64ok (x : Int) : Prop := 0 ≤ x ∧ x < 18446744073709551616
structure Sl.wf (s : Sl) : Prop where
  ino : u32ok s.ino
  kind : u32ok s.kind
  gen : u32ok s.gen
  links : u32ok s.links
  mode : u32ok s.mode
  change : u64ok s.change
  cookie : u64ok s.cookie
  verf : u64ok s.verf
  d : bytesB s.d = true
def slC (s : Sl) (A : Option Addr) (c : Nat) : List Value := [.int .u32 s.ino, .int .u32 s.kind, .int .u32 s.gen, .int .u32 s.links, .int .u32 s.mode, .int .u64 s.change, .int .u64 s.cookie, .int .u64 s.verf, .slice A s.d.length c]
def ok1 (s : Sl) : Bool := decide (s.ino < 24) && (decide (s.kind ≤ 3) && decide ((s.d.length : Int) ≤ 768))
def bareB (s : Sl) : Bool := (s.links == 0) && ((s.mode == 0) && ((s.cookie == 0) && ((s.verf == 0) && ((s.d.length : Int) == 0))))
def ok2 (s : Sl) : Bool := (s.kind == 0 && bareB s) || (s.kind != 0 && decide (1 ≤ s.links))
def listB (s : Sl) : Bool := (getM s.d).2 == 0 && (((getM s.d).1.length : Int) == 0 || decide (lastC (getM s.d).1 ≤ s.cookie))
def ok3 (s : Sl) : Bool := s.kind != 2 || listB s
def okB (s : Sl) : Bool := ok1 s && (ok2 s && ok3 s)
def checkM (s : Sl) : Int := if okB s = true then 0 else 1
end Go.Proofs.YtanemmcddgkpdaaGreat.Hm
end
