import Derived.Test.YtanemmcddgkpdaaGreatJWWords
import Derived.Test.YtanemmcddgkpdaaGreatJWLast
import Derived.Test.YtanemmcddgkpdaaGreatJWQPut
import Derived.Test.YtanemmcddgkpdaaGreatJWApart
import Derived.Test.YtanemmcddgkpdaaGreatJWZeros
import Derived.Test.YtanemmcddgkpdaaGreatJWFoot
import Derived.Test.YtanemmcddgkpdaaGreatJWKept
import Derived.Test.YtanemmcddgkpdaaGreatJWNEv
-- PRINTED BY print.sh 35421559b90ae4d0a3588c463048766b98c2df88dd9212a6774a882060cdf62d: not written by this session
-- PRINTED WORDS (module Derived/Print/More.lean): go-gate-2's additions: an AI agent of Go's test side, Tue Nov 17 2026; no person has read it. Lean checks it.
namespace Go.Proofs.YtanemmcddgkpdaaGreatW.PrintMore
open Go.RowKit Go.Proofs.YtanemmcddgkpdaaGreatW.PrintWords
namespace Kd
open Go.Proofs.YtanemmcddgkpdaaGreatW.PrintWords.Kd
end Kd
namespace Kd
open Go.Proofs.YtanemmcddgkpdaaGreatW.PrintWords.Kd
section
variable {α : Type} {d : Kd α} {e base g N : Nat} {ok : Nat → Prop} {W w1 : World} {u v : Value} {xs : List α}
end
end Kd
end Go.Proofs.YtanemmcddgkpdaaGreatW.PrintMore
namespace Go.Proofs.YtanemmcddgkpdaaGreatW.PrintWords
open Go.RowKit
section
variable {P : Program} {ops : Array Oper} {rest : List Oper} {o : Oper} {a : Act} {Q : Exit → Act → World → Prop} {W : World}
end
/-- The greater of two whole numbers, as Go's max tells it. -/
def mx (a b : Int) : Int := if a < b then b else a
/-- A shift to the left, as Go tells it: a count beyond the width leaves nothing. -/
def shl (k : IntKind) (x y : Int) : Int := k.wrap (x * 2 ^ min y.toNat k.bits)
/-- A shift to the right: a count beyond the width leaves the sign. -/
def shr (k : IntKind) (x y : Int) : Int := x / 2 ^ min y.toNat k.bits
namespace Kd
section
variable {α : Type} {d : Kd α} {e base : Nat} {ok : Nat → Prop} {W w1 : World} {v : Value} {xs : List α}
end
section
variable {α : Type} {d : Kd α} {e base g n cap : Nat} {ok oki okp : Nat → Prop} {W : World} {xs : List α} {i : Int} {c : List Value}
end
section
variable {α : Type} {d : Kd α} {e base b b' g N : Nat} {ok ok1 : Nat → Prop} {W W2 w1 : World} {u v : Value} {xs ys : List α} {S : Nat → Prop}
end
end Kd
end Go.Proofs.YtanemmcddgkpdaaGreatW.PrintWords
namespace Go.Proofs.YtanemmcddgkpdaaGreatW.PrintWords
open Go.RowKit
namespace Kd
/-- A row that is only read, told by its value: its form, its length, what it leads to (in ok). e and base say nothing; they make it as the others are. -/
def V {α : Type} (d : Kd α) (_e : Nat) (W : World) (_base : Nat) (ok : Nat → Prop) (v : Value) (xs : List α) : Prop := ∃ A c, v = .slice A xs.length c ∧ xs.length ≤ c ∧ F d W ok A xs.length xs
section
variable {α β : Type} {d : Kd α} {e base base' n m c g N' lo hi : Nat} {ok ok' S : Nat → Prop} {w W w1 : World} {A : Option Addr} {ad : Addr} {u v v1 : Value} {xs : List α}
/-- An element that is itself a row: its one cell. -/
theorem FK_slice_open {l : List α} {cs : List Value} (h : FK (Kd.slice e d) W ok l cs) : ∃ A c, cs = [.slice A l.length c] ∧ l.length ≤ c ∧ F d W ok A l.length l := by
  obtain ⟨A, c, rfl, hl, _⟩ := FK_now h
  refine ⟨A, c, rfl, hl, fun W' hW => ?_⟩
  obtain ⟨A', c', he, _, g'⟩ := h W' hW
  injection he with he _
  injection he with ha _ _
  rw [ha]
  exact g'
end
end Kd
end Go.Proofs.YtanemmcddgkpdaaGreatW.PrintWords
