/- Part X7 of the lemmas and walks of the Go functions that these statements reach; conditions: those that each theorem names. -/
import Derived.Test.YtanemmcddgkpdaaGreatJA
section
/- The Go function crc.table returns the table that tabRow 16 is, whatever the world. -/
namespace Go.Proofs.YtanemmcddgkpdaaGreat.Hm
open Go.RowKit Go.Proofs.YtanemmcddgkpdaaGreatW.PrintWords Go.Proofs.YtanemmcddgkpdaaGreatW.PrintLast Go.Proofs.YtanemmcddgkpdaaGreatW.PrintMore
set_option linter.unusedVariables false
set_option linter.unusedSimpArgs false
def t1 (x : Int) : Int := if x ≥ 2147483648 then Go.bits .xor .u32 ((x * 2) % 4294967296) 79764919 else (x * 2) % 4294967296
def tn : Nat → Int → Int
  | 0, x => x
  | n + 1, x => t1 (tn n x)
def tabI (i : Nat) : Int := tn 4 ((i : Int) * 268435456)
end Go.Proofs.YtanemmcddgkpdaaGreat.Hm
end
section
/- The Go function crc.More returns 4294967295 - crcRaw (4294967295 - a0) l1; conditions: a0 is a uint32, the numbers of l1 are bytes. -/
namespace Go.Proofs.YtanemmcddgkpdaaGreat.Hm
open Go.RowKit Go.Proofs.YtanemmcddgkpdaaGreatW.PrintWords Go.Proofs.YtanemmcddgkpdaaGreatW.PrintLast Go.Proofs.YtanemmcddgkpdaaGreatW.PrintMore
set_option linter.unusedVariables false
set_option linter.unusedSimpArgs false
def nib (x n : Int) : Int := Go.bits .xor .u32 ((x * 16) % 4294967296) (tabI (Go.bits .xor .u8 (x / 268435456) n).toNat)
def byteStep (x c : Int) : Int := nib (nib x (c / 16)) (c % 16)
def inner (x c : Int) : Nat → Int
  | 0 => x
  | 1 => nib x (c / 16)
  | _ => byteStep x c
end Go.Proofs.YtanemmcddgkpdaaGreat.Hm
end
section
/- The sum of bytes, and what is sealed (no program in sight); conditions: those that each lemma names. -/
namespace Go.Proofs.YtanemmcddgkpdaaGreat.Hm
open Go.RowKit Go.Proofs.YtanemmcddgkpdaaGreatW.PrintWords Go.Proofs.YtanemmcddgkpdaaGreatW.PrintLast Go.Proofs.YtanemmcddgkpdaaGreatW.PrintMore
set_option linter.unusedVariables false
set_option linter.unusedSimpArgs false
end Go.Proofs.YtanemmcddgkpdaaGreat.Hm
end
section
/- The mathematics of the sum (no program in sight): the table's step is the bitwise step, it is linear, it is one-to-one; what is right is told by a residue; a burst of up to 32 bits changes it. No conditions but those that each lemma names. -/
namespace Go.Proofs.YtanemmcddgkpdaaGreat.Hm
open Go.RowKit Go.Proofs.YtanemmcddgkpdaaGreatW.PrintWords Go.Proofs.YtanemmcddgkpdaaGreatW.PrintLast Go.Proofs.YtanemmcddgkpdaaGreatW.PrintMore
set_option linter.unusedVariables false
set_option linter.unusedSimpArgs false
namespace Crc
def poly : BitVec 32 := 79764919#32
def T (x : BitVec 32) : BitVec 32 := if x.msb then (x <<< 1) ^^^ poly else x <<< 1
def Tn : Nat → BitVec 32 → BitVec 32
  | 0, x => x
  | n + 1, x => T (Tn n x)
end Crc
/-- A number as 32 bits. -/
def bv (x : Int) : BitVec 32 := BitVec.ofNat 32 x.toNat
/-- The sum's state behind bytes. -/
def raw (x : BitVec 32) (l : List Int) : BitVec 32 := l.foldl (fun x c => Crc.Tn 8 (x ^^^ bv (c * 16777216))) x
end Go.Proofs.YtanemmcddgkpdaaGreat.Hm
end
section
/- What is right is told by a residue; a burst of up to 32 bits on end, not all noughts, turns what is right into what isn't; so does another byte. Conditions: numbers that are bytes, places inside. -/
namespace Go.Proofs.YtanemmcddgkpdaaGreat.Hm
open Go.RowKit Go.Proofs.YtanemmcddgkpdaaGreatW.PrintWords Go.Proofs.YtanemmcddgkpdaaGreatW.PrintLast Go.Proofs.YtanemmcddgkpdaaGreatW.PrintMore
set_option linter.unusedVariables false
set_option linter.unusedSimpArgs false
def ones : BitVec 32 := bv 4294967295
def val (a b c d : Int) : Int := a * 16777216 + b * 65536 + c * 256 + d
end Go.Proofs.YtanemmcddgkpdaaGreat.Hm
end
