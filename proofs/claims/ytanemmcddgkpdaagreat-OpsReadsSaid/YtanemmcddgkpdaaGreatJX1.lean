/- Part X1 of the lemmas and walks of the Go functions that these statements reach; conditions: those that each theorem names. -/
import Derived.Test.YtanemmcddgkpdaaGreatJV7
section
/- Bytes by a list of what comes one behind the other: put, got, cut; conditions: those that each theorem names. -/
namespace Go.Proofs.YtanemmcddgkpdaaGreat.Hm
open Go.RowKit Go.Proofs.YtanemmcddgkpdaaGreatW.PrintWords Go.Proofs.YtanemmcddgkpdaaGreatW.PrintLast Go.Proofs.YtanemmcddgkpdaaGreatW.PrintMore
set_option linter.unusedVariables false
set_option linter.unusedSimpArgs false
inductive Fk where
  | w
  | d
  | o (most : Nat)
  | t
inductive Fv where
  | i (x : Int)
  | b (l : List Int)
end Go.Proofs.YtanemmcddgkpdaaGreat.Hm
end
section
/- Chapter 9: calls and replies: what may be, their bytes; conditions: those that each theorem names. -/
namespace Go.Proofs.YtanemmcddgkpdaaGreat.Hm
open Go.RowKit Go.Proofs.YtanemmcddgkpdaaGreatW.PrintWords Go.Proofs.YtanemmcddgkpdaaGreatW.PrintLast Go.Proofs.YtanemmcddgkpdaaGreatW.PrintMore
set_option linter.unusedVariables false
set_option linter.unusedSimpArgs false
structure Ca where
  client : Int
  xid : Int
  op : Int
  ai : Int
  ag : Int
  name : ByteArray
  ti : Int
  tg : Int
  toName : ByteArray
  off : Int
  verf : Int
  cnt : Int
  mode : Int
  d : List Int
structure Ca.wf (c : Ca) : Prop where
  client : u32ok c.client
  xid : u32ok c.xid
  op : u32ok c.op
  ai : u32ok c.ai
  ag : u32ok c.ag
  ti : u32ok c.ti
  tg : u32ok c.tg
  off : u64ok c.off
  verf : u64ok c.verf
  cnt : u32ok c.cnt
  mode : u32ok c.mode
  d : bytesB c.d = true
def caC (s : Ca) (A : Option Addr) (c : Nat) : List Value := [.int .u32 s.client, .int .u32 s.xid, .int .u32 s.op, .int .u32 s.ai, .int .u32 s.ag, .string s.name, .int .u32 s.ti, .int .u32 s.tg, .string s.toName, .int .u64 s.off, .int .u64 s.verf, .int .u32 s.cnt, .int .u32 s.mode, .slice A s.d.length c]
end Go.Proofs.YtanemmcddgkpdaaGreat.Hm
end
section
/- Chapter 9: replies: what may be, their bytes; conditions: those that each theorem names. -/
namespace Go.Proofs.YtanemmcddgkpdaaGreat.Hm
open Go.RowKit Go.Proofs.YtanemmcddgkpdaaGreatW.PrintWords Go.Proofs.YtanemmcddgkpdaaGreatW.PrintLast Go.Proofs.YtanemmcddgkpdaaGreatW.PrintMore
set_option linter.unusedVariables false
set_option linter.unusedSimpArgs false
structure Re where
  client : Int
  xid : Int
  st : Int
  ai : Int
  ag : Int
  ak : Int
  am : Int
  al : Int
  sz : Int
  ac : Int
  d : List Int
  e : List Ent
  eof : Bool
  verf : Int
  free : Int
def Re0 : Re := ⟨0, 0, 0, 0, 0, 0, 0, 0, 0, 0, [], [], false, 0, 0⟩
structure Re.wf (s : Re) : Prop where
  client : u32ok s.client
  xid : u32ok s.xid
  ai : u32ok s.ai
  ag : u32ok s.ag
  ak : u32ok s.ak
  am : u32ok s.am
  al : u32ok s.al
  sz : u32ok s.sz
  ac : u64ok s.ac
  verf : u64ok s.verf
  free : u32ok s.free
  d : bytesB s.d = true
  e : ∀ x ∈ s.e, x.wf
def reC (s : Re) (A : Option Addr) (c : Nat) (B : Option Addr) (c2 : Nat) : List Value := [.int .u32 s.client, .int .u32 s.xid, .int .i64 s.st, .int .u32 s.ai, .int .u32 s.ag, .int .u32 s.ak, .int .u32 s.am, .int .u32 s.al, .int .u32 s.sz, .int .u64 s.ac, .slice A s.d.length c, .slice B s.e.length c2, .bool s.eof, .int .u64 s.verf, .int .u32 s.free]
theorem putM_0 {l : List Ent} (h : (putM l).2 = 0) : mayOk l ∧ putM l = (l.flatMap encE, 0) ∧ ∀ e ∈ l, (bytesOf e.s).length ≤ 24 := by
  have hm : mayOk l := by
    unfold putM at h
    by_cases hm : mayB l = true
    · exact (mayB_iff l).1 hm
    · rw [if_neg hm] at h; simp at h
  refine ⟨hm, mayOk_putM hm, fun e he => ?_⟩
  obtain ⟨j, hj⟩ := List.mem_iff_getElem?.1 he
  exact name_len (addM_name (hm j e hj))
end Go.Proofs.YtanemmcddgkpdaaGreat.Hm
end
