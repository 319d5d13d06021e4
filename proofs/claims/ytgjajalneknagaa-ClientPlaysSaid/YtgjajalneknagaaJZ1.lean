/- Part Z1 of the lemmas and walks of the Go functions that these statements reach; conditions: those that each theorem names. -/
import Derived.Test.YtgjajalneknagaaJX8
import Derived.Test.YtgjajalneknagaaJX2
import Derived.Test.YtgjajalneknagaaJY3
section
/- Chapter 21: a client, pure: what it asks for, what it is told, how long it waits; conditions: those that each theorem names. -/
namespace Go.Proofs.Ytgjajalneknagaa.Hm
open Go.RowKit Go.Proofs.YtgjajalneknagaaW.PrintWords Go.Proofs.YtgjajalneknagaaW.PrintLast Go.Proofs.YtgjajalneknagaaW.PrintMore
set_option linter.unusedVariables false
set_option linter.unusedSimpArgs false

structure Cl where
  pa : Int
  le : Int
  id : Int
  pl : Int
  last : Int
  op : Bool
  c : Ca
abbrev clC (s : Cl) (D : Option Addr) (d : Nat) : List Value := [.int .i64 s.pa, .int .i64 s.le, .int .u32 s.id, .int .i64 s.pl, .int .u32 s.last, .bool s.op,
  .int .u32 s.c.client, .int .u32 s.c.xid, .int .u32 s.c.op, .int .u32 s.c.ai, .int .u32 s.c.ag, .string s.c.name, .int .u32 s.c.ti, .int .u32 s.c.tg, .string s.c.toName, .int .u64 s.c.off, .int .u64 s.c.verf, .int .u32 s.c.cnt, .int .u32 s.c.mode, .slice D s.c.d.length d]
abbrev ouC (pl : Int) (c : Ca) (A : Option Addr) (a : Nat) : List Value := [.int .i64 pl, .int .u32 1,
  .int .u32 c.client, .int .u32 c.xid, .int .u32 c.op, .int .u32 c.ai, .int .u32 c.ag, .string c.name, .int .u32 c.ti, .int .u32 c.tg, .string c.toName, .int .u64 c.off, .int .u64 c.verf, .int .u32 c.cnt, .int .u32 c.mode, .slice A c.d.length a,
  .int .u32 0, .int .u32 0, .int .i64 0, .int .u32 0, .int .u32 0, .int .u32 0, .int .u32 0, .int .u32 0, .int .u32 0, .int .u64 0, .slice none 0 0, .slice none 0 0, .bool false, .int .u64 0, .int .u32 0,
  .int .u32 0, .int .u64 0, .int .u64 0, .int .u32 0, .slice none 0 0]
structure Cl.wf (s : Cl) : Prop where
  pa : 1 ≤ s.pa ∧ s.pa ≤ 8
  le : 1 ≤ s.le ∧ s.le ≤ 8
  id : u32ok s.id
  pl : 0 ≤ s.pl ∧ s.pl ≤ 15
  last : u32ok s.last
  c : s.c.wf
def clOk (id pl : Int) : Bool := decide (id ≤ 7) && (decide (0 ≤ pl) && decide (pl ≤ 15))
abbrev clN (id pl : Int) : Cl := ⟨0, 0, id, pl, 0, false, ⟨0, 0, 0, 0, 0, ⟨#[]⟩, 0, 0, ⟨#[]⟩, 0, 0, 0, 0, []⟩⟩
/-- What is asked for. -/
abbrev asked (s : Cl) (x : Ca) : Ca := ⟨s.id, (s.last + 1) % 4294967296, x.op, x.ai, x.ag, x.name, x.ti, x.tg, x.toName, x.off, x.verf, x.cnt, x.mode, x.d⟩
abbrev begunC (s : Cl) (x : Ca) : Cl := ⟨1, 1, s.id, s.pl, (s.last + 1) % 4294967296, true, asked s x⟩
/-- Does a message tell of the call that is open? -/
def fitsB (s : Cl) (m : Msg) : Bool := s.op && (decide (m.k = 2) && (decide (m.r.client = s.id) && decide (m.r.xid = s.last)))
abbrev moved (s : Cl) (k : Int) : Cl := ⟨1, 1, s.id, k, s.last, s.op, s.c⟩
abbrev shut (s : Cl) : Cl := ⟨s.pa, s.le, s.id, s.pl, s.last, false, s.c⟩
/-- A tick that isn't the last one, and one that is. -/
abbrev waits (s : Cl) : Cl := ⟨s.pa, s.le - 1, s.id, s.pl, s.last, s.op, s.c⟩
def more8 (p : Int) : Int := if 2 * p ≤ 8 then 2 * p else 8
abbrev againN (s : Cl) (n : Int) : Cl := ⟨n, n, s.id, s.pl, s.last, s.op, s.c⟩
abbrev again (s : Cl) : Cl := ⟨more8 s.pa, more8 s.pa, s.id, s.pl, s.last, s.op, s.c⟩
theorem asked_wf {s : Cl} {x : Ca} (hi : u32ok s.id) (hx : x.wf) : (asked s x).wf := by
  have h0 : u32ok ((s.last + 1) % 4294967296) := ⟨by omega, by omega⟩
  exact ⟨hi, h0, hx.op, hx.ai, hx.ag, hx.ti, hx.tg, hx.off, hx.verf, hx.cnt, hx.mode, hx.d⟩
theorem more8_le {p : Int} (h : 1 ≤ p ∧ p ≤ 8) : 1 ≤ more8 p ∧ more8 p ≤ 8 := by
  unfold more8
  split <;> omega
/-- After t ticks of a call that isn't told: how long it waits, and yet. -/
def paT (t : Nat) : Int := if t = 0 then 1 else if t ≤ 2 then 2 else if t ≤ 6 then 4 else 8
def leT (t : Nat) : Int := if t = 0 then 1 else if t ≤ 2 then 3 - (t : Int) else if t ≤ 6 then 7 - (t : Int) else 8 - ((t : Int) - 7) % 8
def dueT (t : Nat) : Bool := decide (t = 1) || (decide (t = 3) || (decide (7 ≤ t) && decide ((t - 7) % 8 = 0)))
theorem due_iff (t : Nat) : dueT (t + 1) = decide (leT t ≤ 1) := by
  rw [Bool.eq_iff_iff]
  unfold dueT leT
  simp only [Bool.or_eq_true, Bool.and_eq_true, decide_eq_true_eq]
  split
  · omega
  · split
    · omega
    · split <;> omega
theorem paT_due {t : Nat} (h : leT t ≤ 1) : paT (t + 1) = more8 (paT t) ∧ leT (t + 1) = more8 (paT t) := by
  unfold leT at h ⊢
  unfold paT more8
  by_cases h0 : t = 0
  · subst h0; decide
  · by_cases h2 : t ≤ 2
    · rw [if_neg h0, if_pos h2] at h
      obtain rfl : t = 2 := by omega
      decide
    · by_cases h6 : t ≤ 6
      · rw [if_neg h0, if_neg h2, if_pos h6] at h
        obtain rfl : t = 6 := by omega
        decide
      · rw [if_neg h0, if_neg h2, if_neg h6] at h
        rw [if_neg h0, if_neg h2, if_neg h6, if_neg (by omega : ¬ t + 1 = 0), if_neg (by omega : ¬ t + 1 ≤ 2), if_neg (by omega : ¬ t + 1 ≤ 6)]
        refine ⟨by decide, ?_⟩
        rw [if_neg (by omega : ¬ t + 1 = 0), if_neg (by omega : ¬ t + 1 ≤ 2), if_neg (by omega : ¬ t + 1 ≤ 6), if_neg (by decide)]
        omega
theorem paT_not {t : Nat} (h : ¬ leT t ≤ 1) : paT (t + 1) = paT t ∧ leT (t + 1) = leT t - 1 := by
  unfold leT at h ⊢
  unfold paT
  by_cases h0 : t = 0
  · subst h0; exact absurd h (by decide)
  · by_cases h2 : t ≤ 2
    · rw [if_neg h0, if_pos h2] at h
      obtain rfl : t = 1 := by omega
      decide
    · by_cases h6 : t ≤ 6
      · rw [if_neg h0, if_neg h2, if_pos h6] at h
        rw [if_neg h0, if_neg h2, if_pos h6, if_neg (by omega : ¬ t + 1 = 0), if_neg (by omega : ¬ t + 1 ≤ 2), if_pos (by omega : t + 1 ≤ 6)]
        refine ⟨rfl, ?_⟩
        rw [if_neg h0, if_neg h2, if_pos h6]
        omega
      · rw [if_neg h0, if_neg h2, if_neg h6] at h
        rw [if_neg h0, if_neg h2, if_neg h6, if_neg (by omega : ¬ t + 1 = 0), if_neg (by omega : ¬ t + 1 ≤ 2), if_neg (by omega : ¬ t + 1 ≤ 6)]
        refine ⟨rfl, ?_⟩
        rw [if_neg h0, if_neg h2, if_neg h6]
        omega
theorem leT_le (t : Nat) : 1 ≤ leT t ∧ leT t ≤ 8 := by
  unfold leT
  split
  · omega
  · split
    · omega
    · split <;> omega
theorem paT_le (t : Nat) : 1 ≤ paT t ∧ paT t ≤ 8 := by
  unfold paT
  split
  · omega
  · split
    · omega
    · split <;> omega
end Go.Proofs.Ytgjajalneknagaa.Hm
end
section
/- Go code walked by what is known of slots and memory: the lesser, and the greater, of two numbers; conditions: those that each theorem names. -/
namespace Go.Proofs.Ytgjajalneknagaa.Sx
open Go.RowKit Go.Proofs.Ytgjajalneknagaa.Hm Go.Proofs.YtgjajalneknagaaW.PrintWords Go.Proofs.YtgjajalneknagaaW.PrintLast Go.Proofs.YtgjajalneknagaaW.PrintMore
set_option linter.unusedVariables false
set_option linter.unusedSimpArgs false

section
variable {P : Program} {fn : Func} {K : Ending → List Thing → Prop} {N : Nat} {k k' : List It} {a : Fr} {M M0 R : List Thing} {ops : Array Oper} {rest : List Oper} {T : List (Nat × TI)}
variable {d id : Nat} {op : Op} {ty : TypeId} {pos : String} {af : Array Edge} {ds : List Nat} {fuel : Nat} {l : Array Bool}
theorem SXL.min {x y : Operand} {ts : Array TypeId} {ik : IntKind} {u v : Int} (hx : evalO a x = some (.int ik u)) (hy : evalO a y = some (.int ik v)) (hd : Nat.blt d N = true)
    (hK : SXL P fn K N k ops rest ((d, .int ik (if v < u then v else u)) :: a) M) : SXL P fn K N k ops (⟨some d, .call ⟨.builtin .min, #[x, y], ts⟩, ty, pos, af, none⟩ :: rest) a M :=
  SXL.val hd (fun act w st => by
    simp [execOp, resolve, invoke, builtin, evalO_ok st.fits hx, evalO_ok st.fits hy, Builtin.min_, Builtin.min2, Sem.run_bind, Sem.run_pure]) hK
theorem SXL.max {x y : Operand} {ts : Array TypeId} {ik : IntKind} {u v : Int} (hx : evalO a x = some (.int ik u)) (hy : evalO a y = some (.int ik v)) (hd : Nat.blt d N = true)
    (hK : SXL P fn K N k ops rest ((d, .int ik (if u < v then v else u)) :: a) M) : SXL P fn K N k ops (⟨some d, .call ⟨.builtin .max, #[x, y], ts⟩, ty, pos, af, none⟩ :: rest) a M :=
  SXL.val hd (fun act w st => by
    simp [execOp, resolve, invoke, builtin, evalO_ok st.fits hx, evalO_ok st.fits hy, Builtin.max_, Builtin.max2, Sem.run_bind, Sem.run_pure]) hK
end
end Go.Proofs.Ytgjajalneknagaa.Sx
end
section
/- The Go package client, walked; conditions: those that each theorem names. -/
namespace Go.Proofs.Ytgjajalneknagaa.Sx
open Go.RowKit Go.Proofs.Ytgjajalneknagaa.Hm Go.Proofs.YtgjajalneknagaaW.PrintWords Go.Proofs.YtgjajalneknagaaW.PrintLast Go.Proofs.YtgjajalneknagaaW.PrintMore
set_option linter.unusedVariables false
set_option linter.unusedSimpArgs false
attribute [local irreducible] SX SXL SXA St callK Post Evals

section
variable {F R : List Thing} {K : Ending → List Thing → Prop} {A B C D : Option Addr} {b d c a1 a2 a3 a4 : Nat} {s : Cl}
theorem again_S {n : Int} (hat : At (some ⟨b, 0, none⟩) F (cellsR b (clC s D d) 91) R) (h : K (.returned (.tuple #[])) (.own (some ⟨b, 0, none⟩) (cellsR b (clC (againN s n) D d) 91) :: R)) :
    Fn (Try.prog) 27 [.pointer (some ⟨b, 0, none⟩), .int .i64 n] F K := by
  refine Fn.at_ hat ?_
  unfold clC
  refine Fn.enter Try.call27 Try.func27 rfl rfl rfl ?_
  repeat (first | refine Qa ?_ | refine Qb ?_ | refine Qc ?_ | refine Qd ?_ | refine Qe ?_ | refine Qf ?_ | refine Qg ?_ | refine Qh ?_ | refine Qi ?_ | refine Qj ?_ | refine Qk ?_ | refine Ql ?_ | refine Qm ?_ | refine Qn ?_ | refine Qo ?_ | refine Qp ?_ | refine Qq ?_ | fail)
  refine SX.fin (M' := (.own (some ⟨b, 0, none⟩) (cellsR b (clC (againN s n) D d) 91) :: R)) rfl Evals.nil ?_ inferInstance
  exact h
theorem over_S (hat : At (some ⟨b, 0, none⟩) F (cellsR b (clC s D d) 91) R) (hp : 1 ≤ s.pa ∧ s.pa ≤ 8) (hl : 1 ≤ s.le ∧ s.le ≤ 8)
    (h1 : 1 < s.le → K (.returned (.bool false)) (.own (some ⟨b, 0, none⟩) (cellsR b (clC (waits s) D d) 91) :: R))
    (h2 : s.le ≤ 1 → K (.returned (.bool true)) (.own (some ⟨b, 0, none⟩) (cellsR b (clC (again s) D d) 91) :: R)) :
    Fn (Try.prog) 32 [.pointer (some ⟨b, 0, none⟩)] F K := by
  refine Fn.at_ hat ?_
  have hw : IntKind.i64.wrap (s.le - 1) = s.le - 1 := IntWalk.i64_in _ (by omega)
  have hw2 : IntKind.i64.wrap (2 * s.pa) = 2 * s.pa := IntWalk.i64_in _ (by omega)
  unfold clC
  refine Fn.enter Try.call32 Try.func32 rfl rfl rfl ?_
  repeat (first | refine Qa ?_ | refine Qb ?_ | refine Qc ?_ | refine Qd ?_ | refine Qe ?_ | refine Qf ?_ | refine Qg ?_ | refine Qh ?_ | refine Qi ?_ | refine Qj ?_ | refine Qk ?_ | refine Ql ?_ | refine Qm ?_ | refine Qn ?_ | refine Qo ?_ | refine Qp ?_ | refine Qq ?_ | fail)
  rw [hw]
  refine SX.condp rfl (fun hle => ?_) (fun hle => ?_)
  · repeat (first | refine Qa ?_ | refine Qb ?_ | refine Qc ?_ | refine Qd ?_ | refine Qe ?_ | refine Qf ?_ | refine Qg ?_ | refine Qh ?_ | refine Qi ?_ | refine Qj ?_ | refine Qk ?_ | refine Ql ?_ | refine Qm ?_ | refine Qn ?_ | refine Qo ?_ | refine Qp ?_ | refine Qq ?_ | fail)
    refine SX.ret (M' := (.own (some ⟨b, 0, none⟩) (cellsR b (clC (waits s) D d) 91) :: R)) rfl (Evals.tmp rfl Evals.nil) ?_ inferInstance
    exact h1 (by omega)
  · repeat (first | refine Qa ?_ | refine Qb ?_ | refine Qc ?_ | refine Qd ?_ | refine Qe ?_ | refine Qf ?_ | refine Qg ?_ | refine Qh ?_ | refine Qi ?_ | refine Qj ?_ | refine Qk ?_ | refine Ql ?_ | refine Qm ?_ | refine Qn ?_ | refine Qo ?_ | refine Qp ?_ | refine Qq ?_ | fail)
    refine SXL.min rfl rfl rfl ?_
    repeat (first | refine Qa ?_ | refine Qb ?_ | refine Qc ?_ | refine Qd ?_ | refine Qe ?_ | refine Qf ?_ | refine Qg ?_ | refine Qh ?_ | refine Qi ?_ | refine Qj ?_ | refine Qk ?_ | refine Ql ?_ | refine Qm ?_ | refine Qn ?_ | refine Qo ?_ | refine Qp ?_ | refine Qq ?_ | fail)
    refine SXL.same 21 (.int .i64 (more8 s.pa)) rfl (by rw [hw2]; unfold more8; by_cases h8 : 2 * s.pa ≤ 8 <;> simp [h8] <;> omega) ?_
    refine SXL.call rfl rfl rfl ?_
    refine (again_S (s := waits s) (n := more8 s.pa) inferInstance (callK.ret ?_))
    repeat (first | refine Qa ?_ | refine Qb ?_ | refine Qc ?_ | refine Qd ?_ | refine Qe ?_ | refine Qf ?_ | refine Qg ?_ | refine Qh ?_ | refine Qi ?_ | refine Qj ?_ | refine Qk ?_ | refine Ql ?_ | refine Qm ?_ | refine Qn ?_ | refine Qo ?_ | refine Qp ?_ | refine Qq ?_ | fail)
    refine SX.ret (M' := (.own (some ⟨b, 0, none⟩) (cellsR b (clC (again s) D d) 91) :: R)) rfl (Evals.tmp rfl Evals.nil) ?_ inferInstance
    exact h2 (by omega)
theorem asks_S (hat : At (some ⟨b, 0, none⟩) F (cellsR b (clC s D d) 91) R) (hr : Ro (Kd.int .u8) D R s.c.d) (hd : s.c.d.length ≤ d) (hl : s.c.d.length ≤ 1000000)
    (h : ∀ g A' a', s.c.d.length ≤ a' → K (.returned (.slice (some ⟨g, 0, none⟩) 1 1)) (.own (some ⟨g, 0, none⟩) (cellsR g (ouC s.pl s.c A' a') 82) :: .own A' (rowR (Kd.int .u8) 5 (.slice A' s.c.d.length a') s.c.d) :: .own (some ⟨b, 0, none⟩) (cellsR b (clC s D d) 91) :: R)) :
    Fn (Try.prog) 28 [.pointer (some ⟨b, 0, none⟩)] F K := by
  refine Fn.at_ hat ?_
  unfold clC
  refine Fn.enter Try.call28 Try.func28 rfl rfl rfl ?_
  repeat (first | refine Qa ?_ | refine Qb ?_ | refine Qc ?_ | refine Qd ?_ | refine Qe ?_ | refine Qf ?_ | refine Qg ?_ | refine Qh ?_ | refine Qi ?_ | refine Qj ?_ | refine Qk ?_ | refine Ql ?_ | refine Qm ?_ | refine Qn ?_ | refine Qo ?_ | refine Qp ?_ | refine Qq ?_ | fail)
  refine SXL.alloc rfl rfl (fun q => ?_)
  repeat (first | refine Qa ?_ | refine Qb ?_ | refine Qc ?_ | refine Qd ?_ | refine Qe ?_ | refine Qf ?_ | refine Qg ?_ | refine Qh ?_ | refine Qi ?_ | refine Qj ?_ | refine Qk ?_ | refine Ql ?_ | refine Qm ?_ | refine Qn ?_ | refine Qo ?_ | refine Qp ?_ | refine Qq ?_ | fail)
  refine SXL.call rfl rfl rfl ?_
  refine (BClone_S (xs := s.c.d) inferInstance hd (by omega) (fun A' a' ha' => callK.ret ?_))
  repeat (first | refine Qa ?_ | refine Qb ?_ | refine Qc ?_ | refine Qd ?_ | refine Qe ?_ | refine Qf ?_ | refine Qg ?_ | refine Qh ?_ | refine Qi ?_ | refine Qj ?_ | refine Qk ?_ | refine Ql ?_ | refine Qm ?_ | refine Qn ?_ | refine Qo ?_ | refine Qp ?_ | refine Qq ?_ | fail)
  refine SXA.begin (.own (some ⟨q, 0, none⟩) (cellsR q (caC s.c A' a') 40) :: .own A' (rowR (Kd.int .u8) 5 (.slice A' s.c.d.length a') s.c.d) :: .own (some ⟨b, 0, none⟩) (cellsR b (clC s D d) 91) :: R) [] ?_
  unfold clC caC
  (first | refine Qr 0 ?_ | refine Qs 0 ?_ | refine Qt 0 ?_ | refine Qu 0 ?_ | fail)
  (first | refine Qr 1 ?_ | refine Qs 1 ?_ | refine Qt 1 ?_ | refine Qu 1 ?_ | fail)
  (first | refine Qr 2 ?_ | refine Qs 2 ?_ | refine Qt 2 ?_ | refine Qu 2 ?_ | fail)
  (first | refine Qr 3 ?_ | refine Qs 3 ?_ | refine Qt 3 ?_ | refine Qu 3 ?_ | fail)
  (first | refine Qr 4 ?_ | refine Qs 4 ?_ | refine Qt 4 ?_ | refine Qu 4 ?_ | fail)
  (first | refine Qr 5 ?_ | refine Qs 5 ?_ | refine Qt 5 ?_ | refine Qu 5 ?_ | fail)
  (first | refine Qr 6 ?_ | refine Qs 6 ?_ | refine Qt 6 ?_ | refine Qu 6 ?_ | fail)
  refine Qw 7 ?_
  refine SXL.lit rfl rfl (fun g => ?_)
  refine SXL.nil (SXA.next inferInstance ?_)
  (first | refine Qr 8 ?_ | refine Qs 8 ?_ | refine Qt 8 ?_ | refine Qu 8 ?_ | fail)
  refine Qv ?_
  refine SX.ret (M' := (.own (some ⟨g, 0, none⟩) (cellsR g (ouC s.pl s.c A' a') 82) :: .own A' (rowR (Kd.int .u8) 5 (.slice A' s.c.d.length a') s.c.d) :: .own (some ⟨b, 0, none⟩) (cellsR b (clC s D d) 91) :: R)) rfl (Evals.tmp rfl Evals.nil) ?_ inferInstance
  exact h g A' a' ha'
end
end Go.Proofs.Ytgjajalneknagaa.Sx
end
section
/- The Go package client: New, Begin, walked; conditions: those that each theorem names. -/
namespace Go.Proofs.Ytgjajalneknagaa.Sx
open Go.RowKit Go.Proofs.Ytgjajalneknagaa.Hm Go.Proofs.YtgjajalneknagaaW.PrintWords Go.Proofs.YtgjajalneknagaaW.PrintLast Go.Proofs.YtgjajalneknagaaW.PrintMore
set_option linter.unusedVariables false
set_option linter.unusedSimpArgs false
attribute [local irreducible] SX SXL SXA St callK Post Evals

section
variable {F R : List Thing} {K : Ending → List Thing → Prop} {A B C D : Option Addr} {b d c a1 a2 a3 a4 : Nat} {s : Cl}
theorem New_S {id pl : Int} (h1 : clOk id pl = false → K (.returned (.tuple #[.pointer none, .int .i64 1])) F)
    (h2 : clOk id pl = true → ∀ p, K (.returned (.tuple #[.pointer (some ⟨p, 0, none⟩), .int .i64 0])) (.own (some ⟨p, 0, none⟩) (cellsR p (clC (clN id pl) none 0) 91) :: F)) :
    Fn (Try.prog) 9 [.int .u32 id, .int .i64 pl] F K := by
  refine Fn.enter Try.call9 Try.func9 rfl rfl rfl ?_
  repeat (first | refine Qa ?_ | refine Qb ?_ | refine Qc ?_ | refine Qd ?_ | refine Qe ?_ | refine Qf ?_ | refine Qg ?_ | refine Qh ?_ | refine Qi ?_ | refine Qj ?_ | refine Qk ?_ | refine Ql ?_ | refine Qm ?_ | refine Qn ?_ | refine Qo ?_ | refine Qp ?_ | refine Qq ?_ | fail)
  refine SXL.split (s := 8) rfl (fun e1 => ?_) (fun e1 => ?_)
  · repeat (first | refine Qa ?_ | refine Qb ?_ | refine Qc ?_ | refine Qd ?_ | refine Qe ?_ | refine Qf ?_ | refine Qg ?_ | refine Qh ?_ | refine Qi ?_ | refine Qj ?_ | refine Qk ?_ | refine Ql ?_ | refine Qm ?_ | refine Qn ?_ | refine Qo ?_ | refine Qp ?_ | refine Qq ?_ | fail)
    refine SX.ret (M' := F) rfl (Evals.tmp rfl (Evals.tmp rfl Evals.nil)) ?_ inferInstance
    exact h1 (by unfold clOk; simp only [decide_eq_true_eq, ge_iff_le] at e1; rw [decide_eq_false (by omega)]; rfl)
  repeat (first | refine Qa ?_ | refine Qb ?_ | refine Qc ?_ | refine Qd ?_ | refine Qe ?_ | refine Qf ?_ | refine Qg ?_ | refine Qh ?_ | refine Qi ?_ | refine Qj ?_ | refine Qk ?_ | refine Ql ?_ | refine Qm ?_ | refine Qn ?_ | refine Qo ?_ | refine Qp ?_ | refine Qq ?_ | fail)
  refine SXL.split (s := 12) rfl (fun e2 => ?_) (fun e2 => ?_)
  · repeat (first | refine Qa ?_ | refine Qb ?_ | refine Qc ?_ | refine Qd ?_ | refine Qe ?_ | refine Qf ?_ | refine Qg ?_ | refine Qh ?_ | refine Qi ?_ | refine Qj ?_ | refine Qk ?_ | refine Ql ?_ | refine Qm ?_ | refine Qn ?_ | refine Qo ?_ | refine Qp ?_ | refine Qq ?_ | fail)
    refine SX.ret (M' := F) rfl (Evals.tmp rfl (Evals.tmp rfl Evals.nil)) ?_ inferInstance
    exact h1 (by unfold clOk; simp only [decide_eq_true_eq] at e2; rw [decide_eq_false (by omega : ¬ 0 ≤ pl), Bool.false_and, Bool.and_false])
  repeat (first | refine Qa ?_ | refine Qb ?_ | refine Qc ?_ | refine Qd ?_ | refine Qe ?_ | refine Qf ?_ | refine Qg ?_ | refine Qh ?_ | refine Qi ?_ | refine Qj ?_ | refine Qk ?_ | refine Ql ?_ | refine Qm ?_ | refine Qn ?_ | refine Qo ?_ | refine Qp ?_ | refine Qq ?_ | fail)
  refine SX.cond rfl (fun e3 => ?_) (fun e3 => ?_)
  · repeat (first | refine Qa ?_ | refine Qb ?_ | refine Qc ?_ | refine Qd ?_ | refine Qe ?_ | refine Qf ?_ | refine Qg ?_ | refine Qh ?_ | refine Qi ?_ | refine Qj ?_ | refine Qk ?_ | refine Ql ?_ | refine Qm ?_ | refine Qn ?_ | refine Qo ?_ | refine Qp ?_ | refine Qq ?_ | fail)
    refine SX.ret (M' := F) rfl (Evals.tmp rfl (Evals.tmp rfl Evals.nil)) ?_ inferInstance
    exact h1 (by unfold clOk; simp only [decide_eq_true_eq, ge_iff_le] at e3; rw [decide_eq_false (by omega : ¬ pl ≤ 15), Bool.and_false, Bool.and_false])
  repeat (first | refine Qa ?_ | refine Qb ?_ | refine Qc ?_ | refine Qd ?_ | refine Qe ?_ | refine Qf ?_ | refine Qg ?_ | refine Qh ?_ | refine Qi ?_ | refine Qj ?_ | refine Qk ?_ | refine Ql ?_ | refine Qm ?_ | refine Qn ?_ | refine Qo ?_ | refine Qp ?_ | refine Qq ?_ | fail)
  refine SXL.box rfl rfl rfl (fun p => ?_)
  repeat (first | refine Qa ?_ | refine Qb ?_ | refine Qc ?_ | refine Qd ?_ | refine Qe ?_ | refine Qf ?_ | refine Qg ?_ | refine Qh ?_ | refine Qi ?_ | refine Qj ?_ | refine Qk ?_ | refine Ql ?_ | refine Qm ?_ | refine Qn ?_ | refine Qo ?_ | refine Qp ?_ | refine Qq ?_ | fail)
  refine SX.ret (M' := (.own (some ⟨p, 0, none⟩) (cellsR p (clC (clN id pl) none 0) 91) :: F)) rfl (Evals.tmp rfl (Evals.tmp rfl Evals.nil)) ?_ inferInstance
  refine h2 ?_ p
  unfold clOk
  simp only [decide_eq_false_iff_not, ge_iff_le] at e1 e2 e3
  rw [decide_eq_true (by omega), decide_eq_true (by omega), decide_eq_true (by omega)]
  rfl
theorem Begin_S {x : Ca} {a : Nat} (hat : At (some ⟨b, 0, none⟩) F (cellsR b (clC s D d) 91) R) (hx : Ro (Kd.int .u8) A R x.d) (ha : x.d.length ≤ a) (hl : x.d.length ≤ 1000000) (hi : u32ok s.id) (hla : u32ok s.last) (hw : x.wf)
    (h1 : s.op = true → K (.returned (.tuple #[.int .u32 0, .slice none 0 0, .int .i64 22])) (.own (some ⟨b, 0, none⟩) (cellsR b (clC s D d) 91) :: R))
    (h2 : s.op = false → ∀ r n, putMs ⟨1, asked s x, Re0, Ctl0⟩ = (r, n) → n ≠ 0 → K (.returned (.tuple #[.int .u32 0, .slice none 0 0, .int .i64 n])) (.own (some ⟨b, 0, none⟩) (cellsR b (clC s D d) 91) :: R))
    (h3 : s.op = false → ∀ r, putMs ⟨1, asked s x, Re0, Ctl0⟩ = (r, 0) → ∀ g A1 a1 A2 a2, x.d.length ≤ a1 → x.d.length ≤ a2 → K (.returned (.tuple #[.int .u32 ((s.last + 1) % 4294967296), .slice (some ⟨g, 0, none⟩) 1 1, .int .i64 0]))
      (.own (some ⟨g, 0, none⟩) (cellsR g (ouC s.pl (asked s x) A2 a2) 82) :: .own A2 (rowR (Kd.int .u8) 5 (.slice A2 x.d.length a2) x.d) :: .own (some ⟨b, 0, none⟩) (cellsR b (clC (begunC s x) A1 a1) 91) :: .own A1 (rowR (Kd.int .u8) 5 (.slice A1 x.d.length a1) x.d) :: R)) :
    Fn (Try.prog) 11 [.pointer (some ⟨b, 0, none⟩), .agg (caC x A a).toArray] F K := by
  refine Fn.at_ hat ?_
  have hwr : IntKind.u32.wrap (s.last + 1) = (s.last + 1) % 4294967296 := rfl
  unfold clC caC
  refine Fn.enter Try.call11 Try.func11 rfl rfl rfl ?_
  repeat (first | refine Qa ?_ | refine Qb ?_ | refine Qc ?_ | refine Qd ?_ | refine Qe ?_ | refine Qf ?_ | refine Qg ?_ | refine Qh ?_ | refine Qi ?_ | refine Qj ?_ | refine Qk ?_ | refine Ql ?_ | refine Qm ?_ | refine Qn ?_ | refine Qo ?_ | refine Qp ?_ | refine Qq ?_ | fail)
  refine SXL.box rfl rfl rfl (fun p => ?_)
  repeat (first | refine Qa ?_ | refine Qb ?_ | refine Qc ?_ | refine Qd ?_ | refine Qe ?_ | refine Qf ?_ | refine Qg ?_ | refine Qh ?_ | refine Qi ?_ | refine Qj ?_ | refine Qk ?_ | refine Ql ?_ | refine Qm ?_ | refine Qn ?_ | refine Qo ?_ | refine Qp ?_ | refine Qq ?_ | fail)
  refine SX.cond rfl (fun hs => ?_) (fun hs => ?_)
  · have hs : s.op = true := by simpa using hs
    repeat (first | refine Qa ?_ | refine Qb ?_ | refine Qc ?_ | refine Qd ?_ | refine Qe ?_ | refine Qf ?_ | refine Qg ?_ | refine Qh ?_ | refine Qi ?_ | refine Qj ?_ | refine Qk ?_ | refine Ql ?_ | refine Qm ?_ | refine Qn ?_ | refine Qo ?_ | refine Qp ?_ | refine Qq ?_ | fail)
    refine SX.ret (M' := (.own (some ⟨b, 0, none⟩) (cellsR b (clC s D d) 91) :: R)) rfl (Evals.tmp rfl (Evals.tmp rfl (Evals.tmp rfl Evals.nil))) ?_ inferInstance
    exact h1 hs
  have hs : s.op = false := by simpa using hs
  repeat (first | refine Qa ?_ | refine Qb ?_ | refine Qc ?_ | refine Qd ?_ | refine Qe ?_ | refine Qf ?_ | refine Qg ?_ | refine Qh ?_ | refine Qi ?_ | refine Qj ?_ | refine Qk ?_ | refine Ql ?_ | refine Qm ?_ | refine Qn ?_ | refine Qo ?_ | refine Qp ?_ | refine Qq ?_ | fail)
  refine SXA.begin (.own (some ⟨b, 0, none⟩) (cellsR b (clC s D d) 91) :: R) [] ?_
  unfold clC
  (first | refine Qr 0 ?_ | refine Qs 0 ?_ | refine Qt 0 ?_ | refine Qu 0 ?_ | fail)
  (first | refine Qr 1 ?_ | refine Qs 1 ?_ | refine Qt 1 ?_ | refine Qu 1 ?_ | fail)
  (first | refine Qr 2 ?_ | refine Qs 2 ?_ | refine Qt 2 ?_ | refine Qu 2 ?_ | fail)
  (first | refine Qr 3 ?_ | refine Qs 3 ?_ | refine Qt 3 ?_ | refine Qu 3 ?_ | fail)
  (first | refine Qr 4 ?_ | refine Qs 4 ?_ | refine Qt 4 ?_ | refine Qu 4 ?_ | fail)
  (first | refine Qr 5 ?_ | refine Qs 5 ?_ | refine Qt 5 ?_ | refine Qu 5 ?_ | fail)
  (first | refine Qr 6 ?_ | refine Qs 6 ?_ | refine Qt 6 ?_ | refine Qu 6 ?_ | fail)
  (first | refine Qr 7 ?_ | refine Qs 7 ?_ | refine Qt 7 ?_ | refine Qu 7 ?_ | fail)
  (first | refine Qr 8 ?_ | refine Qs 8 ?_ | refine Qt 8 ?_ | refine Qu 8 ?_ | fail)
  (first | refine Qr 9 ?_ | refine Qs 9 ?_ | refine Qt 9 ?_ | refine Qu 9 ?_ | fail)
  rw [hwr]
  (first | refine Qr 10 ?_ | refine Qs 10 ?_ | refine Qt 10 ?_ | refine Qu 10 ?_ | fail)
  (first | refine Qr 11 ?_ | refine Qs 11 ?_ | refine Qt 11 ?_ | refine Qu 11 ?_ | fail)
  (first | refine Qr 12 ?_ | refine Qs 12 ?_ | refine Qt 12 ?_ | refine Qu 12 ?_ | fail)
  refine Qv ?_
  repeat (first | refine Qa ?_ | refine Qb ?_ | refine Qc ?_ | refine Qd ?_ | refine Qe ?_ | refine Qf ?_ | refine Qg ?_ | refine Qh ?_ | refine Qi ?_ | refine Qj ?_ | refine Qk ?_ | refine Ql ?_ | refine Qm ?_ | refine Qn ?_ | refine Qo ?_ | refine Qp ?_ | refine Qq ?_ | fail)
  refine SXL.call rfl rfl rfl ?_
  refine (BClone_S (xs := x.d) inferInstance ha (by omega) (fun A1 a1 h1' => callK.ret ?_))
  repeat (first | refine Qa ?_ | refine Qb ?_ | refine Qc ?_ | refine Qd ?_ | refine Qe ?_ | refine Qf ?_ | refine Qg ?_ | refine Qh ?_ | refine Qi ?_ | refine Qj ?_ | refine Qk ?_ | refine Ql ?_ | refine Qm ?_ | refine Qn ?_ | refine Qo ?_ | refine Qp ?_ | refine Qq ?_ | fail)
  refine SXL.call rfl rfl rfl ?_
  refine (WPut_S (m := ⟨1, asked s x, Re0, Ctl0⟩) (A := A1) (B := none) (C := none) (D := none) (a1 := a1) (a2 := 0) (a3 := 0) (a4 := 0) inferInstance inferInstance inferInstance inferInstance h1' (Nat.le_refl _) (Nat.le_refl _) (Nat.le_refl _) ⟨⟨by show (0 : Int) ≤ 1; omega, by show (1 : Int) < 4294967296; omega⟩, asked_wf hi hw, Re0_wf, Ctl0_wf⟩ (fun r n hm A3 c3 hc3 => callK.ret ?_))
  repeat (first | refine Qa ?_ | refine Qb ?_ | refine Qc ?_ | refine Qd ?_ | refine Qe ?_ | refine Qf ?_ | refine Qg ?_ | refine Qh ?_ | refine Qi ?_ | refine Qj ?_ | refine Qk ?_ | refine Ql ?_ | refine Qm ?_ | refine Qn ?_ | refine Qo ?_ | refine Qp ?_ | refine Qq ?_ | fail)
  refine SX.cond rfl (fun hn => ?_) (fun hn => ?_)
  · repeat (first | refine Qa ?_ | refine Qb ?_ | refine Qc ?_ | refine Qd ?_ | refine Qe ?_ | refine Qf ?_ | refine Qg ?_ | refine Qh ?_ | refine Qi ?_ | refine Qj ?_ | refine Qk ?_ | refine Ql ?_ | refine Qm ?_ | refine Qn ?_ | refine Qo ?_ | refine Qp ?_ | refine Qq ?_ | fail)
    refine SX.ret (M' := (.own (some ⟨b, 0, none⟩) (cellsR b (clC s D d) 91) :: R)) rfl (Evals.tmp rfl (Evals.tmp rfl (Evals.tmp rfl Evals.nil))) ?_ inferInstance
    exact h2 hs r n hm (by simpa using hn)
  obtain rfl : n = 0 := by simpa using hn
  repeat (first | refine Qa ?_ | refine Qb ?_ | refine Qc ?_ | refine Qd ?_ | refine Qe ?_ | refine Qf ?_ | refine Qg ?_ | refine Qh ?_ | refine Qi ?_ | refine Qj ?_ | refine Qk ?_ | refine Ql ?_ | refine Qm ?_ | refine Qn ?_ | refine Qo ?_ | refine Qp ?_ | refine Qq ?_ | fail)
  refine SXA.begin (.own (some ⟨p, 0, none⟩) (cellsR p (caC (asked s x) A1 a1) 40) :: .own A1 (rowR (Kd.int .u8) 5 (.slice A1 x.d.length a1) x.d) :: R) [] ?_
  unfold caC
  (first | refine Qr 0 ?_ | refine Qs 0 ?_ | refine Qt 0 ?_ | refine Qu 0 ?_ | fail)
  (first | refine Qr 1 ?_ | refine Qs 1 ?_ | refine Qt 1 ?_ | refine Qu 1 ?_ | fail)
  (first | refine Qr 2 ?_ | refine Qs 2 ?_ | refine Qt 2 ?_ | refine Qu 2 ?_ | fail)
  (first | refine Qr 3 ?_ | refine Qs 3 ?_ | refine Qt 3 ?_ | refine Qu 3 ?_ | fail)
  (first | refine Qr 4 ?_ | refine Qs 4 ?_ | refine Qt 4 ?_ | refine Qu 4 ?_ | fail)
  (first | refine Qr 5 ?_ | refine Qs 5 ?_ | refine Qt 5 ?_ | refine Qu 5 ?_ | fail)
  (first | refine Qr 6 ?_ | refine Qs 6 ?_ | refine Qt 6 ?_ | refine Qu 6 ?_ | fail)
  (first | refine Qr 7 ?_ | refine Qs 7 ?_ | refine Qt 7 ?_ | refine Qu 7 ?_ | fail)
  (first | refine Qr 8 ?_ | refine Qs 8 ?_ | refine Qt 8 ?_ | refine Qu 8 ?_ | fail)
  (first | refine Qr 9 ?_ | refine Qs 9 ?_ | refine Qt 9 ?_ | refine Qu 9 ?_ | fail)
  (first | refine Qr 10 ?_ | refine Qs 10 ?_ | refine Qt 10 ?_ | refine Qu 10 ?_ | fail)
  (first | refine Qr 11 ?_ | refine Qs 11 ?_ | refine Qt 11 ?_ | refine Qu 11 ?_ | fail)
  (first | refine Qr 12 ?_ | refine Qs 12 ?_ | refine Qt 12 ?_ | refine Qu 12 ?_ | fail)
  (first | refine Qr 13 ?_ | refine Qs 13 ?_ | refine Qt 13 ?_ | refine Qu 13 ?_ | fail)
  (first | refine Qr 14 ?_ | refine Qs 14 ?_ | refine Qt 14 ?_ | refine Qu 14 ?_ | fail)
  refine Qv ?_
  repeat (first | refine Qa ?_ | refine Qb ?_ | refine Qc ?_ | refine Qd ?_ | refine Qe ?_ | refine Qf ?_ | refine Qg ?_ | refine Qh ?_ | refine Qi ?_ | refine Qj ?_ | refine Qk ?_ | refine Ql ?_ | refine Qm ?_ | refine Qn ?_ | refine Qo ?_ | refine Qp ?_ | refine Qq ?_ | fail)
  refine SXL.call rfl rfl rfl ?_
  refine (again_S (s := ⟨s.pa, s.le, s.id, s.pl, (s.last + 1) % 4294967296, true, asked s x⟩) (D := A1) (d := a1) (n := 1) inferInstance (callK.ret ?_))
  repeat (first | refine Qa ?_ | refine Qb ?_ | refine Qc ?_ | refine Qd ?_ | refine Qe ?_ | refine Qf ?_ | refine Qg ?_ | refine Qh ?_ | refine Qi ?_ | refine Qj ?_ | refine Qk ?_ | refine Ql ?_ | refine Qm ?_ | refine Qn ?_ | refine Qo ?_ | refine Qp ?_ | refine Qq ?_ | fail)
  refine SXA.begin (.own (some ⟨p, 0, none⟩) (cellsR p (caC (asked s x) A1 a1) 40) :: R) [] ?_
  unfold caC
  (first | refine Qr 0 ?_ | refine Qs 0 ?_ | refine Qt 0 ?_ | refine Qu 0 ?_ | fail)
  (first | refine Qr 1 ?_ | refine Qs 1 ?_ | refine Qt 1 ?_ | refine Qu 1 ?_ | fail)
  (first | refine Qr 2 ?_ | refine Qs 2 ?_ | refine Qt 2 ?_ | refine Qu 2 ?_ | fail)
  refine Qw 3 ?_
  refine SXL.call rfl rfl rfl ?_
  refine (asks_S (s := begunC s x) (D := A1) (d := a1) inferInstance inferInstance h1' hl (fun g A2 a2 ha2 => callK.ret ?_))
  refine SXL.nil (SXA.next inferInstance ?_)
  (first | refine Qr 4 ?_ | refine Qs 4 ?_ | refine Qt 4 ?_ | refine Qu 4 ?_ | fail)
  (first | refine Qr 5 ?_ | refine Qs 5 ?_ | refine Qt 5 ?_ | refine Qu 5 ?_ | fail)
  (first | refine Qr 6 ?_ | refine Qs 6 ?_ | refine Qt 6 ?_ | refine Qu 6 ?_ | fail)
  refine Qv ?_
  refine SX.ret (M' := (.own (some ⟨g, 0, none⟩) (cellsR g (ouC s.pl (asked s x) A2 a2) 82) :: .own A2 (rowR (Kd.int .u8) 5 (.slice A2 x.d.length a2) x.d) :: .own (some ⟨b, 0, none⟩) (cellsR b (clC (begunC s x) A1 a1) 91) :: .own A1 (rowR (Kd.int .u8) 5 (.slice A1 x.d.length a1) x.d) :: R)) rfl (Evals.tmp rfl (Evals.tmp rfl (Evals.tmp rfl Evals.nil))) ?_ inferInstance
  exact h3 hs r hm g A1 a1 A2 a2 h1' ha2
end
end Go.Proofs.Ytgjajalneknagaa.Sx
end
