/- Part Y8 of the lemmas and walks of the Go functions that these statements reach; conditions: those that each theorem names. -/
import Derived.Test.YtlpjchighfdomaaJU
import Derived.Test.YtlpjchighfdomaaJD
import Derived.Test.YtlpjchighfdomaaJE
import Derived.Test.YtlpjchighfdomaaJY7
section
/- Chapter 08: entries read a few at a time, pure; conditions: those that each theorem names. -/
namespace Go.Proofs.Ytlpjchighfdomaa.Hm
open Go.RowKit Go.Proofs.YtlpjchighfdomaaW.PrintWords Go.Proofs.YtlpjchighfdomaaW.PrintLast Go.Proofs.YtlpjchighfdomaaW.PrintMore
set_option linter.unusedVariables false
set_option linter.unusedSimpArgs false

theorem addM_last {l : List Ent} {e : Ent} (h : (addM l e).2 = 0) : lastC l < e.c := by
  unfold addM at h
  split at h
  · rename_i h1
    exact absurd h h1
  · split at h
    · exact absurd h (by decide)
    · split at h
      · exact absurd h (by decide)
      · omega
theorem asc_take {l : List Ent} (h : mayOk l) : ∀ n, n ≤ l.length → ∀ x ∈ l.take n, x.c ≤ lastC (l.take n) := by
  intro n
  induction n with
  | zero => intro _ x hx; simp at hx
  | succ n ih =>
    intro hn x hx
    obtain ⟨y, hy⟩ : ∃ y, l[n]? = some y := ⟨_, List.getElem?_eq_getElem (by omega)⟩
    rw [lastC_take l n y hy]
    have h2 := addM_last (h n y hy)
    obtain ⟨hlt, hv⟩ := List.getElem?_eq_some_iff.1 hy
    rw [List.take_succ_eq_append_getElem hlt, hv] at hx
    rcases List.mem_append.1 hx with hx | hx
    · have := ih (by omega) x hx
      omega
    · have := List.mem_singleton.1 hx
      rw [this]
      exact Int.le_refl _
theorem idx_pages {l : List Ent} (h : mayOk l) {n : Nat} (hn : n ≤ l.length) : idxE (fun e => decide (lastC (l.take n) < e.c)) l = if n < l.length then (n : Int) else -1 := by
  by_cases hlt : n < l.length
  · rw [if_pos hlt]
    obtain ⟨y, hy⟩ : ∃ y, l[n]? = some y := ⟨_, List.getElem?_eq_getElem hlt⟩
    exact idxE_hit _ l n y hy (decide_eq_true (addM_last (h n y hy))) (fun x hx => decide_eq_false (by have := asc_take h n hn x hx; omega))
  · rw [if_neg hlt]
    have e : l.take n = l := List.take_of_length_le (by omega)
    have h2 := asc_take h n hn
    rw [e] at h2 ⊢
    exact idxE_none _ l (fun x hx => decide_eq_false (by have := h2 x hx; omega))
theorem after_pages {l : List Ent} (h : mayOk l) {n : Nat} (hn : n ≤ l.length) (q : Nat) :
    afterM l (lastC (l.take n)) q = if n < l.length then ((l.take (n + min q (l.length - n))).drop n, decide (n + min q (l.length - n) = l.length)) else ([], true) := by
  unfold afterM
  rw [idx_pages h hn]
  by_cases hlt : n < l.length
  · rw [if_pos hlt, if_pos hlt, if_neg (by omega)]
    simp only [Int.toNat_natCast]
  · rw [if_neg hlt, if_neg hlt, if_pos (by decide)]
theorem encE_mod (e : Ent) : (encE e).length % 4 = 0 := by
  simp only [encE, be64, be32, opq, List.length_append, List.length_cons, List.length_nil, List.length_replicate]
  omega
theorem flat_mod (l : List Ent) : (l.flatMap encE).length % 4 = 0 := by
  induction l with
  | nil => rfl
  | cons e r ih =>
    rw [List.flatMap_cons, List.length_append]
    have := encE_mod e
    omega
end Go.Proofs.Ytlpjchighfdomaa.Hm
end
section
/- The Go package dir's Put, walked, for rows of any length that a process has; conditions: those that each theorem names. -/
namespace Go.Proofs.Ytlpjchighfdomaa.Sx
open Go.RowKit Go.Proofs.Ytlpjchighfdomaa.Hm Go.Proofs.YtlpjchighfdomaaW.PrintWords Go.Proofs.YtlpjchighfdomaaW.PrintLast Go.Proofs.YtlpjchighfdomaaW.PrintMore
set_option linter.unusedVariables false
set_option linter.unusedSimpArgs false
attribute [local irreducible] SX SXL SXA St callK Post Evals

section
variable {F R R1 : List Thing} {K : Ending → List Thing → Prop} {A B : Option Addr} {p c cc : Nat} {l : List Ent}
theorem DMay_S (hr : Ro kE A F l) (hc : l.length ≤ c) (hl : l.length ≤ 4398046511000) (h : K (.returned (.bool (mayB l))) F) : Fn (Try.prog) 50 [.slice A l.length c] F K :=
  Fn.ofVal _ Try.call50 (fun w hM => may_any A c l w (hM.ro hr) hc hl) h
theorem PutW_S (hr : Ro kE A F l) (hc : l.length ≤ c) (hl : l.length ≤ 4398046510976) (hw : ∀ e ∈ l, e.wf)
    (h : ∀ r n, putM l = (r, n) → ∀ A' c', r.length ≤ c' → K (.returned (.tuple #[.slice A' r.length c', .int .i64 n])) (wrX A' c' r :: F)) : Fn (Try.prog) 21 [.slice A l.length c] F K := by
  unfold putM at h
  refine Fn.enter Try.call21 Try.func21 rfl rfl rfl ?_
  repeat (first | refine Qa ?_ | refine Qb ?_ | refine Qc ?_ | refine Qd ?_ | refine Qe ?_ | refine Qf ?_ | refine Qg ?_ | refine Qh ?_ | refine Qi ?_ | refine Qj ?_ | refine Qk ?_ | refine Ql ?_ | refine Qm ?_ | refine Qn ?_ | refine Qo ?_ | refine Qp ?_ | refine Qq ?_ | fail)
  refine SXL.call rfl rfl rfl ?_
  refine (DMay_S (l := l) inferInstance hc (by omega) (callK.ret ?_))
  repeat (first | refine Qa ?_ | refine Qb ?_ | refine Qc ?_ | refine Qd ?_ | refine Qe ?_ | refine Qf ?_ | refine Qg ?_ | refine Qh ?_ | refine Qi ?_ | refine Qj ?_ | refine Qk ?_ | refine Ql ?_ | refine Qm ?_ | refine Qn ?_ | refine Qo ?_ | refine Qp ?_ | refine Qq ?_ | fail)
  refine SX.cond rfl (fun hm => ?_) (fun hm => ?_)
  · have hm2 : mayB l = false := by simpa using hm
    rw [hm2, if_neg (by decide)] at h
    repeat (first | refine Qa ?_ | refine Qb ?_ | refine Qc ?_ | refine Qd ?_ | refine Qe ?_ | refine Qf ?_ | refine Qg ?_ | refine Qh ?_ | refine Qi ?_ | refine Qj ?_ | refine Qk ?_ | refine Ql ?_ | refine Qm ?_ | refine Qn ?_ | refine Qo ?_ | refine Qp ?_ | refine Qq ?_ | fail)
    refine SX.ret (M' := (wrX none 0 [] :: F)) rfl (Evals.tmp rfl (Evals.tmp rfl Evals.nil)) ?_ inferInstance
    exact h [] 11 rfl none 0 (Nat.le_refl _)
  have hm2 : mayB l = true := by simpa using hm
  rw [hm2, if_pos rfl] at h
  have hok := (mayB_iff l).1 hm2
  repeat (first | refine Qa ?_ | refine Qb ?_ | refine Qc ?_ | refine Qd ?_ | refine Qe ?_ | refine Qf ?_ | refine Qg ?_ | refine Qh ?_ | refine Qi ?_ | refine Qj ?_ | refine Qk ?_ | refine Ql ?_ | refine Qm ?_ | refine Qn ?_ | refine Qo ?_ | refine Qp ?_ | refine Qq ?_ | fail)
  refine SXL.call rfl rfl rfl ?_
  refine (NewWriterW_S (fun p => callK.ret ?_))
  repeat (first | refine Qa ?_ | refine Qb ?_ | refine Qc ?_ | refine Qd ?_ | refine Qe ?_ | refine Qf ?_ | refine Qg ?_ | refine Qh ?_ | refine Qi ?_ | refine Qj ?_ | refine Qk ?_ | refine Ql ?_ | refine Qm ?_ | refine Qn ?_ | refine Qo ?_ | refine Qp ?_ | refine Qq ?_ | fail)
  refine SX.loop (fun z a M => ∃ (k : Nat) (A' : Option Addr) (c' : Nat) (ys : List Int), k + z = l.length ∧ ys = (l.take k).flatMap encE ∧ ys.length ≤ c' ∧
      a = [(4, .pointer (some ⟨p, 0, none⟩)), (11, .slice A l.length c), (12, .int .i64 l.length), (13, .int .i64 k)] ∧
      wrC p A' ys.length c' :: wrX A' c' ys :: F = M)
    l.length ⟨0, none, 0, [], by omega, rfl, Nat.zero_le _, rfl, rfl⟩ (by repeat (first | exact trivial | refine ⟨rfl, ?_⟩)) inferInstance ?_
  rintro z _ _ ⟨k, A', c', ys, hz, hys, hc', rfl, rfl⟩
  have hxl : ys.length ≤ 48 * k := by
    have h1 := flat_len (l.take k) (fun e he => mayOk_len hok e (List.mem_of_mem_take he))
    have h2 : (l.take k).length ≤ k := by rw [List.length_take]; omega
    rw [hys]
    omega
  repeat (first | refine Qa ?_ | refine Qb ?_ | refine Qc ?_ | refine Qd ?_ | refine Qe ?_ | refine Qf ?_ | refine Qg ?_ | refine Qh ?_ | refine Qi ?_ | refine Qj ?_ | refine Qk ?_ | refine Ql ?_ | refine Qm ?_ | refine Qn ?_ | refine Qo ?_ | refine Qp ?_ | refine Qq ?_ | fail)
  refine SX.condp rfl (fun hi => ?_) (fun hi => ?_)
  · obtain ⟨e, he⟩ : ∃ e, l[k]? = some e := ⟨_, List.getElem?_eq_getElem (by omega)⟩
    have hem := List.mem_of_getElem? he
    have hew := hw e hem
    have hsl := mayOk_len hok e hem
    have hbl := bytesOf_length e.s
    have l8 : (be64 e.c).length = 8 := rfl
    have l4 : (be32 e.i).length = 4 := rfl
    have l5 : (be32 e.g).length = 4 := rfl
    refine SX.addr (A := A) kE (by decide) (xs := l) (by omega) (fun b4 o4 e4 => ?_)
    subst e4
    repeat (first | refine Qa ?_ | refine Qb ?_ | refine Qc ?_ | refine Qd ?_ | refine Qe ?_ | refine Qf ?_ | refine Qg ?_ | refine Qh ?_ | refine Qi ?_ | refine Qj ?_ | refine Qk ?_ | refine Ql ?_ | refine Qm ?_ | refine Qn ?_ | refine Qo ?_ | refine Qp ?_ | refine Qq ?_ | fail)
    refine SXL.idx rfl rfl rfl rfl rfl (by omega) (by omega) rfl ?_
    refine SXL.loadRow kE rfl rfl inferInstance (by rw [Int.toNat_natCast]; exact he) rfl rfl ?_
    repeat (first | refine Qa ?_ | refine Qb ?_ | refine Qc ?_ | refine Qd ?_ | refine Qe ?_ | refine Qf ?_ | refine Qg ?_ | refine Qh ?_ | refine Qi ?_ | refine Qj ?_ | refine Qk ?_ | refine Ql ?_ | refine Qm ?_ | refine Qn ?_ | refine Qo ?_ | refine Qp ?_ | refine Qq ?_ | fail)
    refine SXL.alloc rfl rfl (fun t => ?_)
    repeat (first | refine Qa ?_ | refine Qb ?_ | refine Qc ?_ | refine Qd ?_ | refine Qe ?_ | refine Qf ?_ | refine Qg ?_ | refine Qh ?_ | refine Qi ?_ | refine Qj ?_ | refine Qk ?_ | refine Ql ?_ | refine Qm ?_ | refine Qn ?_ | refine Qo ?_ | refine Qp ?_ | refine Qq ?_ | fail)
    refine SXL.call rfl rfl rfl ?_
    refine (U64W_S (A := A') (xs := ys) (c := c') inferInstance inferInstance hew.c0 hew.c1 (by omega) (fun A1 c1 hc1 => callK.ret ?_))
    repeat (first | refine Qa ?_ | refine Qb ?_ | refine Qc ?_ | refine Qd ?_ | refine Qe ?_ | refine Qf ?_ | refine Qg ?_ | refine Qh ?_ | refine Qi ?_ | refine Qj ?_ | refine Qk ?_ | refine Ql ?_ | refine Qm ?_ | refine Qn ?_ | refine Qo ?_ | refine Qp ?_ | refine Qq ?_ | fail)
    refine SXL.call rfl rfl rfl ?_
    refine (U32W_S (A := A1) (c := c1) inferInstance inferInstance hew.i0 hew.i1 (by simp only [List.length_append]; omega) (fun A2 c2 hc2 => callK.ret ?_))
    repeat (first | refine Qa ?_ | refine Qb ?_ | refine Qc ?_ | refine Qd ?_ | refine Qe ?_ | refine Qf ?_ | refine Qg ?_ | refine Qh ?_ | refine Qi ?_ | refine Qj ?_ | refine Qk ?_ | refine Ql ?_ | refine Qm ?_ | refine Qn ?_ | refine Qo ?_ | refine Qp ?_ | refine Qq ?_ | fail)
    refine SXL.call rfl rfl rfl ?_
    refine (U32W_S (A := A2) (c := c2) inferInstance inferInstance hew.g0 hew.g1 (by simp only [List.length_append]; omega) (fun A3 c3 hc3 => callK.ret ?_))
    repeat (first | refine Qa ?_ | refine Qb ?_ | refine Qc ?_ | refine Qd ?_ | refine Qe ?_ | refine Qf ?_ | refine Qg ?_ | refine Qh ?_ | refine Qi ?_ | refine Qj ?_ | refine Qk ?_ | refine Ql ?_ | refine Qm ?_ | refine Qn ?_ | refine Qo ?_ | refine Qp ?_ | refine Qq ?_ | fail)
    refine SXL.strBytes rfl Try.underlying9 Try.underlying22 Try.underlying5 (by omega) rfl (fun A5 c5 hc5 => ?_)
    repeat (first | refine Qa ?_ | refine Qb ?_ | refine Qc ?_ | refine Qd ?_ | refine Qe ?_ | refine Qf ?_ | refine Qg ?_ | refine Qh ?_ | refine Qi ?_ | refine Qj ?_ | refine Qk ?_ | refine Ql ?_ | refine Qm ?_ | refine Qn ?_ | refine Qo ?_ | refine Qp ?_ | refine Qq ?_ | fail)
    refine SXL.call rfl rfl rfl ?_
    refine (OpaqueW_S (A := A3) (c := c3) (B := A5) (cc := c5) inferInstance inferInstance inferInstance hc5 (by simp only [List.length_append]; omega) (by omega) (fun A6 c6 hc6 => callK.ret ?_))
    have e9 : ys ++ be64 e.c ++ be32 e.i ++ be32 e.g ++ opq (bytesOf e.s) = ys ++ encE e := by simp [encE]
    rw [e9] at hc6 ⊢
    repeat (first | refine Qa ?_ | refine Qb ?_ | refine Qc ?_ | refine Qd ?_ | refine Qe ?_ | refine Qf ?_ | refine Qg ?_ | refine Qh ?_ | refine Qi ?_ | refine Qj ?_ | refine Qk ?_ | refine Ql ?_ | refine Qm ?_ | refine Qn ?_ | refine Qo ?_ | refine Qp ?_ | refine Qq ?_ | fail)
    refine SX.same 13 (.int .i64 ((k + 1 : Nat) : Int)) rfl (by simp (disch := omega) only [IntWalk.i64_in, IntWalk.u8_in, IntWalk.u32_in, IntWalk.u64_in, IntWalk.rem_in, Int.natCast_add, Int.natCast_one]) ?_
    refine SX.again (z - 1) (by omega) ⟨k + 1, A6, c6, ys ++ encE e, by omega, ?_, hc6, rfl, rfl⟩ (by repeat (first | exact trivial | refine ⟨rfl, ?_⟩)) inferInstance
    obtain ⟨hil, hv⟩ := List.getElem?_eq_some_iff.1 he
    rw [List.take_succ_eq_append_getElem hil, hv, List.flatMap_append, hys]
    simp
  · have hk : k = l.length := by omega
    rw [hk, List.take_length] at hys
    subst hys
    repeat (first | refine Qa ?_ | refine Qb ?_ | refine Qc ?_ | refine Qd ?_ | refine Qe ?_ | refine Qf ?_ | refine Qg ?_ | refine Qh ?_ | refine Qi ?_ | refine Qj ?_ | refine Qk ?_ | refine Ql ?_ | refine Qm ?_ | refine Qn ?_ | refine Qo ?_ | refine Qp ?_ | refine Qq ?_ | fail)
    refine SXL.call rfl rfl rfl ?_
    refine (OutW_S (A := A') (c := c') inferInstance inferInstance hc' (by omega) (fun A6 c6 hc6 => callK.ret ?_))
    repeat (first | refine Qa ?_ | refine Qb ?_ | refine Qc ?_ | refine Qd ?_ | refine Qe ?_ | refine Qf ?_ | refine Qg ?_ | refine Qh ?_ | refine Qi ?_ | refine Qj ?_ | refine Qk ?_ | refine Ql ?_ | refine Qm ?_ | refine Qn ?_ | refine Qo ?_ | refine Qp ?_ | refine Qq ?_ | fail)
    refine SX.ret (M' := (wrX A6 c6 (l.flatMap encE) :: F)) rfl (Evals.tmp rfl (Evals.tmp rfl Evals.nil)) ?_ inferInstance
    exact h _ _ rfl A6 c6 hc6
end
end Go.Proofs.Ytlpjchighfdomaa.Sx
end
section
/- Chapter 08's law DirPages, walked; conditions: those that each theorem names. -/
namespace Go.Proofs.Ytlpjchighfdomaa.Sx
open Go.RowKit Go.Proofs.Ytlpjchighfdomaa.Hm Go.Proofs.YtlpjchighfdomaaW.PrintWords Go.Proofs.YtlpjchighfdomaaW.PrintLast Go.Proofs.YtlpjchighfdomaaW.PrintMore
set_option linter.unusedVariables false
set_option linter.unusedSimpArgs false
attribute [local irreducible] SX SXL SXA St callK Post Evals

theorem after_all {l : List Ent} (h : mayOk l) {n : Nat} (hn : n ≤ l.length) (q : Nat) :
    afterM l (lastC (l.take n)) q = ((l.take (n + min q (l.length - n))).drop n, decide (n + min q (l.length - n) = l.length)) := by
  rw [after_pages h hn]
  by_cases hlt : n < l.length
  · rw [if_pos hlt]
  · obtain rfl : n = l.length := by omega
    rw [if_neg hlt]
    simp
section
variable {F R : List Thing} {K : Ending → List Thing → Prop} {A B : Option Addr} {c : Nat} {l : List Ent} {q : Int}
set_option maxRecDepth 20000 in
theorem DirPages_S (hr : Ro kE A F l) (hc : l.length ≤ c) (hl : l.length ≤ 4398046510976) (hw : ∀ e ∈ l, e.wf) (hq : 0 ≤ q ∧ q < 256) (h : K (.returned (.bool true)) F) : Fn (Try.prog) 9 [.slice A l.length c, .int .u8 q] F K := by
  refine Fn.enter Try.call9 Try.func9 rfl rfl rfl ?_
  repeat (first | refine Qa ?_ | refine Qb ?_ | refine Qc ?_ | refine Qd ?_ | refine Qe ?_ | refine Qf ?_ | refine Qg ?_ | refine Qh ?_ | refine Qi ?_ | refine Qj ?_ | refine Qk ?_ | refine Ql ?_ | refine Qm ?_ | refine Qn ?_ | refine Qo ?_ | refine Qp ?_ | refine Qq ?_ | fail)
  refine SXL.call rfl rfl rfl ?_
  refine (awake08_S (callK.ret ?_))
  repeat (first | refine Qa ?_ | refine Qb ?_ | refine Qc ?_ | refine Qd ?_ | refine Qe ?_ | refine Qf ?_ | refine Qg ?_ | refine Qh ?_ | refine Qi ?_ | refine Qj ?_ | refine Qk ?_ | refine Ql ?_ | refine Qm ?_ | refine Qn ?_ | refine Qo ?_ | refine Qp ?_ | refine Qq ?_ | fail)
  refine SXL.call rfl rfl rfl ?_
  refine (PutW_S (l := l) inferInstance hc hl hw (fun r n hm B cb hcb => callK.ret ?_))
  repeat (first | refine Qa ?_ | refine Qb ?_ | refine Qc ?_ | refine Qd ?_ | refine Qe ?_ | refine Qf ?_ | refine Qg ?_ | refine Qh ?_ | refine Qi ?_ | refine Qj ?_ | refine Qk ?_ | refine Ql ?_ | refine Qm ?_ | refine Qn ?_ | refine Qo ?_ | refine Qp ?_ | refine Qq ?_ | fail)
  refine SXL.split (s := 25) rfl (fun e1 => ?_) (fun e1 => ?_)
  · repeat (first | refine Qa ?_ | refine Qb ?_ | refine Qc ?_ | refine Qd ?_ | refine Qe ?_ | refine Qf ?_ | refine Qg ?_ | refine Qh ?_ | refine Qi ?_ | refine Qj ?_ | refine Qk ?_ | refine Ql ?_ | refine Qm ?_ | refine Qn ?_ | refine Qo ?_ | refine Qp ?_ | refine Qq ?_ | fail)
    refine SX.ret (M' := F) rfl (Evals.tmp rfl Evals.nil) ?_ inferInstance
    exact h
  repeat (first | refine Qa ?_ | refine Qb ?_ | refine Qc ?_ | refine Qd ?_ | refine Qe ?_ | refine Qf ?_ | refine Qg ?_ | refine Qh ?_ | refine Qi ?_ | refine Qj ?_ | refine Qk ?_ | refine Ql ?_ | refine Qm ?_ | refine Qn ?_ | refine Qo ?_ | refine Qp ?_ | refine Qq ?_ | fail)
  refine SX.cond rfl (fun e2 => ?_) (fun e2 => ?_)
  · repeat (first | refine Qa ?_ | refine Qb ?_ | refine Qc ?_ | refine Qd ?_ | refine Qe ?_ | refine Qf ?_ | refine Qg ?_ | refine Qh ?_ | refine Qi ?_ | refine Qj ?_ | refine Qk ?_ | refine Ql ?_ | refine Qm ?_ | refine Qn ?_ | refine Qo ?_ | refine Qp ?_ | refine Qq ?_ | fail)
    refine SX.ret (M' := F) rfl (Evals.tmp rfl Evals.nil) ?_ inferInstance
    exact h
  have h24 : l.length ≤ 24 := by
    simp only [decide_eq_false_iff_not] at e1
    omega
  have hn0 : n = 0 := by simpa using e2
  have hmb : mayB l = true := by
    cases h9 : mayB l with
    | true => rfl
    | false =>
      unfold putM at hm
      rw [h9, if_neg (by decide)] at hm
      simp only [Prod.mk.injEq] at hm
      omega
  have hok := (mayB_iff l).1 hmb
  have hrl : r.length % 4 = 0 := by
    unfold putM at hm
    rw [hmb, if_pos rfl] at hm
    simp only [Prod.mk.injEq] at hm
    rw [← hm.1]
    exact flat_mod l
  clear e1 e2 hm hn0
  obtain ⟨Q, hQ⟩ : ∃ Q : Nat, (Q : Int) = q % 5 + 1 := ⟨(q % 5 + 1).toNat, by omega⟩
  repeat (first | refine Qa ?_ | refine Qb ?_ | refine Qc ?_ | refine Qd ?_ | refine Qe ?_ | refine Qf ?_ | refine Qg ?_ | refine Qh ?_ | refine Qi ?_ | refine Qj ?_ | refine Qk ?_ | refine Ql ?_ | refine Qm ?_ | refine Qn ?_ | refine Qo ?_ | refine Qp ?_ | refine Qq ?_ | fail)
  refine SX.loop (fun z a M => ∃ (i n : Nat) (at' : Int), i + z = 30 ∧ n ≤ l.length ∧ i ≤ n ∧ at' = lastC (l.take n) ∧
      a = [(0, .slice A l.length c), (1, .int .u8 q), (6, .slice B r.length cb), (8, .int .u64 at'), (9, .int .i64 n), (10, .int .i64 i)] ∧ F = M)
    30 ⟨0, 0, 0, rfl, Nat.zero_le _, Nat.le_refl _, rfl, rfl, rfl⟩ (by repeat (first | exact trivial | refine ⟨rfl, ?_⟩)) inferInstance ?_
  rintro z _ _ ⟨i, n, at', hz, hn, hin, hat, rfl, rfl⟩
  repeat (first | refine Qa ?_ | refine Qb ?_ | refine Qc ?_ | refine Qd ?_ | refine Qe ?_ | refine Qf ?_ | refine Qg ?_ | refine Qh ?_ | refine Qi ?_ | refine Qj ?_ | refine Qk ?_ | refine Ql ?_ | refine Qm ?_ | refine Qn ?_ | refine Qo ?_ | refine Qp ?_ | refine Qq ?_ | fail)
  refine SX.condp rfl (fun hi => ?_) (fun hi => ?_)
  rotate_left
  · exfalso
    omega
  repeat (first | refine Qa ?_ | refine Qb ?_ | refine Qc ?_ | refine Qd ?_ | refine Qe ?_ | refine Qf ?_ | refine Qg ?_ | refine Qh ?_ | refine Qi ?_ | refine Qj ?_ | refine Qk ?_ | refine Ql ?_ | refine Qm ?_ | refine Qn ?_ | refine Qo ?_ | refine Qp ?_ | refine Qq ?_ | fail)
  refine SXL.same 39 (.int .i64 (Q : Int)) rfl (by rw [IntWalk.rem_in _ _ hq.1, IntWalk.i64_in (q % 5) (by omega), IntWalk.i64_in (q % 5 + 1) (by omega), hQ]) ?_
  refine SXL.call rfl rfl rfl ?_
  refine (After_S at' (Q : Int) inferInstance hc (by omega) (by omega) (by omega) (fun r' b' hm A1 c1 hc1 => callK.ret ?_))
  rw [hat, after_all hok hn] at hm
  simp only [Prod.mk.injEq] at hm
  obtain ⟨hr1, hb1⟩ := hm
  obtain ⟨w, hwd⟩ : ∃ w, w = min Q (l.length - n) := ⟨_, rfl⟩
  rw [← hwd] at hr1 hb1
  have hrw : r'.length = w := by rw [← hr1, List.length_drop, List.length_take]; omega
  have hre : ∀ k, k < w → r'[k]? = l[n + k]? := by
    intro k hk
    rw [← hr1, List.getElem?_drop, List.getElem?_take, if_pos (by omega)]
  clear hr1
  repeat (first | refine Qa ?_ | refine Qb ?_ | refine Qc ?_ | refine Qd ?_ | refine Qe ?_ | refine Qf ?_ | refine Qg ?_ | refine Qh ?_ | refine Qi ?_ | refine Qj ?_ | refine Qk ?_ | refine Ql ?_ | refine Qm ?_ | refine Qn ?_ | refine Qo ?_ | refine Qp ?_ | refine Qq ?_ | fail)
  refine SX.loop (fun z2 a M => ∃ (k : Nat) (at2 : Int) (n2 : Int), k + z2 = w ∧ at2 = lastC (l.take (n + k)) ∧ n2 = ((n + k : Nat) : Int) ∧
      a = [(0, .slice A l.length c), (1, .int .u8 q), (6, .slice B r.length cb), (8, .int .u64 at2), (9, .int .i64 n2), (10, .int .i64 i), (11, .slice A1 r'.length c1), (12, .bool b'), (13, .int .i64 k)] ∧
      .own A1 (rowR kE 41 (.slice A1 r'.length c1) r') :: F = M)
    w ⟨0, at', (n : Int), by omega, hat, rfl, rfl, rfl⟩ (by repeat (first | exact trivial | refine ⟨rfl, ?_⟩)) inferInstance ?_
  rintro z2 _ _ ⟨k, at2, n2, hz2, hat2, hn2, rfl, rfl⟩
  repeat (first | refine Qa ?_ | refine Qb ?_ | refine Qc ?_ | refine Qd ?_ | refine Qe ?_ | refine Qf ?_ | refine Qg ?_ | refine Qh ?_ | refine Qi ?_ | refine Qj ?_ | refine Qk ?_ | refine Ql ?_ | refine Qm ?_ | refine Qn ?_ | refine Qo ?_ | refine Qp ?_ | refine Qq ?_ | fail)
  refine SX.condp rfl (fun hk => ?_) (fun hk => ?_)
  · have hkw : k < w := by omega
    obtain ⟨e, he⟩ : ∃ e, l[n + k]? = some e := ⟨_, List.getElem?_eq_getElem (by omega)⟩
    have he2 : r'[k]? = some e := (hre k hkw).trans he
    have he3 : l[n2.toNat]? = some e := by rw [hn2, Int.toNat_natCast]; exact he
    refine SX.addr (A := A) kE (by decide) (xs := l) (by omega) (fun b4 o4 e4 => ?_)
    subst e4
    refine SX.addr (A := A1) kE (by decide) (xs := r') (by omega) (fun b5 o5 e5 => ?_)
    subst e5
    repeat (first | refine Qa ?_ | refine Qb ?_ | refine Qc ?_ | refine Qd ?_ | refine Qe ?_ | refine Qf ?_ | refine Qg ?_ | refine Qh ?_ | refine Qi ?_ | refine Qj ?_ | refine Qk ?_ | refine Ql ?_ | refine Qm ?_ | refine Qn ?_ | refine Qo ?_ | refine Qp ?_ | refine Qq ?_ | fail)
    refine SXA.begin (.own (some ⟨b5, o5, none⟩) (rowR kE 41 (.slice (some ⟨b5, o5, none⟩) r'.length c1) r') :: F) [] ?_
    (first | refine Qr 0 ?_ | refine Qs 0 ?_ | refine Qt 0 ?_ | refine Qu 0 ?_ | fail)
    (first | refine Qr 1 ?_ | refine Qs 1 ?_ | refine Qt 1 ?_ | refine Qu 1 ?_ | fail)
    (first | refine Qr 2 ?_ | refine Qs 2 ?_ | refine Qt 2 ?_ | refine Qu 2 ?_ | fail)
    (first | refine Qr 3 ?_ | refine Qs 3 ?_ | refine Qt 3 ?_ | refine Qu 3 ?_ | fail)
    (first | refine Qr 4 ?_ | refine Qs 4 ?_ | refine Qt 4 ?_ | refine Qu 4 ?_ | fail)
    refine SXA.know 53 false rfl (decide_eq_false (by omega)) ?_
    (first | refine Qr 5 ?_ | refine Qs 5 ?_ | refine Qt 5 ?_ | refine Qu 5 ?_ | fail)
    (first | refine Qr 6 ?_ | refine Qs 6 ?_ | refine Qt 6 ?_ | refine Qu 6 ?_ | fail)
    (first | refine Qr 10 ?_ | refine Qs 10 ?_ | refine Qt 10 ?_ | refine Qu 10 ?_ | fail)
    (first | refine Qr 11 ?_ | refine Qs 11 ?_ | refine Qt 11 ?_ | refine Qu 11 ?_ | fail)
    refine SXA.idx 7 rfl (by decide +kernel) rfl rfl rfl rfl rfl rfl (by omega) (by omega) rfl inferInstance ?_
    (first | refine Qr 8 ?_ | refine Qs 8 ?_ | refine Qt 8 ?_ | refine Qu 8 ?_ | fail)
    refine SXA.loadRow1 9 kE rfl (by decide +kernel) rfl rfl rfl inferInstance (by rw [Int.toNat_natCast]; exact he2) rfl rfl inferInstance ?_
    refine SXA.idx 12 rfl (by decide +kernel) rfl rfl rfl rfl rfl rfl (by omega) (by omega) rfl inferInstance ?_
    (first | refine Qr 13 ?_ | refine Qs 13 ?_ | refine Qt 13 ?_ | refine Qu 13 ?_ | fail)
    refine SXA.loadRow1 14 kE rfl (by decide +kernel) rfl rfl rfl inferInstance (by exact he3) rfl rfl inferInstance ?_
    (first | refine Qr 15 ?_ | refine Qs 15 ?_ | refine Qt 15 ?_ | refine Qu 15 ?_ | fail)
    (first | refine Qr 16 ?_ | refine Qs 16 ?_ | refine Qt 16 ?_ | refine Qu 16 ?_ | fail)
    (first | refine Qr 17 ?_ | refine Qs 17 ?_ | refine Qt 17 ?_ | refine Qu 17 ?_ | fail)
    refine SXA.know 66 false rfl (bne_self_eq_false _) ?_
    (first | refine Qr 18 ?_ | refine Qs 18 ?_ | refine Qt 18 ?_ | refine Qu 18 ?_ | fail)
    (first | refine Qr 19 ?_ | refine Qs 19 ?_ | refine Qt 19 ?_ | refine Qu 19 ?_ | fail)
    (first | refine Qr 23 ?_ | refine Qs 23 ?_ | refine Qt 23 ?_ | refine Qu 23 ?_ | fail)
    (first | refine Qr 24 ?_ | refine Qs 24 ?_ | refine Qt 24 ?_ | refine Qu 24 ?_ | fail)
    refine SXA.idx 20 rfl (by decide +kernel) rfl rfl rfl rfl rfl rfl (by omega) (by omega) rfl inferInstance ?_
    (first | refine Qr 21 ?_ | refine Qs 21 ?_ | refine Qt 21 ?_ | refine Qu 21 ?_ | fail)
    refine SXA.loadRow1 22 kE rfl (by decide +kernel) rfl rfl rfl inferInstance (by rw [Int.toNat_natCast]; exact he2) rfl rfl inferInstance ?_
    refine SXA.idx 25 rfl (by decide +kernel) rfl rfl rfl rfl rfl rfl (by omega) (by omega) rfl inferInstance ?_
    (first | refine Qr 26 ?_ | refine Qs 26 ?_ | refine Qt 26 ?_ | refine Qu 26 ?_ | fail)
    refine SXA.loadRow1 27 kE rfl (by decide +kernel) rfl rfl rfl inferInstance (by exact he3) rfl rfl inferInstance ?_
    (first | refine Qr 28 ?_ | refine Qs 28 ?_ | refine Qt 28 ?_ | refine Qu 28 ?_ | fail)
    (first | refine Qr 29 ?_ | refine Qs 29 ?_ | refine Qt 29 ?_ | refine Qu 29 ?_ | fail)
    refine Qv ?_
    refine SX.know 78 false rfl (by simp) ?_
    repeat (first | refine Qa ?_ | refine Qb ?_ | refine Qc ?_ | refine Qd ?_ | refine Qe ?_ | refine Qf ?_ | refine Qg ?_ | refine Qh ?_ | refine Qi ?_ | refine Qj ?_ | refine Qk ?_ | refine Ql ?_ | refine Qm ?_ | refine Qn ?_ | refine Qo ?_ | refine Qp ?_ | refine Qq ?_ | fail)
    refine SXL.idx rfl rfl rfl rfl rfl (by omega) (by omega) rfl ?_
    repeat (first | refine Qa ?_ | refine Qb ?_ | refine Qc ?_ | refine Qd ?_ | refine Qe ?_ | refine Qf ?_ | refine Qg ?_ | refine Qh ?_ | refine Qi ?_ | refine Qj ?_ | refine Qk ?_ | refine Ql ?_ | refine Qm ?_ | refine Qn ?_ | refine Qo ?_ | refine Qp ?_ | refine Qq ?_ | fail)
    refine SXL.loadRow1 kE rfl rfl inferInstance (by rw [Int.toNat_natCast]; exact he2) rfl rfl ?_
    repeat (first | refine Qa ?_ | refine Qb ?_ | refine Qc ?_ | refine Qd ?_ | refine Qe ?_ | refine Qf ?_ | refine Qg ?_ | refine Qh ?_ | refine Qi ?_ | refine Qj ?_ | refine Qk ?_ | refine Ql ?_ | refine Qm ?_ | refine Qn ?_ | refine Qo ?_ | refine Qp ?_ | refine Qq ?_ | fail)
    refine SX.same 9 (.int .i64 ((n + (k + 1) : Nat) : Int)) rfl (by rw [hn2, IntWalk.i64_in _ (by omega)]; push_cast; congr 1) ?_
    refine SX.same 13 (.int .i64 ((k + 1 : Nat) : Int)) rfl (by simp (disch := omega) only [IntWalk.i64_in, IntWalk.u8_in, IntWalk.u32_in, IntWalk.u64_in, IntWalk.rem_in, Int.natCast_add, Int.natCast_one]) ?_
    refine SX.again (z2 - 1) (by omega) ⟨k + 1, e.c, ((n + (k + 1) : Nat) : Int), by omega, (lastC_take l (n + k) e he).symm, rfl, rfl, rfl⟩ (by repeat (first | exact trivial | refine ⟨rfl, ?_⟩)) inferInstance
  · have hkw : k = w := by omega
    subst hkw
    subst hn2
    repeat (first | refine Qa ?_ | refine Qb ?_ | refine Qc ?_ | refine Qd ?_ | refine Qe ?_ | refine Qf ?_ | refine Qg ?_ | refine Qh ?_ | refine Qi ?_ | refine Qj ?_ | refine Qk ?_ | refine Ql ?_ | refine Qm ?_ | refine Qn ?_ | refine Qo ?_ | refine Qp ?_ | refine Qq ?_ | fail)
    cases hbb : b' with
    | false =>
      rw [hbb] at hb1
      have hne : n + k ≠ l.length := by simpa using hb1
      repeat (first | refine Qa ?_ | refine Qb ?_ | refine Qc ?_ | refine Qd ?_ | refine Qe ?_ | refine Qf ?_ | refine Qg ?_ | refine Qh ?_ | refine Qi ?_ | refine Qj ?_ | refine Qk ?_ | refine Ql ?_ | refine Qm ?_ | refine Qn ?_ | refine Qo ?_ | refine Qp ?_ | refine Qq ?_ | fail)
      refine SX.same 10 (.int .i64 ((i + 1 : Nat) : Int)) rfl (by simp (disch := omega) only [IntWalk.i64_in, IntWalk.u8_in, IntWalk.u32_in, IntWalk.u64_in, IntWalk.rem_in, Int.natCast_add, Int.natCast_one]) ?_
      refine SX.again (z - 1) (by omega) ⟨i + 1, n + k, at2, by omega, by omega, by omega, hat2, rfl, rfl⟩ (by repeat (first | exact trivial | refine ⟨rfl, ?_⟩)) inferInstance
    | true =>
      rw [hbb] at hb1
      have heq : n + k = l.length := by simpa using hb1
      repeat (first | refine Qa ?_ | refine Qb ?_ | refine Qc ?_ | refine Qd ?_ | refine Qe ?_ | refine Qf ?_ | refine Qg ?_ | refine Qh ?_ | refine Qi ?_ | refine Qj ?_ | refine Qk ?_ | refine Ql ?_ | refine Qm ?_ | refine Qn ?_ | refine Qo ?_ | refine Qp ?_ | refine Qq ?_ | fail)
      refine SXL.know 91 true rfl (by rw [heq]; simp) ?_
      repeat (first | refine Qa ?_ | refine Qb ?_ | refine Qc ?_ | refine Qd ?_ | refine Qe ?_ | refine Qf ?_ | refine Qg ?_ | refine Qh ?_ | refine Qi ?_ | refine Qj ?_ | refine Qk ?_ | refine Ql ?_ | refine Qm ?_ | refine Qn ?_ | refine Qo ?_ | refine Qp ?_ | refine Qq ?_ | fail)
      refine SX.same 4 (.bool true) rfl (by
        show Value.bool ((r.length : Int).tmod 4 == 0) = _
        rw [IntWalk.rem_in _ _ (by omega), show ((r.length : Int) % 4) = 0 by omega]
        rfl) ?_
      refine SX.ret (M' := F) rfl (Evals.tmp rfl Evals.nil) ?_ inferInstance
      exact h
end
end Go.Proofs.Ytlpjchighfdomaa.Sx
end
section
/- Chapter 08's law DirPages, for every input; conditions: those that each theorem names. -/
namespace Go.Proofs.Ytlpjchighfdomaa.Sx
open Go.RowKit Go.Proofs.Ytlpjchighfdomaa.Hm Go.Proofs.YtlpjchighfdomaaW.PrintWords Go.Proofs.YtlpjchighfdomaaW.PrintLast Go.Proofs.YtlpjchighfdomaaW.PrintMore
set_option linter.unusedVariables false
set_option linter.unusedSimpArgs false
attribute [local irreducible] SX SXL SXA St callK Post Evals

theorem ents_fit8 {n : Nat} (h : n * (Try.prog).bytesOf 41 ≤ reachBytes) : n ≤ 4398046510976 := by
  rw [show (Try.prog).bytesOf 41 = 32 from by kernel_rfl] at h
  unfold reachBytes at h
  omega
theorem wf_of_ok8 {e : Ent} (h : (Lit.int .u64 e.c).wf = true ∧ ((Lit.int .u32 e.i).wf = true ∧ (Lit.int .u32 e.g).wf = true) ∧ e.s.size ≤ maxLen) : e.wf :=
  ⟨(u64_of_wf _ h.1).1, (u64_of_wf _ h.1).2, (u32_of_wf _ h.2.1.1).1, (u32_of_wf _ h.2.1.1).2, (u32_of_wf _ h.2.1.2).1, (u32_of_wf _ h.2.1.2).2⟩
theorem heapE8 : Kd.Heap kE := Kd.heap_iso _ (Kd.heap_pair (Kd.heap_int _) (Kd.heap_pair (Kd.heap_iso _ (Kd.heap_pair (Kd.heap_int _) (Kd.heap_int _))) Kd.heap_string))
theorem DirPages_any (A : Option Addr) (c : Nat) (l : List Ent) (q : Int) (W : World) (r : kE.C W A l.length l) (hc : l.length ≤ c)
    (w : l.length ≤ maxLen ∧ l.length * (Try.prog).bytesOf 41 ≤ reachBytes ∧ ∀ e ∈ l, (Lit.int .u64 e.c).wf = true ∧ ((Lit.int .u32 e.i).wf = true ∧ (Lit.int .u32 e.g).wf = true) ∧ e.s.size ≤ maxLen) (wq : (Lit.int .u8 q).wf = true) :
    Calls Try.prog 9 #[.slice A l.length c, .int .u8 q] W fun e w' => e = .returned (.bool true) ∧ Below W.heap.size W w' :=
  Fn.out W [.per (roR kE A l), .per (oldR W)] (Holds.ofStart (Holds.startRow (Holds.start0 W) (Kd.C_F heapE8 r))) inferInstance
    (DirPages_S (l := l) Ro.here hc (ents_fit8 w.2.1) (fun e he => wf_of_ok8 (w.2.2 e he)) ⟨(u8_of_wf _ wq).1, (u8_of_wf _ wq).2⟩ ⟨rfl, inferInstance⟩)
end Go.Proofs.Ytlpjchighfdomaa.Sx
end
