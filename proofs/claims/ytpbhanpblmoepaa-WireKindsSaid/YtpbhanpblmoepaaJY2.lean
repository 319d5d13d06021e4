/- Chapter 16's laws: what they call; the reference of wire, walked: what is put, what is the same; conditions: those that each theorem names. -/
import Derived.Test.YtpbhanpblmoepaaJX5
import Derived.Test.YtpbhanpblmoepaaJY1
namespace Go.Proofs.Ytpbhanpblmoepaa.Sx
open Go.RowKit Go.Proofs.Ytpbhanpblmoepaa.Hm Go.Proofs.YtpbhanpblmoepaaW.PrintWords Go.Proofs.YtpbhanpblmoepaaW.PrintLast Go.Proofs.YtpbhanpblmoepaaW.PrintMore
set_option linter.unusedVariables false
set_option linter.unusedSimpArgs false
attribute [local irreducible] SX SXL SXA St callK Post Evals

instance eqWt : EqT Try.prog 52 := ⟨by kernel_rfl, by kernel_rfl, by kernel_rfl⟩
def sameCa (s u : Ca) : Bool := (s.client == u.client) && ((s.xid == u.xid) && ((s.op == u.op) && (((s.ai == u.ai) && (s.ag == u.ag)) && ((s.name.toList == u.name.toList) && (((s.ti == u.ti) && (s.tg == u.tg)) && ((s.toName.toList == u.toName.toList) && ((s.off == u.off) && ((s.verf == u.verf) && ((s.cnt == u.cnt) && ((s.mode == u.mode) && ((strOfNums s.d).toList == (strOfNums u.d).toList)))))))))))
theorem sameCa_iff {s u : Ca} (hs : bytesB s.d = true) (hu : bytesB u.d = true) : sameCa s u = true ↔ s = u := by
  constructor
  · intro h
    unfold sameCa at h
    simp only [Bool.and_eq_true, beq_iff_eq] at h
    obtain ⟨h1, h2, h3, ⟨h4, h5⟩, h6, ⟨h7, h8⟩, h9, h10, h11, h12, h13, h14⟩ := h
    have e6 := (toList_iff' _ _).1 (beq_iff_eq.2 h6)
    have e9 := (toList_iff' _ _).1 (beq_iff_eq.2 h9)
    have e14 := (toList_iff' _ _).1 (beq_iff_eq.2 h14)
    have h17 : s.d = u.d := by rw [← bytesOf_strOfNums _ hs, ← bytesOf_strOfNums _ hu, e14]
    cases s
    cases u
    simp_all
  · rintro rfl
    simp [sameCa]
def rtC (s : Ctl) : List Value := [.int .u32 s.k, .int .u64 s.ep, .int .u64 s.sq, .int .u32 s.pl, .string (strOfNums s.d)]
def mrC (m : Msg) (B : Option Addr) (b : Nat) : List Value := [.int .u32 m.k,
  .int .u32 m.c.client, .int .u32 m.c.xid, .int .u32 m.c.op, .int .u32 m.c.ai, .int .u32 m.c.ag, .string m.c.name, .int .u32 m.c.ti, .int .u32 m.c.tg, .string m.c.toName, .int .u64 m.c.off, .int .u64 m.c.verf, .int .u32 m.c.cnt, .int .u32 m.c.mode, .string (strOfNums m.c.d),
  .int .u32 m.r.client, .int .u32 m.r.xid, .int .i64 m.r.st, .int .u32 m.r.ai, .int .u32 m.r.ag, .int .u32 m.r.ak, .int .u32 m.r.am, .int .u32 m.r.al, .int .u32 m.r.sz, .int .u64 m.r.ac, .string (strOfNums m.r.d), .slice B m.r.e.length b, .bool m.r.eof, .int .u64 m.r.verf, .int .u32 m.r.free,
  .int .u32 m.t.k, .int .u64 m.t.ep, .int .u64 m.t.sq, .int .u32 m.t.pl, .string (strOfNums m.t.d)]
def sameCt (s u : Ctl) : Bool := (s.k == u.k) && ((s.ep == u.ep) && ((s.sq == u.sq) && ((s.pl == u.pl) && ((strOfNums s.d).toList == (strOfNums u.d).toList))))
theorem sameCt_iff {s u : Ctl} (hs : bytesB s.d = true) (hu : bytesB u.d = true) : sameCt s u = true ↔ s = u := by
  constructor
  · intro h
    unfold sameCt at h
    simp only [Bool.and_eq_true, beq_iff_eq] at h
    obtain ⟨h1, h2, h3, h4, h5⟩ := h
    have e := (toList_iff' _ _).1 (beq_iff_eq.2 h5)
    have h17 : s.d = u.d := by rw [← bytesOf_strOfNums _ hs, ← bytesOf_strOfNums _ hu, e]
    cases s
    cases u
    simp_all
  · rintro rfl
    simp [sameCt]
def sameMs (a b : Msg) : Bool := if a.k = b.k then (if a.k = 1 then sameCa a.c b.c else if a.k = 2 then sameRe a.r b.r else sameCt a.t b.t) else false
def shB (m : Msg) : Bool := decide ((m.c.d.length : Int) ≤ 1100) && (decide ((m.r.d.length : Int) ≤ 1100) && (decide ((m.t.d.length : Int) ≤ 1100) && (decide ((m.r.e.length : Int) ≤ 30) && (decide ((m.c.name.size : Int) ≤ 100) && decide ((m.c.toName.size : Int) ≤ 100)))))
section
variable {F R : List Thing} {K : Ending → List Thing → Prop} {A B C D : Option Addr} {c c2 a1 a2 a3 a4 : Nat}
theorem callOf16_S {s : Ca} (hr : Ro (Kd.int .u8) A F s.d) (h : K (.returned (.agg (raC s).toArray)) F) : Fn (Try.prog) 30 [.agg (caC s A c).toArray] F K := by
  unfold caC
  refine Fn.enter Try.call30 Try.func30 rfl rfl rfl ?_
  repeat (first | refine Qa ?_ | refine Qb ?_ | refine Qc ?_ | refine Qd ?_ | refine Qe ?_ | refine Qf ?_ | refine Qg ?_ | refine Qh ?_ | refine Qi ?_ | refine Qj ?_ | refine Qk ?_ | refine Ql ?_ | refine Qm ?_ | refine Qn ?_ | refine Qo ?_ | refine Qp ?_ | refine Qq ?_ | fail)
  refine SXL.box rfl rfl rfl (fun b => ?_)
  repeat (first | refine Qa ?_ | refine Qb ?_ | refine Qc ?_ | refine Qd ?_ | refine Qe ?_ | refine Qf ?_ | refine Qg ?_ | refine Qh ?_ | refine Qi ?_ | refine Qj ?_ | refine Qk ?_ | refine Ql ?_ | refine Qm ?_ | refine Qn ?_ | refine Qo ?_ | refine Qp ?_ | refine Qq ?_ | fail)
  refine SXL.alloc rfl rfl (fun q => ?_)
  repeat (first | refine Qa ?_ | refine Qb ?_ | refine Qc ?_ | refine Qd ?_ | refine Qe ?_ | refine Qf ?_ | refine Qg ?_ | refine Qh ?_ | refine Qi ?_ | refine Qj ?_ | refine Qk ?_ | refine Ql ?_ | refine Qm ?_ | refine Qn ?_ | refine Qo ?_ | refine Qp ?_ | refine Qq ?_ | fail)
  refine SXL.bytesStr rfl inferInstance rfl Try.underlying26 Try.underlying5 Try.underlying9 rfl ?_
  repeat (first | refine Qa ?_ | refine Qb ?_ | refine Qc ?_ | refine Qd ?_ | refine Qe ?_ | refine Qf ?_ | refine Qg ?_ | refine Qh ?_ | refine Qi ?_ | refine Qj ?_ | refine Qk ?_ | refine Ql ?_ | refine Qm ?_ | refine Qn ?_ | refine Qo ?_ | refine Qp ?_ | refine Qq ?_ | fail)
  refine SX.ret (M' := F) rfl (Evals.cell rfl inferInstance rfl Evals.nil) ?_ inferInstance
  exact h
set_option maxHeartbeats 1000000 in
set_option maxRecDepth 20000 in
theorem replyOf16_S {s : Re} (hr : Ro (Kd.int .u8) A F s.d) (hre : Ro kE B F s.e) (hl : s.e.length ≤ 1000) (hc2 : s.e.length ≤ c2) (h : ∀ B' c', s.e.length ≤ c' → K (.returned (.agg (rrC s B' c').toArray)) (.own B' (rowR kE 98 (.slice B' s.e.length c') s.e) :: F)) : Fn (Try.prog) 31 [.agg (reC s A c B c2).toArray] F K := by
  unfold reC
  refine Fn.enter Try.call31 Try.func31 rfl rfl rfl ?_
  repeat (first | refine Qa ?_ | refine Qb ?_ | refine Qc ?_ | refine Qd ?_ | refine Qe ?_ | refine Qf ?_ | refine Qg ?_ | refine Qh ?_ | refine Qi ?_ | refine Qj ?_ | refine Qk ?_ | refine Ql ?_ | refine Qm ?_ | refine Qn ?_ | refine Qo ?_ | refine Qp ?_ | refine Qq ?_ | fail)
  refine SXL.box rfl rfl rfl (fun b => ?_)
  repeat (first | refine Qa ?_ | refine Qb ?_ | refine Qc ?_ | refine Qd ?_ | refine Qe ?_ | refine Qf ?_ | refine Qg ?_ | refine Qh ?_ | refine Qi ?_ | refine Qj ?_ | refine Qk ?_ | refine Ql ?_ | refine Qm ?_ | refine Qn ?_ | refine Qo ?_ | refine Qp ?_ | refine Qq ?_ | fail)
  refine SXL.alloc rfl rfl (fun q => ?_)
  repeat (first | refine Qa ?_ | refine Qb ?_ | refine Qc ?_ | refine Qd ?_ | refine Qe ?_ | refine Qf ?_ | refine Qg ?_ | refine Qh ?_ | refine Qi ?_ | refine Qj ?_ | refine Qk ?_ | refine Ql ?_ | refine Qm ?_ | refine Qn ?_ | refine Qo ?_ | refine Qp ?_ | refine Qq ?_ | fail)
  refine SXL.bytesStr rfl inferInstance rfl Try.underlying26 Try.underlying5 Try.underlying9 rfl ?_
  repeat (first | refine Qa ?_ | refine Qb ?_ | refine Qc ?_ | refine Qd ?_ | refine Qe ?_ | refine Qf ?_ | refine Qg ?_ | refine Qh ?_ | refine Qi ?_ | refine Qj ?_ | refine Qk ?_ | refine Ql ?_ | refine Qm ?_ | refine Qn ?_ | refine Qo ?_ | refine Qp ?_ | refine Qq ?_ | fail)
  refine SXL.alloc rfl rfl (fun b3 => ?_)
  repeat (first | refine Qa ?_ | refine Qb ?_ | refine Qc ?_ | refine Qd ?_ | refine Qe ?_ | refine Qf ?_ | refine Qg ?_ | refine Qh ?_ | refine Qi ?_ | refine Qj ?_ | refine Qk ?_ | refine Ql ?_ | refine Qm ?_ | refine Qn ?_ | refine Qo ?_ | refine Qp ?_ | refine Qq ?_ | fail)
  refine SX.loop (fun z a M => ∃ (i : Nat) (B' : Option Addr) (c' : Nat), i + z = s.e.length ∧ (s.e.take i).length ≤ c' ∧ a = [(1, .pointer (some ⟨b, 0, none⟩)), (2, .pointer (some ⟨q, 0, none⟩)), (3, .pointer (some ⟨b3, 0, none⟩)), (4, .int .i64 i)] ∧
      .own B' (rowR kE 98 (.slice B' (s.e.take i).length c') (s.e.take i)) :: .own (some ⟨b3, 0, none⟩) (cellsR b3 (rrC { s with e := s.e.take i } B' c') 50) :: .own (some ⟨q, 0, none⟩) (cellsR q (rrC Re0 none 0) 50) :: .own (some ⟨b, 0, none⟩) (cellsR b (reC s A c B c2) 34) :: F = M)
    s.e.length ⟨0, none, 0, by omega, Nat.le_refl _, rfl, rfl⟩ (by repeat (first | exact trivial | refine ⟨rfl, ?_⟩)) (show Sub _ (.own none (rowR kE 98 (.slice none ([] : List Ent).length 0) []) :: .own (some ⟨b3, 0, none⟩) (cellsR b3 [.int .u32 s.client, .int .u32 s.xid, .int .i64 s.st, .int .u32 s.ai, .int .u32 s.ag, .int .u32 s.ak, .int .u32 s.am, .int .u32 s.al, .int .u32 s.sz, .int .u64 s.ac, .string (strOfNums s.d), .slice none 0 0, .bool s.eof, .int .u64 s.verf, .int .u32 s.free] 50) :: .own (some ⟨q, 0, none⟩) (cellsR q [.int .u32 0, .int .u32 0, .int .i64 0, .int .u32 0, .int .u32 0, .int .u32 0, .int .u32 0, .int .u32 0, .int .u32 0, .int .u64 0, .string ⟨#[]⟩, .slice none 0 0, .bool false, .int .u64 0, .int .u32 0] 50) :: .own (some ⟨b, 0, none⟩) (cellsR b (reC s A c B c2) 34) :: F) from by unfold reC; infer_instance) ?_
  rintro z _ _ ⟨i, B', c', hz, hc', rfl, rfl⟩
  have hti : (s.e.take i).length = i := by rw [List.length_take]; omega
  unfold rrC reC
  repeat (first | refine Qa ?_ | refine Qb ?_ | refine Qc ?_ | refine Qd ?_ | refine Qe ?_ | refine Qf ?_ | refine Qg ?_ | refine Qh ?_ | refine Qi ?_ | refine Qj ?_ | refine Qk ?_ | refine Ql ?_ | refine Qm ?_ | refine Qn ?_ | refine Qo ?_ | refine Qp ?_ | refine Qq ?_ | fail)
  refine SX.condp rfl (fun hi => ?_) (fun hi => ?_)
  · obtain ⟨e, he⟩ : ∃ e, s.e[i]? = some e := ⟨_, List.getElem?_eq_getElem (by omega)⟩
    refine SX.addr (A := B) kE (by decide) (xs := s.e) (by omega) (fun b4 o4 e4 => ?_)
    subst e4
    repeat (first | refine Qa ?_ | refine Qb ?_ | refine Qc ?_ | refine Qd ?_ | refine Qe ?_ | refine Qf ?_ | refine Qg ?_ | refine Qh ?_ | refine Qi ?_ | refine Qj ?_ | refine Qk ?_ | refine Ql ?_ | refine Qm ?_ | refine Qn ?_ | refine Qo ?_ | refine Qp ?_ | refine Qq ?_ | fail)
    refine SXA.begin (.own (some ⟨b3, 0, none⟩) (cellsR b3 (rrC { s with e := s.e.take i } B' c') 50) :: .own (some ⟨b, 0, none⟩) (cellsR b (reC s A c (some ⟨b4, o4, none⟩) c2) 34) :: F) [24] ?_
    unfold rrC reC
    (first | refine Qr 0 ?_ | refine Qs 0 ?_ | refine Qt 0 ?_ | refine Qu 0 ?_ | fail)
    (first | refine Qr 1 ?_ | refine Qs 1 ?_ | refine Qt 1 ?_ | refine Qu 1 ?_ | fail)
    (first | refine Qr 2 ?_ | refine Qs 2 ?_ | refine Qt 2 ?_ | refine Qu 2 ?_ | fail)
    (first | refine Qr 3 ?_ | refine Qs 3 ?_ | refine Qt 3 ?_ | refine Qu 3 ?_ | fail)
    (first | refine Qr 4 ?_ | refine Qs 4 ?_ | refine Qt 4 ?_ | refine Qu 4 ?_ | fail)
    (first | refine Qr 8 ?_ | refine Qs 8 ?_ | refine Qt 8 ?_ | refine Qu 8 ?_ | fail)
    (first | refine Qr 9 ?_ | refine Qs 9 ?_ | refine Qt 9 ?_ | refine Qu 9 ?_ | fail)
    (first | refine Qr 10 ?_ | refine Qs 10 ?_ | refine Qt 10 ?_ | refine Qu 10 ?_ | fail)
    (first | refine Qr 14 ?_ | refine Qs 14 ?_ | refine Qt 14 ?_ | refine Qu 14 ?_ | fail)
    (first | refine Qr 15 ?_ | refine Qs 15 ?_ | refine Qt 15 ?_ | refine Qu 15 ?_ | fail)
    (first | refine Qr 16 ?_ | refine Qs 16 ?_ | refine Qt 16 ?_ | refine Qu 16 ?_ | fail)
    refine SXA.idx 5 rfl (by decide +kernel) rfl rfl rfl rfl rfl rfl (by omega) (by omega) rfl inferInstance ?_
    refine SXA.idx 11 rfl (by decide +kernel) rfl rfl rfl rfl rfl rfl (by omega) (by omega) rfl inferInstance ?_
    refine SXA.idx 17 rfl (by decide +kernel) rfl rfl rfl rfl rfl rfl (by omega) (by omega) rfl inferInstance ?_
    (first | refine Qr 6 ?_ | refine Qs 6 ?_ | refine Qt 6 ?_ | refine Qu 6 ?_ | fail)
    (first | refine Qr 12 ?_ | refine Qs 12 ?_ | refine Qt 12 ?_ | refine Qu 12 ?_ | fail)
    (first | refine Qr 18 ?_ | refine Qs 18 ?_ | refine Qt 18 ?_ | refine Qu 18 ?_ | fail)
    refine SXA.loadRow1 7 kE rfl (by decide +kernel) rfl rfl rfl inferInstance (by rw [Int.toNat_natCast]; exact he) rfl rfl inferInstance ?_
    refine SXA.loadRow1 13 kE rfl (by decide +kernel) rfl rfl rfl inferInstance (by rw [Int.toNat_natCast]; exact he) rfl rfl inferInstance ?_
    refine SXA.loadRow1 19 kE rfl (by decide +kernel) rfl rfl rfl inferInstance (by rw [Int.toNat_natCast]; exact he) rfl rfl inferInstance ?_
    (first | refine Qr 20 ?_ | refine Qs 20 ?_ | refine Qt 20 ?_ | refine Qu 20 ?_ | fail)
    refine Qw 21 ?_
    refine SXL.lit rfl rfl (fun g => ?_)
    refine SXL.litRow kE g [e] inferInstance rfl (fun _ => rfl) (by simp) ?_
    refine SXL.nil (SXA.next inferInstance ?_)
    refine Qw 22 ?_
    refine SXL.append kE rfl rfl inferInstance inferInstance rfl inferInstance (by simp; omega) rfl (fun A' d' hd' => ?_)
    refine SXL.nil (SXA.next inferInstance ?_)
    (first | refine Qr 23 ?_ | refine Qs 23 ?_ | refine Qt 23 ?_ | refine Qu 23 ?_ | fail)
    have htk : s.e.take i ++ [e] = s.e.take (i + 1) := by
      obtain ⟨hil, hv⟩ := List.getElem?_eq_some_iff.1 he
      rw [List.take_succ_eq_append_getElem hil, hv]
    rw [htk] at hd' ⊢
    refine SXA.storeLast 24 rfl (by decide +kernel) rfl rfl inferInstance rfl rfl ?_
    refine Qv ?_
    repeat (first | refine Qa ?_ | refine Qb ?_ | refine Qc ?_ | refine Qd ?_ | refine Qe ?_ | refine Qf ?_ | refine Qg ?_ | refine Qh ?_ | refine Qi ?_ | refine Qj ?_ | refine Qk ?_ | refine Ql ?_ | refine Qm ?_ | refine Qn ?_ | refine Qo ?_ | refine Qp ?_ | refine Qq ?_ | fail)
    refine SX.same 4 (.int .i64 ((i + 1 : Nat) : Int)) rfl (by simp (disch := omega) only [IntWalk.i64_in, IntWalk.u8_in, IntWalk.u32_in, IntWalk.u64_in, IntWalk.rem_in, Int.natCast_add, Int.natCast_one]) ?_
    refine SX.again (z - 1) (by omega) ⟨i + 1, A', d', by omega, hd', rfl, rfl⟩ (by repeat (first | exact trivial | refine ⟨rfl, ?_⟩)) inferInstance
  · have hi' : i = s.e.length := by omega
    rw [hi', List.take_length] at hc' ⊢
    repeat (first | refine Qa ?_ | refine Qb ?_ | refine Qc ?_ | refine Qd ?_ | refine Qe ?_ | refine Qf ?_ | refine Qg ?_ | refine Qh ?_ | refine Qi ?_ | refine Qj ?_ | refine Qk ?_ | refine Ql ?_ | refine Qm ?_ | refine Qn ?_ | refine Qo ?_ | refine Qp ?_ | refine Qq ?_ | fail)
    refine SX.ret (M' := (.own B' (rowR kE 98 (.slice B' s.e.length c') s.e) :: F)) rfl (Evals.cell rfl inferInstance rfl Evals.nil) ?_ inferInstance
    exact h B' c' hc'
theorem ctlOf_S {s : Ctl} (hr : Ro (Kd.int .u8) A F s.d) (h : K (.returned (.agg (rtC s).toArray)) F) : Fn (Try.prog) 32 [.agg (ctC s A c).toArray] F K := by
  unfold ctC
  refine Fn.enter Try.call32 Try.func32 rfl rfl rfl ?_
  repeat (first | refine Qa ?_ | refine Qb ?_ | refine Qc ?_ | refine Qd ?_ | refine Qe ?_ | refine Qf ?_ | refine Qg ?_ | refine Qh ?_ | refine Qi ?_ | refine Qj ?_ | refine Qk ?_ | refine Ql ?_ | refine Qm ?_ | refine Qn ?_ | refine Qo ?_ | refine Qp ?_ | refine Qq ?_ | fail)
  refine SXL.box rfl rfl rfl (fun b => ?_)
  repeat (first | refine Qa ?_ | refine Qb ?_ | refine Qc ?_ | refine Qd ?_ | refine Qe ?_ | refine Qf ?_ | refine Qg ?_ | refine Qh ?_ | refine Qi ?_ | refine Qj ?_ | refine Qk ?_ | refine Ql ?_ | refine Qm ?_ | refine Qn ?_ | refine Qo ?_ | refine Qp ?_ | refine Qq ?_ | fail)
  refine SXL.alloc rfl rfl (fun q => ?_)
  repeat (first | refine Qa ?_ | refine Qb ?_ | refine Qc ?_ | refine Qd ?_ | refine Qe ?_ | refine Qf ?_ | refine Qg ?_ | refine Qh ?_ | refine Qi ?_ | refine Qj ?_ | refine Qk ?_ | refine Ql ?_ | refine Qm ?_ | refine Qn ?_ | refine Qo ?_ | refine Qp ?_ | refine Qq ?_ | fail)
  refine SXL.bytesStr rfl inferInstance rfl Try.underlying26 Try.underlying5 Try.underlying9 rfl ?_
  repeat (first | refine Qa ?_ | refine Qb ?_ | refine Qc ?_ | refine Qd ?_ | refine Qe ?_ | refine Qf ?_ | refine Qg ?_ | refine Qh ?_ | refine Qi ?_ | refine Qj ?_ | refine Qk ?_ | refine Ql ?_ | refine Qm ?_ | refine Qn ?_ | refine Qo ?_ | refine Qp ?_ | refine Qq ?_ | fail)
  refine SX.ret (M' := F) rfl (Evals.cell rfl inferInstance rfl Evals.nil) ?_ inferInstance
  exact h
set_option maxHeartbeats 1000000 in
set_option maxRecDepth 20000 in
theorem msgOf_S {m : Msg} (hrA : Ro (Kd.int .u8) A F m.c.d) (hrB : Ro (Kd.int .u8) B F m.r.d) (hrC : Ro kE C F m.r.e) (hrD : Ro (Kd.int .u8) D F m.t.d) (hl : m.r.e.length ≤ 1000) (hC : m.r.e.length ≤ a3) (h : ∀ B' c', m.r.e.length ≤ c' → K (.returned (.agg (mrC m B' c').toArray)) (.own B' (rowR kE 98 (.slice B' m.r.e.length c') m.r.e) :: F)) : Fn (Try.prog) 11 [.agg (msC m A a1 B a2 C a3 D a4).toArray] F K := by
  unfold msC
  refine Fn.enter Try.call11 Try.func11 rfl rfl rfl ?_
  repeat (first | refine Qa ?_ | refine Qb ?_ | refine Qc ?_ | refine Qd ?_ | refine Qe ?_ | refine Qf ?_ | refine Qg ?_ | refine Qh ?_ | refine Qi ?_ | refine Qj ?_ | refine Qk ?_ | refine Ql ?_ | refine Qm ?_ | refine Qn ?_ | refine Qo ?_ | refine Qp ?_ | refine Qq ?_ | fail)
  refine SXL.box rfl rfl rfl (fun b => ?_)
  repeat (first | refine Qa ?_ | refine Qb ?_ | refine Qc ?_ | refine Qd ?_ | refine Qe ?_ | refine Qf ?_ | refine Qg ?_ | refine Qh ?_ | refine Qi ?_ | refine Qj ?_ | refine Qk ?_ | refine Ql ?_ | refine Qm ?_ | refine Qn ?_ | refine Qo ?_ | refine Qp ?_ | refine Qq ?_ | fail)
  refine SXL.alloc rfl rfl (fun q => ?_)
  repeat (first | refine Qa ?_ | refine Qb ?_ | refine Qc ?_ | refine Qd ?_ | refine Qe ?_ | refine Qf ?_ | refine Qg ?_ | refine Qh ?_ | refine Qi ?_ | refine Qj ?_ | refine Qk ?_ | refine Ql ?_ | refine Qm ?_ | refine Qn ?_ | refine Qo ?_ | refine Qp ?_ | refine Qq ?_ | fail)
  refine SXA.begin (.own (some ⟨b, 0, none⟩) (cellsR b (msC m A a1 B a2 C a3 D a4) 38) :: F) [12] ?_
  unfold msC
  (first | refine Qr 0 ?_ | refine Qs 0 ?_ | refine Qt 0 ?_ | refine Qu 0 ?_ | fail)
  (first | refine Qr 1 ?_ | refine Qs 1 ?_ | refine Qt 1 ?_ | refine Qu 1 ?_ | fail)
  (first | refine Qr 2 ?_ | refine Qs 2 ?_ | refine Qt 2 ?_ | refine Qu 2 ?_ | fail)
  (first | refine Qr 3 ?_ | refine Qs 3 ?_ | refine Qt 3 ?_ | refine Qu 3 ?_ | fail)
  (first | refine Qr 5 ?_ | refine Qs 5 ?_ | refine Qt 5 ?_ | refine Qu 5 ?_ | fail)
  (first | refine Qr 6 ?_ | refine Qs 6 ?_ | refine Qt 6 ?_ | refine Qu 6 ?_ | fail)
  (first | refine Qr 8 ?_ | refine Qs 8 ?_ | refine Qt 8 ?_ | refine Qu 8 ?_ | fail)
  (first | refine Qr 9 ?_ | refine Qs 9 ?_ | refine Qt 9 ?_ | refine Qu 9 ?_ | fail)
  refine Qw 4 ?_
  refine SXL.call rfl rfl rfl ?_
  refine (callOf16_S (s := m.c) (A := A) inferInstance (callK.ret ?_))
  refine SXL.nil (SXA.next inferInstance ?_)
  refine Qw 7 ?_
  refine SXL.call rfl rfl rfl ?_
  refine (replyOf16_S (s := m.r) (A := B) (B := C) inferInstance inferInstance hl hC (fun B' d' hd' => callK.ret ?_))
  refine SXL.nil (SXA.next inferInstance ?_)
  refine Qw 10 ?_
  refine SXL.call rfl rfl rfl ?_
  refine (ctlOf_S (s := m.t) (A := D) inferInstance (callK.ret ?_))
  refine SXL.nil (SXA.next inferInstance ?_)
  (first | refine Qr 11 ?_ | refine Qs 11 ?_ | refine Qt 11 ?_ | refine Qu 11 ?_ | fail)
  refine SXA.storeLast 12 rfl (by decide +kernel) rfl rfl inferInstance rfl rfl ?_
  refine Qv ?_
  repeat (first | refine Qa ?_ | refine Qb ?_ | refine Qc ?_ | refine Qd ?_ | refine Qe ?_ | refine Qf ?_ | refine Qg ?_ | refine Qh ?_ | refine Qi ?_ | refine Qj ?_ | refine Qk ?_ | refine Ql ?_ | refine Qm ?_ | refine Qn ?_ | refine Qo ?_ | refine Qp ?_ | refine Qq ?_ | fail)
  refine SX.ret (M' := (.own B' (rowR kE 98 (.slice B' m.r.e.length d') m.r.e) :: F)) rfl (Evals.cell rfl inferInstance rfl Evals.nil) ?_ inferInstance
  exact h B' d' hd'
set_option maxRecDepth 20000 in
theorem short_S {m : Msg} (h : K (.returned (.bool (shB m))) F) : Fn (Try.prog) 8 [.agg (msC m A a1 B a2 C a3 D a4).toArray] F K := by
  unfold msC
  refine Fn.enter Try.call8 Try.func8 rfl rfl rfl ?_
  repeat (first | refine Qa ?_ | refine Qb ?_ | refine Qc ?_ | refine Qd ?_ | refine Qe ?_ | refine Qf ?_ | refine Qg ?_ | refine Qh ?_ | refine Qi ?_ | refine Qj ?_ | refine Qk ?_ | refine Ql ?_ | refine Qm ?_ | refine Qn ?_ | refine Qo ?_ | refine Qp ?_ | refine Qq ?_ | fail)
  refine SXL.box rfl rfl rfl (fun b => ?_)
  repeat (first | refine Qa ?_ | refine Qb ?_ | refine Qc ?_ | refine Qd ?_ | refine Qe ?_ | refine Qf ?_ | refine Qg ?_ | refine Qh ?_ | refine Qi ?_ | refine Qj ?_ | refine Qk ?_ | refine Ql ?_ | refine Qm ?_ | refine Qn ?_ | refine Qo ?_ | refine Qp ?_ | refine Qq ?_ | fail)
  refine SXL.split (s := 8) rfl (fun h8 => ?_) (fun h8 => ?_)
  rotate_left
  · repeat (first | refine Qa ?_ | refine Qb ?_ | refine Qc ?_ | refine Qd ?_ | refine Qe ?_ | refine Qf ?_ | refine Qg ?_ | refine Qh ?_ | refine Qi ?_ | refine Qj ?_ | refine Qk ?_ | refine Ql ?_ | refine Qm ?_ | refine Qn ?_ | refine Qo ?_ | refine Qp ?_ | refine Qq ?_ | fail)
    refine SX.same 2 (.bool (shB m)) rfl (by simp only [shB, h8, Bool.and_false, Bool.false_and, Bool.true_and]) ?_
    refine SX.ret (M' := F) rfl (Evals.tmp rfl Evals.nil) ?_ inferInstance
    exact h
  repeat (first | refine Qa ?_ | refine Qb ?_ | refine Qc ?_ | refine Qd ?_ | refine Qe ?_ | refine Qf ?_ | refine Qg ?_ | refine Qh ?_ | refine Qi ?_ | refine Qj ?_ | refine Qk ?_ | refine Ql ?_ | refine Qm ?_ | refine Qn ?_ | refine Qo ?_ | refine Qp ?_ | refine Qq ?_ | fail)
  refine SXL.split (s := 15) rfl (fun h15 => ?_) (fun h15 => ?_)
  rotate_left
  · repeat (first | refine Qa ?_ | refine Qb ?_ | refine Qc ?_ | refine Qd ?_ | refine Qe ?_ | refine Qf ?_ | refine Qg ?_ | refine Qh ?_ | refine Qi ?_ | refine Qj ?_ | refine Qk ?_ | refine Ql ?_ | refine Qm ?_ | refine Qn ?_ | refine Qo ?_ | refine Qp ?_ | refine Qq ?_ | fail)
    refine SX.same 2 (.bool (shB m)) rfl (by simp only [shB, h8, h15, Bool.and_false, Bool.false_and, Bool.true_and]) ?_
    refine SX.ret (M' := F) rfl (Evals.tmp rfl Evals.nil) ?_ inferInstance
    exact h
  repeat (first | refine Qa ?_ | refine Qb ?_ | refine Qc ?_ | refine Qd ?_ | refine Qe ?_ | refine Qf ?_ | refine Qg ?_ | refine Qh ?_ | refine Qi ?_ | refine Qj ?_ | refine Qk ?_ | refine Ql ?_ | refine Qm ?_ | refine Qn ?_ | refine Qo ?_ | refine Qp ?_ | refine Qq ?_ | fail)
  refine SXL.split (s := 22) rfl (fun h22 => ?_) (fun h22 => ?_)
  rotate_left
  · repeat (first | refine Qa ?_ | refine Qb ?_ | refine Qc ?_ | refine Qd ?_ | refine Qe ?_ | refine Qf ?_ | refine Qg ?_ | refine Qh ?_ | refine Qi ?_ | refine Qj ?_ | refine Qk ?_ | refine Ql ?_ | refine Qm ?_ | refine Qn ?_ | refine Qo ?_ | refine Qp ?_ | refine Qq ?_ | fail)
    refine SX.same 2 (.bool (shB m)) rfl (by simp only [shB, h8, h15, h22, Bool.and_false, Bool.false_and, Bool.true_and]) ?_
    refine SX.ret (M' := F) rfl (Evals.tmp rfl Evals.nil) ?_ inferInstance
    exact h
  repeat (first | refine Qa ?_ | refine Qb ?_ | refine Qc ?_ | refine Qd ?_ | refine Qe ?_ | refine Qf ?_ | refine Qg ?_ | refine Qh ?_ | refine Qi ?_ | refine Qj ?_ | refine Qk ?_ | refine Ql ?_ | refine Qm ?_ | refine Qn ?_ | refine Qo ?_ | refine Qp ?_ | refine Qq ?_ | fail)
  refine SXL.split (s := 29) rfl (fun h29 => ?_) (fun h29 => ?_)
  rotate_left
  · repeat (first | refine Qa ?_ | refine Qb ?_ | refine Qc ?_ | refine Qd ?_ | refine Qe ?_ | refine Qf ?_ | refine Qg ?_ | refine Qh ?_ | refine Qi ?_ | refine Qj ?_ | refine Qk ?_ | refine Ql ?_ | refine Qm ?_ | refine Qn ?_ | refine Qo ?_ | refine Qp ?_ | refine Qq ?_ | fail)
    refine SX.same 2 (.bool (shB m)) rfl (by simp only [shB, h8, h15, h22, h29, Bool.and_false, Bool.false_and, Bool.true_and]) ?_
    refine SX.ret (M' := F) rfl (Evals.tmp rfl Evals.nil) ?_ inferInstance
    exact h
  repeat (first | refine Qa ?_ | refine Qb ?_ | refine Qc ?_ | refine Qd ?_ | refine Qe ?_ | refine Qf ?_ | refine Qg ?_ | refine Qh ?_ | refine Qi ?_ | refine Qj ?_ | refine Qk ?_ | refine Ql ?_ | refine Qm ?_ | refine Qn ?_ | refine Qo ?_ | refine Qp ?_ | refine Qq ?_ | fail)
  refine SXL.split (s := 36) rfl (fun h36 => ?_) (fun h36 => ?_)
  rotate_left
  · repeat (first | refine Qa ?_ | refine Qb ?_ | refine Qc ?_ | refine Qd ?_ | refine Qe ?_ | refine Qf ?_ | refine Qg ?_ | refine Qh ?_ | refine Qi ?_ | refine Qj ?_ | refine Qk ?_ | refine Ql ?_ | refine Qm ?_ | refine Qn ?_ | refine Qo ?_ | refine Qp ?_ | refine Qq ?_ | fail)
    refine SX.same 2 (.bool (shB m)) rfl (by simp only [shB, h8, h15, h22, h29, h36, Bool.and_false, Bool.false_and, Bool.true_and]) ?_
    refine SX.ret (M' := F) rfl (Evals.tmp rfl Evals.nil) ?_ inferInstance
    exact h
  repeat (first | refine Qa ?_ | refine Qb ?_ | refine Qc ?_ | refine Qd ?_ | refine Qe ?_ | refine Qf ?_ | refine Qg ?_ | refine Qh ?_ | refine Qi ?_ | refine Qj ?_ | refine Qk ?_ | refine Ql ?_ | refine Qm ?_ | refine Qn ?_ | refine Qo ?_ | refine Qp ?_ | refine Qq ?_ | fail)
  refine SX.same 2 (.bool (shB m)) rfl (by simp only [shB, h8, h15, h22, h29, h36, Bool.true_and]) ?_
  refine SX.ret (M' := F) rfl (Evals.tmp rfl Evals.nil) ?_ inferInstance
  exact h
set_option maxHeartbeats 1000000 in
set_option maxRecDepth 20000 in
theorem Rinner_S {m : Msg} (hre : Ro kE B F m.r.e) (hc2 : m.r.e.length ≤ c2) (hw : m.wf) (h : ∀ r n, innM m = (r, n) → K (.returned (.tuple #[.string (strOfNums r), .int .i64 n])) F) : Fn (Try.prog) 26 [.agg (mrC m B c2).toArray] F K := by
  unfold mrC
  unfold innM at h
  refine Fn.enter Try.call26 Try.func26 rfl rfl rfl ?_
  repeat (first | refine Qa ?_ | refine Qb ?_ | refine Qc ?_ | refine Qd ?_ | refine Qe ?_ | refine Qf ?_ | refine Qg ?_ | refine Qh ?_ | refine Qi ?_ | refine Qj ?_ | refine Qk ?_ | refine Ql ?_ | refine Qm ?_ | refine Qn ?_ | refine Qo ?_ | refine Qp ?_ | refine Qq ?_ | fail)
  refine SXL.box rfl rfl rfl (fun b => ?_)
  repeat (first | refine Qa ?_ | refine Qb ?_ | refine Qc ?_ | refine Qd ?_ | refine Qe ?_ | refine Qf ?_ | refine Qg ?_ | refine Qh ?_ | refine Qi ?_ | refine Qj ?_ | refine Qk ?_ | refine Ql ?_ | refine Qm ?_ | refine Qn ?_ | refine Qo ?_ | refine Qp ?_ | refine Qq ?_ | fail)
  refine SX.cond rfl (fun k1 => ?_) (fun k1 => ?_)
  · have k1' : m.k = 1 := by simpa using k1
    rw [if_pos k1'] at h
    repeat (first | refine Qa ?_ | refine Qb ?_ | refine Qc ?_ | refine Qd ?_ | refine Qe ?_ | refine Qf ?_ | refine Qg ?_ | refine Qh ?_ | refine Qi ?_ | refine Qj ?_ | refine Qk ?_ | refine Ql ?_ | refine Qm ?_ | refine Qn ?_ | refine Qo ?_ | refine Qp ?_ | refine Qq ?_ | fail)
    refine SXL.call rfl rfl rfl ?_
    refine (RPutCall_S (s := m.c) hw.c (fun r n hm => callK.ret ?_))
    repeat (first | refine Qa ?_ | refine Qb ?_ | refine Qc ?_ | refine Qd ?_ | refine Qe ?_ | refine Qf ?_ | refine Qg ?_ | refine Qh ?_ | refine Qi ?_ | refine Qj ?_ | refine Qk ?_ | refine Ql ?_ | refine Qm ?_ | refine Qn ?_ | refine Qo ?_ | refine Qp ?_ | refine Qq ?_ | fail)
    refine SX.ret (M' := F) rfl (Evals.tmp rfl (Evals.tmp rfl Evals.nil)) ?_ inferInstance
    exact h r n hm
  have k1' : m.k ≠ 1 := by simpa using k1
  rw [if_neg k1'] at h
  repeat (first | refine Qa ?_ | refine Qb ?_ | refine Qc ?_ | refine Qd ?_ | refine Qe ?_ | refine Qf ?_ | refine Qg ?_ | refine Qh ?_ | refine Qi ?_ | refine Qj ?_ | refine Qk ?_ | refine Ql ?_ | refine Qm ?_ | refine Qn ?_ | refine Qo ?_ | refine Qp ?_ | refine Qq ?_ | fail)
  refine SX.cond rfl (fun k2 => ?_) (fun k2 => ?_)
  · have k2' : m.k = 2 := by simpa using k2
    rw [if_pos k2'] at h
    repeat (first | refine Qa ?_ | refine Qb ?_ | refine Qc ?_ | refine Qd ?_ | refine Qe ?_ | refine Qf ?_ | refine Qg ?_ | refine Qh ?_ | refine Qi ?_ | refine Qj ?_ | refine Qk ?_ | refine Ql ?_ | refine Qm ?_ | refine Qn ?_ | refine Qo ?_ | refine Qp ?_ | refine Qq ?_ | fail)
    refine SXL.call rfl rfl rfl ?_
    refine (RPutReply_S (s := m.r) (B := B) inferInstance hc2 hw.r (fun r n hm => callK.ret ?_))
    repeat (first | refine Qa ?_ | refine Qb ?_ | refine Qc ?_ | refine Qd ?_ | refine Qe ?_ | refine Qf ?_ | refine Qg ?_ | refine Qh ?_ | refine Qi ?_ | refine Qj ?_ | refine Qk ?_ | refine Ql ?_ | refine Qm ?_ | refine Qn ?_ | refine Qo ?_ | refine Qp ?_ | refine Qq ?_ | fail)
    refine SX.ret (M' := F) rfl (Evals.tmp rfl (Evals.tmp rfl Evals.nil)) ?_ inferInstance
    exact h r n hm
  have k2' : m.k ≠ 2 := by simpa using k2
  rw [if_neg k2'] at h
  repeat (first | refine Qa ?_ | refine Qb ?_ | refine Qc ?_ | refine Qd ?_ | refine Qe ?_ | refine Qf ?_ | refine Qg ?_ | refine Qh ?_ | refine Qi ?_ | refine Qj ?_ | refine Qk ?_ | refine Ql ?_ | refine Qm ?_ | refine Qn ?_ | refine Qo ?_ | refine Qp ?_ | refine Qq ?_ | fail)
  refine SX.cond rfl (fun k3 => ?_) (fun k3 => ?_)
  rotate_left
  · have k3' : m.k ≠ 3 := by simpa using k3
    rw [if_neg k3'] at h
    repeat (first | refine Qa ?_ | refine Qb ?_ | refine Qc ?_ | refine Qd ?_ | refine Qe ?_ | refine Qf ?_ | refine Qg ?_ | refine Qh ?_ | refine Qi ?_ | refine Qj ?_ | refine Qk ?_ | refine Ql ?_ | refine Qm ?_ | refine Qn ?_ | refine Qo ?_ | refine Qp ?_ | refine Qq ?_ | fail)
    refine SX.ret (M' := F) rfl (Evals.tmp rfl (Evals.tmp rfl Evals.nil)) ?_ inferInstance
    exact h [] 1 rfl
  have k3' : m.k = 3 := by simpa using k3
  rw [if_pos k3'] at h
  unfold putCt at h
  have hbd := bytesOf_strOfNums _ hw.t.d
  have hsz := size_strOfNums m.t.d
  repeat (first | refine Qa ?_ | refine Qb ?_ | refine Qc ?_ | refine Qd ?_ | refine Qe ?_ | refine Qf ?_ | refine Qg ?_ | refine Qh ?_ | refine Qi ?_ | refine Qj ?_ | refine Qk ?_ | refine Ql ?_ | refine Qm ?_ | refine Qn ?_ | refine Qo ?_ | refine Qp ?_ | refine Qq ?_ | fail)
  refine SXL.alloc rfl rfl (fun b4 => ?_)
  repeat (first | refine Qa ?_ | refine Qb ?_ | refine Qc ?_ | refine Qd ?_ | refine Qe ?_ | refine Qf ?_ | refine Qg ?_ | refine Qh ?_ | refine Qi ?_ | refine Qj ?_ | refine Qk ?_ | refine Ql ?_ | refine Qm ?_ | refine Qn ?_ | refine Qo ?_ | refine Qp ?_ | refine Qq ?_ | fail)
  refine SXL.split (s := 28) rfl (fun j1 => ?_) (fun j1 => ?_)
  · have := of_decide_eq_true j1
    rw [if_neg (by unfold okCt wordB; simp; omega)] at h
    repeat (first | refine Qa ?_ | refine Qb ?_ | refine Qc ?_ | refine Qd ?_ | refine Qe ?_ | refine Qf ?_ | refine Qg ?_ | refine Qh ?_ | refine Qi ?_ | refine Qj ?_ | refine Qk ?_ | refine Ql ?_ | refine Qm ?_ | refine Qn ?_ | refine Qo ?_ | refine Qp ?_ | refine Qq ?_ | fail)
    refine SX.ret (M' := F) rfl (Evals.tmp rfl (Evals.tmp rfl Evals.nil)) ?_ inferInstance
    exact h _ _ rfl
  have j1' := of_decide_eq_false j1
  repeat (first | refine Qa ?_ | refine Qb ?_ | refine Qc ?_ | refine Qd ?_ | refine Qe ?_ | refine Qf ?_ | refine Qg ?_ | refine Qh ?_ | refine Qi ?_ | refine Qj ?_ | refine Qk ?_ | refine Ql ?_ | refine Qm ?_ | refine Qn ?_ | refine Qo ?_ | refine Qp ?_ | refine Qq ?_ | fail)
  refine SXL.split (s := 33) rfl (fun j2 => ?_) (fun j2 => ?_)
  · have := of_decide_eq_true j2
    rw [if_neg (by unfold okCt wordB; simp; omega)] at h
    repeat (first | refine Qa ?_ | refine Qb ?_ | refine Qc ?_ | refine Qd ?_ | refine Qe ?_ | refine Qf ?_ | refine Qg ?_ | refine Qh ?_ | refine Qi ?_ | refine Qj ?_ | refine Qk ?_ | refine Ql ?_ | refine Qm ?_ | refine Qn ?_ | refine Qo ?_ | refine Qp ?_ | refine Qq ?_ | fail)
    refine SX.ret (M' := F) rfl (Evals.tmp rfl (Evals.tmp rfl Evals.nil)) ?_ inferInstance
    exact h _ _ rfl
  have j2' := of_decide_eq_false j2
  repeat (first | refine Qa ?_ | refine Qb ?_ | refine Qc ?_ | refine Qd ?_ | refine Qe ?_ | refine Qf ?_ | refine Qg ?_ | refine Qh ?_ | refine Qi ?_ | refine Qj ?_ | refine Qk ?_ | refine Ql ?_ | refine Qm ?_ | refine Qn ?_ | refine Qo ?_ | refine Qp ?_ | refine Qq ?_ | fail)
  refine SX.condp rfl (fun j3 => ?_) (fun j3 => ?_)
  · rw [if_neg (by unfold okCt wordB; simp; omega)] at h
    repeat (first | refine Qa ?_ | refine Qb ?_ | refine Qc ?_ | refine Qd ?_ | refine Qe ?_ | refine Qf ?_ | refine Qg ?_ | refine Qh ?_ | refine Qi ?_ | refine Qj ?_ | refine Qk ?_ | refine Ql ?_ | refine Qm ?_ | refine Qn ?_ | refine Qo ?_ | refine Qp ?_ | refine Qq ?_ | fail)
    refine SX.ret (M' := F) rfl (Evals.tmp rfl (Evals.tmp rfl Evals.nil)) ?_ inferInstance
    exact h _ _ rfl
  rw [if_pos (by unfold okCt wordB; simp only [Bool.and_eq_true, decide_eq_true_eq]; omega)] at h
  have hop : (opq m.t.d).length ≤ 1032 := by have := opq_len' m.t.d; omega
  repeat (first | refine Qa ?_ | refine Qb ?_ | refine Qc ?_ | refine Qd ?_ | refine Qe ?_ | refine Qf ?_ | refine Qg ?_ | refine Qh ?_ | refine Qi ?_ | refine Qj ?_ | refine Qk ?_ | refine Ql ?_ | refine Qm ?_ | refine Qn ?_ | refine Qo ?_ | refine Qp ?_ | refine Qq ?_ | fail)
  refine SXA.begin [.own (some ⟨b4, 0, none⟩) (cellsR b4 (rtC m.t) 52)] [] ?_
  unfold rtC
  (first | refine Qr 0 ?_ | refine Qs 0 ?_ | refine Qt 0 ?_ | refine Qu 0 ?_ | fail)
  (first | refine Qr 3 ?_ | refine Qs 3 ?_ | refine Qt 3 ?_ | refine Qu 3 ?_ | fail)
  (first | refine Qr 7 ?_ | refine Qs 7 ?_ | refine Qt 7 ?_ | refine Qu 7 ?_ | fail)
  (first | refine Qr 11 ?_ | refine Qs 11 ?_ | refine Qt 11 ?_ | refine Qu 11 ?_ | fail)
  (first | refine Qr 15 ?_ | refine Qs 15 ?_ | refine Qt 15 ?_ | refine Qu 15 ?_ | fail)
  (first | refine Qr 1 ?_ | refine Qs 1 ?_ | refine Qt 1 ?_ | refine Qu 1 ?_ | fail)
  (first | refine Qr 4 ?_ | refine Qs 4 ?_ | refine Qt 4 ?_ | refine Qu 4 ?_ | fail)
  (first | refine Qr 8 ?_ | refine Qs 8 ?_ | refine Qt 8 ?_ | refine Qu 8 ?_ | fail)
  (first | refine Qr 12 ?_ | refine Qs 12 ?_ | refine Qt 12 ?_ | refine Qu 12 ?_ | fail)
  (first | refine Qr 16 ?_ | refine Qs 16 ?_ | refine Qt 16 ?_ | refine Qu 16 ?_ | fail)
  refine Qw 2 ?_
  refine SXL.call rfl rfl rfl ?_
  refine (SU32_S m.t.k hw.t.k.1 hw.t.k.2 (callK.ret ?_))
  refine SXL.nil (SXA.next inferInstance ?_)
  refine Qw 5 ?_
  refine SXL.call rfl rfl rfl ?_
  refine (SU64_S m.t.ep hw.t.ep.1 hw.t.ep.2 (callK.ret ?_))
  refine SXL.nil (SXA.next inferInstance ?_)
  refine SXA.cat 6 rfl (by decide +kernel) rfl rfl rfl (by simp only [ByteArray.size_append, size_strOfNums, be32_len', be64_len', hbd]; omega) rfl inferInstance ?_
  refine Qw 9 ?_
  refine SXL.call rfl rfl rfl ?_
  refine (SU64_S m.t.sq hw.t.sq.1 hw.t.sq.2 (callK.ret ?_))
  refine SXL.nil (SXA.next inferInstance ?_)
  refine SXA.cat 10 rfl (by decide +kernel) rfl rfl rfl (by simp only [ByteArray.size_append, size_strOfNums, be32_len', be64_len', hbd]; omega) rfl inferInstance ?_
  refine Qw 13 ?_
  refine SXL.call rfl rfl rfl ?_
  refine (SU32_S m.t.pl hw.t.pl.1 hw.t.pl.2 (callK.ret ?_))
  refine SXL.nil (SXA.next inferInstance ?_)
  refine SXA.cat 14 rfl (by decide +kernel) rfl rfl rfl (by simp only [ByteArray.size_append, size_strOfNums, be32_len', be64_len', hbd]; omega) rfl inferInstance ?_
  refine Qw 17 ?_
  refine SXL.call rfl rfl rfl ?_
  refine (SOpaque_S (strOfNums m.t.d) (by omega) (callK.ret ?_))
  refine SXL.nil (SXA.next inferInstance ?_)
  refine SXA.cat 18 rfl (by decide +kernel) rfl rfl rfl (by simp only [ByteArray.size_append, size_strOfNums, be32_len', be64_len', hbd]; omega) rfl inferInstance ?_
  (first | refine Qr 19 ?_ | refine Qs 19 ?_ | refine Qt 19 ?_ | refine Qu 19 ?_ | fail)
  (first | refine Qr 20 ?_ | refine Qs 20 ?_ | refine Qt 20 ?_ | refine Qu 20 ?_ | fail)
  refine Qv ?_
  repeat (first | refine Qa ?_ | refine Qb ?_ | refine Qc ?_ | refine Qd ?_ | refine Qe ?_ | refine Qf ?_ | refine Qg ?_ | refine Qh ?_ | refine Qi ?_ | refine Qj ?_ | refine Qk ?_ | refine Ql ?_ | refine Qm ?_ | refine Qn ?_ | refine Qo ?_ | refine Qp ?_ | refine Qq ?_ | fail)
  refine SX.same 2 (.string (strOfNums (encCt m.t))) rfl ?_ ?_
  · rw [hbd]
    simp only [encCt, ctF, ctV, encFs, encF, strOfNums_app', List.append_nil]
    simp only [ByteArray.append_assoc, strOfNums_nil', ByteArray.append_empty]
  refine SX.ret (M' := F) rfl (Evals.tmp rfl (Evals.tmp rfl Evals.nil)) ?_ inferInstance
  exact h _ _ rfl
set_option maxRecDepth 20000 in
theorem RPut16_S {m : Msg} (hre : Ro kE B F m.r.e) (hc2 : m.r.e.length ≤ c2) (hw : m.wf) (h : ∀ r n, putMs m = (r, n) → K (.returned (.tuple #[.string (strOfNums r), .int .i64 n])) F) : Fn (Try.prog) 10 [.agg (mrC m B c2).toArray] F K := by
  unfold mrC
  refine Fn.enter Try.call10 Try.func10 rfl rfl rfl ?_
  repeat (first | refine Qa ?_ | refine Qb ?_ | refine Qc ?_ | refine Qd ?_ | refine Qe ?_ | refine Qf ?_ | refine Qg ?_ | refine Qh ?_ | refine Qi ?_ | refine Qj ?_ | refine Qk ?_ | refine Ql ?_ | refine Qm ?_ | refine Qn ?_ | refine Qo ?_ | refine Qp ?_ | refine Qq ?_ | fail)
  refine SXL.box rfl rfl rfl (fun b => ?_)
  repeat (first | refine Qa ?_ | refine Qb ?_ | refine Qc ?_ | refine Qd ?_ | refine Qe ?_ | refine Qf ?_ | refine Qg ?_ | refine Qh ?_ | refine Qi ?_ | refine Qj ?_ | refine Qk ?_ | refine Ql ?_ | refine Qm ?_ | refine Qn ?_ | refine Qo ?_ | refine Qp ?_ | refine Qq ?_ | fail)
  refine SXL.call rfl rfl rfl ?_
  refine (Rinner_S (m := m) (B := B) inferInstance hc2 hw (fun r n hi => callK.ret ?_))
  have hin := innM_ok hw hi
  unfold putMs at h
  rw [hi] at h
  repeat (first | refine Qa ?_ | refine Qb ?_ | refine Qc ?_ | refine Qd ?_ | refine Qe ?_ | refine Qf ?_ | refine Qg ?_ | refine Qh ?_ | refine Qi ?_ | refine Qj ?_ | refine Qk ?_ | refine Ql ?_ | refine Qm ?_ | refine Qn ?_ | refine Qo ?_ | refine Qp ?_ | refine Qq ?_ | fail)
  refine SX.cond rfl (fun hn => ?_) (fun hn => ?_)
  · have hn' : n ≠ 0 := by simpa using hn
    rw [if_pos hn'] at h
    repeat (first | refine Qa ?_ | refine Qb ?_ | refine Qc ?_ | refine Qd ?_ | refine Qe ?_ | refine Qf ?_ | refine Qg ?_ | refine Qh ?_ | refine Qi ?_ | refine Qj ?_ | refine Qk ?_ | refine Ql ?_ | refine Qm ?_ | refine Qn ?_ | refine Qo ?_ | refine Qp ?_ | refine Qq ?_ | fail)
    refine SX.ret (M' := F) rfl (Evals.tmp rfl (Evals.tmp rfl Evals.nil)) ?_ inferInstance
    exact h _ _ rfl
  obtain rfl : n = 0 := by simpa using hn
  rw [if_neg (by simp)] at h
  obtain ⟨hrb, hrl⟩ := hin rfl
  have hop : (opq r).length ≤ 10008 := by have := opq_len' r; omega
  have hbr := bytesOf_strOfNums _ hrb
  have hsz := size_strOfNums r
  have hbb : bytesB (be32 m.k ++ opq r) = true := by rw [bytesB_append, bytesB_be32 _ hw.k.1 hw.k.2, bytesB_opq (by omega) hrb]; rfl
  repeat (first | refine Qa ?_ | refine Qb ?_ | refine Qc ?_ | refine Qd ?_ | refine Qe ?_ | refine Qf ?_ | refine Qg ?_ | refine Qh ?_ | refine Qi ?_ | refine Qj ?_ | refine Qk ?_ | refine Ql ?_ | refine Qm ?_ | refine Qn ?_ | refine Qo ?_ | refine Qp ?_ | refine Qq ?_ | fail)
  refine SXL.call rfl rfl rfl ?_
  refine (SU32_S m.k hw.k.1 hw.k.2 (callK.ret ?_))
  repeat (first | refine Qa ?_ | refine Qb ?_ | refine Qc ?_ | refine Qd ?_ | refine Qe ?_ | refine Qf ?_ | refine Qg ?_ | refine Qh ?_ | refine Qi ?_ | refine Qj ?_ | refine Qk ?_ | refine Ql ?_ | refine Qm ?_ | refine Qn ?_ | refine Qo ?_ | refine Qp ?_ | refine Qq ?_ | fail)
  refine SXL.call rfl rfl rfl ?_
  refine (SOpaque_S (strOfNums r) (by omega) (callK.ret ?_))
  rw [hbr]
  repeat (first | refine Qa ?_ | refine Qb ?_ | refine Qc ?_ | refine Qd ?_ | refine Qe ?_ | refine Qf ?_ | refine Qg ?_ | refine Qh ?_ | refine Qi ?_ | refine Qj ?_ | refine Qk ?_ | refine Ql ?_ | refine Qm ?_ | refine Qn ?_ | refine Qo ?_ | refine Qp ?_ | refine Qq ?_ | fail)
  refine SXL.cat rfl rfl (by simp only [size_strOfNums, be32_len']; omega) rfl ?_
  rw [← strOfNums_app']
  refine SXL.call rfl rfl rfl ?_
  refine (RSealed_S (strOfNums (be32 m.k ++ opq r)) (by rw [size_strOfNums, List.length_append, be32_len']; omega) (callK.ret ?_))
  rw [bytesOf_strOfNums _ hbb]
  repeat (first | refine Qa ?_ | refine Qb ?_ | refine Qc ?_ | refine Qd ?_ | refine Qe ?_ | refine Qf ?_ | refine Qg ?_ | refine Qh ?_ | refine Qi ?_ | refine Qj ?_ | refine Qk ?_ | refine Ql ?_ | refine Qm ?_ | refine Qn ?_ | refine Qo ?_ | refine Qp ?_ | refine Qq ?_ | fail)
  refine SX.ret (M' := F) rfl (Evals.tmp rfl (Evals.tmp rfl Evals.nil)) ?_ inferInstance
  exact h _ _ rfl
set_option maxRecDepth 20000 in
theorem Same16_S {a b : Msg} (hr : Ro kE B F a.r.e) (hr2 : Ro kE C F b.r.e) (hc : a.r.e.length ≤ c) (hc2 : b.r.e.length ≤ c2) (hl : a.r.e.length ≤ 4000000000) (h : K (.returned (.bool (sameMs a b))) F) : Fn (Try.prog) 13 [.agg (mrC a B c).toArray, .agg (mrC b C c2).toArray] F K := by
  unfold mrC
  unfold sameMs at h
  refine Fn.enter Try.call13 Try.func13 rfl rfl rfl ?_
  repeat (first | refine Qa ?_ | refine Qb ?_ | refine Qc ?_ | refine Qd ?_ | refine Qe ?_ | refine Qf ?_ | refine Qg ?_ | refine Qh ?_ | refine Qi ?_ | refine Qj ?_ | refine Qk ?_ | refine Ql ?_ | refine Qm ?_ | refine Qn ?_ | refine Qo ?_ | refine Qp ?_ | refine Qq ?_ | fail)
  refine SXL.box rfl rfl rfl (fun b1 => ?_)
  repeat (first | refine Qa ?_ | refine Qb ?_ | refine Qc ?_ | refine Qd ?_ | refine Qe ?_ | refine Qf ?_ | refine Qg ?_ | refine Qh ?_ | refine Qi ?_ | refine Qj ?_ | refine Qk ?_ | refine Ql ?_ | refine Qm ?_ | refine Qn ?_ | refine Qo ?_ | refine Qp ?_ | refine Qq ?_ | fail)
  refine SXL.box rfl rfl rfl (fun b2 => ?_)
  repeat (first | refine Qa ?_ | refine Qb ?_ | refine Qc ?_ | refine Qd ?_ | refine Qe ?_ | refine Qf ?_ | refine Qg ?_ | refine Qh ?_ | refine Qi ?_ | refine Qj ?_ | refine Qk ?_ | refine Ql ?_ | refine Qm ?_ | refine Qn ?_ | refine Qo ?_ | refine Qp ?_ | refine Qq ?_ | fail)
  refine SX.cond rfl (fun hk => ?_) (fun hk => ?_)
  · have hk' : a.k ≠ b.k := by simpa using hk
    rw [if_neg hk'] at h
    repeat (first | refine Qa ?_ | refine Qb ?_ | refine Qc ?_ | refine Qd ?_ | refine Qe ?_ | refine Qf ?_ | refine Qg ?_ | refine Qh ?_ | refine Qi ?_ | refine Qj ?_ | refine Qk ?_ | refine Ql ?_ | refine Qm ?_ | refine Qn ?_ | refine Qo ?_ | refine Qp ?_ | refine Qq ?_ | fail)
    refine SX.ret (M' := F) rfl (Evals.tmp rfl Evals.nil) ?_ inferInstance
    exact h
  have hk' : a.k = b.k := by simpa using hk
  rw [if_pos hk'] at h
  repeat (first | refine Qa ?_ | refine Qb ?_ | refine Qc ?_ | refine Qd ?_ | refine Qe ?_ | refine Qf ?_ | refine Qg ?_ | refine Qh ?_ | refine Qi ?_ | refine Qj ?_ | refine Qk ?_ | refine Ql ?_ | refine Qm ?_ | refine Qn ?_ | refine Qo ?_ | refine Qp ?_ | refine Qq ?_ | fail)
  refine SX.cond rfl (fun k1 => ?_) (fun k1 => ?_)
  · have k1' : a.k = 1 := by simpa using k1
    rw [if_pos k1'] at h
    repeat (first | refine Qa ?_ | refine Qb ?_ | refine Qc ?_ | refine Qd ?_ | refine Qe ?_ | refine Qf ?_ | refine Qg ?_ | refine Qh ?_ | refine Qi ?_ | refine Qj ?_ | refine Qk ?_ | refine Ql ?_ | refine Qm ?_ | refine Qn ?_ | refine Qo ?_ | refine Qp ?_ | refine Qq ?_ | fail)
    refine SXL.eqStr rfl rfl inferInstance inferInstance rfl rfl rfl rfl ?_
    repeat (first | refine Qa ?_ | refine Qb ?_ | refine Qc ?_ | refine Qd ?_ | refine Qe ?_ | refine Qf ?_ | refine Qg ?_ | refine Qh ?_ | refine Qi ?_ | refine Qj ?_ | refine Qk ?_ | refine Ql ?_ | refine Qm ?_ | refine Qn ?_ | refine Qo ?_ | refine Qp ?_ | refine Qq ?_ | fail)
    refine SX.ret (M' := F) rfl (Evals.tmp rfl Evals.nil) ?_ inferInstance
    exact h
  have k1' : a.k ≠ 1 := by simpa using k1
  rw [if_neg k1'] at h
  repeat (first | refine Qa ?_ | refine Qb ?_ | refine Qc ?_ | refine Qd ?_ | refine Qe ?_ | refine Qf ?_ | refine Qg ?_ | refine Qh ?_ | refine Qi ?_ | refine Qj ?_ | refine Qk ?_ | refine Ql ?_ | refine Qm ?_ | refine Qn ?_ | refine Qo ?_ | refine Qp ?_ | refine Qq ?_ | fail)
  refine SX.cond rfl (fun k2 => ?_) (fun k2 => ?_)
  · have k2' : a.k = 2 := by simpa using k2
    rw [if_pos k2'] at h
    repeat (first | refine Qa ?_ | refine Qb ?_ | refine Qc ?_ | refine Qd ?_ | refine Qe ?_ | refine Qf ?_ | refine Qg ?_ | refine Qh ?_ | refine Qi ?_ | refine Qj ?_ | refine Qk ?_ | refine Ql ?_ | refine Qm ?_ | refine Qn ?_ | refine Qo ?_ | refine Qp ?_ | refine Qq ?_ | fail)
    refine SXL.call rfl rfl rfl ?_
    refine (SameRe_S (s := a.r) (u := b.r) (B := B) (B' := C) inferInstance inferInstance hc hc2 hl (callK.ret ?_))
    repeat (first | refine Qa ?_ | refine Qb ?_ | refine Qc ?_ | refine Qd ?_ | refine Qe ?_ | refine Qf ?_ | refine Qg ?_ | refine Qh ?_ | refine Qi ?_ | refine Qj ?_ | refine Qk ?_ | refine Ql ?_ | refine Qm ?_ | refine Qn ?_ | refine Qo ?_ | refine Qp ?_ | refine Qq ?_ | fail)
    refine SX.ret (M' := F) rfl (Evals.tmp rfl Evals.nil) ?_ inferInstance
    exact h
  have k2' : a.k ≠ 2 := by simpa using k2
  rw [if_neg k2'] at h
  repeat (first | refine Qa ?_ | refine Qb ?_ | refine Qc ?_ | refine Qd ?_ | refine Qe ?_ | refine Qf ?_ | refine Qg ?_ | refine Qh ?_ | refine Qi ?_ | refine Qj ?_ | refine Qk ?_ | refine Ql ?_ | refine Qm ?_ | refine Qn ?_ | refine Qo ?_ | refine Qp ?_ | refine Qq ?_ | fail)
  refine SXL.eqStr rfl rfl inferInstance inferInstance rfl rfl rfl rfl ?_
  repeat (first | refine Qa ?_ | refine Qb ?_ | refine Qc ?_ | refine Qd ?_ | refine Qe ?_ | refine Qf ?_ | refine Qg ?_ | refine Qh ?_ | refine Qi ?_ | refine Qj ?_ | refine Qk ?_ | refine Ql ?_ | refine Qm ?_ | refine Qn ?_ | refine Qo ?_ | refine Qp ?_ | refine Qq ?_ | fail)
  refine SX.ret (M' := F) rfl (Evals.tmp rfl Evals.nil) ?_ inferInstance
  exact h
end
end Go.Proofs.Ytpbhanpblmoepaa.Sx
