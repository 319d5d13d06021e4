/- Chapter 16's laws: what they call; the reference of wire, walked: what is put, what is the same; conditions: those that each theorem names. -/
import Derived.Test.YtpbhanpblmoepaaGreatJX5
import Derived.Test.YtpbhanpblmoepaaGreatJY1
namespace Go.Proofs.YtpbhanpblmoepaaGreat.Sx
open Go.RowKit Go.Proofs.YtpbhanpblmoepaaGreat.Hm Go.Proofs.YtpbhanpblmoepaaGreatW.PrintWords Go.Proofs.YtpbhanpblmoepaaGreatW.PrintLast Go.Proofs.YtpbhanpblmoepaaGreatW.PrintMore
set_option linter.unusedVariables false
set_option linter.unusedSimpArgs false
attribute [local irreducible] SX SXL SXA St callK Post Evals

instance eqWt : EqT Tryz.prog 50 := ⟨by kernel_rfl, by kernel_rfl, by kernel_rfl⟩
def sameCa (s u : Ca) : Bool := (s.client == u.client) && ((s.xid == u.xid) && ((s.op == u.op) && (((s.ai == u.ai) && (s.ag == u.ag)) && ((s.name.toList == u.name.toList) && (((s.ti == u.ti) && (s.tg == u.tg)) && ((s.toName.toList == u.toName.toList) && ((s.off == u.off) && ((s.verf == u.verf) && ((s.cnt == u.cnt) && ((s.mode == u.mode) && ((strOfNums s.d).toList == (strOfNums u.d).toList)))))))))))
theorem sameCa_iff {s u : Ca} (hs : bytesB s.d = true) (hu : bytesB u.d = true) : sameCa s u = true ↔ s = u := by
  constructor
  · intro h
    unfold sameCa at h
    simp only [Bool.and_eq_true, beq_iff_eq] at h
    obtain ⟨h1, h2, h3, ⟨h4, h5⟩, h6, ⟨h7, h8⟩, h9, h10, h11, h12, h13, h14⟩ := h
    have e6 := (toList_iff' _ _).1 (beq_iff_eq.2 h6)
    have e9 := (toList_iff' _ _).1 (beq_iff_eq.2 h9)
    have e14 := (toList_iff' _ _).1 (beq_iff_eq.2 h14)
    have h17 : s.d = u.d := by rw [← bytesOf_strOfNums _ hs, ← bytesOf_strOfNums _ hu, e14]
    cases s
    cases u
    simp_all
  · rintro rfl
    simp [sameCa]
def rtC (s : Ctl) : List Value := [.int .u32 s.k, .int .u64 s.ep, .int .u64 s.sq, .int .u32 s.pl, .string (strOfNums s.d)]
def mrC (m : Msg) (B : Option Addr) (b : Nat) : List Value := [.int .u32 m.k,
  .int .u32 m.c.client, .int .u32 m.c.xid, .int .u32 m.c.op, .int .u32 m.c.ai, .int .u32 m.c.ag, .string m.c.name, .int .u32 m.c.ti, .int .u32 m.c.tg, .string m.c.toName, .int .u64 m.c.off, .int .u64 m.c.verf, .int .u32 m.c.cnt, .int .u32 m.c.mode, .string (strOfNums m.c.d),
  .int .u32 m.r.client, .int .u32 m.r.xid, .int .i64 m.r.st, .int .u32 m.r.ai, .int .u32 m.r.ag, .int .u32 m.r.ak, .int .u32 m.r.am, .int .u32 m.r.al, .int .u32 m.r.sz, .int .u64 m.r.ac, .string (strOfNums m.r.d), .slice B m.r.e.length b, .bool m.r.eof, .int .u64 m.r.verf, .int .u32 m.r.free,
  .int .u32 m.t.k, .int .u64 m.t.ep, .int .u64 m.t.sq, .int .u32 m.t.pl, .string (strOfNums m.t.d)]
def sameCt (s u : Ctl) : Bool := (s.k == u.k) && ((s.ep == u.ep) && ((s.sq == u.sq) && ((s.pl == u.pl) && ((strOfNums s.d).toList == (strOfNums u.d).toList))))
theorem sameCt_iff {s u : Ctl} (hs : bytesB s.d = true) (hu : bytesB u.d = true) : sameCt s u = true ↔ s = u := by
  constructor
  · intro h
    unfold sameCt at h
    simp only [Bool.and_eq_true, beq_iff_eq] at h
    obtain ⟨h1, h2, h3, h4, h5⟩ := h
    have e := (toList_iff' _ _).1 (beq_iff_eq.2 h5)
    have h17 : s.d = u.d := by rw [← bytesOf_strOfNums _ hs, ← bytesOf_strOfNums _ hu, e]
    cases s
    cases u
    simp_all
  · rintro rfl
    simp [sameCt]
def sameMs (a b : Msg) : Bool := if a.k = b.k then (if a.k = 1 then sameCa a.c b.c else if a.k = 2 then sameRe a.r b.r else sameCt a.t b.t) else false
section
variable {F R : List Thing} {K : Ending → List Thing → Prop} {A B C D : Option Addr} {c c2 a1 a2 a3 a4 : Nat}
theorem callOf16_S {s : Ca} (hr : Ro (Kd.int .u8) A F s.d) (h : K (.returned (.agg (raC s).toArray)) F) : Fn (Tryz.prog) 32 [.agg (caC s A c).toArray] F K := by
  unfold caC
  refine Fn.enter Tryz.call32 Tryz.func32 rfl rfl rfl ?_
  repeat (first | refine Qa ?_ | refine Qb ?_ | refine Qc ?_ | refine Qd ?_ | refine Qe ?_ | refine Qf ?_ | refine Qg ?_ | refine Qh ?_ | refine Qi ?_ | refine Qj ?_ | refine Qk ?_ | refine Ql ?_ | refine Qm ?_ | refine Qn ?_ | refine Qo ?_ | refine Qp ?_ | refine Qq ?_ | fail)
  refine SXL.box rfl rfl rfl (fun b => ?_)
  repeat (first | refine Qa ?_ | refine Qb ?_ | refine Qc ?_ | refine Qd ?_ | refine Qe ?_ | refine Qf ?_ | refine Qg ?_ | refine Qh ?_ | refine Qi ?_ | refine Qj ?_ | refine Qk ?_ | refine Ql ?_ | refine Qm ?_ | refine Qn ?_ | refine Qo ?_ | refine Qp ?_ | refine Qq ?_ | fail)
  refine SXL.alloc rfl rfl (fun q => ?_)
  repeat (first | refine Qa ?_ | refine Qb ?_ | refine Qc ?_ | refine Qd ?_ | refine Qe ?_ | refine Qf ?_ | refine Qg ?_ | refine Qh ?_ | refine Qi ?_ | refine Qj ?_ | refine Qk ?_ | refine Ql ?_ | refine Qm ?_ | refine Qn ?_ | refine Qo ?_ | refine Qp ?_ | refine Qq ?_ | fail)
  refine SXL.bytesStr rfl inferInstance rfl Tryz.underlying22 Tryz.underlying5 Tryz.underlying9 rfl ?_
  repeat (first | refine Qa ?_ | refine Qb ?_ | refine Qc ?_ | refine Qd ?_ | refine Qe ?_ | refine Qf ?_ | refine Qg ?_ | refine Qh ?_ | refine Qi ?_ | refine Qj ?_ | refine Qk ?_ | refine Ql ?_ | refine Qm ?_ | refine Qn ?_ | refine Qo ?_ | refine Qp ?_ | refine Qq ?_ | fail)
  refine SX.ret (M' := F) rfl (Evals.cell rfl inferInstance rfl Evals.nil) ?_ inferInstance
  exact h
set_option maxHeartbeats 1000000 in
set_option maxRecDepth 20000 in
theorem replyOf16_S {s : Re} (hr : Ro (Kd.int .u8) A F s.d) (hre : Ro kE B F s.e) (hl : s.e.length ≤ 1000) (hc2 : s.e.length ≤ c2) (h : ∀ B' c', s.e.length ≤ c' → K (.returned (.agg (rrC s B' c').toArray)) (.own B' (rowR kE 131 (.slice B' s.e.length c') s.e) :: F)) : Fn (Tryz.prog) 33 [.agg (reC s A c B c2).toArray] F K := by
  unfold reC
  refine Fn.enter Tryz.call33 Tryz.func33 rfl rfl rfl ?_
  repeat (first | refine Qa ?_ | refine Qb ?_ | refine Qc ?_ | refine Qd ?_ | refine Qe ?_ | refine Qf ?_ | refine Qg ?_ | refine Qh ?_ | refine Qi ?_ | refine Qj ?_ | refine Qk ?_ | refine Ql ?_ | refine Qm ?_ | refine Qn ?_ | refine Qo ?_ | refine Qp ?_ | refine Qq ?_ | fail)
  refine SXL.box rfl rfl rfl (fun b => ?_)
  repeat (first | refine Qa ?_ | refine Qb ?_ | refine Qc ?_ | refine Qd ?_ | refine Qe ?_ | refine Qf ?_ | refine Qg ?_ | refine Qh ?_ | refine Qi ?_ | refine Qj ?_ | refine Qk ?_ | refine Ql ?_ | refine Qm ?_ | refine Qn ?_ | refine Qo ?_ | refine Qp ?_ | refine Qq ?_ | fail)
  refine SXL.alloc rfl rfl (fun q => ?_)
  repeat (first | refine Qa ?_ | refine Qb ?_ | refine Qc ?_ | refine Qd ?_ | refine Qe ?_ | refine Qf ?_ | refine Qg ?_ | refine Qh ?_ | refine Qi ?_ | refine Qj ?_ | refine Qk ?_ | refine Ql ?_ | refine Qm ?_ | refine Qn ?_ | refine Qo ?_ | refine Qp ?_ | refine Qq ?_ | fail)
  refine SXL.bytesStr rfl inferInstance rfl Tryz.underlying22 Tryz.underlying5 Tryz.underlying9 rfl ?_
  repeat (first | refine Qa ?_ | refine Qb ?_ | refine Qc ?_ | refine Qd ?_ | refine Qe ?_ | refine Qf ?_ | refine Qg ?_ | refine Qh ?_ | refine Qi ?_ | refine Qj ?_ | refine Qk ?_ | refine Ql ?_ | refine Qm ?_ | refine Qn ?_ | refine Qo ?_ | refine Qp ?_ | refine Qq ?_ | fail)
  refine SXL.alloc rfl rfl (fun b3 => ?_)
  repeat (first | refine Qa ?_ | refine Qb ?_ | refine Qc ?_ | refine Qd ?_ | refine Qe ?_ | refine Qf ?_ | refine Qg ?_ | refine Qh ?_ | refine Qi ?_ | refine Qj ?_ | refine Qk ?_ | refine Ql ?_ | refine Qm ?_ | refine Qn ?_ | refine Qo ?_ | refine Qp ?_ | refine Qq ?_ | fail)
  refine SX.loop (fun z a M => ∃ (i : Nat) (B' : Option Addr) (c' : Nat), i + z = s.e.length ∧ (s.e.take i).length ≤ c' ∧ a = [(1, .pointer (some ⟨b, 0, none⟩)), (2, .pointer (some ⟨q, 0, none⟩)), (3, .pointer (some ⟨b3, 0, none⟩)), (4, .int .i64 i)] ∧
      .own B' (rowR kE 131 (.slice B' (s.e.take i).length c') (s.e.take i)) :: .own (some ⟨b3, 0, none⟩) (cellsR b3 (rrC { s with e := s.e.take i } B' c') 48) :: .own (some ⟨q, 0, none⟩) (cellsR q (rrC Re0 none 0) 48) :: .own (some ⟨b, 0, none⟩) (cellsR b (reC s A c B c2) 36) :: F = M)
    s.e.length ⟨0, none, 0, by omega, Nat.le_refl _, rfl, rfl⟩ (by repeat (first | exact trivial | refine ⟨rfl, ?_⟩)) (show Sub _ (.own none (rowR kE 131 (.slice none ([] : List Ent).length 0) []) :: .own (some ⟨b3, 0, none⟩) (cellsR b3 [.int .u32 s.client, .int .u32 s.xid, .int .i64 s.st, .int .u32 s.ai, .int .u32 s.ag, .int .u32 s.ak, .int .u32 s.am, .int .u32 s.al, .int .u32 s.sz, .int .u64 s.ac, .string (strOfNums s.d), .slice none 0 0, .bool s.eof, .int .u64 s.verf, .int .u32 s.free] 48) :: .own (some ⟨q, 0, none⟩) (cellsR q [.int .u32 0, .int .u32 0, .int .i64 0, .int .u32 0, .int .u32 0, .int .u32 0, .int .u32 0, .int .u32 0, .int .u32 0, .int .u64 0, .string ⟨#[]⟩, .slice none 0 0, .bool false, .int .u64 0, .int .u32 0] 48) :: .own (some ⟨b, 0, none⟩) (cellsR b (reC s A c B c2) 36) :: F) from by unfold reC; infer_instance) ?_
  rintro z _ _ ⟨i, B', c', hz, hc', rfl, rfl⟩
  have hti : (s.e.take i).length = i := by rw [List.length_take]; omega
  unfold rrC reC
  repeat (first | refine Qa ?_ | refine Qb ?_ | refine Qc ?_ | refine Qd ?_ | refine Qe ?_ | refine Qf ?_ | refine Qg ?_ | refine Qh ?_ | refine Qi ?_ | refine Qj ?_ | refine Qk ?_ | refine Ql ?_ | refine Qm ?_ | refine Qn ?_ | refine Qo ?_ | refine Qp ?_ | refine Qq ?_ | fail)
  refine SX.condp rfl (fun hi => ?_) (fun hi => ?_)
  · obtain ⟨e, he⟩ : ∃ e, s.e[i]? = some e := ⟨_, List.getElem?_eq_getElem (by omega)⟩
    refine SX.addr (A := B) kE (by decide) (xs := s.e) (by omega) (fun b4 o4 e4 => ?_)
    subst e4
    repeat (first | refine Qa ?_ | refine Qb ?_ | refine Qc ?_ | refine Qd ?_ | refine Qe ?_ | refine Qf ?_ | refine Qg ?_ | refine Qh ?_ | refine Qi ?_ | refine Qj ?_ | refine Qk ?_ | refine Ql ?_ | refine Qm ?_ | refine Qn ?_ | refine Qo ?_ | refine Qp ?_ | refine Qq ?_ | fail)
    refine SXA.begin (.own (some ⟨b3, 0, none⟩) (cellsR b3 (rrC { s with e := s.e.take i } B' c') 48) :: .own (some ⟨b, 0, none⟩) (cellsR b (reC s A c (some ⟨b4, o4, none⟩) c2) 36) :: F) [24] ?_
    unfold rrC reC
    (first | refine Qr 0 ?_ | refine Qs 0 ?_ | refine Qt 0 ?_ | refine Qu 0 ?_ | fail)
    (first | refine Qr 1 ?_ | refine Qs 1 ?_ | refine Qt 1 ?_ | refine Qu 1 ?_ | fail)
    (first | refine Qr 2 ?_ | refine Qs 2 ?_ | refine Qt 2 ?_ | refine Qu 2 ?_ | fail)
    (first | refine Qr 3 ?_ | refine Qs 3 ?_ | refine Qt 3 ?_ | refine Qu 3 ?_ | fail)
    (first | refine Qr 4 ?_ | refine Qs 4 ?_ | refine Qt 4 ?_ | refine Qu 4 ?_ | fail)
    (first | refine Qr 8 ?_ | refine Qs 8 ?_ | refine Qt 8 ?_ | refine Qu 8 ?_ | fail)
    (first | refine Qr 9 ?_ | refine Qs 9 ?_ | refine Qt 9 ?_ | refine Qu 9 ?_ | fail)
    (first | refine Qr 10 ?_ | refine Qs 10 ?_ | refine Qt 10 ?_ | refine Qu 10 ?_ | fail)
    (first | refine Qr 14 ?_ | refine Qs 14 ?_ | refine Qt 14 ?_ | refine Qu 14 ?_ | fail)
    (first | refine Qr 15 ?_ | refine Qs 15 ?_ | refine Qt 15 ?_ | refine Qu 15 ?_ | fail)
    (first | refine Qr 16 ?_ | refine Qs 16 ?_ | refine Qt 16 ?_ | refine Qu 16 ?_ | fail)
    refine SXA.idx 5 rfl (by decide +kernel) rfl rfl rfl rfl rfl rfl (by omega) (by omega) rfl inferInstance ?_
    refine SXA.idx 11 rfl (by decide +kernel) rfl rfl rfl rfl rfl rfl (by omega) (by omega) rfl inferInstance ?_
    refine SXA.idx 17 rfl (by decide +kernel) rfl rfl rfl rfl rfl rfl (by omega) (by omega) rfl inferInstance ?_
    (first | refine Qr 6 ?_ | refine Qs 6 ?_ | refine Qt 6 ?_ | refine Qu 6 ?_ | fail)
    (first | refine Qr 12 ?_ | refine Qs 12 ?_ | refine Qt 12 ?_ | refine Qu 12 ?_ | fail)
    (first | refine Qr 18 ?_ | refine Qs 18 ?_ | refine Qt 18 ?_ | refine Qu 18 ?_ | fail)
    refine SXA.loadRow1 7 kE rfl (by decide +kernel) rfl rfl rfl inferInstance (by rw [Int.toNat_natCast]; exact he) rfl rfl inferInstance ?_
    refine SXA.loadRow1 13 kE rfl (by decide +kernel) rfl rfl rfl inferInstance (by rw [Int.toNat_natCast]; exact he) rfl rfl inferInstance ?_
    refine SXA.loadRow1 19 kE rfl (by decide +kernel) rfl rfl rfl inferInstance (by rw [Int.toNat_natCast]; exact he) rfl rfl inferInstance ?_
    (first | refine Qr 20 ?_ | refine Qs 20 ?_ | refine Qt 20 ?_ | refine Qu 20 ?_ | fail)
    refine Qw 21 ?_
    refine SXL.lit rfl rfl (fun g => ?_)
    refine SXL.litRow kE g [e] inferInstance rfl (fun _ => rfl) (by simp) ?_
    refine SXL.nil (SXA.next inferInstance ?_)
    refine Qw 22 ?_
    refine SXL.append kE rfl rfl inferInstance inferInstance rfl inferInstance (by simp; omega) rfl (fun A' d' hd' => ?_)
    refine SXL.nil (SXA.next inferInstance ?_)
    (first | refine Qr 23 ?_ | refine Qs 23 ?_ | refine Qt 23 ?_ | refine Qu 23 ?_ | fail)
    have htk : s.e.take i ++ [e] = s.e.take (i + 1) := by
      obtain ⟨hil, hv⟩ := List.getElem?_eq_some_iff.1 he
      rw [List.take_succ_eq_append_getElem hil, hv]
    rw [htk] at hd' ⊢
    refine SXA.storeLast 24 rfl (by decide +kernel) rfl rfl inferInstance rfl rfl ?_
    refine Qv ?_
    repeat (first | refine Qa ?_ | refine Qb ?_ | refine Qc ?_ | refine Qd ?_ | refine Qe ?_ | refine Qf ?_ | refine Qg ?_ | refine Qh ?_ | refine Qi ?_ | refine Qj ?_ | refine Qk ?_ | refine Ql ?_ | refine Qm ?_ | refine Qn ?_ | refine Qo ?_ | refine Qp ?_ | refine Qq ?_ | fail)
    refine SX.same 4 (.int .i64 ((i + 1 : Nat) : Int)) rfl (by simp (disch := omega) only [IntWalk.i64_in, IntWalk.u8_in, IntWalk.u32_in, IntWalk.u64_in, IntWalk.rem_in, Int.natCast_add, Int.natCast_one]) ?_
    refine SX.again (z - 1) (by omega) ⟨i + 1, A', d', by omega, hd', rfl, rfl⟩ (by repeat (first | exact trivial | refine ⟨rfl, ?_⟩)) inferInstance
  · have hi' : i = s.e.length := by omega
    rw [hi', List.take_length] at hc' ⊢
    repeat (first | refine Qa ?_ | refine Qb ?_ | refine Qc ?_ | refine Qd ?_ | refine Qe ?_ | refine Qf ?_ | refine Qg ?_ | refine Qh ?_ | refine Qi ?_ | refine Qj ?_ | refine Qk ?_ | refine Ql ?_ | refine Qm ?_ | refine Qn ?_ | refine Qo ?_ | refine Qp ?_ | refine Qq ?_ | fail)
    refine SX.ret (M' := (.own B' (rowR kE 131 (.slice B' s.e.length c') s.e) :: F)) rfl (Evals.cell rfl inferInstance rfl Evals.nil) ?_ inferInstance
    exact h B' c' hc'
theorem ctlOf_S {s : Ctl} (hr : Ro (Kd.int .u8) A F s.d) (h : K (.returned (.agg (rtC s).toArray)) F) : Fn (Tryz.prog) 34 [.agg (ctC s A c).toArray] F K := by
  unfold ctC
  refine Fn.enter Tryz.call34 Tryz.func34 rfl rfl rfl ?_
  repeat (first | refine Qa ?_ | refine Qb ?_ | refine Qc ?_ | refine Qd ?_ | refine Qe ?_ | refine Qf ?_ | refine Qg ?_ | refine Qh ?_ | refine Qi ?_ | refine Qj ?_ | refine Qk ?_ | refine Ql ?_ | refine Qm ?_ | refine Qn ?_ | refine Qo ?_ | refine Qp ?_ | refine Qq ?_ | fail)
  refine SXL.box rfl rfl rfl (fun b => ?_)
  repeat (first | refine Qa ?_ | refine Qb ?_ | refine Qc ?_ | refine Qd ?_ | refine Qe ?_ | refine Qf ?_ | refine Qg ?_ | refine Qh ?_ | refine Qi ?_ | refine Qj ?_ | refine Qk ?_ | refine Ql ?_ | refine Qm ?_ | refine Qn ?_ | refine Qo ?_ | refine Qp ?_ | refine Qq ?_ | fail)
  refine SXL.alloc rfl rfl (fun q => ?_)
  repeat (first | refine Qa ?_ | refine Qb ?_ | refine Qc ?_ | refine Qd ?_ | refine Qe ?_ | refine Qf ?_ | refine Qg ?_ | refine Qh ?_ | refine Qi ?_ | refine Qj ?_ | refine Qk ?_ | refine Ql ?_ | refine Qm ?_ | refine Qn ?_ | refine Qo ?_ | refine Qp ?_ | refine Qq ?_ | fail)
  refine SXL.bytesStr rfl inferInstance rfl Tryz.underlying22 Tryz.underlying5 Tryz.underlying9 rfl ?_
  repeat (first | refine Qa ?_ | refine Qb ?_ | refine Qc ?_ | refine Qd ?_ | refine Qe ?_ | refine Qf ?_ | refine Qg ?_ | refine Qh ?_ | refine Qi ?_ | refine Qj ?_ | refine Qk ?_ | refine Ql ?_ | refine Qm ?_ | refine Qn ?_ | refine Qo ?_ | refine Qp ?_ | refine Qq ?_ | fail)
  refine SX.ret (M' := F) rfl (Evals.cell rfl inferInstance rfl Evals.nil) ?_ inferInstance
  exact h
set_option maxHeartbeats 1000000 in
set_option maxRecDepth 20000 in
theorem msgOf_S {m : Msg} (hrA : Ro (Kd.int .u8) A F m.c.d) (hrB : Ro (Kd.int .u8) B F m.r.d) (hrC : Ro kE C F m.r.e) (hrD : Ro (Kd.int .u8) D F m.t.d) (hl : m.r.e.length ≤ 1000) (hC : m.r.e.length ≤ a3) (h : ∀ B' c', m.r.e.length ≤ c' → K (.returned (.agg (mrC m B' c').toArray)) (.own B' (rowR kE 131 (.slice B' m.r.e.length c') m.r.e) :: F)) : Fn (Tryz.prog) 9 [.agg (msC m A a1 B a2 C a3 D a4).toArray] F K := by
  unfold msC
  refine Fn.enter Tryz.call9 Tryz.func9 rfl rfl rfl ?_
  repeat (first | refine Qa ?_ | refine Qb ?_ | refine Qc ?_ | refine Qd ?_ | refine Qe ?_ | refine Qf ?_ | refine Qg ?_ | refine Qh ?_ | refine Qi ?_ | refine Qj ?_ | refine Qk ?_ | refine Ql ?_ | refine Qm ?_ | refine Qn ?_ | refine Qo ?_ | refine Qp ?_ | refine Qq ?_ | fail)
  refine SXL.box rfl rfl rfl (fun b => ?_)
  repeat (first | refine Qa ?_ | refine Qb ?_ | refine Qc ?_ | refine Qd ?_ | refine Qe ?_ | refine Qf ?_ | refine Qg ?_ | refine Qh ?_ | refine Qi ?_ | refine Qj ?_ | refine Qk ?_ | refine Ql ?_ | refine Qm ?_ | refine Qn ?_ | refine Qo ?_ | refine Qp ?_ | refine Qq ?_ | fail)
  refine SXL.alloc rfl rfl (fun q => ?_)
  repeat (first | refine Qa ?_ | refine Qb ?_ | refine Qc ?_ | refine Qd ?_ | refine Qe ?_ | refine Qf ?_ | refine Qg ?_ | refine Qh ?_ | refine Qi ?_ | refine Qj ?_ | refine Qk ?_ | refine Ql ?_ | refine Qm ?_ | refine Qn ?_ | refine Qo ?_ | refine Qp ?_ | refine Qq ?_ | fail)
  refine SXA.begin (.own (some ⟨b, 0, none⟩) (cellsR b (msC m A a1 B a2 C a3 D a4) 40) :: F) [12] ?_
  unfold msC
  (first | refine Qr 0 ?_ | refine Qs 0 ?_ | refine Qt 0 ?_ | refine Qu 0 ?_ | fail)
  (first | refine Qr 1 ?_ | refine Qs 1 ?_ | refine Qt 1 ?_ | refine Qu 1 ?_ | fail)
  (first | refine Qr 2 ?_ | refine Qs 2 ?_ | refine Qt 2 ?_ | refine Qu 2 ?_ | fail)
  (first | refine Qr 3 ?_ | refine Qs 3 ?_ | refine Qt 3 ?_ | refine Qu 3 ?_ | fail)
  (first | refine Qr 5 ?_ | refine Qs 5 ?_ | refine Qt 5 ?_ | refine Qu 5 ?_ | fail)
  (first | refine Qr 6 ?_ | refine Qs 6 ?_ | refine Qt 6 ?_ | refine Qu 6 ?_ | fail)
  (first | refine Qr 8 ?_ | refine Qs 8 ?_ | refine Qt 8 ?_ | refine Qu 8 ?_ | fail)
  (first | refine Qr 9 ?_ | refine Qs 9 ?_ | refine Qt 9 ?_ | refine Qu 9 ?_ | fail)
  refine Qw 4 ?_
  refine SXL.call rfl rfl rfl ?_
  refine (callOf16_S (s := m.c) (A := A) inferInstance (callK.ret ?_))
  refine SXL.nil (SXA.next inferInstance ?_)
  refine Qw 7 ?_
  refine SXL.call rfl rfl rfl ?_
  refine (replyOf16_S (s := m.r) (A := B) (B := C) inferInstance inferInstance hl hC (fun B' d' hd' => callK.ret ?_))
  refine SXL.nil (SXA.next inferInstance ?_)
  refine Qw 10 ?_
  refine SXL.call rfl rfl rfl ?_
  refine (ctlOf_S (s := m.t) (A := D) inferInstance (callK.ret ?_))
  refine SXL.nil (SXA.next inferInstance ?_)
  (first | refine Qr 11 ?_ | refine Qs 11 ?_ | refine Qt 11 ?_ | refine Qu 11 ?_ | fail)
  refine SXA.storeLast 12 rfl (by decide +kernel) rfl rfl inferInstance rfl rfl ?_
  refine Qv ?_
  repeat (first | refine Qa ?_ | refine Qb ?_ | refine Qc ?_ | refine Qd ?_ | refine Qe ?_ | refine Qf ?_ | refine Qg ?_ | refine Qh ?_ | refine Qi ?_ | refine Qj ?_ | refine Qk ?_ | refine Ql ?_ | refine Qm ?_ | refine Qn ?_ | refine Qo ?_ | refine Qp ?_ | refine Qq ?_ | fail)
  refine SX.ret (M' := (.own B' (rowR kE 131 (.slice B' m.r.e.length d') m.r.e) :: F)) rfl (Evals.cell rfl inferInstance rfl Evals.nil) ?_ inferInstance
  exact h B' d' hd'
set_option maxRecDepth 20000 in
theorem Same16_S {a b : Msg} (hr : Ro kE B F a.r.e) (hr2 : Ro kE C F b.r.e) (hc : a.r.e.length ≤ c) (hc2 : b.r.e.length ≤ c2) (hl : a.r.e.length ≤ 4000000000) (h : K (.returned (.bool (sameMs a b))) F) : Fn (Tryz.prog) 8 [.agg (mrC a B c).toArray, .agg (mrC b C c2).toArray] F K := by
  unfold mrC
  unfold sameMs at h
  refine Fn.enter Tryz.call8 Tryz.func8 rfl rfl rfl ?_
  repeat (first | refine Qa ?_ | refine Qb ?_ | refine Qc ?_ | refine Qd ?_ | refine Qe ?_ | refine Qf ?_ | refine Qg ?_ | refine Qh ?_ | refine Qi ?_ | refine Qj ?_ | refine Qk ?_ | refine Ql ?_ | refine Qm ?_ | refine Qn ?_ | refine Qo ?_ | refine Qp ?_ | refine Qq ?_ | fail)
  refine SXL.box rfl rfl rfl (fun b1 => ?_)
  repeat (first | refine Qa ?_ | refine Qb ?_ | refine Qc ?_ | refine Qd ?_ | refine Qe ?_ | refine Qf ?_ | refine Qg ?_ | refine Qh ?_ | refine Qi ?_ | refine Qj ?_ | refine Qk ?_ | refine Ql ?_ | refine Qm ?_ | refine Qn ?_ | refine Qo ?_ | refine Qp ?_ | refine Qq ?_ | fail)
  refine SXL.box rfl rfl rfl (fun b2 => ?_)
  repeat (first | refine Qa ?_ | refine Qb ?_ | refine Qc ?_ | refine Qd ?_ | refine Qe ?_ | refine Qf ?_ | refine Qg ?_ | refine Qh ?_ | refine Qi ?_ | refine Qj ?_ | refine Qk ?_ | refine Ql ?_ | refine Qm ?_ | refine Qn ?_ | refine Qo ?_ | refine Qp ?_ | refine Qq ?_ | fail)
  refine SX.cond rfl (fun hk => ?_) (fun hk => ?_)
  · have hk' : a.k ≠ b.k := by simpa using hk
    rw [if_neg hk'] at h
    repeat (first | refine Qa ?_ | refine Qb ?_ | refine Qc ?_ | refine Qd ?_ | refine Qe ?_ | refine Qf ?_ | refine Qg ?_ | refine Qh ?_ | refine Qi ?_ | refine Qj ?_ | refine Qk ?_ | refine Ql ?_ | refine Qm ?_ | refine Qn ?_ | refine Qo ?_ | refine Qp ?_ | refine Qq ?_ | fail)
    refine SX.ret (M' := F) rfl (Evals.tmp rfl Evals.nil) ?_ inferInstance
    exact h
  have hk' : a.k = b.k := by simpa using hk
  rw [if_pos hk'] at h
  repeat (first | refine Qa ?_ | refine Qb ?_ | refine Qc ?_ | refine Qd ?_ | refine Qe ?_ | refine Qf ?_ | refine Qg ?_ | refine Qh ?_ | refine Qi ?_ | refine Qj ?_ | refine Qk ?_ | refine Ql ?_ | refine Qm ?_ | refine Qn ?_ | refine Qo ?_ | refine Qp ?_ | refine Qq ?_ | fail)
  refine SX.cond rfl (fun k1 => ?_) (fun k1 => ?_)
  · have k1' : a.k = 1 := by simpa using k1
    rw [if_pos k1'] at h
    repeat (first | refine Qa ?_ | refine Qb ?_ | refine Qc ?_ | refine Qd ?_ | refine Qe ?_ | refine Qf ?_ | refine Qg ?_ | refine Qh ?_ | refine Qi ?_ | refine Qj ?_ | refine Qk ?_ | refine Ql ?_ | refine Qm ?_ | refine Qn ?_ | refine Qo ?_ | refine Qp ?_ | refine Qq ?_ | fail)
    refine SXL.eqStr rfl rfl inferInstance inferInstance rfl rfl rfl rfl ?_
    repeat (first | refine Qa ?_ | refine Qb ?_ | refine Qc ?_ | refine Qd ?_ | refine Qe ?_ | refine Qf ?_ | refine Qg ?_ | refine Qh ?_ | refine Qi ?_ | refine Qj ?_ | refine Qk ?_ | refine Ql ?_ | refine Qm ?_ | refine Qn ?_ | refine Qo ?_ | refine Qp ?_ | refine Qq ?_ | fail)
    refine SX.ret (M' := F) rfl (Evals.tmp rfl Evals.nil) ?_ inferInstance
    exact h
  have k1' : a.k ≠ 1 := by simpa using k1
  rw [if_neg k1'] at h
  repeat (first | refine Qa ?_ | refine Qb ?_ | refine Qc ?_ | refine Qd ?_ | refine Qe ?_ | refine Qf ?_ | refine Qg ?_ | refine Qh ?_ | refine Qi ?_ | refine Qj ?_ | refine Qk ?_ | refine Ql ?_ | refine Qm ?_ | refine Qn ?_ | refine Qo ?_ | refine Qp ?_ | refine Qq ?_ | fail)
  refine SX.cond rfl (fun k2 => ?_) (fun k2 => ?_)
  · have k2' : a.k = 2 := by simpa using k2
    rw [if_pos k2'] at h
    repeat (first | refine Qa ?_ | refine Qb ?_ | refine Qc ?_ | refine Qd ?_ | refine Qe ?_ | refine Qf ?_ | refine Qg ?_ | refine Qh ?_ | refine Qi ?_ | refine Qj ?_ | refine Qk ?_ | refine Ql ?_ | refine Qm ?_ | refine Qn ?_ | refine Qo ?_ | refine Qp ?_ | refine Qq ?_ | fail)
    refine SXL.call rfl rfl rfl ?_
    refine (SameRe_S (s := a.r) (u := b.r) (B := B) (B' := C) inferInstance inferInstance hc hc2 hl (callK.ret ?_))
    repeat (first | refine Qa ?_ | refine Qb ?_ | refine Qc ?_ | refine Qd ?_ | refine Qe ?_ | refine Qf ?_ | refine Qg ?_ | refine Qh ?_ | refine Qi ?_ | refine Qj ?_ | refine Qk ?_ | refine Ql ?_ | refine Qm ?_ | refine Qn ?_ | refine Qo ?_ | refine Qp ?_ | refine Qq ?_ | fail)
    refine SX.ret (M' := F) rfl (Evals.tmp rfl Evals.nil) ?_ inferInstance
    exact h
  have k2' : a.k ≠ 2 := by simpa using k2
  rw [if_neg k2'] at h
  repeat (first | refine Qa ?_ | refine Qb ?_ | refine Qc ?_ | refine Qd ?_ | refine Qe ?_ | refine Qf ?_ | refine Qg ?_ | refine Qh ?_ | refine Qi ?_ | refine Qj ?_ | refine Qk ?_ | refine Ql ?_ | refine Qm ?_ | refine Qn ?_ | refine Qo ?_ | refine Qp ?_ | refine Qq ?_ | fail)
  refine SXL.eqStr rfl rfl inferInstance inferInstance rfl rfl rfl rfl ?_
  repeat (first | refine Qa ?_ | refine Qb ?_ | refine Qc ?_ | refine Qd ?_ | refine Qe ?_ | refine Qf ?_ | refine Qg ?_ | refine Qh ?_ | refine Qi ?_ | refine Qj ?_ | refine Qk ?_ | refine Ql ?_ | refine Qm ?_ | refine Qn ?_ | refine Qo ?_ | refine Qp ?_ | refine Qq ?_ | fail)
  refine SX.ret (M' := F) rfl (Evals.tmp rfl Evals.nil) ?_ inferInstance
  exact h
end
end Go.Proofs.YtpbhanpblmoepaaGreat.Sx
